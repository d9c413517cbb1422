/- Nothing of a bundle's text here. -/
import Derived.Test.YtmblgbcipniecaaGreatDoorMX4
namespace Go.Proofs.YtmblgbcipniecaaGreatDoor
open Go.RowKit
end Go.Proofs.YtmblgbcipniecaaGreatDoor
