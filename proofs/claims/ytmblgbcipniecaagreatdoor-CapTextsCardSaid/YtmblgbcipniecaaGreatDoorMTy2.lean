/- Closed facts on equality of the types of this translation, written by wip/ty.py. -/
import Derived.Test.YtmblgbcipniecaaGreatDoorMA1
namespace Go.Proofs.YtmblgbcipniecaaGreatDoor
open Go.RowKit
def eqT : List (Nat × Nat) := [(38, 4), (39, 4), (94, 2)]
set_option maxRecDepth 100000 in
theorem eqTOk : eqT.all (fun p => eqt Tryz.prog p.1 == some p.2) = true := by kernel_rfl
theorem eqTOf {t : Nat} {r : Nat} (h : getT eqT t = some r) : eqt Tryz.prog t = some r := by
  have := List.all_eq_true.1 eqTOk _ (getT_mem h)
  simpa using this
def btT : List (Nat × Unit) := [(4, ())]
set_option maxRecDepth 100000 in
theorem btTOk : btT.all (fun p => bt Tryz.prog p.1) = true := by kernel_rfl
set_option maxRecDepth 100000 in
theorem btTOf {t : Nat} (h : getT btT t = some ()) : bt Tryz.prog t = true := List.all_eq_true.1 btTOk _ (getT_mem h)
end Go.Proofs.YtmblgbcipniecaaGreatDoor
