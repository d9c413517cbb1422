/- Closed facts on equality of the types of this translation, written by wip/ty.py. -/
import Derived.Test.YtmblgbcipniecaaDoorMA1
namespace Go.Proofs.YtmblgbcipniecaaDoor
open Go.RowKit
def eqT : List (Nat × Nat) := [(51, 2), (52, 50), (53, 50), (67, 25), (68, 50), (69, 50)]
set_option maxRecDepth 100000 in
theorem eqTOk : eqT.all (fun p => eqt Tryd.prog p.1 == some p.2) = true := by kernel_rfl
theorem eqTOf {t : Nat} {r : Nat} (h : getT eqT t = some r) : eqt Tryd.prog t = some r := by
  have := List.all_eq_true.1 eqTOk _ (getT_mem h)
  simpa using this
def btT : List (Nat × Unit) := [(4, ())]
set_option maxRecDepth 100000 in
theorem btTOk : btT.all (fun p => bt Tryd.prog p.1) = true := by kernel_rfl
set_option maxRecDepth 100000 in
theorem btTOf {t : Nat} (h : getT btT t = some ()) : bt Tryd.prog t = true := List.all_eq_true.1 btTOk _ (getT_mem h)
end Go.Proofs.YtmblgbcipniecaaDoor
