/- Closed facts on equality of the types of this translation, written by wip/ty.py. -/
import Derived.Test.YtphobgibcpmgdaaMExt
namespace Go.Proofs.Ytphobgibcpmgdaa
open Go.RowKit
def eqT : List (Nat × Nat) := [(22, 3), (23, 3), (24, 2), (25, 2), (46, 4), (47, 4), (48, 5), (49, 5), (67, 2), (68, 2), (101, 3), (102, 3), (110, 4), (111, 4)]
set_option maxRecDepth 100000 in
theorem eqTOk : eqT.all (fun p => eqt Try.prog p.1 == some p.2) = true := by kernel_rfl
theorem eqTOf {t : Nat} {r : Nat} (h : getT eqT t = some r) : eqt Try.prog t = some r := by
  have := List.all_eq_true.1 eqTOk _ (getT_mem h)
  simpa using this
def btT : List (Nat × Unit) := [(4, ())]
set_option maxRecDepth 100000 in
theorem btTOk : btT.all (fun p => bt Try.prog p.1) = true := by kernel_rfl
set_option maxRecDepth 100000 in
theorem btTOf {t : Nat} (h : getT btT t = some ()) : bt Try.prog t = true := List.all_eq_true.1 btTOk _ (getT_mem h)
end Go.Proofs.Ytphobgibcpmgdaa
