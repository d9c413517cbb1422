/- Closed facts on equality of the types of this translation, written by wip/ty.py. -/
import Derived.Test.YtlijcnocahplbaaExt
namespace Go.Proofs.Ytlijcnocahplbaa
open Go.RowKit
def eqT : List (Nat × Nat) := [(22, 2), (23, 2), (24, 6), (25, 6), (68, 3), (69, 3), (97, 2), (98, 50), (99, 50), (102, 25), (103, 50), (104, 50)]
set_option maxRecDepth 100000 in
theorem eqTOk : eqT.all (fun p => eqt Try.prog p.1 == some p.2) = true := by kernel_rfl
theorem eqTOf {t : Nat} {r : Nat} (h : getT eqT t = some r) : eqt Try.prog t = some r := by
  have := List.all_eq_true.1 eqTOk _ (getT_mem h)
  simpa using this
def btT : List (Nat × Unit) := [(4, ())]
set_option maxRecDepth 100000 in
theorem btTOk : btT.all (fun p => bt Try.prog p.1) = true := by kernel_rfl
set_option maxRecDepth 100000 in
theorem btTOf {t : Nat} (h : getT btT t = some ()) : bt Try.prog t = true := List.all_eq_true.1 btTOk _ (getT_mem h)
end Go.Proofs.Ytlijcnocahplbaa
