/- Closed facts on equality of the types of this translation, written by wip/ty.py. -/
import Derived.Test.YtgcjddlcgpjlcaaMExt
namespace Go.Proofs.Ytgcjddlcgpjlcaa
open Go.RowKit
def eqT : List (Nat × Nat) := [(43, 2), (44, 2), (54, 2), (58, 2), (59, 2), (76, 3), (77, 3), (78, 3), (79, 3), (83, 4), (84, 4), (95, 5), (96, 5)]
set_option maxRecDepth 100000 in
theorem eqTOk : eqT.all (fun p => eqt Try.prog p.1 == some p.2) = true := by kernel_rfl
theorem eqTOf {t : Nat} {r : Nat} (h : getT eqT t = some r) : eqt Try.prog t = some r := by
  have := List.all_eq_true.1 eqTOk _ (getT_mem h)
  simpa using this
def btT : List (Nat × Unit) := [(4, ())]
set_option maxRecDepth 100000 in
theorem btTOk : btT.all (fun p => bt Try.prog p.1) = true := by kernel_rfl
set_option maxRecDepth 100000 in
theorem btTOf {t : Nat} (h : getT btT t = some ()) : bt Try.prog t = true := List.all_eq_true.1 btTOk _ (getT_mem h)
end Go.Proofs.Ytgcjddlcgpjlcaa
