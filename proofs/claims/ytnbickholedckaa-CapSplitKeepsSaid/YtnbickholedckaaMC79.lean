/- Shared by darts and cuts. -/
import Derived.Test.YtnbickholedckaaMB6
namespace Go.Proofs.Ytnbickholedckaa
open Go.RowKit
theorem getD_set {l : List Int} {r j : Nat} {v : Int} (h : r < l.length) : (l.set r v).getD j 0 = if j = r then v else l.getD j 0 := by
  rw [List.getD_eq_getElem?_getD, List.getD_eq_getElem?_getD, List.getElem?_set]
  by_cases e : r = j
  · subst e; rw [if_pos rfl, if_pos rfl, if_pos h]; rfl
  · rw [if_neg e, if_neg (fun h => e h.symm)]
theorem vdC_of {ps : List Pc} {sm : List Int} {m : Nat} {e : Int} (V : VdC ps sm m e) : vdC ps sm m e = 0 := by
  unfold vdC vdE
  have h1 : 1 ≤ ps.length ∧ ps.length ≤ 8 := ⟨V.n1, V.n8⟩
  rw [if_neg (by simp only [h1, and_self, not_true_eq_false, not_false_eq_true]), if_neg (by simp only [V.e0, V.ok, and_self, not_true_eq_false, or_self, not_false_eq_true])]
  exact fstE_iff.2 V.se
/-- The angles of a half, from a corner on: the first is given. -/
def hvF (g : List Int) (i : Nat) (c : Int) (u : Nat) : Int := if u = 0 then c else g.getD ((i + u) % g.length) 0
def hvL (g : List Int) (i s : Nat) (w : Int) : Int := 180 * ((s : Int) + 1 - 2) - sumTo (hvF g i w) s
theorem sum_bd {F : Nat → Int} : ∀ {n : Nat}, (∀ u, u < n → -3000 ≤ F u ∧ F u ≤ 3000) → -3000 * (n : Int) ≤ sumTo F n ∧ sumTo F n ≤ 3000 * (n : Int)
  | 0, _ => by simp [sumTo]
  | n + 1, h => by
    have h1 := sum_bd (n := n) fun u hu => h u (by omega)
    have h2 := h n (by omega)
    rw [sumTo_succ]
    omega
end Go.Proofs.Ytnbickholedckaa
