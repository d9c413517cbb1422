/- PlotLonger, plain: a longer shift or a later due day keeps what is spare. -/
import Derived.Test.YtgcjddlcgpjlcaaMP44
namespace Go.Proofs.Ytgcjddlcgpjlcaa
open Go.RowKit

structure Lon (N K : Nat) (s z s' z' : List Int) : Prop where
  sh : ∀ d, d < N → sHf s d ≤ sHf s' d ∧ sHf s' d ≤ 1440
  w : ∀ j, j < K → jW z' j = jW z j
  r : ∀ j, j < K → jR z' j = jR z j
  due : ∀ j, j < K → jD z j ≤ jD z' j ∧ jD z' j < N
theorem lon_vj {N K : Nat} {s z s' z' : List Int} (h : Lon N K s z s' z') (hv : vjE N K s z = 0) : vjE N K s' z' = 0 := by
  have hV := vj_to hv
  refine vj_ok (by have := hV.n; have := hV.k; omega) (fun d hd => ?_) fun j hj => ?_
  · have h1 := hV.d d hd
    have h2 := h.sh d hd
    unfold inB at h1 ⊢
    omega
  · have h1 := hV.j j hj
    have h2 := h.due j hj
    unfold okj inB at h1 ⊢
    rw [h.w j hj, h.r j hj]
    omega
theorem win_le {f g : Nat → Int} {N a : Nat} (h : ∀ d, d < N → f d ≤ g d) : ∀ m, a + m ≤ N → sumTo f (a + m) - sumTo f a ≤ sumTo g (a + m) - sumTo g a
  | 0, _ => by simp
  | m + 1, hm => by
    have ih := win_le (a := a) h m (by omega)
    have := h (a + m) (by omega)
    rw [← Nat.add_assoc, sumTo_succ, sumTo_succ]; omega
theorem sum_le {f g : Nat → Int} : ∀ N, (∀ d, d < N → f d ≤ g d) → sumTo f N ≤ sumTo g N
  | 0, _ => by simp [sumTo]
  | N + 1, h => by
    have ih := sum_le N fun d hd => h d (by omega)
    have := h N (by omega)
    rw [sumTo_succ, sumTo_succ]; omega
theorem lon_sp {N K : Nat} {s z s' z' : List Int} (h : Lon N K s z s' z') (hv : vjE N K s z = 0) {a b : Nat} (hab : a ≤ b) (hb : b < N) : spV K s z a b ≤ spV K s' z' a b := by
  have hV := vj_to hv
  rw [spV_eq, spV_eq]
  have h1 := win_le (a := a) (fun d hd => (h.sh d hd).1) (b + 1 - a) (by omega)
  rw [show a + (b + 1 - a) = b + 1 by omega] at h1
  have h2 : sumTo (wk z' a b) K ≤ sumTo (wk z a b) K := sum_le K fun j hj => by
    have g1 := h.due j hj
    have g2 := (hV.j j hj).1
    unfold inB at g2
    unfold wk
    rw [h.w j hj, h.r j hj]
    split
    · rw [if_pos (by omega)]; omega
    · split <;> omega
  omega
/-- A plan stays possible. -/
theorem lon_no {N K M : Nat} {s z s' z' P : List Int} (h : Lon N K s z s' z') (hc : CP N K s z M P) (hb : ∃ a b, a ≤ b ∧ b < N ∧ spV K s' z' a b < 0) : False := by
  obtain ⟨a, b, h1, h2, h3⟩ := hb
  have g1 := cp_spr hc h1 h2
  have g2 := lon_sp h hc.vj h1 h2
  omega
theorem gD_set2 {l : List Int} {i k : Nat} {x : Int} : (l.set i x).getD k 0 = if i = k ∧ i < l.length then x else l.getD k 0 := by
  rw [List.getD_eq_getElem?_getD, List.getElem?_set, List.getD_eq_getElem?_getD]
  by_cases h1 : i = k
  · subst h1
    by_cases h2 : i < l.length
    · simp [h2]
    · simp [h2]
  · simp [h1]
/-- The shifts with a longer one. -/
def lonS (N : Nat) (s : List Int) (x : Int) : List Int := if 0 ≤ x ∧ x < N then s.set x.toNat (min (s.getD x.toNat 0 + 30) 1440) else s
/-- The commissions with a later one. -/
def lonJ (N K : Nat) (z : List Int) (y : Int) : List Int := if 0 ≤ y ∧ y < K ∧ jD z y.toNat + 1 < N then z.set (y.toNat * 3 + 2) (jD z y.toNat + 1) else z
theorem lonS_len (N : Nat) (s : List Int) (x : Int) : (lonS N s x).length = s.length := by unfold lonS; split <;> simp
theorem lonJ_len (N K : Nat) (z : List Int) (y : Int) : (lonJ N K z y).length = z.length := by unfold lonJ; split <;> simp
theorem lon_is {N K : Nat} {s z : List Int} {x y : Int} (hs : s.length = N) (hz : z.length = K * 3) (hv : vjE N K s z = 0) : Lon N K s z (lonS N s x) (lonJ N K z y) := by
  have hV := vj_to hv
  refine ⟨fun d hd => ?_, fun j hj => ?_, fun j hj => ?_, fun j hj => ?_⟩
  · have h1 := hV.d d hd
    unfold inB at h1
    unfold lonS
    split
    · unfold sHf at h1 ⊢
      rw [gD_set2]
      split
      · rename_i h2; rw [h2.1]; omega
      · omega
    · omega
  · unfold lonJ
    split
    · unfold jW; rw [gD_set2, if_neg (by omega)]
    · rfl
  · unfold lonJ
    split
    · unfold jR; rw [gD_set2, if_neg (by omega)]
    · rfl
  · have h1 := hV.j j hj
    unfold okj inB at h1
    unfold lonJ
    split
    · rename_i h3
      unfold jD at h1 h3 ⊢
      rw [gD_set2]
      split
      · rename_i h2
        obtain rfl : y.toNat = j := by omega
        omega
      · omega
    · omega
end Go.Proofs.Ytgcjddlcgpjlcaa
