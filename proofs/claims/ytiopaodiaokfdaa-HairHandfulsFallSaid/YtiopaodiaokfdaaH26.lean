/- Drawing, as functions of the length: in two steps, and how many of each length on. -/
import Derived.Test.YtiopaodiaokfdaaH25
namespace Go.Proofs.Ytiopaodiaokfdaa
open Go.RowKit

theorem oF_far {f g : Nat → Int} {n : Int} (hn : 0 ≤ n) {i : Nat} (hi : 25 ≤ i) (hf : f i = 0) (hg : g i = 0) : oF f g n i = 0 ∧ oG f g n i = 0 := by
  have e : lft f g n i = n := by
    unfold lft; rw [show 24 - i = 0 by omega]; rfl
  unfold oF oG
  rw [e, if_neg (by omega), if_neg (by omega), hf, hg]
  omega
theorem cn_trm_fun {F : Nat → Int} (z : F 0 = 0) (far : ∀ i, 25 ≤ i → F i = 0) : cn (trm F) = F := by
  funext i
  by_cases hi : i < 25
  · exact cn_trm' z hi
  · rw [cn_far (trm_length _) (by omega), far i (by omega)]
theorem oF_0 (f g : Nat → Int) (n : Int) : oF f g n 0 = 0 ∧ oG f g n 0 = 0 := ⟨rfl, rfl⟩
/-- The drawn hairs and the left ones of a bundle, read back. -/
theorem dr_read {r g : List Int} {n : Int} (hv : vErr r g = 0) (hn : 0 ≤ n) : cn (trm (drF r g n)) = drF r g n ∧ cn (trm (drG r g n)) = drG r g n ∧ cn (trm (leF r g n)) = leF r g n ∧ cn (trm (leG r g n)) = leG r g n := by
  obtain ⟨hr, hg, q3, q4, q5, q6⟩ := vErr_zero hv
  have far := fun i (hi : 25 ≤ i) => oF_far (f := cn r) (g := cn g) hn hi (cn_far hr hi) (cn_far hg hi)
  refine ⟨cn_trm_fun rfl fun i hi => (far i hi).1, cn_trm_fun rfl fun i hi => (far i hi).2, cn_trm_fun ?_ fun i hi => ?_, cn_trm_fun ?_ fun i hi => ?_⟩
  · unfold leF; rw [cn_zero, (oF_0 _ _ _).1]; rfl
  · unfold leF; rw [cn_far hr hi, (far i hi).1]; rfl
  · unfold leG; rw [cn_zero, (oF_0 _ _ _).2]; rfl
  · unfold leG; rw [cn_far hg hi, (far i hi).2]; rfl
theorem dr_facts {r g : List Int} {n : Int} (h : drE r g n = 0) : vErr r g = 0 ∧ 0 ≤ n ∧ n ≤ cnt (cn r) (cn g) 1 := by
  unfold drE at h
  split at h
  · rename_i hv
    split at h
    · omega
    · split at h
      · omega
      · exact ⟨hv, by omega, by omega⟩
  · rename_i hv; exact absurd h hv
theorem dr_of {r g : List Int} {n : Int} (hv : vErr r g = 0) (hn : 0 ≤ n) (h : n ≤ cnt (cn r) (cn g) 1) : drE r g n = 0 := by
  unfold drE
  rw [if_pos hv, if_neg (by omega), if_neg (by omega)]
theorem dr_sum {r g : List Int} {n : Int} (i : Nat) : drF r g n i + leF r g n i = cn r i ∧ drG r g n i + leG r g n i = cn g i := by
  unfold drF drG leF leG; omega
/-- Of each length on, as many are drawn as there are, at most n. -/
theorem dr_above {r g : List Int} {n : Int} (hv : vErr r g = 0) (hn : 0 ≤ n) (h2 : n ≤ cnt (cn r) (cn g) 1) {k : Nat} (hk : k ≤ 25) : cnt (cn (trm (drF r g n))) (cn (trm (drG r g n))) k = min n (cnt (cn r) (cn g) k) := by
  obtain ⟨hr, hg, q3, q4, q5, q6⟩ := vErr_zero hv
  have k1 := okh_cn q3 q5; have k2 := okh_cn q4 q6
  obtain ⟨r1, r2, _⟩ := dr_read hv hn
  rw [r1, r2]
  by_cases h0 : k = 0
  · subst h0
    have e : ∀ f g : Nat → Int, cnt f g ((0 : Nat) : Int) = cnt f g 1 := fun f g => cnt_01 f g
    rw [e, e]
    exact cnt_draw k1 k2 hn (i := 1) (by omega) (by omega)
  · exact cnt_draw k1 k2 hn (by omega) hk
theorem le_cnt {r g : List Int} {n : Int} (hv : vErr r g = 0) (hn : 0 ≤ n) (h2 : n ≤ cnt (cn r) (cn g) 1) : cnt (cn (trm (leF r g n))) (cn (trm (leG r g n))) 1 = cnt (cn r) (cn g) 1 - n := by
  obtain ⟨hr, hg, q3, q4, q5, q6⟩ := vErr_zero hv
  have k1 := okh_cn q3 q5; have k2 := okh_cn q4 q6
  obtain ⟨_, _, r3, r4⟩ := dr_read hv hn
  rw [r3, r4]
  have e := cnt_sub (cn r) (cn g) (oF (cn r) (cn g) n) (oG (cn r) (cn g) n) 1
  have e2 := cnt_draw k1 k2 hn (i := 1) (by omega) (by omega)
  have e3 : cnt (oF (cn r) (cn g) n) (oG (cn r) (cn g) n) ((1 : Nat) : Int) = cnt (oF (cn r) (cn g) n) (oG (cn r) (cn g) n) 1 := rfl
  have e4 : cnt (cn r) (cn g) ((1 : Nat) : Int) = cnt (cn r) (cn g) 1 := rfl
  show cnt (fun i => cn r i - oF (cn r) (cn g) n i) (fun i => cn g i - oG (cn r) (cn g) n i) 1 = _
  omega
/-- Two steps are one. -/
theorem dr_two {r g : List Int} {n m : Int} (hv : vErr r g = 0) (hn : 0 ≤ n) (hm : 0 ≤ m) :
    drF r g (n + m) = addF (drF r g n) (drF (trm (leF r g n)) (trm (leG r g n)) m) ∧ drG r g (n + m) = addF (drG r g n) (drG (trm (leF r g n)) (trm (leG r g n)) m)
    ∧ leF r g (n + m) = leF (trm (leF r g n)) (trm (leG r g n)) m ∧ leG r g (n + m) = leG (trm (leF r g n)) (trm (leG r g n)) m := by
  obtain ⟨hr, hg, q3, q4, q5, q6⟩ := vErr_zero hv
  have k1 := okh_cn q3 q5; have k2 := okh_cn q4 q6
  obtain ⟨_, _, r3, r4⟩ := dr_read hv hn
  have key : ∀ i, oF (cn r) (cn g) (n + m) i = oF (cn r) (cn g) n i + oF (leF r g n) (leG r g n) m i ∧ oG (cn r) (cn g) (n + m) i = oG (cn r) (cn g) n i + oG (leF r g n) (leG r g n) m i := fun i => by
    by_cases hi : i < 25
    · exact draw_two k1 k2 hn hm hi
    · obtain ⟨a1, a2⟩ := oF_far (f := cn r) (g := cn g) (n := n) hn (show 25 ≤ i by omega) (cn_far hr (by omega)) (cn_far hg (by omega))
      obtain ⟨b1, b2⟩ := oF_far (f := cn r) (g := cn g) (n := n + m) (by omega) (show 25 ≤ i by omega) (cn_far hr (by omega)) (cn_far hg (by omega))
      obtain ⟨d1, d2⟩ := oF_far (f := leF r g n) (g := leG r g n) (n := m) hm (show 25 ≤ i by omega) (by unfold leF; rw [a1, cn_far hr (by omega)]; rfl) (by unfold leG; rw [a2, cn_far hg (by omega)]; rfl)
      omega
  refine ⟨?_, ?_, ?_, ?_⟩ <;> funext i <;> have hk := key i
  · unfold drF addF; rw [r3, r4]; exact hk.1
  · unfold drG addF; rw [r3, r4]; exact hk.2
  · show cn r i - oF (cn r) (cn g) (n + m) i = cn (trm (leF r g n)) i - oF (cn (trm (leF r g n))) (cn (trm (leG r g n))) m i
    rw [r3, r4]; show _ = (cn r i - oF (cn r) (cn g) n i) - _; omega
  · show cn g i - oG (cn r) (cn g) (n + m) i = cn (trm (leG r g n)) i - oG (cn (trm (leF r g n))) (cn (trm (leG r g n))) m i
    rw [r3, r4]; show _ = (cn g i - oG (cn r) (cn g) n i) - _; omega
/-- The mixture of both drawn parts. -/
theorem dr_mix {r g : List Int} {n m : Int} (hv : vErr r g = 0) (hn : 0 ≤ n) (hm : 0 ≤ m) :
    mxE (trm (drF r g n)) (trm (drG r g n)) (trm (drF (trm (leF r g n)) (trm (leG r g n)) m)) (trm (drG (trm (leF r g n)) (trm (leG r g n)) m)) = 0
    ∧ mxR (trm (drF r g n)) (trm (drG r g n)) (trm (drF (trm (leF r g n)) (trm (leG r g n)) m)) (trm (drG (trm (leF r g n)) (trm (leG r g n)) m)) = trm (drF r g (n + m))
    ∧ mxG (trm (drF r g n)) (trm (drG r g n)) (trm (drF (trm (leF r g n)) (trm (leG r g n)) m)) (trm (drG (trm (leF r g n)) (trm (leG r g n)) m)) = trm (drG r g (n + m)) := by
  obtain ⟨d1, d2, d3, d4⟩ := dr_ok hv hn
  have hv2 := vErr_trmO d3 d4
  obtain ⟨e1, e2, e3, e4⟩ := dr_ok hv2 hm
  obtain ⟨g1, g2, _⟩ := dr_ok hv (show 0 ≤ n + m by omega)
  obtain ⟨r1, r2, _⟩ := dr_read hv hn
  obtain ⟨s1, s2, _⟩ := dr_read hv2 hm
  obtain ⟨w1, w2, _⟩ := dr_two hv hn hm
  have hp : pErr (trm (drF r g n)) (trm (drG r g n)) (trm (drF (trm (leF r g n)) (trm (leG r g n)) m)) (trm (drG (trm (leF r g n)) (trm (leG r g n)) m)) = 0 := by rw [pErr_two (vErr_trmO d1 d2), vErr_trmO e1 e2]
  obtain ⟨t1, t2, t3⟩ := tie_okh g1 g2
  unfold mxE mxR mxG
  simp only [if_pos hp]
  rw [r1, r2, s1, s2, ← w1, ← w2]
  exact ⟨t3, t1, t2⟩
end Go.Proofs.Ytiopaodiaokfdaa
