/- Handfuls, mixed again; their means never rise. -/
import Derived.Test.YtiopaodiaokfdaaH26
import Derived.Test.YtiopaodiaokfdaaH29
import Derived.Test.YtiopaodiaokfdaaH17
import Derived.Test.YtiopaodiaokfdaaH18
namespace Go.Proofs.Ytiopaodiaokfdaa
open Go.RowKit

/-- How many hairs are drawn before a handful. -/
def hfD (r g : List Int) (n : Int) : Nat → Int
  | 0 => 0
  | i + 1 => hfD r g n i + hfN (cn r) (cn g) n i
theorem hfN_to {r g : List Int} {n : Int} (hv : vErr r g = 0) (hn : 1 ≤ n) (i : Nat) : 0 ≤ hfN (cn r) (cn g) n i ∧ hfN (cn r) (cn g) n i ≤ n ∧ hfN (cn r) (cn g) n i ≤ cnt (hfS (cn r) (cn g) n i).1 (hfS (cn r) (cn g) n i).2 1 := by
  obtain ⟨hr, hg, q3, q4, q5, q6⟩ := vErr_zero hv
  obtain ⟨a, b⟩ := hf_ok (okh_cn q3 q5) (okh_cn q4 q6) hn i
  have := cnt_nn a b 1
  unfold hfN
  omega
theorem hfD_to {r g : List Int} {n : Int} (hv : vErr r g = 0) (hn : 1 ≤ n) : ∀ i, 0 ≤ hfD r g n i
  | 0 => Int.le_refl _
  | i + 1 => by
    have := hfD_to hv hn i
    have := hfN_to hv hn i
    show 0 ≤ hfD r g n i + hfN (cn r) (cn g) n i
    omega
theorem oF_none {r g : List Int} (hv : vErr r g = 0) (i : Nat) : oF (cn r) (cn g) 0 i = 0 ∧ oG (cn r) (cn g) 0 i = 0 := by
  obtain ⟨hr, hg, q3, q4, q5, q6⟩ := vErr_zero hv
  have k1 := okh_cn q3 q5; have k2 := okh_cn q4 q6
  by_cases hi : i < 25
  · have e := lft_at k1 k2 (Int.le_refl 0) (i := i) (by omega)
    have := cnt_nn k1 k2 (i + 1 : Nat)
    have := k1 i hi; have := k2 i hi
    unfold oF oG
    rw [e]
    split <;> omega
  · exact oF_far (Int.le_refl 0) (by omega) (cn_far hr (by omega)) (cn_far hg (by omega))
theorem le_zero {r g : List Int} (hv : vErr r g = 0) : leF r g 0 = cn r ∧ leG r g 0 = cn g := by
  constructor <;> funext i <;> have := oF_none hv i
  · unfold leF; omega
  · unfold leG; omega
theorem dr_zero {r g : List Int} (hv : vErr r g = 0) : trm (drF r g 0) = [] ∧ trm (drG r g 0) = [] := by
  have e1 : drF r g 0 = fun _ => 0 := by funext i; exact (oF_none hv i).1
  have e2 : drG r g 0 = fun _ => 0 := by funext i; exact (oF_none hv i).2
  rw [e1, e2]
  exact ⟨rfl, rfl⟩
theorem hfS_le {r g : List Int} {n : Int} (hv : vErr r g = 0) (hn : 1 ≤ n) : ∀ i, hfS (cn r) (cn g) n i = (leF r g (hfD r g n i), leG r g (hfD r g n i))
  | 0 => by rw [show hfD r g n 0 = 0 from rfl, (le_zero hv).1, (le_zero hv).2]; rfl
  | i + 1 => by
    have ih := hfS_le hv hn i
    have hD := hfD_to hv hn i
    have hN := hfN_to hv hn i
    obtain ⟨_, _, e3, e4⟩ := dr_two (r := r) (g := g) (n := hfD r g n i) (m := hfN (cn r) (cn g) n i) hv hD hN.1
    obtain ⟨_, _, r3, r4⟩ := dr_read hv hD
    have e5 : hfS (cn r) (cn g) n (i + 1) = (fun x => (hfS (cn r) (cn g) n i).1 x - oF (hfS (cn r) (cn g) n i).1 (hfS (cn r) (cn g) n i).2 (hfN (cn r) (cn g) n i) x, fun x => (hfS (cn r) (cn g) n i).2 x - oG (hfS (cn r) (cn g) n i).1 (hfS (cn r) (cn g) n i).2 (hfN (cn r) (cn g) n i) x) := rfl
    rw [e5, show hfD r g n (i + 1) = hfD r g n i + hfN (cn r) (cn g) n i from rfl, e3, e4, ih]
    unfold leF leG at *
    rw [r3, r4]
/-- The handful is what is drawn of the rest. -/
theorem hfR_dr {r g : List Int} {n : Int} (hv : vErr r g = 0) (hn : 1 ≤ n) (i : Nat) : hfR r g n i = trm (drF (trm (leF r g (hfD r g n i))) (trm (leG r g (hfD r g n i))) (hfN (cn r) (cn g) n i)) ∧ hfL r g n i = trm (drG (trm (leF r g (hfD r g n i))) (trm (leG r g (hfD r g n i))) (hfN (cn r) (cn g) n i)) := by
  obtain ⟨_, _, r3, r4⟩ := dr_read hv (hfD_to hv hn i)
  unfold hfR hfL hfF hfG drF drG
  rw [r3, r4, hfS_le hv hn i]
  exact ⟨rfl, rfl⟩
/-- One handful more, mixed in. -/
theorem hf_mix {r g : List Int} {n : Int} (hv : vErr r g = 0) (hn : 1 ≤ n) (i : Nat) :
    mxE (trm (drF r g (hfD r g n i))) (trm (drG r g (hfD r g n i))) (hfR r g n i) (hfL r g n i) = 0
    ∧ mxR (trm (drF r g (hfD r g n i))) (trm (drG r g (hfD r g n i))) (hfR r g n i) (hfL r g n i) = trm (drF r g (hfD r g n (i + 1)))
    ∧ mxG (trm (drF r g (hfD r g n i))) (trm (drG r g (hfD r g n i))) (hfR r g n i) (hfL r g n i) = trm (drG r g (hfD r g n (i + 1))) := by
  obtain ⟨e1, e2⟩ := hfR_dr hv hn i
  rw [e1, e2]
  exact dr_mix hv (hfD_to hv hn i) (hfN_to hv hn i).1
theorem hf_okR {r g : List Int} {n : Int} (hv : vErr r g = 0) (hn : 1 ≤ n) (i : Nat) : vErr (hfR r g n i) (hfL r g n i) = 0 ∧ cnt (cn (hfR r g n i)) (cn (hfL r g n i)) 1 = hfN (cn r) (cn g) n i := by
  obtain ⟨hr, hg, q3, q4, q5, q6⟩ := vErr_zero hv
  obtain ⟨a, b⟩ := hf_ok (okh_cn q3 q5) (okh_cn q4 q6) hn i
  have hN := hfN_to hv hn i
  obtain ⟨y1, y2, _⟩ := oF_ok (n := hfN (cn r) (cn g) n i) a b hN.1
  refine ⟨vErr_trmO y1 y2, ?_⟩
  have e := cnt_draw (n := hfN (cn r) (cn g) n i) a b hN.1 (i := 1) (by omega) (by omega)
  have e' : cnt (oF (hfS (cn r) (cn g) n i).1 (hfS (cn r) (cn g) n i).2 (hfN (cn r) (cn g) n i)) (oG (hfS (cn r) (cn g) n i).1 (hfS (cn r) (cn g) n i).2 (hfN (cn r) (cn g) n i)) 1 = min (hfN (cn r) (cn g) n i) (cnt (hfS (cn r) (cn g) n i).1 (hfS (cn r) (cn g) n i).2 1) := e
  unfold hfR hfL hfF hfG
  rw [cnt_trm (oF_0 _ _ _).1 (oF_0 _ _ _).2, e']
  omega
theorem cnt_mono {f g : Nat → Int} (hf : Okh f) (hg : Okh g) (a : Nat) (ha : 1 ≤ a) : ∀ d, a + d ≤ 25 → cnt f g (a + d : Nat) ≤ cnt f g a
  | 0, _ => Int.le_refl _
  | d + 1, h => by
    have ih := cnt_mono hf hg a ha d (by omega)
    have e := cnt_step f g (i := a + d) (by omega) (by omega)
    have := hf (a + d) (by omega); have := hg (a + d) (by omega)
    rw [show a + (d + 1) = a + d + 1 by omega]
    omega
/-- All is drawn: the mixture of all handfuls is the bundle. -/
theorem dr_all {r g : List Int} {n : Int} (hv : vErr r g = 0) (hn : 0 ≤ n) (h0 : cnt (leF r g n) (leG r g n) 1 = 0) : decide (pErr (trm (drF r g n)) (trm (drG r g n)) r g = 0 ∧ sameF (cn (trm (drF r g n))) (cn (trm (drG r g n))) (cn r) (cn g)) = true ∧ pErr (trm (drF r g n)) (trm (drG r g n)) r g = 0 := by
  obtain ⟨d1, d2, d3, d4⟩ := dr_ok hv hn
  obtain ⟨r1, r2, _⟩ := dr_read hv hn
  have hp : pErr (trm (drF r g n)) (trm (drG r g n)) r g = 0 := by rw [pErr_two (vErr_trmO d1 d2), hv]
  refine ⟨decide_eq_true ⟨hp, fun i hi => ?_⟩, hp⟩
  rw [r1, r2]
  obtain ⟨e1, e2⟩ := dr_sum (r := r) (g := g) (n := n) i
  by_cases hz : i = 0
  · subst hz
    have z1 : drF r g n 0 = 0 := rfl
    have z2 : drG r g n 0 = 0 := rfl
    rw [z1, z2, cn_zero, cn_zero]; exact ⟨rfl, rfl⟩
  · have m := cnt_mono d3 d4 1 (by omega) (i - 1) (by omega)
    rw [show 1 + (i - 1) = i by omega] at m
    have s := cnt_step (leF r g n) (leG r g n) (i := i) (by omega) hi
    have q := cnt_nn d3 d4 (i + 1 : Nat)
    have a := d3 i hi; have b := d4 i hi
    have m' : cnt (leF r g n) (leG r g n) i ≤ cnt (leF r g n) (leG r g n) 1 := m
    omega
/-! ### Means never rise -/
theorem sumTo_mulH (a : Int) (F : Nat → Int) : ∀ n, sumTo (fun i => a * F i) n = a * sumTo F n
  | 0 => by simp [sumTo]
  | n + 1 => by rw [sumTo_succ, sumTo_succ, sumTo_mulH a F n, Int.mul_add]
theorem sumTo_monoH {F G : Nat → Int} : ∀ n, (∀ i, i < n → F i ≤ G i) → sumTo F n ≤ sumTo G n
  | 0, _ => Int.le_refl _
  | n + 1, h => by rw [sumTo_succ, sumTo_succ]; have := sumTo_monoH n (fun i hi => h i (by omega)); have := h n (by omega); omega
/-- A length that parts the drawn hairs from those that are left. -/
theorem dr_part {f g : Nat → Int} {m : Int} (hf : Okh f) (hg : Okh g) (hm : 0 ≤ m) : ∃ L : Nat, L ≤ 24 ∧ (∀ i, 1 ≤ i → i < L → oF f g m i + oG f g m i = 0) ∧ (∀ i, L < i → i < 25 → (f i - oF f g m i) + (g i - oG f g m i) = 0) := by
  obtain ⟨o1, o2, o3, o4⟩ := oF_ok hf hg hm
  have key : ∀ d, d ≤ 24 → (∀ i, 24 - d < i → i < 25 → (f i - oF f g m i) + (g i - oG f g m i) = 0) ∨ ∃ L : Nat, L ≤ 24 ∧ (∀ i, 1 ≤ i → i < L → oF f g m i + oG f g m i = 0) ∧ (∀ i, L < i → i < 25 → (f i - oF f g m i) + (g i - oG f g m i) = 0) := by
    intro d
    induction d with
    | zero => exact fun _ => .inl fun i h1 h2 => absurd h1 (by omega)
    | succ d ih =>
      intro hd
      rcases ih (by omega) with h | h
      · by_cases hz : (f (24 - d) - oF f g m (24 - d)) + (g (24 - d) - oG f g m (24 - d)) = 0
        · refine .inl fun i h1 h2 => ?_
          by_cases e : i = 24 - d
          · subst e; exact hz
          · exact h i (by omega) h2
        · refine .inr ⟨24 - d, by omega, fun i h1 h2 => ?_, fun i h1 h2 => h i h1 h2⟩
          have a1 := oFG (f := f) (g := g) (n := m) (i := 24 - d) (by omega)
          have a2 := lft_at hf hg hm (i := 24 - d) (by omega)
          have a3 := cnt_step f g (i := 24 - d) (by omega) (by omega)
          have a4 := oFG (f := f) (g := g) (n := m) (i := i) h1
          have a5 := lft_at hf hg hm (i := i) (by omega)
          have a6 := cnt_mono hf hg (i + 1) (by omega) (24 - d - (i + 1)) (by omega)
          rw [show i + 1 + (24 - d - (i + 1)) = 24 - d by omega] at a6
          have := hf (24 - d) (by omega); have := hg (24 - d) (by omega)
          have := hf i (by omega); have := hg i (by omega)
          have := cnt_nn hf hg (24 - d + 1 : Nat)
          omega
      · exact .inr h
  rcases key 24 (by omega) with h | h
  · exact ⟨0, by omega, fun i h1 h2 => absurd h2 (by omega), fun i h1 h2 => h i (by omega) h2⟩
  · exact h
theorem inc_ge {a b : Nat → Int} {L : Nat} (ha : Okh a) (hb : Okh b) (h : ∀ i, 1 ≤ i → i < L → a i + b i = 0) : (L : Int) * cnt a b 1 ≤ inc a b := by
  unfold cnt inc
  rw [← sumTo_mulH]
  refine sumTo_monoH 25 fun i hi => ?_
  have h1 := ha i hi; have h2 := hb i hi
  by_cases hz : i = 0
  · subst hz; simp
  · rw [if_pos ⟨by omega, by omega⟩]
    by_cases hL : i < L
    · rw [h i (by omega) hL, Int.mul_zero, Int.mul_zero]; exact Int.le_refl _
    · exact Int.mul_le_mul_of_nonneg_right (by omega) (by omega)
theorem inc_le {a b : Nat → Int} {L : Nat} (ha : Okh a) (hb : Okh b) (h : ∀ i, L < i → i < 25 → a i + b i = 0) : inc a b ≤ (L : Int) * cnt a b 1 := by
  unfold cnt inc
  rw [← sumTo_mulH]
  refine sumTo_monoH 25 fun i hi => ?_
  have h1 := ha i hi; have h2 := hb i hi
  by_cases hz : i = 0
  · subst hz; simp
  · rw [if_pos ⟨by omega, by omega⟩]
    by_cases hL : L < i
    · rw [h i hL hi, Int.mul_zero, Int.mul_zero]; exact Int.le_refl _
    · exact Int.mul_le_mul_of_nonneg_right (by omega) (by omega)
theorem hf_fall {r g : List Int} {n : Int} (hv : vErr r g = 0) (hn : 1 ≤ n) (i : Nat) :
    inc (cn (hfR r g n (i + 1))) (cn (hfL r g n (i + 1))) * cnt (cn (hfR r g n i)) (cn (hfL r g n i)) 1 ≤ inc (cn (hfR r g n i)) (cn (hfL r g n i)) * cnt (cn (hfR r g n (i + 1))) (cn (hfL r g n (i + 1))) 1 := by
  obtain ⟨hr, hg, q3, q4, q5, q6⟩ := vErr_zero hv
  obtain ⟨a, b⟩ := hf_ok (okh_cn q3 q5) (okh_cn q4 q6) hn i
  obtain ⟨a', b'⟩ := hf_ok (okh_cn q3 q5) (okh_cn q4 q6) hn (i + 1)
  have hN := hfN_to hv hn i
  have hN' := hfN_to hv hn (i + 1)
  obtain ⟨y1, y2, _⟩ := oF_ok (n := hfN (cn r) (cn g) n i) a b hN.1
  obtain ⟨y3, y4, y5, y6⟩ := oF_ok (n := hfN (cn r) (cn g) n (i + 1)) a' b' hN'.1
  obtain ⟨L, hL, p1, p2⟩ := dr_part (m := hfN (cn r) (cn g) n i) a b hN.1
  have e1 := inc_ge y1 y2 p1
  have e2 : inc (oF (hfS (cn r) (cn g) n (i + 1)).1 (hfS (cn r) (cn g) n (i + 1)).2 (hfN (cn r) (cn g) n (i + 1))) (oG (hfS (cn r) (cn g) n (i + 1)).1 (hfS (cn r) (cn g) n (i + 1)).2 (hfN (cn r) (cn g) n (i + 1))) ≤ (L : Int) * cnt (oF (hfS (cn r) (cn g) n (i + 1)).1 (hfS (cn r) (cn g) n (i + 1)).2 (hfN (cn r) (cn g) n (i + 1))) (oG (hfS (cn r) (cn g) n (i + 1)).1 (hfS (cn r) (cn g) n (i + 1)).2 (hfN (cn r) (cn g) n (i + 1))) 1 :=
    inc_le y3 y4 fun j h1 h2 => by
      have z : (hfS (cn r) (cn g) n (i + 1)).1 j + (hfS (cn r) (cn g) n (i + 1)).2 j = 0 := p2 j h1 h2
      have a1 := y3 j h2; have a2 := y4 j h2; have a3 := y5 j h2; have a4 := y6 j h2
      simp only at a3 a4
      omega
  unfold hfR hfL hfF hfG
  rw [cnt_trm (oF_0 (hfS (cn r) (cn g) n i).1 (hfS (cn r) (cn g) n i).2 _).1 (oF_0 _ _ _).2, cnt_trm (oF_0 (hfS (cn r) (cn g) n (i + 1)).1 (hfS (cn r) (cn g) n (i + 1)).2 _).1 (oF_0 _ _ _).2, inc_trm (oF_0 (hfS (cn r) (cn g) n i).1 (hfS (cn r) (cn g) n i).2 _).1 (oF_0 _ _ _).2, inc_trm (oF_0 (hfS (cn r) (cn g) n (i + 1)).1 (hfS (cn r) (cn g) n (i + 1)).2 _).1 (oF_0 _ _ _).2]
  have c1 := cnt_nn y1 y2 1
  have c2 := cnt_nn y3 y4 1
  have m1 := Int.mul_le_mul_of_nonneg_right e1 c2
  have m2 := Int.mul_le_mul_of_nonneg_right e2 c1
  rw [Int.mul_right_comm] at m1
  omega
end Go.Proofs.Ytiopaodiaokfdaa
