/- Sums of drawn hairs. -/
import Derived.Test.YtiopaodiaokfdaaH16
import Derived.Test.YtiopaodiaokfdaaH19
namespace Go.Proofs.Ytiopaodiaokfdaa
open Go.RowKit

/-! ### Sums of drawn hairs -/
theorem lft_cnt {f g : Nat → Int} {n : Int} (hf : Okh f) (hg : Okh g) (hn : 0 ≤ n) : ∀ d, d ≤ 24 → lft f g n (24 - d) = max 0 (n - cnt f g (25 - d : Nat))
  | 0, _ => by rw [cnt_top]; show n = _; omega
  | d + 1, h => by
    have e := lft_pred f g n (i := 24 - (d + 1)) (by omega)
    have e2 := cnt_step f g (i := 24 - d) (by omega) (by omega)
    have e3 := lft_cnt hf hg hn d (by omega)
    rw [show 24 - (d + 1) + 1 = 24 - d by omega] at e
    rw [show 24 - d + 1 = 25 - d by omega] at e2
    rw [show 25 - (d + 1) = 24 - d by omega, e, e3, e2]
    have := hf (24 - d) (by omega); have := hg (24 - d) (by omega); have := cnt_nn hf hg (25 - d : Nat)
    omega
theorem lft_at {f g : Nat → Int} {n : Int} (hf : Okh f) (hg : Okh g) (hn : 0 ≤ n) {i : Nat} (hi : i ≤ 24) : lft f g n i = max 0 (n - cnt f g (i + 1 : Nat)) := by
  have := lft_cnt hf hg hn (24 - i) (by omega)
  rwa [show 24 - (24 - i) = i by omega, show 25 - (24 - i) = i + 1 by omega] at this
theorem oFG {f g : Nat → Int} {n : Int} {i : Nat} (h : 1 ≤ i) : oF f g n i + oG f g n i = min (lft f g n i) (f i + g i) := by
  unfold oF oG; rw [if_neg (by omega), if_neg (by omega)]; omega
theorem cnt_drawn {f g : Nat → Int} {n : Int} (hf : Okh f) (hg : Okh g) (hn : 0 ≤ n) : ∀ d, d ≤ 24 → cnt (oF f g n) (oG f g n) (25 - d : Nat) = min n (cnt f g (25 - d : Nat))
  | 0, _ => by rw [cnt_top, cnt_top]; omega
  | d + 1, h => by
    have e1 := cnt_step f g (i := 24 - d) (by omega) (by omega)
    have e2 := cnt_step (oF f g n) (oG f g n) (i := 24 - d) (by omega) (by omega)
    have e3 := cnt_drawn hf hg hn d (by omega)
    have e4 := lft_at hf hg hn (i := 24 - d) (by omega)
    have e5 := oFG (f := f) (g := g) (n := n) (i := 24 - d) (by omega)
    rw [show 24 - d + 1 = 25 - d by omega] at e1 e2 e4
    rw [show 25 - (d + 1) = 24 - d by omega, e1, e2, e3, e5, e4]
    have := hf (24 - d) (by omega); have := hg (24 - d) (by omega); have := cnt_nn hf hg (25 - d : Nat)
    omega
/-- Of each length on, the drawn hairs are as many as there are, at most n. -/
theorem cnt_draw {f g : Nat → Int} {n : Int} (hf : Okh f) (hg : Okh g) (hn : 0 ≤ n) {i : Nat} (h1 : 1 ≤ i) (h2 : i ≤ 25) : cnt (oF f g n) (oG f g n) i = min n (cnt f g i) := by
  have := cnt_drawn hf hg hn (25 - i) (by omega)
  rwa [show 25 - (25 - i) = i by omega] at this
theorem wS_sub (w f g : Nat → Int) : wS w (fun i => f i - g i) = wS w f - wS w g := by
  have : wS w f = wS w (fun i => f i - g i) + wS w g := by
    rw [← wS_add]; congr 1; funext i; omega
  omega
theorem cnt_sub (f g f' g' : Nat → Int) (len : Int) : cnt (fun i => f i - f' i) (fun i => g i - g' i) len = cnt f g len - cnt f' g' len := by
  rw [cnt_wS, cnt_wS, cnt_wS, wS_sub, wS_sub]; omega
theorem inc_sub (f g f' g' : Nat → Int) : inc (fun i => f i - f' i) (fun i => g i - g' i) = inc f g - inc f' g' := by
  rw [inc_wS, inc_wS, inc_wS, wS_sub, wS_sub]; omega
theorem oF_ok {f g : Nat → Int} {n : Int} (hf : Okh f) (hg : Okh g) (hn : 0 ≤ n) : Okh (oF f g n) ∧ Okh (oG f g n) ∧ Okh (fun i => f i - oF f g n i) ∧ Okh (fun i => g i - oG f g n i) := by
  have key : ∀ i, i < 25 → 0 ≤ oF f g n i ∧ oF f g n i ≤ f i ∧ 0 ≤ oG f g n i ∧ oG f g n i ≤ g i := fun i hi => by
    have := hf i hi; have := hg i hi; have e := lft_at hf hg hn (i := i) (by omega)
    unfold oF oG
    rw [e]
    split <;> omega
  refine ⟨fun i hi => ?_, fun i hi => ?_, fun i hi => ?_, fun i hi => ?_⟩ <;> have := key i hi <;> have := hf i hi <;> have := hg i hi <;> first | omega | (simp only; omega)
/-- Drawing twice is drawing the sum. -/
theorem draw_two {f g : Nat → Int} {n m : Int} (hf : Okh f) (hg : Okh g) (hn : 0 ≤ n) (hm : 0 ≤ m) {i : Nat} (hi : i < 25) :
    oF f g (n + m) i = oF f g n i + oF (fun i => f i - oF f g n i) (fun i => g i - oG f g n i) m i ∧ oG f g (n + m) i = oG f g n i + oG (fun i => f i - oF f g n i) (fun i => g i - oG f g n i) m i := by
  obtain ⟨k1, k2, k3, k4⟩ := oF_ok hf hg hn
  by_cases h0 : i = 0
  · subst h0; exact ⟨rfl, rfl⟩
  have e1 := lft_at hf hg hn (i := i) (by omega)
  have e2 := lft_at hf hg (show 0 ≤ n + m by omega) (i := i) (by omega)
  have e3 := lft_at k3 k4 hm (i := i) (by omega)
  rw [cnt_sub, cnt_draw hf hg hn (by omega) (by omega)] at e3
  have := hf i hi; have := hg i hi; have := cnt_nn hf hg (i + 1 : Nat)
  unfold oF oG at e3 ⊢
  simp only [if_neg h0] at e3 ⊢
  rw [e1, e2, e3]
  omega
end Go.Proofs.Ytiopaodiaokfdaa
