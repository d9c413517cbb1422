/- Sums over lengths: what trimming and breaking leave alike. -/
import Derived.Test.YtiopaodiaokfdaaH13
namespace Go.Proofs.Ytiopaodiaokfdaa
open Go.RowKit

theorem cn_trm (f : Nat → Int) {i : Nat} (h1 : 1 ≤ i) (hi : i < 25) : cn (trm f) i = f i := by
  unfold cn
  rw [if_neg (by omega)]
  unfold trm
  by_cases h : i ≤ lst f 24
  · rw [tab_getD _ (by omega), show i - 1 + 1 = i by omega]
  · rw [List.getD_eq_getElem?_getD, List.getElem?_eq_none (by rw [tab_length]; omega)]
    exact (lst_zero f 24 i (by omega) (by omega)).symm
theorem cn_trm' {f : Nat → Int} (h0 : f 0 = 0) {i : Nat} (hi : i < 25) : cn (trm f) i = f i := by
  by_cases h : i = 0
  · subst h; rw [cn_zero, h0]
  · exact cn_trm f (by omega) hi
/-- A weighted sum over the lengths. -/
def wS (w : Nat → Int) (f : Nat → Int) : Int := sumTo (fun i => w i * f i) 25
theorem wS_upd' (w f : Nat → Int) (k : Nat) (x : Int) : ∀ n, sumTo (fun i => w i * upd f k x i) n = sumTo (fun i => w i * f i) n + if k < n then w k * (x - f k) else 0
  | 0 => by rw [if_neg (by omega)]; rfl
  | n + 1 => by
    rw [sumTo_succ, sumTo_succ, wS_upd' w f k x n]
    by_cases h : k = n
    · subst h; rw [upd_same, if_neg (by omega), if_pos (by omega), Int.mul_sub]; omega
    · rw [upd_ne _ _ (by omega)]
      by_cases h' : k < n
      · rw [if_pos h', if_pos (by omega)]; omega
      · rw [if_neg h', if_neg (by omega)]; omega
theorem wS_upd (w f : Nat → Int) {k : Nat} (hk : k < 25) (x : Int) : wS w (upd f k x) = wS w f + w k * (x - f k) := by
  unfold wS; rw [wS_upd', if_pos hk]
theorem wS_congr (w : Nat → Int) {f g : Nat → Int} (h : ∀ i, i < 25 → f i = g i) : wS w f = wS w g := sumTo_congr 25 fun i hi => by rw [h i hi]
theorem wS_add (w f g : Nat → Int) : wS w (fun i => f i + g i) = wS w f + wS w g := by
  unfold wS; rw [← sumTo_add]; exact sumTo_congr 25 fun i _ => Int.mul_add _ _ _
theorem inc_wS (f g : Nat → Int) : inc f g = wS (fun i => i) f + wS (fun i => i) g := by rw [← wS_add]; rfl
theorem cnt_wS (f g : Nat → Int) (len : Int) : cnt f g len = wS (fun i => if 1 ≤ i ∧ len ≤ i then 1 else 0) f + wS (fun i => if 1 ≤ i ∧ len ≤ i then 1 else 0) g := by
  rw [← wS_add]
  refine sumTo_congr 25 fun i _ => ?_
  show (if 1 ≤ i ∧ len ≤ i then f i + g i else 0) = (if 1 ≤ i ∧ len ≤ i then 1 else 0) * (f i + g i)
  split <;> omega
theorem wS_snF (w f : Nat → Int) {k a : Nat} (hk : k < 25) (ha : a < k) (h1 : 1 ≤ a) (m : Int) : wS w (snF f k a m) = wS w f + (w a * m + w (k - a) * m - w k * m) := by
  unfold snF
  rw [wS_upd _ _ (by omega), wS_upd _ _ (by omega), wS_upd _ _ hk]
  have e1 : f k - m - f k = - m := by omega
  have e2 : ∀ x : Int, x + m - x = m := fun x => by omega
  rw [e1, e2, e2, Int.mul_neg]
  omega
theorem snF_zero {f : Nat → Int} {k a : Nat} (ha : a < k) (h1 : 1 ≤ a) (m : Int) : snF f k a m 0 = f 0 := by
  unfold snF
  rw [upd_ne _ _ (by omega), upd_ne _ _ (by omega), upd_ne _ _ (by omega)]
theorem inc_snF (f g : Nat → Int) {k a : Nat} (hk : k < 25) (ha : a < k) (h1 : 1 ≤ a) (m q : Int) : inc (snF f k a m) (snF g k a q) = inc f g := by
  rw [inc_wS, inc_wS, wS_snF _ _ hk ha h1, wS_snF _ _ hk ha h1]
  have e : ∀ m : Int, (a : Int) * m + ((k - a : Nat) : Int) * m - k * m = 0 := fun m => by
    rw [← Int.add_mul, ← Int.sub_mul, show (a : Int) + ((k - a : Nat) : Int) - k = 0 by omega, Int.zero_mul]
  rw [e, e]; omega
theorem cnt_snF (f g : Nat → Int) {k a : Nat} (hk : k < 25) (ha : a < k) (h1 : 1 ≤ a) (m q : Int) : cnt (snF f k a m) (snF g k a q) 1 = cnt f g 1 + (m + q) := by
  rw [cnt_wS, cnt_wS, wS_snF _ _ hk ha h1, wS_snF _ _ hk ha h1]
  simp only [if_pos (show 1 ≤ a ∧ (1 : Int) ≤ a by omega), if_pos (show 1 ≤ k - a ∧ (1 : Int) ≤ (k - a : Nat) by omega), if_pos (show 1 ≤ k ∧ (1 : Int) ≤ k by omega)]
  omega
theorem inc_trm {f g : Nat → Int} (hf : f 0 = 0) (hg : g 0 = 0) : inc (cn (trm f)) (cn (trm g)) = inc f g := by
  rw [inc_wS, inc_wS, wS_congr _ fun i hi => cn_trm' hf hi, wS_congr _ fun i hi => cn_trm' hg hi]
theorem cnt_trm {f g : Nat → Int} (hf : f 0 = 0) (hg : g 0 = 0) (len : Int) : cnt (cn (trm f)) (cn (trm g)) len = cnt f g len := by
  rw [cnt_wS, cnt_wS, wS_congr _ fun i hi => cn_trm' hf hi, wS_congr _ fun i hi => cn_trm' hg hi]
/-- A bundle without hairs too many: its lists. -/
theorem tie_ok {f g : Nat → Int} (hf : Okf f) (hg : Okf g) (h : tieE f g = 0) : tieR f g = trm f ∧ tieG f g = trm g ∧ vErr (trm f) (trm g) = 0 := by
  unfold tieE at h
  split at h
  · omega
  next hb =>
  unfold tieR tieG
  rw [if_neg hb, if_neg hb, vErr_trm hf hg, if_neg hb]
  exact ⟨rfl, rfl, rfl⟩
/-- What is known when breaking succeeds. -/
theorem sn_facts {r g : List Int} {len at' n : Int} (h : snE r g len at' n = 0) :
    vErr r g = 0 ∧ vErr (snR r g len at' n) (snG r g len at' n) = 0 ∧ inc (cn (snR r g len at' n)) (cn (snG r g len at' n)) = inc (cn r) (cn g)
    ∧ cnt (cn (snR r g len at' n)) (cn (snG r g len at' n)) 1 = cnt (cn r) (cn g) 1 + n ∧ 0 ≤ n ∧ n ≤ 2000000 := by
  have h0 : snE0 r g len at' n = 0 := by
    by_cases h0 : snE0 r g len at' n = 0
    · exact h0
    · unfold snE at h; rw [if_neg h0] at h; exact h
  have hv : vErr r g = 0 := by
    by_cases hv : vErr r g = 0
    · exact hv
    · unfold snE0 at h0; rw [if_neg hv] at h0; exact h0
  have hb : snB len at' n = true := by
    by_cases hb : snB len at' n = true
    · exact hb
    · unfold snE0 at h0; rw [if_pos hv, if_neg hb] at h0; omega
  have hc : ¬ cn r len.toNat + cn g len.toNat < n := fun hc => by unfold snE0 at h0; rw [if_pos hv, if_pos hb, if_pos hc] at h0; omega
  unfold snE at h
  rw [if_pos h0] at h
  unfold snR snG
  rw [if_pos h0, if_pos h0]
  obtain ⟨b1, b2, b3, b4, b5⟩ := of_decide_eq_true hb
  obtain ⟨hr, hg, q3, q4, q5, q6⟩ := vErr_zero hv
  have k1 := okh_cn q3 q5; have k2 := okh_cn q4 q6
  have u1 := k1 len.toNat (by omega); have u2 := k2 len.toNat (by omega)
  have ok1 := okf_snF k1 (k := len.toNat) (a := at'.toNat) (m := min n (cn r len.toNat)) (by omega) (by omega) (by omega) (by omega)
  have ok2 := okf_snF k2 (k := len.toNat) (a := at'.toNat) (m := n - min n (cn r len.toNat)) (by omega) (by omega) (by omega) (by omega)
  obtain ⟨t1, t2, t3⟩ := tie_ok ok1 ok2 h
  rw [t1, t2]
  have z1 : snF (cn r) len.toNat at'.toNat (min n (cn r len.toNat)) 0 = 0 := by rw [snF_zero (by omega) (by omega), cn_zero]
  have z2 : snF (cn g) len.toNat at'.toNat (n - min n (cn r len.toNat)) 0 = 0 := by rw [snF_zero (by omega) (by omega), cn_zero]
  refine ⟨hv, t3, ?_, ?_, b5, by omega⟩
  · rw [inc_trm z1 z2, inc_snF _ _ (by omega) (by omega) (by omega)]
  · rw [cnt_trm z1 z2, cnt_snF _ _ (by omega) (by omega) (by omega)]; omega
end Go.Proofs.Ytiopaodiaokfdaa
