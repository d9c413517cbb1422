/- Walks that another seat of this program has had, laid at this one. -/
import Derived.Test.YtmblgbcipniecaaDoorMA1
import Derived.Test.YtmblgbcipniecaaDoorMA2
namespace Go.Proofs.YtmblgbcipniecaaDoor
open Go.RowKit

/-! ### The hairs of a bundle, by length -/
def negA (l : List Int) : Bool := l.any (fun x => decide (x < 0))
def bigA (l : List Int) : Bool := l.any (fun x => decide (1000000 < x))
/-- The error of a bundle. -/
def vErr (r g : List Int) : Int := if 24 < r.length ∨ 24 < g.length then 4 else if negA (r ++ g) then 1 else if bigA (r ++ g) then 4 else 0
/-- How many hairs of the length i a list has. -/
def cn (l : List Int) (i : Nat) : Int := if i = 0 then 0 else l.getD (i - 1) 0
/-- The cells of hair's lock, and of the reference's hairs. -/
def lockC (f h : Nat → Int) : List Int := tab 50 (fun i => if i % 2 = 0 then f (i / 2) else h (i / 2))
def hairC (f h : Nat → Int) : List Int := tab 50 (fun i => if i < 25 then f i else h (i - 25))
def lockV (f h : Nat → Int) : Value := .agg (ivs (lockC f h)).toArray
def hairV (f h : Nat → Int) : Value := .agg (ivs (hairC f h)).toArray
theorem lockC_length (f h : Nat → Int) : (lockC f h).length = 50 := tab_length _ _
theorem hairC_length (f h : Nat → Int) : (hairC f h).length = 50 := tab_length _ _
theorem lockC_r (f h : Nat → Int) {i : Nat} (hi : i < 25) : (lockC f h).getD (i * 2) 0 = f i := by
  unfold lockC
  rw [tab_getD _ (by omega), if_pos (by omega)]
  congr 1; omega
theorem lockC_w (f h : Nat → Int) {i : Nat} (hi : i < 25) : (lockC f h).getD (i * 2 + 1) 0 = h i := by
  unfold lockC
  rw [tab_getD _ (by omega), if_neg (by omega)]
  congr 1; omega
theorem hairC_r (f h : Nat → Int) {i : Nat} (hi : i < 25) : (hairC f h).getD i 0 = f i := by
  unfold hairC
  rw [tab_getD _ (by omega), if_pos hi]
theorem hairC_w (f h : Nat → Int) {i : Nat} (hi : i < 25) : (hairC f h).getD (25 + i) 0 = h i := by
  unfold hairC
  rw [tab_getD _ (by omega), if_neg (by omega)]
  congr 1; omega
def upd (f : Nat → Int) (k : Nat) (x : Int) : Nat → Int := fun i => if i = k then x else f i
theorem upd_same (f : Nat → Int) (k : Nat) (x : Int) : upd f k x k = x := by simp [upd]
theorem upd_ne (f : Nat → Int) {k i : Nat} (x : Int) (h : i ≠ k) : upd f k x i = f i := by simp [upd, h]
theorem lockC_set_r (f h : Nat → Int) (k : Nat) (x : Int) : (lockC f h).set (k * 2) x = lockC (upd f k x) h := by
  unfold lockC
  rw [tab_set]
  refine tab_ext fun i hi => ?_
  simp only [upd]
  by_cases h2 : i % 2 = 0
  · by_cases h1 : i = k * 2
    · simp [h1]
    · have : i / 2 ≠ k := by omega
      simp [h2, h1, this]
  · have : i ≠ k * 2 := by omega
    simp [h2, this]
theorem lockC_set_w (f h : Nat → Int) (k : Nat) (x : Int) : (lockC f h).set (k * 2 + 1) x = lockC f (upd h k x) := by
  unfold lockC
  rw [tab_set]
  refine tab_ext fun i hi => ?_
  simp only [upd]
  by_cases h2 : i % 2 = 0
  · have : i ≠ k * 2 + 1 := by omega
    simp [h2, this]
  · by_cases h1 : i = k * 2 + 1
    · have : (k * 2 + 1) / 2 = k := by omega
      simp [h1, this]
    · have : i / 2 ≠ k := by omega
      simp [h2, h1, this]
theorem hairC_set_r (f h : Nat → Int) {k : Nat} (hk : k < 25) (x : Int) : (hairC f h).set k x = hairC (upd f k x) h := by
  unfold hairC
  rw [tab_set]
  refine tab_ext fun i hi => ?_
  simp only [upd]
  by_cases h2 : i < 25
  · by_cases h1 : i = k <;> simp [h2, h1, hk]
  · have : i ≠ k := by omega
    simp [h2, this]
theorem hairC_set_w (f h : Nat → Int) (k : Nat) (x : Int) : (hairC f h).set (25 + k) x = hairC f (upd h k x) := by
  unfold hairC
  rw [tab_set]
  refine tab_ext fun i hi => ?_
  simp only [upd]
  by_cases h2 : i < 25
  · have : i ≠ 25 + k := by omega
    simp [h2, this]
  · by_cases h1 : i = 25 + k
    · have : 25 + k - 25 = k := by omega
      have h3 : ¬ 25 + k < 25 := by omega
      simp [h1, this, h3]
    · have : i - 25 ≠ k := by omega
      simp [h2, h1, this]
/-- The sum of all lengths; how many hairs have at least a length. -/
def inc (f h : Nat → Int) : Int := sumTo (fun i => i * (f i + h i)) 25
def cnt (f h : Nat → Int) (len : Int) : Int := sumTo (fun i => if 1 ≤ i ∧ len ≤ i then f i + h i else 0) 25
/-- Each number is from 0 to 10^7. -/
def Okf (f : Nat → Int) : Prop := ∀ i, i < 25 → 0 ≤ f i ∧ f i ≤ 10000000

theorem inc_to (f h : Nat → Int) (hf : Okf f) (hh : Okf h) (k : Nat) (hk : k ≤ 25) : 0 ≤ sumTo (fun i => i * (f i + h i)) k ∧ sumTo (fun i => i * (f i + h i)) k ≤ k * 500000000 := by
  have key : ∀ i : Nat, i < 25 → 0 ≤ (i : Int) * (f i + h i) ∧ (i : Int) * (f i + h i) ≤ 500000000 := fun i hi => by
    have h1 := hf i hi; have h2 := hh i hi
    have h3 : (i : Int) * (f i + h i) ≤ 25 * (f i + h i) := Int.mul_le_mul_of_nonneg_right (by omega) (by omega)
    exact ⟨Int.mul_nonneg (by omega) (by omega), by omega⟩
  exact ⟨sumTo_nonneg k (fun i hi => (key i (by omega)).1), sumTo_le k (fun i hi => (key i (by omega)).2)⟩
theorem inc_at (f h : Nat → Int) (hf : Okf f) (hh : Okf h) (k : Nat) (hk : k < 25) : 0 ≤ (k : Int) * (f k + h k) ∧ (k : Int) * (f k + h k) ≤ 500000000 := by
  have h1 := hf k hk; have h2 := hh k hk
  have h3 : (k : Int) * (f k + h k) ≤ 25 * (f k + h k) := Int.mul_le_mul_of_nonneg_right (by omega) (by omega)
  exact ⟨Int.mul_nonneg (by omega) (by omega), by omega⟩
theorem cnt_to (f h : Nat → Int) (len : Int) (hf : Okf f) (hh : Okf h) (k : Nat) (hk : k ≤ 25) : 0 ≤ sumTo (fun i => if 1 ≤ i ∧ len ≤ i then f i + h i else 0) k ∧ sumTo (fun i => if 1 ≤ i ∧ len ≤ i then f i + h i else 0) k ≤ k * 20000000 := by
  have key : ∀ i : Nat, i < 25 → 0 ≤ (if 1 ≤ i ∧ len ≤ i then f i + h i else 0) ∧ (if 1 ≤ i ∧ len ≤ i then f i + h i else 0) ≤ 20000000 := fun i hi => by
    have h1 := hf i hi; have h2 := hh i hi
    split <;> omega
  exact ⟨sumTo_nonneg k (fun i hi => (key i (by omega)).1), sumTo_le k (fun i hi => (key i (by omega)).2)⟩

/-! ### Sums -/
set_option maxRecDepth 100000 in
set_option maxHeartbeats 8000000 in
theorem h_inches (f h : Nat → Int) (hf : Okf f) (hh : Okf h) (B : Nat) (w0 : Wd) (hs : HS) :
    Fn Tryd.prog 28 #[lockV f h] B w0 hs (fun v hs' => v = iv (inc f h) ∧ hs' = hs) := by
  have hl := lockC_length f h
  refine fn_enter Tryd.func28 rfl Tryd.ntmps28 (by simp) ?_
  repeat' (first | (with_reducible first | refine c_seq ?_ | refine c_reg ?_ | refine c_region ?_ | refine c_block ?_ | refine c_skip ?_ | refine c_exit ?_ | refine c_ret ?_ | refine s_nil ?_ | refine x_then ?_ | refine x_then_exit ?_ | refine x_then_ret ?_ | refine x_block ?_ | refine x_block_ret ?_ | refine x_block_same ?_ | refine x_block_other (by first | rfl | decide) ?_ | refine q_nil ?_ | refine k_nil ?_) | ((with_reducible apply kN); first | refine stP ?_ | refine stI ?_ | refine st1 ?_ | refine stW ?_) | ((with_reducible apply kP (.alloc _)); refine sA (fun b => ?_)) | ((with_reducible apply kP (.box _ _)); first | refine sBA (fun b => ?_) | refine sB (fun b => ?_)) | ((with_reducible apply kP _); refine sP ?_) | ((with_reducible apply kP _); refine sX ?_) | ((with_reducible apply kC); first | refine cT ?_ | refine cF ?_ | (refine cI (fun h => ?_) (fun h => ?_) <;> (try (exfalso; omega))) | refine cB (fun h => ?_) (fun h => ?_)))
  refine c_loop (fun k : Nat => [(3, iv (sumTo (fun i => i * (f i + h i)) k)), (7, iv k), (6, lockV f h)]) (fun _ => hs) (fun k => k ≤ 25) (fun k => 25 - k) 0 (by simp) (by repeat' first | trivial | rfl | apply And.intro) (by simp) ?_
  intro k hk
  by_cases hk' : k < 25
  · have hb1 := inc_to f h hf hh k hk
    have hb2 := inc_at f h hf hh k hk'
    have h1 := hf k hk'; have h2 := hh k hk'
    have e1 := lockC_r f h hk'; have e2 := lockC_w f h hk'
    rw [← e1, ← e2] at hb2
    repeat' (first | (with_reducible first | refine c_seq ?_ | refine c_reg ?_ | refine c_region ?_ | refine c_block ?_ | refine c_skip ?_ | refine c_exit ?_ | refine c_ret ?_ | refine s_nil ?_ | refine x_then ?_ | refine x_then_exit ?_ | refine x_then_ret ?_ | refine x_block ?_ | refine x_block_ret ?_ | refine x_block_same ?_ | refine x_block_other (by first | rfl | decide) ?_ | refine q_nil ?_ | refine k_nil ?_) | ((with_reducible apply kN); first | refine stP ?_ | refine stI ?_ | refine st1 ?_ | refine stW ?_) | ((with_reducible apply kP (.alloc _)); refine sA (fun b => ?_)) | ((with_reducible apply kP (.box _ _)); first | refine sBA (fun b => ?_) | refine sB (fun b => ?_)) | ((with_reducible apply kP _); refine sP ?_) | ((with_reducible apply kP _); refine sX ?_) | ((with_reducible apply kC); first | refine cT ?_ | refine cF ?_ | (refine cI (fun h => ?_) (fun h => ?_) <;> (try (exfalso; omega))) | refine cB (fun h => ?_) (fun h => ?_)))
    refine r_end (k + 1) (by omega) (by omega) ⟨?_, rfl, rfl, trivial⟩ (by simp)
    show some (iv _) = some (iv _)
    rw [sumTo_succ, ← e1, ← e2]
  · obtain rfl : k = 25 := by omega
    repeat' (first | (with_reducible first | refine c_seq ?_ | refine c_reg ?_ | refine c_region ?_ | refine c_block ?_ | refine c_skip ?_ | refine c_exit ?_ | refine c_ret ?_ | refine s_nil ?_ | refine x_then ?_ | refine x_then_exit ?_ | refine x_then_ret ?_ | refine x_block ?_ | refine x_block_ret ?_ | refine x_block_same ?_ | refine x_block_other (by first | rfl | decide) ?_ | refine q_nil ?_ | refine k_nil ?_) | ((with_reducible apply kN); first | refine stP ?_ | refine stI ?_ | refine st1 ?_ | refine stW ?_) | ((with_reducible apply kP (.alloc _)); refine sA (fun b => ?_)) | ((with_reducible apply kP (.box _ _)); first | refine sBA (fun b => ?_) | refine sB (fun b => ?_)) | ((with_reducible apply kP _); refine sP ?_) | ((with_reducible apply kP _); refine sX ?_) | ((with_reducible apply kC); first | refine cT ?_ | refine cF ?_ | (refine cI (fun h => ?_) (fun h => ?_) <;> (try (exfalso; omega))) | refine cB (fun h => ?_) (fun h => ?_)))
    exact e_ret1 rfl rfl ⟨rfl, rfl⟩ (by simp)

theorem cnt_skip (f h : Nat → Int) (len : Int) (k : Nat) (hk : (k : Int) ≤ max 1 len) : sumTo (fun i => if 1 ≤ i ∧ len ≤ i then f i + h i else 0) k = 0 :=
  sumTo_zero k (fun i hi => if_neg (by omega))
set_option maxRecDepth 100000 in
set_option maxHeartbeats 8000000 in
theorem h_count (f h : Nat → Int) (len : Int) (hf : Okf f) (hh : Okf h) (B : Nat) (w0 : Wd) (hs : HS) :
    Fn Tryd.prog 40 #[lockV f h, iv len] B w0 hs (fun v hs' => v = iv (cnt f h len) ∧ hs' = hs) := by
  have hl := lockC_length f h
  refine fn_enter Tryd.func40 rfl Tryd.ntmps40 (by simp) ?_
  repeat' (first | (with_reducible first | refine c_seq ?_ | refine c_reg ?_ | refine c_region ?_ | refine c_block ?_ | refine c_skip ?_ | refine c_exit ?_ | refine c_ret ?_ | refine s_nil ?_ | refine x_then ?_ | refine x_then_exit ?_ | refine x_then_ret ?_ | refine x_block ?_ | refine x_block_ret ?_ | refine x_block_same ?_ | refine x_block_other (by first | rfl | decide) ?_ | refine q_nil ?_ | refine k_nil ?_) | ((with_reducible apply kP (.box _ _)); first | refine sBA (fun b => ?_) | refine sB (fun b => ?_)) | ((with_reducible apply kP _); refine sP ?_) | ((with_reducible apply kP _); refine sX ?_) | ((with_reducible apply kQP); refine qP ?_) | ((with_reducible apply kQP); refine qX ?_) | ((with_reducible apply kC); first | refine cT ?_ | refine cF ?_ | (refine cI (fun h => ?_) (fun h => ?_) <;> (try (exfalso; omega))) | refine cB (fun h => ?_) (fun h => ?_)) | ((with_reducible apply kR); refine cQ ?_))
  by_cases hm : max 1 len < 25
  · obtain ⟨m, hm1⟩ := Int.eq_ofNat_of_zero_le (show 0 ≤ max 1 len by omega)
    refine c_loop (fun k : Nat => [(5, iv (sumTo (fun i => if 1 ≤ i ∧ len ≤ i then f i + h i else 0) k)), (6, iv k), (2, .pointer (some ⟨b, 0, none⟩))]) (fun _ => (b, ivs (lockC f h)) :: hs) (fun k => m ≤ k ∧ k ≤ 25) (fun k => 25 - k) m (by omega) ⟨?_, ?_, rfl, trivial⟩ sb0 ?_
    · rw [cnt_skip f h len m (by omega)]; rfl
    · rw [← hm1]; rfl
    rintro k ⟨hk0, hk⟩
    by_cases hk' : k < 25
    · have hb1 := cnt_to f h len hf hh k hk
      have h1 := hf k hk'; have h2 := hh k hk'
      have e1 := lockC_r f h hk'; have e2 := lockC_w f h hk'
      rw [← e1] at h1; rw [← e2] at h2
      repeat' (first | (with_reducible first | refine c_seq ?_ | refine c_reg ?_ | refine c_region ?_ | refine c_block ?_ | refine c_skip ?_ | refine c_exit ?_ | refine c_ret ?_ | refine s_nil ?_ | refine x_then ?_ | refine x_then_exit ?_ | refine x_then_ret ?_ | refine x_block ?_ | refine x_block_ret ?_ | refine x_block_same ?_ | refine x_block_other (by first | rfl | decide) ?_ | refine q_nil ?_ | refine k_nil ?_) | ((with_reducible apply kP (.box _ _)); first | refine sBA (fun b => ?_) | refine sB (fun b => ?_)) | ((with_reducible apply kP _); refine sP ?_) | ((with_reducible apply kP _); refine sX ?_) | ((with_reducible apply kQP); refine qP ?_) | ((with_reducible apply kQP); refine qX ?_) | ((with_reducible apply kC); first | refine cT ?_ | refine cF ?_ | (refine cI (fun h => ?_) (fun h => ?_) <;> (try (exfalso; omega))) | refine cB (fun h => ?_) (fun h => ?_)) | ((with_reducible apply kR); refine cQ ?_))
      refine r_end (k + 1) (by omega) (by omega) ⟨?_, rfl, rfl, trivial⟩ sb0
      show some (iv _) = some (iv _)
      rw [sumTo_succ, if_pos (by omega), ← e1, ← e2]
    · obtain rfl : k = 25 := by omega
      repeat' (first | (with_reducible first | refine c_seq ?_ | refine c_reg ?_ | refine c_region ?_ | refine c_block ?_ | refine c_skip ?_ | refine c_exit ?_ | refine c_ret ?_ | refine s_nil ?_ | refine x_then ?_ | refine x_then_exit ?_ | refine x_then_ret ?_ | refine x_block ?_ | refine x_block_ret ?_ | refine x_block_same ?_ | refine x_block_other (by first | rfl | decide) ?_ | refine q_nil ?_ | refine k_nil ?_) | ((with_reducible apply kP (.box _ _)); first | refine sBA (fun b => ?_) | refine sB (fun b => ?_)) | ((with_reducible apply kP _); refine sP ?_) | ((with_reducible apply kP _); refine sX ?_) | ((with_reducible apply kQP); refine qP ?_) | ((with_reducible apply kQP); refine qX ?_) | ((with_reducible apply kC); first | refine cT ?_ | refine cF ?_ | (refine cI (fun h => ?_) (fun h => ?_) <;> (try (exfalso; omega))) | refine cB (fun h => ?_) (fun h => ?_)) | ((with_reducible apply kR); refine cQ ?_))
      exact e_ret1 rfl rfl ⟨rfl, rfl⟩ sb1
  · have hz : cnt f h len = 0 := cnt_skip f h len 25 (by omega)
    refine c_loop (fun _ : Unit => [(5, iv 0), (6, iv (max 1 len)), (2, .pointer (some ⟨b, 0, none⟩))]) (fun _ => (b, ivs (lockC f h)) :: hs) (fun _ => True) (fun _ => 0) () trivial (by repeat' first | trivial | rfl | apply And.intro) sb0 ?_
    intro _ _
    repeat' (first | (with_reducible first | refine c_seq ?_ | refine c_reg ?_ | refine c_region ?_ | refine c_block ?_ | refine c_skip ?_ | refine c_exit ?_ | refine c_ret ?_ | refine s_nil ?_ | refine x_then ?_ | refine x_then_exit ?_ | refine x_then_ret ?_ | refine x_block ?_ | refine x_block_ret ?_ | refine x_block_same ?_ | refine x_block_other (by first | rfl | decide) ?_ | refine q_nil ?_ | refine k_nil ?_) | ((with_reducible apply kP (.box _ _)); first | refine sBA (fun b => ?_) | refine sB (fun b => ?_)) | ((with_reducible apply kP _); refine sP ?_) | ((with_reducible apply kP _); refine sX ?_) | ((with_reducible apply kQP); refine qP ?_) | ((with_reducible apply kQP); refine qX ?_) | ((with_reducible apply kC); first | refine cT ?_ | refine cF ?_ | (refine cI (fun h => ?_) (fun h => ?_) <;> (try (exfalso; omega))) | refine cB (fun h => ?_) (fun h => ?_)) | ((with_reducible apply kR); refine cQ ?_))
    exact e_ret1 rfl rfl ⟨by rw [hz], rfl⟩ sb1


/-! ### Validity -/
theorem negA_append (a b : List Int) : negA (a ++ b) = (negA a || negA b) := by simp [negA]
theorem bigA_append (a b : List Int) : bigA (a ++ b) = (bigA a || bigA b) := by simp [bigA]
theorem negA_take {l : List Int} {k : Nat} (h : k < l.length) : negA (l.take (k + 1)) = (negA (l.take k) || decide (l.getD k 0 < 0)) := by
  rw [List.take_succ_eq_append_getElem h, negA_append]
  simp [negA, List.getD, h]
theorem bigA_take {l : List Int} {k : Nat} (h : k < l.length) : bigA (l.take (k + 1)) = (bigA (l.take k) || decide (1000000 < l.getD k 0)) := by
  rw [List.take_succ_eq_append_getElem h, bigA_append]
  simp [bigA, List.getD, h]
theorem negA_of {l : List Int} {k : Nat} (h : k < l.length) (hn : l.getD k 0 < 0) : negA l = true := by
  simp only [negA, List.any_eq_true, decide_eq_true_eq]
  exact ⟨l[k], List.getElem_mem h, by simpa [List.getD, h] using hn⟩
theorem negA_no {l : List Int} (h : negA l = false) {i : Nat} : 0 ≤ l.getD i 0 := by
  by_cases hi : i < l.length
  · by_cases hx : l.getD i 0 < 0
    · rw [negA_of hi hx] at h; cases h
    · omega
  · simp [List.getD, hi]
theorem bigA_no {l : List Int} (h : bigA l = false) {i : Nat} : l.getD i 0 ≤ 1000000 := by
  by_cases hi : i < l.length
  · by_cases hx : 1000000 < l.getD i 0
    · have : bigA l = true := by
        simp only [bigA, List.any_eq_true, decide_eq_true_eq]
        exact ⟨l[i], List.getElem_mem hi, by simpa [List.getD, hi] using hx⟩
      rw [this] at h; cases h
    · omega
  · simp [List.getD, hi]
/-- A bundle in memory. -/
def bv (o1 o2 : Option Addr) (n1 n2 c1 c2 : Nat) : Value := .agg #[.slice o1 n1 c1, .slice o2 n2 c2]

theorem vErr_long1 {r g : List Int} (h : 24 < r.length) : vErr r g = 4 := by unfold vErr; rw [if_pos (Or.inl h)]
theorem vErr_long2 {r g : List Int} (h : 24 < g.length) : vErr r g = 4 := by unfold vErr; rw [if_pos (Or.inr h)]
theorem vErr_neg {r g : List Int} (h1 : r.length ≤ 24) (h2 : g.length ≤ 24) (h : negA r = true ∨ negA g = true) : vErr r g = 1 := by
  unfold vErr
  rw [if_neg (by omega), if_pos (by rw [negA_append]; simpa using h)]
theorem vErr_big {r g : List Int} (h1 : r.length ≤ 24) (h2 : g.length ≤ 24) (h3 : negA r = false) (h4 : negA g = false) (h : (bigA r || bigA g) = true) : vErr r g = 4 := by
  unfold vErr
  rw [if_neg (by omega), if_neg (by rw [negA_append, h3, h4]; simp), if_pos (by rw [bigA_append]; exact h)]
theorem vErr_ok {r g : List Int} (h1 : r.length ≤ 24) (h2 : g.length ≤ 24) (h3 : negA r = false) (h4 : negA g = false) (h : (bigA r || bigA g) = false) : vErr r g = 0 := by
  unfold vErr
  rw [if_neg (by omega), if_neg (by rw [negA_append, h3, h4]; simp), if_neg (by rw [bigA_append, h]; simp)]
set_option maxRecDepth 100000 in
set_option maxHeartbeats 8000000 in
theorem r_listError (o1 o2 : Option Addr) (c1 c2 : Nat) (r g : List Int) (B : Nat) (w0 : Wd) (hs : HS) (h1 : Sl B w0 hs o1 r) (h2 : Sl B w0 hs o2 g) :
    Fn Tryd.prog 45 #[.slice o1 r.length c1, .slice o2 g.length c2] B w0 hs (fun v hs' => v = iv (vErr r g) ∧ hs' = hs) := by
  refine fn_enter Tryd.func45 rfl Tryd.ntmps45 (by simp) ?_
  repeat' (first | (with_reducible first | refine c_seq ?_ | refine c_reg ?_ | refine c_region ?_ | refine c_block ?_ | refine c_skip ?_ | refine c_exit ?_ | refine c_ret ?_ | refine s_nil ?_ | refine x_then ?_ | refine x_then_exit ?_ | refine x_then_ret ?_ | refine x_block ?_ | refine x_block_ret ?_ | refine x_block_same ?_ | refine x_block_other (by first | rfl | decide) ?_ | refine q_nil ?_ | refine k_nil ?_) | ((with_reducible apply kG); first | refine gY1 ?_ | refine gN1 ?_ | refine gU1 ?_ | (refine gD1 (fun h => ?_) (fun h => ?_) <;> (try (exfalso; omega))) | refine gB1 (fun h => ?_) (fun h => ?_)) | ((with_reducible apply kP _); refine sP ?_) | ((with_reducible apply kP _); refine sX ?_) | ((with_reducible apply kC); first | refine cT ?_ | refine cF ?_ | (refine cI (fun h => ?_) (fun h => ?_) <;> (try (exfalso; omega))) | refine cB (fun h => ?_) (fun h => ?_)))
  · exact e_ret1 rfl rfl ⟨by rw [vErr_long1 (by omega)]; rfl, rfl⟩ sb0
  · exact e_ret1 rfl rfl ⟨by rw [vErr_long2 (by omega)]; rfl, rfl⟩ sb0
  refine c_loop (fun k : Nat => [(6, iv k), (5, .bool (bigA (r.take k))), (0, .slice o1 r.length c1), (1, .slice o2 g.length c2)]) (fun _ => hs) (fun k => k ≤ r.length ∧ negA (r.take k) = false) (fun k => r.length - k) 0 ⟨by omega, by simp [negA]⟩ (by repeat' first | trivial | rfl | apply And.intro) sb0 ?_
  rintro k ⟨hk, hn⟩
  by_cases hk' : k < r.length
  · have hb := bigA_take hk'; have hb2 := negA_take hk'
    repeat' (first | (with_reducible first | refine c_seq ?_ | refine c_reg ?_ | refine c_region ?_ | refine c_block ?_ | refine c_skip ?_ | refine c_exit ?_ | refine c_ret ?_ | refine s_nil ?_ | refine x_then ?_ | refine x_then_exit ?_ | refine x_then_ret ?_ | refine x_block ?_ | refine x_block_ret ?_ | refine x_block_same ?_ | refine x_block_other (by first | rfl | decide) ?_ | refine q_nil ?_ | refine k_nil ?_) | ((with_reducible apply kG); first | refine gY1 ?_ | refine gN1 ?_ | refine gU1 ?_ | (refine gD1 (fun h => ?_) (fun h => ?_) <;> (try (exfalso; omega))) | refine gB1 (fun h => ?_) (fun h => ?_)) | ((with_reducible apply kP _); refine sP ?_) | ((with_reducible apply kP _); refine sX ?_) | ((with_reducible apply kC); first | refine cT ?_ | refine cF ?_ | (refine cI (fun h => ?_) (fun h => ?_) <;> (try (exfalso; omega))) | refine cB (fun h => ?_) (fun h => ?_)))
    · exact e_ret1 rfl rfl ⟨by rw [vErr_neg (by omega) (by omega) (Or.inl (negA_of hk' (by assumption)))]; rfl, rfl⟩ sb0
    · refine r_end (k + 1) ⟨by omega, by rw [hb2, hn]; exact ff_dec (by omega)⟩ (by omega) ⟨rfl, ?_, rfl, rfl, trivial⟩ sb0
      show some _ = some _
      rw [hb, h]; rfl
    · refine r_end (k + 1) ⟨by omega, by rw [hb2, hn]; exact ff_dec (by omega)⟩ (by omega) ⟨rfl, ?_, rfl, rfl, trivial⟩ sb0
      show some _ = some _
      rw [hb, h]; rfl
  obtain rfl : k = r.length := by omega
  rw [List.take_length] at hn
  clear hk hk'
  repeat' (first | (with_reducible first | refine c_seq ?_ | refine c_reg ?_ | refine c_region ?_ | refine c_block ?_ | refine c_skip ?_ | refine c_exit ?_ | refine c_ret ?_ | refine s_nil ?_ | refine x_then ?_ | refine x_then_exit ?_ | refine x_then_ret ?_ | refine x_block ?_ | refine x_block_ret ?_ | refine x_block_same ?_ | refine x_block_other (by first | rfl | decide) ?_ | refine q_nil ?_ | refine k_nil ?_) | ((with_reducible apply kG); first | refine gY1 ?_ | refine gN1 ?_ | refine gU1 ?_ | (refine gD1 (fun h => ?_) (fun h => ?_) <;> (try (exfalso; omega))) | refine gB1 (fun h => ?_) (fun h => ?_)) | ((with_reducible apply kP _); refine sP ?_) | ((with_reducible apply kP _); refine sX ?_) | ((with_reducible apply kC); first | refine cT ?_ | refine cF ?_ | (refine cI (fun h => ?_) (fun h => ?_) <;> (try (exfalso; omega))) | refine cB (fun h => ?_) (fun h => ?_)))
  refine c_loop (fun k : Nat => [(7, iv k), (5, .bool (bigA r || bigA (g.take k))), (1, .slice o2 g.length c2)]) (fun _ => hs) (fun k => k ≤ g.length ∧ negA (g.take k) = false) (fun k => g.length - k) 0 ⟨by omega, by simp [negA]⟩ ⟨rfl, ?_, rfl, trivial⟩ sb0 ?_
  · show some _ = some _
    simp [bigA]
  rintro k ⟨hk, hn2⟩
  by_cases hk' : k < g.length
  · have hb := bigA_take hk'; have hb2 := negA_take hk'
    repeat' (first | (with_reducible first | refine c_seq ?_ | refine c_reg ?_ | refine c_region ?_ | refine c_block ?_ | refine c_skip ?_ | refine c_exit ?_ | refine c_ret ?_ | refine s_nil ?_ | refine x_then ?_ | refine x_then_exit ?_ | refine x_then_ret ?_ | refine x_block ?_ | refine x_block_ret ?_ | refine x_block_same ?_ | refine x_block_other (by first | rfl | decide) ?_ | refine q_nil ?_ | refine k_nil ?_) | ((with_reducible apply kG); first | refine gY1 ?_ | refine gN1 ?_ | refine gU1 ?_ | (refine gD1 (fun h => ?_) (fun h => ?_) <;> (try (exfalso; omega))) | refine gB1 (fun h => ?_) (fun h => ?_)) | ((with_reducible apply kP _); refine sP ?_) | ((with_reducible apply kP _); refine sX ?_) | ((with_reducible apply kC); first | refine cT ?_ | refine cF ?_ | (refine cI (fun h => ?_) (fun h => ?_) <;> (try (exfalso; omega))) | refine cB (fun h => ?_) (fun h => ?_)))
    · exact e_ret1 rfl rfl ⟨by rw [vErr_neg (by omega) (by omega) (Or.inr (negA_of hk' (by assumption)))]; rfl, rfl⟩ sb0
    · refine r_end (k + 1) ⟨by omega, by rw [hb2, hn2]; exact ff_dec (by omega)⟩ (by omega) ⟨rfl, ?_, rfl, trivial⟩ sb0
      show some _ = some _
      rw [hb, ← Bool.or_assoc, h]; rfl
    · refine r_end (k + 1) ⟨by omega, by rw [hb2, hn2]; exact ff_dec (by omega)⟩ (by omega) ⟨rfl, ?_, rfl, trivial⟩ sb0
      show some _ = some _
      rw [hb, ← Bool.or_assoc, h]; rfl
  obtain rfl : k = g.length := by omega
  rw [List.take_length] at hn2 ⊢
  clear hk hk'
  repeat' (first | (with_reducible first | refine c_seq ?_ | refine c_reg ?_ | refine c_region ?_ | refine c_block ?_ | refine c_skip ?_ | refine c_exit ?_ | refine c_ret ?_ | refine s_nil ?_ | refine x_then ?_ | refine x_then_exit ?_ | refine x_then_ret ?_ | refine x_block ?_ | refine x_block_ret ?_ | refine x_block_same ?_ | refine x_block_other (by first | rfl | decide) ?_ | refine q_nil ?_ | refine k_nil ?_) | ((with_reducible apply kG); first | refine gY1 ?_ | refine gN1 ?_ | refine gU1 ?_ | (refine gD1 (fun h => ?_) (fun h => ?_) <;> (try (exfalso; omega))) | refine gB1 (fun h => ?_) (fun h => ?_)) | ((with_reducible apply kP _); refine sP ?_) | ((with_reducible apply kP _); refine sX ?_) | ((with_reducible apply kC); first | refine cT ?_ | refine cF ?_ | (refine cI (fun h => ?_) (fun h => ?_) <;> (try (exfalso; omega))) | refine cB (fun h => ?_) (fun h => ?_)))
  · exact e_ret1 rfl rfl ⟨by rw [vErr_big (by omega) (by omega) hn hn2 h]; rfl, rfl⟩ sb0
  · exact e_ret1 rfl rfl ⟨by rw [vErr_ok (by omega) (by omega) hn hn2 h]; rfl, rfl⟩ sb0

set_option maxRecDepth 100000 in
set_option maxHeartbeats 8000000 in
theorem r_validate (o1 o2 : Option Addr) (c1 c2 : Nat) (r g : List Int) (B : Nat) (w0 : Wd) (hs : HS) (h1 : Sl B w0 hs o1 r) (h2 : Sl B w0 hs o2 g) :
    Fn Tryd.prog 34 #[bv o1 o2 r.length g.length c1 c2] B w0 hs (fun v hs' => v = iv (vErr r g) ∧ hs' = hs) := by
  refine fn_enter Tryd.func34 rfl Tryd.ntmps34 (by simp) ?_
  repeat' (first | ((with_reducible apply kF 45); refine sC 45 (r_listError o1 o2 c1 c2 r g B w0 _ (h1.sub sb1) (h2.sub sb1)) ?_) | (with_reducible first | refine c_seq ?_ | refine c_reg ?_ | refine c_region ?_ | refine c_block ?_ | refine c_skip ?_ | refine c_exit ?_ | refine c_ret ?_ | refine s_nil ?_ | refine x_then ?_ | refine x_then_exit ?_ | refine x_then_ret ?_ | refine x_block ?_ | refine x_block_ret ?_ | refine x_block_same ?_ | refine x_block_other (by first | rfl | decide) ?_ | refine q_nil ?_ | refine k_nil ?_) | ((with_reducible apply kP (.box _ _)); first | refine sBA (fun b => ?_) | refine sB (fun b => ?_)) | ((with_reducible apply kP _); refine sP ?_) | ((with_reducible apply kP _); refine sX ?_) | ((with_reducible apply kC); first | refine cT ?_ | refine cF ?_ | (refine cI (fun h => ?_) (fun h => ?_) <;> (try (exfalso; omega))) | refine cB (fun h => ?_) (fun h => ?_)))
  exact e_ret1 rfl rfl ⟨rfl, rfl⟩ sb1

def mxA (l : List Int) : Int := l.foldl max 0
theorem mxA_snoc (l : List Int) (x : Int) : mxA (l ++ [x]) = max (mxA l) x := by simp [mxA]
theorem mxA_take {p l : List Int} {k : Nat} (h : k < l.length) : mxA (p ++ l.take (k + 1)) = max (mxA (p ++ l.take k)) (l.getD k 0) := by
  rw [List.take_succ_eq_append_getElem h, ← List.append_assoc, mxA_snoc]
  simp [List.getD, h]
theorem mxA_big (l : List Int) : ∀ m : Int, 1000000 < l.foldl max m ↔ (1000000 < m ∨ bigA l = true) := by
  induction l with
  | nil => intro m; simp [bigA]
  | cons x l ih =>
    intro m
    rw [List.foldl_cons, ih]
    simp only [bigA, List.any_cons, Bool.or_eq_true, decide_eq_true_eq]
    constructor
    · rintro (h | h)
      · by_cases h1 : 1000000 < m
        · exact .inl h1
        · exact .inr (.inl (by omega))
      · exact .inr (.inr h)
    · rintro (h | h | h)
      · exact .inl (by omega)
      · exact .inl (by omega)
      · exact .inr h
theorem mxA_iff (l : List Int) : 1000000 < mxA l ↔ bigA l = true := by unfold mxA; rw [mxA_big]; simp
def flr (r g : List Int) (k : Nat) : List Int := if k = 0 then [] else if k = 1 then r else r ++ g
set_option maxRecDepth 100000 in
set_option maxHeartbeats 8000000 in
theorem h_validate (o1 o2 : Option Addr) (c1 c2 : Nat) (r g : List Int) (B : Nat) (w0 : Wd) (hs : HS) (h1 : Sl B w0 hs o1 r) (h2 : Sl B w0 hs o2 g) :
    Fn Tryd.prog 26 #[bv o1 o2 r.length g.length c1 c2] B w0 hs (fun v hs' => v = iv (vErr r g) ∧ hs' = hs) := by
  refine fn_enter Tryd.func26 rfl Tryd.ntmps26 (by simp) ?_
  repeat' (first | (with_reducible first | refine c_seq ?_ | refine c_reg ?_ | refine c_region ?_ | refine c_block ?_ | refine c_skip ?_ | refine c_exit ?_ | refine c_ret ?_ | refine s_nil ?_ | refine x_then ?_ | refine x_then_exit ?_ | refine x_then_ret ?_ | refine x_block ?_ | refine x_block_ret ?_ | refine x_block_same ?_ | refine x_block_other (by first | rfl | decide) ?_ | refine q_nil ?_ | refine k_nil ?_) | ((with_reducible apply kG); first | refine gY1 ?_ | refine gN1 ?_ | refine gU1 ?_ | (refine gD1 (fun h => ?_) (fun h => ?_) <;> (try (exfalso; omega))) | refine gB1 (fun h => ?_) (fun h => ?_)) | ((with_reducible apply kP (.box _ _)); first | refine sBA (fun b => ?_) | refine sB (fun b => ?_)) | ((with_reducible apply kP (.buildSlice _ 2 _)); refine sl2 (fun b => ?_)) | ((with_reducible apply kP _); refine sP ?_) | ((with_reducible apply kP _); refine sX ?_) | ((with_reducible apply kC); first | refine cT ?_ | refine cF ?_ | (refine cI (fun h => ?_) (fun h => ?_) <;> (try (exfalso; omega))) | refine cB (fun h => ?_) (fun h => ?_)))
  · exact e_ret1 rfl rfl ⟨by rw [vErr_long1 (by omega)]; rfl, rfl⟩ sb1
  · exact e_ret1 rfl rfl ⟨by rw [vErr_long2 (by omega)]; rfl, rfl⟩ sb1
  refine c_loop (fun k : Nat => [(24, iv k), (3, iv (mxA (flr r g k))), (22, .slice (some ⟨b, 0, none⟩) 2 2), (23, iv 2)]) (fun _ => (b, [.slice o1 r.length c1, .slice o2 g.length c2]) :: hs) (fun k => k ≤ 2 ∧ negA (flr r g k) = false) (fun k => 2 - k) 0 ⟨by omega, rfl⟩ (by repeat' first | trivial | rfl | apply And.intro) (.cons_cons _ (.cons _ sb0)) ?_
  rintro k ⟨hk, hn⟩
  obtain rfl | rfl | rfl : k = 0 ∨ k = 1 ∨ k = 2 := by omega
  · -- list 0
    rw [show flr r g 0 = [] from rfl] at hn ⊢
    repeat' (first | (with_reducible first | refine c_seq ?_ | refine c_reg ?_ | refine c_region ?_ | refine c_block ?_ | refine c_skip ?_ | refine c_exit ?_ | refine c_ret ?_ | refine s_nil ?_ | refine x_then ?_ | refine x_then_exit ?_ | refine x_then_ret ?_ | refine x_block ?_ | refine x_block_ret ?_ | refine x_block_same ?_ | refine x_block_other (by first | rfl | decide) ?_ | refine q_nil ?_ | refine k_nil ?_) | ((with_reducible apply kG); first | refine gY1 ?_ | refine gN1 ?_ | refine gU1 ?_ | (refine gD1 (fun h => ?_) (fun h => ?_) <;> (try (exfalso; omega))) | refine gB1 (fun h => ?_) (fun h => ?_)) | ((with_reducible apply kP (.box _ _)); first | refine sBA (fun b => ?_) | refine sB (fun b => ?_)) | ((with_reducible apply kP (.buildSlice _ 2 _)); refine sl2 (fun b => ?_)) | ((with_reducible apply kP _); refine sP ?_) | ((with_reducible apply kP _); refine sX ?_) | ((with_reducible apply kC); first | refine cT ?_ | refine cF ?_ | (refine cI (fun h => ?_) (fun h => ?_) <;> (try (exfalso; omega))) | refine cB (fun h => ?_) (fun h => ?_)))
    refine c_loop (fun i : Nat => [(30, iv i), (29, iv r.length), (28, .slice o1 r.length c1), (3, iv (mxA ([] ++ r.take i))), (24, iv 0), (22, .slice (some ⟨b, 0, none⟩) 2 2), (23, iv 2)]) (fun _ => (b, [.slice o1 r.length c1, .slice o2 g.length c2]) :: hs) (fun i => i ≤ r.length ∧ negA (r.take i) = false) (fun i => r.length - i) 0 ⟨by omega, by simp [negA]⟩ ⟨rfl, rfl, rfl, ?_, rfl, rfl, rfl, trivial⟩ sb0 ?_
    · show some (iv _) = some (iv _)
      simp
    rintro i ⟨hi, hni⟩
    by_cases hi' : i < r.length
    · have hb2 := negA_take hi'
      repeat' (first | (with_reducible first | refine c_seq ?_ | refine c_reg ?_ | refine c_region ?_ | refine c_block ?_ | refine c_skip ?_ | refine c_exit ?_ | refine c_ret ?_ | refine s_nil ?_ | refine x_then ?_ | refine x_then_exit ?_ | refine x_then_ret ?_ | refine x_block ?_ | refine x_block_ret ?_ | refine x_block_same ?_ | refine x_block_other (by first | rfl | decide) ?_ | refine q_nil ?_ | refine k_nil ?_) | ((with_reducible apply kG); first | refine gY1 ?_ | refine gN1 ?_ | refine gU1 ?_ | (refine gD1 (fun h => ?_) (fun h => ?_) <;> (try (exfalso; omega))) | refine gB1 (fun h => ?_) (fun h => ?_)) | ((with_reducible apply kP (.box _ _)); first | refine sBA (fun b => ?_) | refine sB (fun b => ?_)) | ((with_reducible apply kP (.buildSlice _ 2 _)); refine sl2 (fun b => ?_)) | ((with_reducible apply kP _); refine sP ?_) | ((with_reducible apply kP _); refine sX ?_) | ((with_reducible apply kC); first | refine cT ?_ | refine cF ?_ | (refine cI (fun h => ?_) (fun h => ?_) <;> (try (exfalso; omega))) | refine cB (fun h => ?_) (fun h => ?_)))
      · exact e_ret1 rfl rfl ⟨by rw [vErr_neg (by omega) (by omega) (Or.inl (negA_of hi' (by assumption)))]; rfl, rfl⟩ sb1
      · refine r_end (i + 1) ⟨by omega, by rw [hb2, hni]; exact ff_dec (by omega)⟩ (by omega) ⟨rfl, rfl, rfl, ?_, rfl, rfl, rfl, trivial⟩ sb0
        show some (iv _) = some (iv _)
        rw [mxA_take hi']
    · obtain rfl : i = r.length := by omega
      rw [List.take_length] at hni ⊢
      clear hi hi'
      repeat' (first | (with_reducible first | refine c_seq ?_ | refine c_reg ?_ | refine c_region ?_ | refine c_block ?_ | refine c_skip ?_ | refine c_exit ?_ | refine c_ret ?_ | refine s_nil ?_ | refine x_then ?_ | refine x_then_exit ?_ | refine x_then_ret ?_ | refine x_block ?_ | refine x_block_ret ?_ | refine x_block_same ?_ | refine x_block_other (by first | rfl | decide) ?_ | refine q_nil ?_ | refine k_nil ?_) | ((with_reducible apply kG); first | refine gY1 ?_ | refine gN1 ?_ | refine gU1 ?_ | (refine gD1 (fun h => ?_) (fun h => ?_) <;> (try (exfalso; omega))) | refine gB1 (fun h => ?_) (fun h => ?_)) | ((with_reducible apply kP (.box _ _)); first | refine sBA (fun b => ?_) | refine sB (fun b => ?_)) | ((with_reducible apply kP (.buildSlice _ 2 _)); refine sl2 (fun b => ?_)) | ((with_reducible apply kP _); refine sP ?_) | ((with_reducible apply kP _); refine sX ?_) | ((with_reducible apply kC); first | refine cT ?_ | refine cF ?_ | (refine cI (fun h => ?_) (fun h => ?_) <;> (try (exfalso; omega))) | refine cB (fun h => ?_) (fun h => ?_)))
      refine r_end 1 ⟨by omega, hni⟩ (by omega) ⟨rfl, rfl, rfl, rfl, trivial⟩ sb0
  · -- list 1
    rw [show flr r g 1 = r from rfl] at hn ⊢
    repeat' (first | (with_reducible first | refine c_seq ?_ | refine c_reg ?_ | refine c_region ?_ | refine c_block ?_ | refine c_skip ?_ | refine c_exit ?_ | refine c_ret ?_ | refine s_nil ?_ | refine x_then ?_ | refine x_then_exit ?_ | refine x_then_ret ?_ | refine x_block ?_ | refine x_block_ret ?_ | refine x_block_same ?_ | refine x_block_other (by first | rfl | decide) ?_ | refine q_nil ?_ | refine k_nil ?_) | ((with_reducible apply kG); first | refine gY1 ?_ | refine gN1 ?_ | refine gU1 ?_ | (refine gD1 (fun h => ?_) (fun h => ?_) <;> (try (exfalso; omega))) | refine gB1 (fun h => ?_) (fun h => ?_)) | ((with_reducible apply kP (.box _ _)); first | refine sBA (fun b => ?_) | refine sB (fun b => ?_)) | ((with_reducible apply kP (.buildSlice _ 2 _)); refine sl2 (fun b => ?_)) | ((with_reducible apply kP _); refine sP ?_) | ((with_reducible apply kP _); refine sX ?_) | ((with_reducible apply kC); first | refine cT ?_ | refine cF ?_ | (refine cI (fun h => ?_) (fun h => ?_) <;> (try (exfalso; omega))) | refine cB (fun h => ?_) (fun h => ?_)))
    refine c_loop (fun i : Nat => [(30, iv i), (29, iv g.length), (28, .slice o2 g.length c2), (3, iv (mxA (r ++ g.take i))), (24, iv 1), (22, .slice (some ⟨b, 0, none⟩) 2 2), (23, iv 2)]) (fun _ => (b, [.slice o1 r.length c1, .slice o2 g.length c2]) :: hs) (fun i => i ≤ g.length ∧ negA (g.take i) = false) (fun i => g.length - i) 0 ⟨by omega, by simp [negA]⟩ ⟨rfl, rfl, rfl, ?_, rfl, rfl, rfl, trivial⟩ sb0 ?_
    · show some (iv _) = some (iv _)
      simp
    rintro i ⟨hi, hni⟩
    by_cases hi' : i < g.length
    · have hb2 := negA_take hi'
      repeat' (first | (with_reducible first | refine c_seq ?_ | refine c_reg ?_ | refine c_region ?_ | refine c_block ?_ | refine c_skip ?_ | refine c_exit ?_ | refine c_ret ?_ | refine s_nil ?_ | refine x_then ?_ | refine x_then_exit ?_ | refine x_then_ret ?_ | refine x_block ?_ | refine x_block_ret ?_ | refine x_block_same ?_ | refine x_block_other (by first | rfl | decide) ?_ | refine q_nil ?_ | refine k_nil ?_) | ((with_reducible apply kG); first | refine gY1 ?_ | refine gN1 ?_ | refine gU1 ?_ | (refine gD1 (fun h => ?_) (fun h => ?_) <;> (try (exfalso; omega))) | refine gB1 (fun h => ?_) (fun h => ?_)) | ((with_reducible apply kP (.box _ _)); first | refine sBA (fun b => ?_) | refine sB (fun b => ?_)) | ((with_reducible apply kP (.buildSlice _ 2 _)); refine sl2 (fun b => ?_)) | ((with_reducible apply kP _); refine sP ?_) | ((with_reducible apply kP _); refine sX ?_) | ((with_reducible apply kC); first | refine cT ?_ | refine cF ?_ | (refine cI (fun h => ?_) (fun h => ?_) <;> (try (exfalso; omega))) | refine cB (fun h => ?_) (fun h => ?_)))
      · exact e_ret1 rfl rfl ⟨by rw [vErr_neg (by omega) (by omega) (Or.inr (negA_of hi' (by assumption)))]; rfl, rfl⟩ sb1
      · refine r_end (i + 1) ⟨by omega, by rw [hb2, hni]; exact ff_dec (by omega)⟩ (by omega) ⟨rfl, rfl, rfl, ?_, rfl, rfl, rfl, trivial⟩ sb0
        show some (iv _) = some (iv _)
        rw [mxA_take hi']
    · obtain rfl : i = g.length := by omega
      rw [List.take_length] at hni ⊢
      clear hi hi'
      repeat' (first | (with_reducible first | refine c_seq ?_ | refine c_reg ?_ | refine c_region ?_ | refine c_block ?_ | refine c_skip ?_ | refine c_exit ?_ | refine c_ret ?_ | refine s_nil ?_ | refine x_then ?_ | refine x_then_exit ?_ | refine x_then_ret ?_ | refine x_block ?_ | refine x_block_ret ?_ | refine x_block_same ?_ | refine x_block_other (by first | rfl | decide) ?_ | refine q_nil ?_ | refine k_nil ?_) | ((with_reducible apply kG); first | refine gY1 ?_ | refine gN1 ?_ | refine gU1 ?_ | (refine gD1 (fun h => ?_) (fun h => ?_) <;> (try (exfalso; omega))) | refine gB1 (fun h => ?_) (fun h => ?_)) | ((with_reducible apply kP (.box _ _)); first | refine sBA (fun b => ?_) | refine sB (fun b => ?_)) | ((with_reducible apply kP (.buildSlice _ 2 _)); refine sl2 (fun b => ?_)) | ((with_reducible apply kP _); refine sP ?_) | ((with_reducible apply kP _); refine sX ?_) | ((with_reducible apply kC); first | refine cT ?_ | refine cF ?_ | (refine cI (fun h => ?_) (fun h => ?_) <;> (try (exfalso; omega))) | refine cB (fun h => ?_) (fun h => ?_)))
      refine r_end 2 ⟨by omega, (by show negA (r ++ g) = false; rw [negA_append, hn, hni]; rfl)⟩ (by omega) ⟨rfl, rfl, rfl, rfl, trivial⟩ sb0
  · rw [show flr r g 2 = r ++ g from rfl] at hn ⊢
    rw [negA_append, Bool.or_eq_false_iff] at hn
    have hd := mxA_iff (r ++ g)
    rw [bigA_append] at hd
    repeat' (first | (with_reducible first | refine c_seq ?_ | refine c_reg ?_ | refine c_region ?_ | refine c_block ?_ | refine c_skip ?_ | refine c_exit ?_ | refine c_ret ?_ | refine s_nil ?_ | refine x_then ?_ | refine x_then_exit ?_ | refine x_then_ret ?_ | refine x_block ?_ | refine x_block_ret ?_ | refine x_block_same ?_ | refine x_block_other (by first | rfl | decide) ?_ | refine q_nil ?_ | refine k_nil ?_) | ((with_reducible apply kG); first | refine gY1 ?_ | refine gN1 ?_ | refine gU1 ?_ | (refine gD1 (fun h => ?_) (fun h => ?_) <;> (try (exfalso; omega))) | refine gB1 (fun h => ?_) (fun h => ?_)) | ((with_reducible apply kP (.box _ _)); first | refine sBA (fun b => ?_) | refine sB (fun b => ?_)) | ((with_reducible apply kP (.buildSlice _ 2 _)); refine sl2 (fun b => ?_)) | ((with_reducible apply kP _); refine sP ?_) | ((with_reducible apply kP _); refine sX ?_) | ((with_reducible apply kC); first | refine cT ?_ | refine cF ?_ | (refine cI (fun h => ?_) (fun h => ?_) <;> (try (exfalso; omega))) | refine cB (fun h => ?_) (fun h => ?_)))
    · exact e_ret1 rfl rfl ⟨by rw [vErr_big (by omega) (by omega) hn.1 hn.2 (hd.1 h)]; rfl, rfl⟩ sb1
    · exact e_ret1 rfl rfl ⟨by rw [vErr_ok (by omega) (by omega) hn.1 hn.2 (by simpa using fun e => h (hd.2 e))]; rfl, rfl⟩ sb1
def opn (l : List Int) (k : Nat) : Nat → Int := fun i => if i ≤ k then cn l i else 0
theorem opn_zero (l : List Int) : opn l 0 = fun _ => 0 := by
  funext i
  simp only [opn, cn]
  by_cases h : i = 0 <;> simp [h]
theorem opn_succ (l : List Int) (k : Nat) : upd (opn l k) (k + 1) (l.getD k 0) = opn l (k + 1) := by
  funext i
  simp only [opn, upd]
  by_cases h : i = k + 1
  · subst h; simp [cn]
  · by_cases h1 : i ≤ k
    · rw [if_neg h, if_pos h1, if_pos (by omega)]
    · rw [if_neg h, if_neg h1, if_neg (by omega)]
theorem opn_all (l : List Int) : opn l l.length = cn l := by
  funext i
  simp only [opn, cn]
  by_cases h1 : i ≤ l.length
  · simp [h1]
  · have h2 : ¬ i = 0 := by omega
    rw [if_neg h1, if_neg h2]
    simp [List.getD, show l.length ≤ i - 1 by omega]
theorem zeros_lock : List.replicate 50 (Value.int .i64 0) = ivs (lockC (fun _ => 0) (fun _ => 0)) := by kernel_rfl
theorem zeros_hair : List.replicate 50 (Value.int .i64 0) = ivs (hairC (fun _ => 0) (fun _ => 0)) := by kernel_rfl
set_option maxRecDepth 100000 in
set_option maxHeartbeats 8000000 in
theorem h_open (o1 o2 : Option Addr) (c1 c2 : Nat) (r g : List Int) (B : Nat) (w0 : Wd) (hs : HS) (h1 : Sl B w0 hs o1 r) (h2 : Sl B w0 hs o2 g) (hr : r.length ≤ 24) (hg : g.length ≤ 24) :
    Fn Tryd.prog 27 #[bv o1 o2 r.length g.length c1 c2] B w0 hs (fun v hs' => v = lockV (cn r) (cn g) ∧ hs' = hs) := by
  refine fn_enter Tryd.func27 rfl Tryd.ntmps27 (by simp) ?_
  repeat' (first | (with_reducible first | refine c_seq ?_ | refine c_reg ?_ | refine c_region ?_ | refine c_block ?_ | refine c_skip ?_ | refine c_exit ?_ | refine c_ret ?_ | refine s_nil ?_ | refine x_then ?_ | refine x_then_exit ?_ | refine x_then_ret ?_ | refine x_block ?_ | refine x_block_ret ?_ | refine x_block_same ?_ | refine x_block_other (by first | rfl | decide) ?_ | refine q_nil ?_ | refine k_nil ?_) | ((with_reducible apply kN); first | refine stP ?_ | refine stI ?_ | refine st1 ?_ | refine stW ?_) | ((with_reducible apply kP (.alloc _)); refine sA (fun b => ?_)) | ((with_reducible apply kP (.box _ _)); first | refine sBA (fun b => ?_) | refine sB (fun b => ?_)) | ((with_reducible apply kP _); refine sP ?_) | ((with_reducible apply kP _); refine sX ?_) | ((with_reducible apply kC); first | refine cT ?_ | refine cF ?_ | (refine cI (fun h => ?_) (fun h => ?_) <;> (try (exfalso; omega))) | refine cB (fun h => ?_) (fun h => ?_)))
  rename_i b0 b1
  have hz := zeros_lock
  refine c_loop (fun k : Nat => [(11, iv k), (10, iv r.length), (9, .slice o1 r.length c1), (3, .pointer (some ⟨b, 0, none⟩)), (2, .pointer (some ⟨b1, 0, none⟩)), (1, .pointer (some ⟨b0, 0, none⟩))])
    (fun k => (b, ivs (lockC (opn r k) (fun _ => 0))) :: (b1, List.replicate 50 (Value.int .i64 0)) :: (b0, [.slice o1 r.length c1, .slice o2 g.length c2]) :: hs) (fun k => k ≤ r.length) (fun k => r.length - k) 0 (by omega) (by repeat' first | trivial | rfl | apply And.intro) (by rw [opn_zero, ← hz]; exact sb0) ?_
  intro k hk
  have hl := lockC_length (opn r k) (fun _ => 0)
  by_cases hk' : k < r.length
  · repeat' (first | (with_reducible first | refine c_seq ?_ | refine c_reg ?_ | refine c_region ?_ | refine c_block ?_ | refine c_skip ?_ | refine c_exit ?_ | refine c_ret ?_ | refine s_nil ?_ | refine x_then ?_ | refine x_then_exit ?_ | refine x_then_ret ?_ | refine x_block ?_ | refine x_block_ret ?_ | refine x_block_same ?_ | refine x_block_other (by first | rfl | decide) ?_ | refine q_nil ?_ | refine k_nil ?_) | ((with_reducible apply kN); first | refine stP ?_ | refine stI ?_ | refine st1 ?_ | refine stW ?_) | ((with_reducible apply kP (.alloc _)); refine sA (fun b => ?_)) | ((with_reducible apply kP (.box _ _)); first | refine sBA (fun b => ?_) | refine sB (fun b => ?_)) | ((with_reducible apply kP _); refine sP ?_) | ((with_reducible apply kP _); refine sX ?_) | ((with_reducible apply kC); first | refine cT ?_ | refine cF ?_ | (refine cI (fun h => ?_) (fun h => ?_) <;> (try (exfalso; omega))) | refine cB (fun h => ?_) (fun h => ?_)))
    refine r_end (k + 1) (by omega) (by omega) ⟨rfl, rfl, rfl, rfl, rfl, rfl, trivial⟩ (by rw [← opn_succ, ← lockC_set_r]; exact sb0)
  obtain rfl : k = r.length := by omega
  rw [opn_all] at hl ⊢
  clear hk hk'
  repeat' (first | (with_reducible first | refine c_seq ?_ | refine c_reg ?_ | refine c_region ?_ | refine c_block ?_ | refine c_skip ?_ | refine c_exit ?_ | refine c_ret ?_ | refine s_nil ?_ | refine x_then ?_ | refine x_then_exit ?_ | refine x_then_ret ?_ | refine x_block ?_ | refine x_block_ret ?_ | refine x_block_same ?_ | refine x_block_other (by first | rfl | decide) ?_ | refine q_nil ?_ | refine k_nil ?_) | ((with_reducible apply kN); first | refine stP ?_ | refine stI ?_ | refine st1 ?_ | refine stW ?_) | ((with_reducible apply kP (.alloc _)); refine sA (fun b => ?_)) | ((with_reducible apply kP (.box _ _)); first | refine sBA (fun b => ?_) | refine sB (fun b => ?_)) | ((with_reducible apply kP _); refine sP ?_) | ((with_reducible apply kP _); refine sX ?_) | ((with_reducible apply kC); first | refine cT ?_ | refine cF ?_ | (refine cI (fun h => ?_) (fun h => ?_) <;> (try (exfalso; omega))) | refine cB (fun h => ?_) (fun h => ?_)))
  refine c_loop (fun k : Nat => [(25, iv k), (24, iv g.length), (23, .slice o2 g.length c2), (3, .pointer (some ⟨b, 0, none⟩)), (2, .pointer (some ⟨b1, 0, none⟩))])
    (fun k => (b, ivs (lockC (cn r) (opn g k))) :: (b1, List.replicate 50 (Value.int .i64 0)) :: hs) (fun k => k ≤ g.length) (fun k => g.length - k) 0 (by omega) (by repeat' first | trivial | rfl | apply And.intro) (by rw [opn_zero]; exact .cons_cons _ (.cons_cons _ sb1)) ?_
  intro k hk
  have hl := lockC_length (cn r) (opn g k)
  by_cases hk' : k < g.length
  · repeat' (first | (with_reducible first | refine c_seq ?_ | refine c_reg ?_ | refine c_region ?_ | refine c_block ?_ | refine c_skip ?_ | refine c_exit ?_ | refine c_ret ?_ | refine s_nil ?_ | refine x_then ?_ | refine x_then_exit ?_ | refine x_then_ret ?_ | refine x_block ?_ | refine x_block_ret ?_ | refine x_block_same ?_ | refine x_block_other (by first | rfl | decide) ?_ | refine q_nil ?_ | refine k_nil ?_) | ((with_reducible apply kN); first | refine stP ?_ | refine stI ?_ | refine st1 ?_ | refine stW ?_) | ((with_reducible apply kP (.alloc _)); refine sA (fun b => ?_)) | ((with_reducible apply kP (.box _ _)); first | refine sBA (fun b => ?_) | refine sB (fun b => ?_)) | ((with_reducible apply kP _); refine sP ?_) | ((with_reducible apply kP _); refine sX ?_) | ((with_reducible apply kC); first | refine cT ?_ | refine cF ?_ | (refine cI (fun h => ?_) (fun h => ?_) <;> (try (exfalso; omega))) | refine cB (fun h => ?_) (fun h => ?_)))
    refine r_end (k + 1) (by omega) (by omega) ⟨rfl, rfl, rfl, rfl, rfl, trivial⟩ (by rw [← opn_succ, ← lockC_set_w]; exact sb0)
  obtain rfl : k = g.length := by omega
  rw [opn_all] at hl ⊢
  clear hk hk'
  repeat' (first | (with_reducible first | refine c_seq ?_ | refine c_reg ?_ | refine c_region ?_ | refine c_block ?_ | refine c_skip ?_ | refine c_exit ?_ | refine c_ret ?_ | refine s_nil ?_ | refine x_then ?_ | refine x_then_exit ?_ | refine x_then_ret ?_ | refine x_block ?_ | refine x_block_ret ?_ | refine x_block_same ?_ | refine x_block_other (by first | rfl | decide) ?_ | refine q_nil ?_ | refine k_nil ?_) | ((with_reducible apply kN); first | refine stP ?_ | refine stI ?_ | refine st1 ?_ | refine stW ?_) | ((with_reducible apply kP (.alloc _)); refine sA (fun b => ?_)) | ((with_reducible apply kP (.box _ _)); first | refine sBA (fun b => ?_) | refine sB (fun b => ?_)) | ((with_reducible apply kP _); refine sP ?_) | ((with_reducible apply kP _); refine sX ?_) | ((with_reducible apply kC); first | refine cT ?_ | refine cF ?_ | (refine cI (fun h => ?_) (fun h => ?_) <;> (try (exfalso; omega))) | refine cB (fun h => ?_) (fun h => ?_)))
  exact e_ret1 rfl ⟨_, rfl, ld_whole (shTOf rfl) mm1 (by rw [ivs_length]; exact hl)⟩ ⟨rfl, rfl⟩ sb2

set_option maxRecDepth 100000 in
set_option maxHeartbeats 8000000 in
theorem r_open (o1 o2 : Option Addr) (c1 c2 : Nat) (r g : List Int) (B : Nat) (w0 : Wd) (hs : HS) (h1 : Sl B w0 hs o1 r) (h2 : Sl B w0 hs o2 g) (hr : r.length ≤ 24) (hg : g.length ≤ 24) :
    Fn Tryd.prog 35 #[bv o1 o2 r.length g.length c1 c2] B w0 hs (fun v hs' => v = hairV (cn r) (cn g) ∧ hs' = hs) := by
  refine fn_enter Tryd.func35 rfl Tryd.ntmps35 (by simp) ?_
  repeat' (first | (with_reducible first | refine c_seq ?_ | refine c_reg ?_ | refine c_region ?_ | refine c_block ?_ | refine c_skip ?_ | refine c_exit ?_ | refine c_ret ?_ | refine s_nil ?_ | refine x_then ?_ | refine x_then_exit ?_ | refine x_then_ret ?_ | refine x_block ?_ | refine x_block_ret ?_ | refine x_block_same ?_ | refine x_block_other (by first | rfl | decide) ?_ | refine q_nil ?_ | refine k_nil ?_) | ((with_reducible apply kN); first | refine stP ?_ | refine stI ?_ | refine st1 ?_ | refine stW ?_) | ((with_reducible apply kP (.alloc _)); refine sA (fun b => ?_)) | ((with_reducible apply kP (.box _ _)); first | refine sBA (fun b => ?_) | refine sB (fun b => ?_)) | ((with_reducible apply kP _); refine sP ?_) | ((with_reducible apply kP _); refine sX ?_) | ((with_reducible apply kC); first | refine cT ?_ | refine cF ?_ | (refine cI (fun h => ?_) (fun h => ?_) <;> (try (exfalso; omega))) | refine cB (fun h => ?_) (fun h => ?_)))
  rename_i b0 b1
  have hz := zeros_hair
  refine c_loop (fun k : Nat => [(4, iv k), (3, .pointer (some ⟨b, 0, none⟩)), (2, .pointer (some ⟨b1, 0, none⟩)), (1, .pointer (some ⟨b0, 0, none⟩))])
    (fun k => (b, ivs (hairC (opn r k) (fun _ => 0))) :: (b1, List.replicate 50 (Value.int .i64 0)) :: (b0, [.slice o1 r.length c1, .slice o2 g.length c2]) :: hs) (fun k => k ≤ r.length) (fun k => r.length - k) 0 (by omega) (by repeat' first | trivial | rfl | apply And.intro) (by rw [opn_zero, ← hz]; exact sb0) ?_
  intro k hk
  have hl := hairC_length (opn r k) (fun _ => 0)
  by_cases hk' : k < r.length
  · repeat' (first | (with_reducible first | refine c_seq ?_ | refine c_reg ?_ | refine c_region ?_ | refine c_block ?_ | refine c_skip ?_ | refine c_exit ?_ | refine c_ret ?_ | refine s_nil ?_ | refine x_then ?_ | refine x_then_exit ?_ | refine x_then_ret ?_ | refine x_block ?_ | refine x_block_ret ?_ | refine x_block_same ?_ | refine x_block_other (by first | rfl | decide) ?_ | refine q_nil ?_ | refine k_nil ?_) | ((with_reducible apply kN); first | refine stP ?_ | refine stI ?_ | refine st1 ?_ | refine stW ?_) | ((with_reducible apply kP (.alloc _)); refine sA (fun b => ?_)) | ((with_reducible apply kP (.box _ _)); first | refine sBA (fun b => ?_) | refine sB (fun b => ?_)) | ((with_reducible apply kP _); refine sP ?_) | ((with_reducible apply kP _); refine sX ?_) | ((with_reducible apply kC); first | refine cT ?_ | refine cF ?_ | (refine cI (fun h => ?_) (fun h => ?_) <;> (try (exfalso; omega))) | refine cB (fun h => ?_) (fun h => ?_)))
    refine r_end (k + 1) (by omega) (by omega) ⟨rfl, rfl, rfl, rfl, trivial⟩ (by rw [← opn_succ, ← hairC_set_r _ _ (by omega)]; exact sb0)
  obtain rfl : k = r.length := by omega
  rw [opn_all] at hl ⊢
  clear hk hk'
  repeat' (first | (with_reducible first | refine c_seq ?_ | refine c_reg ?_ | refine c_region ?_ | refine c_block ?_ | refine c_skip ?_ | refine c_exit ?_ | refine c_ret ?_ | refine s_nil ?_ | refine x_then ?_ | refine x_then_exit ?_ | refine x_then_ret ?_ | refine x_block ?_ | refine x_block_ret ?_ | refine x_block_same ?_ | refine x_block_other (by first | rfl | decide) ?_ | refine q_nil ?_ | refine k_nil ?_) | ((with_reducible apply kN); first | refine stP ?_ | refine stI ?_ | refine st1 ?_ | refine stW ?_) | ((with_reducible apply kP (.alloc _)); refine sA (fun b => ?_)) | ((with_reducible apply kP (.box _ _)); first | refine sBA (fun b => ?_) | refine sB (fun b => ?_)) | ((with_reducible apply kP _); refine sP ?_) | ((with_reducible apply kP _); refine sX ?_) | ((with_reducible apply kC); first | refine cT ?_ | refine cF ?_ | (refine cI (fun h => ?_) (fun h => ?_) <;> (try (exfalso; omega))) | refine cB (fun h => ?_) (fun h => ?_)))
  refine c_loop (fun k : Nat => [(5, iv k), (3, .pointer (some ⟨b, 0, none⟩)), (2, .pointer (some ⟨b1, 0, none⟩)), (1, .pointer (some ⟨b0, 0, none⟩))])
    (fun k => (b, ivs (hairC (cn r) (opn g k))) :: (b1, List.replicate 50 (Value.int .i64 0)) :: (b0, [.slice o1 r.length c1, .slice o2 g.length c2]) :: hs) (fun k => k ≤ g.length) (fun k => g.length - k) 0 (by omega) (by repeat' first | trivial | rfl | apply And.intro) (by rw [opn_zero]; exact sb0) ?_
  intro k hk
  have hl := hairC_length (cn r) (opn g k)
  by_cases hk' : k < g.length
  · repeat' (first | (with_reducible first | refine c_seq ?_ | refine c_reg ?_ | refine c_region ?_ | refine c_block ?_ | refine c_skip ?_ | refine c_exit ?_ | refine c_ret ?_ | refine s_nil ?_ | refine x_then ?_ | refine x_then_exit ?_ | refine x_then_ret ?_ | refine x_block ?_ | refine x_block_ret ?_ | refine x_block_same ?_ | refine x_block_other (by first | rfl | decide) ?_ | refine q_nil ?_ | refine k_nil ?_) | ((with_reducible apply kN); first | refine stP ?_ | refine stI ?_ | refine st1 ?_ | refine stW ?_) | ((with_reducible apply kP (.alloc _)); refine sA (fun b => ?_)) | ((with_reducible apply kP (.box _ _)); first | refine sBA (fun b => ?_) | refine sB (fun b => ?_)) | ((with_reducible apply kP _); refine sP ?_) | ((with_reducible apply kP _); refine sX ?_) | ((with_reducible apply kC); first | refine cT ?_ | refine cF ?_ | (refine cI (fun h => ?_) (fun h => ?_) <;> (try (exfalso; omega))) | refine cB (fun h => ?_) (fun h => ?_)))
    refine r_end (k + 1) (by omega) (by omega) ⟨rfl, rfl, rfl, rfl, trivial⟩ (by rw [← opn_succ, ← hairC_set_w]; exact sb0)
  obtain rfl : k = g.length := by omega
  rw [opn_all] at hl ⊢
  clear hk hk'
  repeat' (first | (with_reducible first | refine c_seq ?_ | refine c_reg ?_ | refine c_region ?_ | refine c_block ?_ | refine c_skip ?_ | refine c_exit ?_ | refine c_ret ?_ | refine s_nil ?_ | refine x_then ?_ | refine x_then_exit ?_ | refine x_then_ret ?_ | refine x_block ?_ | refine x_block_ret ?_ | refine x_block_same ?_ | refine x_block_other (by first | rfl | decide) ?_ | refine q_nil ?_ | refine k_nil ?_) | ((with_reducible apply kN); first | refine stP ?_ | refine stI ?_ | refine st1 ?_ | refine stW ?_) | ((with_reducible apply kP (.alloc _)); refine sA (fun b => ?_)) | ((with_reducible apply kP (.box _ _)); first | refine sBA (fun b => ?_) | refine sB (fun b => ?_)) | ((with_reducible apply kP _); refine sP ?_) | ((with_reducible apply kP _); refine sX ?_) | ((with_reducible apply kC); first | refine cT ?_ | refine cF ?_ | (refine cI (fun h => ?_) (fun h => ?_) <;> (try (exfalso; omega))) | refine cB (fun h => ?_) (fun h => ?_)))
  exact e_ret1 rfl ⟨_, rfl, ld_whole (shTOf rfl) mm1 (by rw [ivs_length]; exact hl)⟩ ⟨rfl, rfl⟩ sb3
theorem vErr_zero {r g : List Int} (h : vErr r g = 0) : r.length ≤ 24 ∧ g.length ≤ 24 ∧ negA r = false ∧ negA g = false ∧ bigA r = false ∧ bigA g = false := by
  unfold vErr at h
  split at h
  · cases h
  · rename_i h1
    split at h
    · cases h
    · rename_i h2
      split at h
      · cases h
      · rename_i h3
        rw [negA_append] at h2; rw [bigA_append] at h3
        simp only [Bool.or_eq_true, not_or, Bool.not_eq_true] at h2 h3
        exact ⟨by omega, by omega, h2.1, h2.2, h3.1, h3.2⟩
theorem okf_cn {l : List Int} (h1 : negA l = false) (h2 : bigA l = false) : Okf (cn l) := fun i _ => by
  unfold cn
  split
  · omega
  · have := negA_no h1 (i := i - 1); have := bigA_no h2 (i := i - 1); omega
/-- What Count, Above and Inches answer. -/
def aboveR (r g : List Int) (len : Int) : Value := .tuple #[iv (if vErr r g = 0 then cnt (cn r) (cn g) len else 0), iv (vErr r g)]
def inchR (r g : List Int) : Value := .tuple #[iv (if vErr r g = 0 then inc (cn r) (cn g) else 0), iv (vErr r g)]

set_option maxRecDepth 100000 in
set_option maxHeartbeats 8000000 in
theorem h_above (o1 o2 : Option Addr) (c1 c2 : Nat) (r g : List Int) (len : Int) (B : Nat) (w0 : Wd) (hs : HS) (h1 : Sl B w0 hs o1 r) (h2 : Sl B w0 hs o2 g) :
    Fn Tryd.prog 25 #[bv o1 o2 r.length g.length c1 c2, iv len] B w0 hs (fun v hs' => v = aboveR r g len ∧ hs' = hs) := by
  refine fn_enter Tryd.func25 rfl Tryd.ntmps25 (by simp) ?_
  repeat' (first | ((with_reducible apply kF 26); refine sC 26 (h_validate o1 o2 c1 c2 r g B w0 _ (h1.sub SBt) (h2.sub SBt)) ?_) | (with_reducible first | refine c_seq ?_ | refine c_reg ?_ | refine c_region ?_ | refine c_block ?_ | refine c_skip ?_ | refine c_exit ?_ | refine c_ret ?_ | refine s_nil ?_ | refine x_then ?_ | refine x_then_exit ?_ | refine x_then_ret ?_ | refine x_block ?_ | refine x_block_ret ?_ | refine x_block_same ?_ | refine x_block_other (by first | rfl | decide) ?_ | refine q_nil ?_ | refine k_nil ?_) | ((with_reducible apply kP (.box _ _)); first | refine sBA (fun b => ?_) | refine sB (fun b => ?_)) | ((with_reducible apply kP _); refine sP ?_) | ((with_reducible apply kP _); refine sX ?_) | ((with_reducible apply kC); first | refine cT ?_ | refine cF ?_ | (refine cI (fun h => ?_) (fun h => ?_) <;> (try (exfalso; omega))) | refine cB (fun h => ?_) (fun h => ?_)))
  · exact e_ret2 rfl rfl rfl ⟨by unfold aboveR; rw [if_neg h]; rfl, rfl⟩ sb1
  have hv : vErr r g = 0 := by omega
  obtain ⟨hr, hg, hn1, hn2, hb1, hb2⟩ := vErr_zero hv
  repeat' (first | ((with_reducible apply kF 27); refine sC 27 (h_open o1 o2 c1 c2 r g B w0 _ (h1.sub SBt) (h2.sub SBt) hr hg) ?_) | ((with_reducible apply kF 40); refine sC 40 (h_count _ _ len (okf_cn hn1 hb1) (okf_cn hn2 hb2) B w0 _) ?_) | (with_reducible first | refine c_seq ?_ | refine c_reg ?_ | refine c_region ?_ | refine c_block ?_ | refine c_skip ?_ | refine c_exit ?_ | refine c_ret ?_ | refine s_nil ?_ | refine x_then ?_ | refine x_then_exit ?_ | refine x_then_ret ?_ | refine x_block ?_ | refine x_block_ret ?_ | refine x_block_same ?_ | refine x_block_other (by first | rfl | decide) ?_ | refine q_nil ?_ | refine k_nil ?_) | ((with_reducible apply kP (.box _ _)); first | refine sBA (fun b => ?_) | refine sB (fun b => ?_)) | ((with_reducible apply kP _); refine sP ?_) | ((with_reducible apply kP _); refine sX ?_) | ((with_reducible apply kC); first | refine cT ?_ | refine cF ?_ | (refine cI (fun h => ?_) (fun h => ?_) <;> (try (exfalso; omega))) | refine cB (fun h => ?_) (fun h => ?_)))
  exact e_ret2 rfl rfl rfl ⟨by unfold aboveR; rw [if_pos hv, hv]; rfl, rfl⟩ sb1
set_option maxRecDepth 100000 in
set_option maxHeartbeats 8000000 in
theorem h_inchesB (o1 o2 : Option Addr) (c1 c2 : Nat) (r g : List Int) (B : Nat) (w0 : Wd) (hs : HS) (h1 : Sl B w0 hs o1 r) (h2 : Sl B w0 hs o2 g) :
    Fn Tryd.prog 13 #[bv o1 o2 r.length g.length c1 c2] B w0 hs (fun v hs' => v = inchR r g ∧ hs' = hs) := by
  refine fn_enter Tryd.func13 rfl Tryd.ntmps13 (by simp) ?_
  repeat' (first | ((with_reducible apply kF 26); refine sC 26 (h_validate o1 o2 c1 c2 r g B w0 _ (h1.sub SBt) (h2.sub SBt)) ?_) | (with_reducible first | refine c_seq ?_ | refine c_reg ?_ | refine c_region ?_ | refine c_block ?_ | refine c_skip ?_ | refine c_exit ?_ | refine c_ret ?_ | refine s_nil ?_ | refine x_then ?_ | refine x_then_exit ?_ | refine x_then_ret ?_ | refine x_block ?_ | refine x_block_ret ?_ | refine x_block_same ?_ | refine x_block_other (by first | rfl | decide) ?_ | refine q_nil ?_ | refine k_nil ?_) | ((with_reducible apply kP (.box _ _)); first | refine sBA (fun b => ?_) | refine sB (fun b => ?_)) | ((with_reducible apply kP _); refine sP ?_) | ((with_reducible apply kP _); refine sX ?_) | ((with_reducible apply kC); first | refine cT ?_ | refine cF ?_ | (refine cI (fun h => ?_) (fun h => ?_) <;> (try (exfalso; omega))) | refine cB (fun h => ?_) (fun h => ?_)))
  · exact e_ret2 rfl rfl rfl ⟨by unfold inchR; rw [if_neg h]; rfl, rfl⟩ sb1
  have hv : vErr r g = 0 := by omega
  obtain ⟨hr, hg, hn1, hn2, hb1, hb2⟩ := vErr_zero hv
  repeat' (first | ((with_reducible apply kF 27); refine sC 27 (h_open o1 o2 c1 c2 r g B w0 _ (h1.sub SBt) (h2.sub SBt) hr hg) ?_) | ((with_reducible apply kF 28); refine sC 28 (h_inches _ _ (okf_cn hn1 hb1) (okf_cn hn2 hb2) B w0 _) ?_) | (with_reducible first | refine c_seq ?_ | refine c_reg ?_ | refine c_region ?_ | refine c_block ?_ | refine c_skip ?_ | refine c_exit ?_ | refine c_ret ?_ | refine s_nil ?_ | refine x_then ?_ | refine x_then_exit ?_ | refine x_then_ret ?_ | refine x_block ?_ | refine x_block_ret ?_ | refine x_block_same ?_ | refine x_block_other (by first | rfl | decide) ?_ | refine q_nil ?_ | refine k_nil ?_) | ((with_reducible apply kP (.box _ _)); first | refine sBA (fun b => ?_) | refine sB (fun b => ?_)) | ((with_reducible apply kP _); refine sP ?_) | ((with_reducible apply kP _); refine sX ?_) | ((with_reducible apply kC); first | refine cT ?_ | refine cF ?_ | (refine cI (fun h => ?_) (fun h => ?_) <;> (try (exfalso; omega))) | refine cB (fun h => ?_) (fun h => ?_)))
  exact e_ret2 rfl rfl rfl ⟨by unfold inchR; rw [if_pos hv, hv]; rfl, rfl⟩ sb1
set_option maxRecDepth 100000 in
set_option maxHeartbeats 8000000 in
theorem h_countB (o1 o2 : Option Addr) (c1 c2 : Nat) (r g : List Int) (B : Nat) (w0 : Wd) (hs : HS) (h1 : Sl B w0 hs o1 r) (h2 : Sl B w0 hs o2 g) :
    Fn Tryd.prog 12 #[bv o1 o2 r.length g.length c1 c2] B w0 hs (fun v hs' => v = aboveR r g 1 ∧ hs' = hs) := by
  refine fn_enter Tryd.func12 rfl Tryd.ntmps12 (by simp) ?_
  repeat' (first | ((with_reducible apply kF 25); refine sC 25 (h_above o1 o2 c1 c2 r g 1 B w0 _ (h1.sub SBt) (h2.sub SBt)) ?_) | (with_reducible first | refine c_seq ?_ | refine c_reg ?_ | refine c_region ?_ | refine c_block ?_ | refine c_skip ?_ | refine c_exit ?_ | refine c_ret ?_ | refine s_nil ?_ | refine x_then ?_ | refine x_then_exit ?_ | refine x_then_ret ?_ | refine x_block ?_ | refine x_block_ret ?_ | refine x_block_same ?_ | refine x_block_other (by first | rfl | decide) ?_ | refine q_nil ?_ | refine k_nil ?_) | ((with_reducible apply kP (.box _ _)); first | refine sBA (fun b => ?_) | refine sB (fun b => ?_)) | ((with_reducible apply kP _); refine sP ?_) | ((with_reducible apply kP _); refine sX ?_) | ((with_reducible apply kC); first | refine cT ?_ | refine cF ?_ | (refine cI (fun h => ?_) (fun h => ?_) <;> (try (exfalso; omega))) | refine cB (fun h => ?_) (fun h => ?_)))
  exact e_ret2 rfl rfl rfl ⟨rfl, rfl⟩ sb1
theorem cnt_01 (f h : Nat → Int) : cnt f h 0 = cnt f h 1 := sumTo_congr 25 (fun i hi => by
  by_cases h1 : 1 ≤ i
  · rw [if_pos (by omega), if_pos (by omega)]
  · rw [if_neg (by omega), if_neg (by omega)])
theorem above_01 (r g : List Int) : aboveR r g 0 = aboveR r g 1 := by unfold aboveR; rw [cnt_01]
set_option maxRecDepth 100000 in
set_option maxHeartbeats 8000000 in
theorem l_long (o1 o2 : Option Addr) (n1 n2 c1 c2 : Nat) (B : Nat) (w0 : Wd) (hs : HS) :
    Fn Tryd.prog 4 #[bv o1 o2 n1 n2 c1 c2] B w0 hs (fun v hs' => v = .bool (decide (100 < n1 ∨ 100 < n2)) ∧ hs' = hs) := by
  refine fn_enter Tryd.func4 rfl Tryd.ntmps4 (by simp) ?_
  repeat' (first | (with_reducible first | refine c_seq ?_ | refine c_reg ?_ | refine c_region ?_ | refine c_block ?_ | refine c_skip ?_ | refine c_exit ?_ | refine c_ret ?_ | refine s_nil ?_ | refine x_then ?_ | refine x_then_exit ?_ | refine x_then_ret ?_ | refine x_block ?_ | refine x_block_ret ?_ | refine x_block_same ?_ | refine x_block_other (by first | rfl | decide) ?_ | refine q_nil ?_ | refine k_nil ?_) | ((with_reducible apply kG); first | refine gY1 ?_ | refine gN1 ?_ | refine gU1 ?_ | (refine gD1 (fun h => ?_) (fun h => ?_) <;> (try (exfalso; omega))) | refine gB1 (fun h => ?_) (fun h => ?_)) | ((with_reducible apply kP (.box _ _)); first | refine sBA (fun b => ?_) | refine sB (fun b => ?_)) | ((with_reducible apply kP _); refine sP ?_) | ((with_reducible apply kP _); refine sX ?_) | ((with_reducible apply kC); first | refine cT ?_ | refine cF ?_ | (refine cI (fun h => ?_) (fun h => ?_) <;> (try (exfalso; omega))) | refine cB (fun h => ?_) (fun h => ?_)))
  · exact e_ret1 rfl rfl ⟨by rw [decide_eq_true (by omega)], rfl⟩ sb1
  · refine e_ret1 rfl rfl ⟨?_, rfl⟩ sb1
    congr 1
    exact decide_eq_decide.2 (by omega)
set_option maxRecDepth 100000 in
set_option maxHeartbeats 8000000 in
theorem l_known (B : Nat) (w0 : Wd) (hs : HS) :
    Fn Tryd.prog 5 #[] B w0 hs (fun v hs' => v = .bool true ∧ hs' = hs) := by
  refine fn_enter Tryd.func5 rfl Tryd.ntmps5 (by simp) ?_
  repeat' (first | ((with_reducible apply kF 12); refine sC 12 (h_countB _ _ _ _ [0, 0, 4] [1] B w0 _ (Sl.own MDt) (Sl.own MDt)) ?_) | ((with_reducible apply kF 13); refine sC 13 (h_inchesB _ _ _ _ [0, 0, 4] [1] B w0 _ (Sl.own MDt) (Sl.own MDt)) ?_) | (with_reducible first | refine c_seq ?_ | refine c_reg ?_ | refine c_region ?_ | refine c_block ?_ | refine c_skip ?_ | refine c_exit ?_ | refine c_ret ?_ | refine s_nil ?_ | refine x_then ?_ | refine x_then_exit ?_ | refine x_then_ret ?_ | refine x_block ?_ | refine x_block_ret ?_ | refine x_block_same ?_ | refine x_block_other (by first | rfl | decide) ?_ | refine q_nil ?_ | refine k_nil ?_) | ((with_reducible apply kG); first | refine gY1 ?_ | refine gN1 ?_ | refine gU1 ?_ | (refine gD1 (fun h => ?_) (fun h => ?_) <;> (try (exfalso; omega))) | refine gB1 (fun h => ?_) (fun h => ?_)) | ((with_reducible apply kN); first | refine stP ?_ | refine stI ?_ | refine st1 ?_ | refine stW ?_) | ((with_reducible apply kP (.alloc _)); refine sA (fun b => ?_)) | ((with_reducible apply kP (.buildSlice _ 1 _)); first | refine sl1A (fun b => ?_) | refine sl1 (fun b => ?_)) | ((with_reducible apply kP (.buildSlice _ 3 _)); refine sl3 (fun b => ?_)) | ((with_reducible apply kP _); refine sP ?_) | ((with_reducible apply kP _); refine sX ?_) | ((with_reducible apply kC); first | refine cT ?_ | refine cF ?_ | (refine cI (fun h => ?_) (fun h => ?_) <;> (try (exfalso; omega))) | refine cB (fun h => ?_) (fun h => ?_)))
  exact e_ret1 rfl rfl ⟨by rw [decide_eq_true (by decide)], rfl⟩ (by with_reducible exact sb3)
/-- A slice of new memory that holds these numbers. -/
def NewI (l : List Int) (u : Value) (blk : HS) : Prop := ∃ oa c, u = .slice oa l.length c ∧ RowOk oa c 1 (ivs l) blk
theorem tab_succ (n : Nat) (F : Nat → Int) : tab (n + 1) F = tab n F ++ [F n] := by simp [tab, List.range_succ]
/-- How many numbers are left without zeros at the end. -/
def lz (l : List Int) : Nat → Nat
  | 0 => 0
  | n + 1 => if l.getD n 0 = 0 then lz l n else n + 1
theorem lz_le (l : List Int) : ∀ n, lz l n ≤ n
  | 0 => Nat.le_refl _
  | n + 1 => by
    unfold lz
    split
    · have := lz_le l n; omega
    · omega
def strip (l : List Int) : List Int := l.take (lz l l.length)
set_option maxRecDepth 100000 in
set_option maxHeartbeats 8000000 in
theorem h_trimmed (oa : Option Addr) (c : Nat) (l : List Int) (hl : l.length ≤ 1000000) (hc : l.length ≤ c) (B : Nat) (w0 : Wd) (hs : HS) (h1 : Sl B w0 hs oa l) :
    Fn Tryd.prog 41 #[.slice oa l.length c] B w0 hs (fun u h => ∃ blk, NewI (strip l) u blk ∧ h = blk ++ hs) := by
  refine fn_enter Tryd.func41 rfl Tryd.ntmps41 (by simp) ?_
  repeat' (first | (with_reducible first | refine c_seq ?_ | refine c_reg ?_ | refine c_region ?_ | refine c_block ?_ | refine c_skip ?_ | refine c_exit ?_ | refine c_ret ?_ | refine s_nil ?_ | refine x_then ?_ | refine x_then_exit ?_ | refine x_then_ret ?_ | refine x_block ?_ | refine x_block_ret ?_ | refine x_block_same ?_ | refine x_block_other (by first | rfl | decide) ?_ | refine q_nil ?_ | refine k_nil ?_) | ((with_reducible apply kG); first | refine gY1 ?_ | refine gN1 ?_ | refine gU1 ?_ | (refine gD1 (fun h => ?_) (fun h => ?_) <;> (try (exfalso; omega))) | refine gB1 (fun h => ?_) (fun h => ?_)) | ((with_reducible apply kP (.call ⟨.builtin .append, _, _⟩)); refine sAp (fun oa2 c2 blk2 hrow2 => ?_)) | ((with_reducible apply kP _); refine sP ?_) | ((with_reducible apply kP _); refine sX ?_) | ((with_reducible apply kC); first | refine cT ?_ | refine cF ?_ | (refine cI (fun h => ?_) (fun h => ?_) <;> (try (exfalso; omega))) | refine cB (fun h => ?_) (fun h => ?_)))
  refine c_loop (fun n : Nat => [(0, .slice oa n c), (3, iv 0)]) (fun _ => hs) (fun n => n ≤ l.length ∧ lz l n = lz l l.length) (fun n => n) l.length ⟨Nat.le_refl _, rfl⟩ (by repeat' first | trivial | rfl | apply And.intro) sb0 ?_
  rintro n ⟨hn, hz⟩
  have fin : lz l n = n → strip l = l.take n := fun h => by unfold strip; rw [← hz, h]
  have len : (l.take n).length = n := by simp; omega
  have hS : Sl B w0 hs oa (l.take n) := by
    have := h1.init (c := c) hn hc
    rwa [subA_zero] at this
  by_cases h0 : n = 0
  · subst h0
    repeat' (first | ((with_reducible apply kP (.call ⟨.builtin .append, _, _⟩)); refine s_appN (apTOf rfl) rfl rfl (Sl.sv (hS)) (by first | (rw [ivs_length]; omega) | (simp only [ivs_length, List.length_take]; omega)) (flat_iv _) (by first | assumption | omega) (by decide) (by decide) (fun oa2 c2 blk2 hrow2 => ?_)) | (with_reducible first | refine c_seq ?_ | refine c_reg ?_ | refine c_region ?_ | refine c_block ?_ | refine c_skip ?_ | refine c_exit ?_ | refine c_ret ?_ | refine s_nil ?_ | refine x_then ?_ | refine x_then_exit ?_ | refine x_then_ret ?_ | refine x_block ?_ | refine x_block_ret ?_ | refine x_block_same ?_ | refine x_block_other (by first | rfl | decide) ?_ | refine q_nil ?_ | refine k_nil ?_) | ((with_reducible apply kG); first | refine gY1 ?_ | refine gN1 ?_ | refine gU1 ?_ | (refine gD1 (fun h => ?_) (fun h => ?_) <;> (try (exfalso; omega))) | refine gB1 (fun h => ?_) (fun h => ?_)) | ((with_reducible apply kP (.call ⟨.builtin .append, _, _⟩)); refine sAp (fun oa2 c2 blk2 hrow2 => ?_)) | ((with_reducible apply kP _); refine sP ?_) | ((with_reducible apply kP _); refine sX ?_) | ((with_reducible apply kC); first | refine cT ?_ | refine cF ?_ | (refine cI (fun h => ?_) (fun h => ?_) <;> (try (exfalso; omega))) | refine cB (fun h => ?_) (fun h => ?_)))
    exact e_ret1 rfl rfl ⟨_, ⟨_, _, by rw [fin rfl, len], by rw [fin rfl]; exact hrow2⟩, rfl⟩ sb0
  · obtain ⟨m, rfl⟩ : ∃ m, n = m + 1 := ⟨n - 1, by omega⟩
    have g1 := h1.any (show m < l.length by omega)
    have e0 : ((m + 1 : Nat) : Int) - 1 = (m : Int) := by omega
    have hz2 : lz l (m + 1) = if l.getD m 0 = 0 then lz l m else m + 1 := rfl
    have e1 : (l.take (m + 1)).getD m 0 = l.getD m 0 := by simp only [List.getD]; rw [List.getElem?_take, if_pos (by omega)]
    repeat' (first | ((with_reducible apply kP (.call ⟨.builtin .append, _, _⟩)); refine s_appN (apTOf rfl) rfl rfl (Sl.sv (hS)) (by first | (rw [ivs_length]; omega) | (simp only [ivs_length, List.length_take]; omega)) (flat_iv _) (by first | assumption | omega) (by decide) (by decide) (fun oa2 c2 blk2 hrow2 => ?_)) | (refine f_eq (t := 11) rfl (congrArg iv e0) ?_) | (with_reducible first | refine c_seq ?_ | refine c_reg ?_ | refine c_region ?_ | refine c_block ?_ | refine c_skip ?_ | refine c_exit ?_ | refine c_ret ?_ | refine s_nil ?_ | refine x_then ?_ | refine x_then_exit ?_ | refine x_then_ret ?_ | refine x_block ?_ | refine x_block_ret ?_ | refine x_block_same ?_ | refine x_block_other (by first | rfl | decide) ?_ | refine q_nil ?_ | refine k_nil ?_) | ((with_reducible apply kG); first | refine gY1 ?_ | refine gN1 ?_ | refine gU1 ?_ | (refine gD1 (fun h => ?_) (fun h => ?_) <;> (try (exfalso; omega))) | refine gB1 (fun h => ?_) (fun h => ?_)) | ((with_reducible apply kP (.call ⟨.builtin .append, _, _⟩)); refine sAp (fun oa2 c2 blk2 hrow2 => ?_)) | ((with_reducible apply kP _); refine sP ?_) | ((with_reducible apply kP _); refine sX ?_) | ((with_reducible apply kC); first | refine cT ?_ | refine cF ?_ | (refine cI (fun h => ?_) (fun h => ?_) <;> (try (exfalso; omega))) | refine cB (fun h => ?_) (fun h => ?_)))
    · rename_i h
      rw [e1] at h
      rw [if_pos h] at hz2
      exact r_end m ⟨by omega, by rw [← hz, hz2]⟩ (by omega) ⟨by rw [subA_zero]; rfl, rfl, trivial⟩ sb0
    · rename_i h
      rw [e1] at h
      rw [if_neg h] at hz2
      exact e_ret1 rfl rfl ⟨_, ⟨_, _, by rw [fin hz2, len], by rw [fin hz2]; exact hrow2⟩, rfl⟩ sb0

/-! ### Lists by length -/
/-- The greatest length of which there are hairs. -/
def lst (f : Nat → Int) : Nat → Nat
  | 0 => 0
  | n + 1 => if f (n + 1) = 0 then lst f n else n + 1
theorem lst_le (f : Nat → Int) : ∀ n, lst f n ≤ n
  | 0 => Nat.le_refl _
  | n + 1 => by
    unfold lst
    split
    · have := lst_le f n; omega
    · omega
def trm (f : Nat → Int) : List Int := tab (lst f 24) (fun i => f (i + 1))
theorem lz_tab (f : Nat → Int) (m : Nat) : ∀ n, n ≤ m → lz (tab m (fun i => f (i + 1))) n = lst f n
  | 0, _ => rfl
  | n + 1, h => by
    unfold lz lst
    rw [tab_getD _ (by omega), lz_tab f m n (by omega)]
theorem tab_take (F : Nat → Int) {n m : Nat} (h : n ≤ m) : (tab m F).take n = tab n F := by
  simp only [tab, ← List.map_take, List.take_range]
  rw [show min n m = n by omega]
theorem strip_tab (f : Nat → Int) : strip (tab 24 (fun i => f (i + 1))) = trm f := by
  unfold strip
  rw [tab_length, lz_tab f 24 24 (by omega), tab_take _ (lst_le f 24)]
  rfl
theorem trm_length (f : Nat → Int) : (trm f).length ≤ 24 := by unfold trm; rw [tab_length]; exact lst_le f 24
theorem hairC_at (f h : Nat → Int) {w i : Nat} (hw : w < 2) (hi : i < 25) : (hairC f h).getD (w * 25 + i) 0 = (if w = 0 then f else h) i := by
  obtain rfl | rfl : w = 0 ∨ w = 1 := by omega
  · rw [Nat.zero_mul, Nat.zero_add, hairC_r f h hi]; rfl
  · rw [Nat.one_mul, hairC_w]
    · rfl
    · exact hi
set_option maxRecDepth 100000 in
set_option maxHeartbeats 8000000 in
theorem r_side (f h : Nat → Int) (w : Nat) (hw : w < 2) (B : Nat) (w0 : Wd) (hs : HS) :
    Fn Tryd.prog 46 #[hairV f h, iv w] B w0 hs (fun u hs' => ∃ blk, NewI (trm (if w = 0 then f else h)) u blk ∧ hs' = blk ++ hs) := by
  have hl := hairC_length f h
  generalize hG : (if w = 0 then f else h) = G
  have hat : ∀ i, i < 25 → (hairC f h).getD (w * 25 + i) 0 = G i := fun i hi => by rw [hairC_at f h hw hi, hG]
  refine fn_enter Tryd.func46 rfl Tryd.ntmps46 (by simp) ?_
  repeat' (first | (with_reducible first | refine c_seq ?_ | refine c_reg ?_ | refine c_region ?_ | refine c_block ?_ | refine c_skip ?_ | refine c_exit ?_ | refine c_ret ?_ | refine s_nil ?_ | refine x_then ?_ | refine x_then_exit ?_ | refine x_then_ret ?_ | refine x_block ?_ | refine x_block_ret ?_ | refine x_block_same ?_ | refine x_block_other (by first | rfl | decide) ?_ | refine q_nil ?_ | refine k_nil ?_) | ((with_reducible apply kP (.box _ _)); first | refine sBA (fun b => ?_) | refine sB (fun b => ?_)) | ((with_reducible apply kP (.buildSlice _ 1 _)); first | refine sl1A (fun b => ?_) | refine sl1 (fun b => ?_)) | ((with_reducible apply kP (.call ⟨.builtin .append, _, _⟩)); refine sAp (fun oa2 c2 blk2 hrow2 => ?_)) | ((with_reducible apply kP _); refine sP ?_) | ((with_reducible apply kP _); refine sX ?_) | ((with_reducible apply kC); first | refine cT ?_ | refine cF ?_ | (refine cI (fun h => ?_) (fun h => ?_) <;> (try (exfalso; omega))) | refine cB (fun h => ?_) (fun h => ?_)))
  refine c_loop (fun k : Nat => [(1, iv w), (2, .pointer (some ⟨b, 0, none⟩)), (5, iv (lst G k)), (6, iv (k + 1))]) (fun _ => (b, ivs (hairC f h)) :: hs) (fun k => k ≤ 24) (fun k => 24 - k) 0 (by omega) (by repeat' first | trivial | rfl | apply And.intro) sb0 ?_
  intro k hk
  by_cases hk' : k < 24
  · have e1 := hat (k + 1) (by omega)
    have e2 : lst G (k + 1) = if G (k + 1) = 0 then lst G k else k + 1 := rfl
    repeat' (first | (with_reducible first | refine c_seq ?_ | refine c_reg ?_ | refine c_region ?_ | refine c_block ?_ | refine c_skip ?_ | refine c_exit ?_ | refine c_ret ?_ | refine s_nil ?_ | refine x_then ?_ | refine x_then_exit ?_ | refine x_then_ret ?_ | refine x_block ?_ | refine x_block_ret ?_ | refine x_block_same ?_ | refine x_block_other (by first | rfl | decide) ?_ | refine q_nil ?_ | refine k_nil ?_) | ((with_reducible apply kP (.box _ _)); first | refine sBA (fun b => ?_) | refine sB (fun b => ?_)) | ((with_reducible apply kP (.buildSlice _ 1 _)); first | refine sl1A (fun b => ?_) | refine sl1 (fun b => ?_)) | ((with_reducible apply kP (.call ⟨.builtin .append, _, _⟩)); refine sAp (fun oa2 c2 blk2 hrow2 => ?_)) | ((with_reducible apply kP _); refine sP ?_) | ((with_reducible apply kP _); refine sX ?_) | ((with_reducible apply kC); first | refine cT ?_ | refine cF ?_ | (refine cI (fun h => ?_) (fun h => ?_) <;> (try (exfalso; omega))) | refine cB (fun h => ?_) (fun h => ?_)))
    · rename_i h
      rw [e1] at h
      rw [if_neg h] at e2
      exact r_end (k + 1) (by omega) (by omega) ⟨rfl, rfl, by rw [e2]; rfl, rfl, trivial⟩ sb0
    · rename_i h
      rw [e1] at h
      rw [if_pos (by omega)] at e2
      exact r_end (k + 1) (by omega) (by omega) ⟨rfl, rfl, by rw [e2]; rfl, rfl, trivial⟩ sb0
  · obtain rfl : k = 24 := by omega
    have hle := lst_le G 24
    repeat' (first | (with_reducible first | refine c_seq ?_ | refine c_reg ?_ | refine c_region ?_ | refine c_block ?_ | refine c_skip ?_ | refine c_exit ?_ | refine c_ret ?_ | refine s_nil ?_ | refine x_then ?_ | refine x_then_exit ?_ | refine x_then_ret ?_ | refine x_block ?_ | refine x_block_ret ?_ | refine x_block_same ?_ | refine x_block_other (by first | rfl | decide) ?_ | refine q_nil ?_ | refine k_nil ?_) | ((with_reducible apply kP (.box _ _)); first | refine sBA (fun b => ?_) | refine sB (fun b => ?_)) | ((with_reducible apply kP (.buildSlice _ 1 _)); first | refine sl1A (fun b => ?_) | refine sl1 (fun b => ?_)) | ((with_reducible apply kP (.call ⟨.builtin .append, _, _⟩)); refine sAp (fun oa2 c2 blk2 hrow2 => ?_)) | ((with_reducible apply kP _); refine sP ?_) | ((with_reducible apply kP _); refine sX ?_) | ((with_reducible apply kC); first | refine cT ?_ | refine cF ?_ | (refine cI (fun h => ?_) (fun h => ?_) <;> (try (exfalso; omega))) | refine cB (fun h => ?_) (fun h => ?_)))
    refine c_loop (fun x : Nat × Option Addr × Nat × HS => [(1, iv w), (2, .pointer (some ⟨b, 0, none⟩)), (5, iv (lst G 24)), (7, .slice x.2.1 x.1 x.2.2.1), (8, iv (x.1 + 1))]) (fun x => x.2.2.2 ++ (b, ivs (hairC f h)) :: hs)
      (fun x => x.1 ≤ lst G 24 ∧ RowOk x.2.1 x.2.2.1 1 (ivs (tab x.1 (fun i => G (i + 1)))) x.2.2.2) (fun x => lst G 24 - x.1) (0, none, 0, []) ⟨by simp, RowOk.nil⟩ (by repeat' first | trivial | rfl | apply And.intro) sb0 ?_
    rintro ⟨k, oa, c, blk⟩ ⟨hk, hrow⟩
    simp only at hk hrow ⊢
    by_cases hk' : k < lst G 24
    · have e1 := hat (k + 1) (by omega)
      repeat' (first | (with_reducible first | refine c_seq ?_ | refine c_reg ?_ | refine c_region ?_ | refine c_block ?_ | refine c_skip ?_ | refine c_exit ?_ | refine c_ret ?_ | refine s_nil ?_ | refine x_then ?_ | refine x_then_exit ?_ | refine x_then_ret ?_ | refine x_block ?_ | refine x_block_ret ?_ | refine x_block_same ?_ | refine x_block_other (by first | rfl | decide) ?_ | refine q_nil ?_ | refine k_nil ?_) | ((with_reducible apply kP (.box _ _)); first | refine sBA (fun b => ?_) | refine sB (fun b => ?_)) | ((with_reducible apply kP (.buildSlice _ 1 _)); first | refine sl1A (fun b => ?_) | refine sl1 (fun b => ?_)) | ((with_reducible apply kP (.call ⟨.builtin .append, _, _⟩)); refine sAp (fun oa2 c2 blk2 hrow2 => ?_)) | ((with_reducible apply kP _); refine sP ?_) | ((with_reducible apply kP _); refine sX ?_) | ((with_reducible apply kC); first | refine cT ?_ | refine cF ?_ | (refine cI (fun h => ?_) (fun h => ?_) <;> (try (exfalso; omega))) | refine cB (fun h => ?_) (fun h => ?_)))
      refine r_end (k + 1, oa2, c2, blk2) ⟨by omega, ?_⟩ (by simp only; omega) ⟨rfl, rfl, rfl, rfl, rfl, trivial⟩ (.append (.refl _) sb1)
      rw [tab_succ, ← ivs_snoc, ← e1]
      exact hrow2
    · obtain rfl : k = lst G 24 := by omega
      repeat' (first | (with_reducible first | refine c_seq ?_ | refine c_reg ?_ | refine c_region ?_ | refine c_block ?_ | refine c_skip ?_ | refine c_exit ?_ | refine c_ret ?_ | refine s_nil ?_ | refine x_then ?_ | refine x_then_exit ?_ | refine x_then_ret ?_ | refine x_block ?_ | refine x_block_ret ?_ | refine x_block_same ?_ | refine x_block_other (by first | rfl | decide) ?_ | refine q_nil ?_ | refine k_nil ?_) | ((with_reducible apply kP (.box _ _)); first | refine sBA (fun b => ?_) | refine sB (fun b => ?_)) | ((with_reducible apply kP (.buildSlice _ 1 _)); first | refine sl1A (fun b => ?_) | refine sl1 (fun b => ?_)) | ((with_reducible apply kP (.call ⟨.builtin .append, _, _⟩)); refine sAp (fun oa2 c2 blk2 hrow2 => ?_)) | ((with_reducible apply kP _); refine sP ?_) | ((with_reducible apply kP _); refine sX ?_) | ((with_reducible apply kC); first | refine cT ?_ | refine cF ?_ | (refine cI (fun h => ?_) (fun h => ?_) <;> (try (exfalso; omega))) | refine cB (fun h => ?_) (fun h => ?_)))
      exact e_ret1 rfl rfl ⟨blk, ⟨oa, c, by unfold trm; rw [tab_length], hrow⟩, rfl⟩ (.append (.refl _) sb1)
def NewB (r g : List Int) (u : Value) (blk : HS) : Prop := ∃ o1 o2 c1 c2 k1 k2, u = bv o1 o2 r.length g.length c1 c2 ∧ RowOk o1 c1 1 (ivs r) k1 ∧ RowOk o2 c2 1 (ivs g) k2 ∧ blk = k2 ++ k1
def NewBE (r g : List Int) (e : Int) (u : Value) (blk : HS) : Prop := ∃ o1 o2 c1 c2 k1 k2, u = .tuple #[bv o1 o2 r.length g.length c1 c2, iv e] ∧ RowOk o1 c1 1 (ivs r) k1 ∧ RowOk o2 c2 1 (ivs g) k2 ∧ blk = k2 ++ k1
theorem NewBE.none (e : Int) : NewBE [] [] e (.tuple #[.agg #[.slice none 0 0, .slice none 0 0], iv e]) [] := ⟨_, _, _, _, _, _, rfl, RowOk.nil, RowOk.nil, rfl⟩
theorem h_trimmed' (oa : Option Addr) (c m : Nat) (l : List Int) (hm : l.length = m) (hl : m ≤ 1000000) (hc : m ≤ c) (B : Nat) (w0 : Wd) (hs : HS) (h1 : Sl B w0 hs oa l) :
    Fn Tryd.prog 41 #[.slice oa m c] B w0 hs (fun u h => ∃ blk, NewI (strip l) u blk ∧ h = blk ++ hs) := by
  subst hm; exact h_trimmed oa c l hl hc B w0 hs h1

/-! ### Is a length too many -/
theorem bigA_iff {l : List Int} : bigA l = true ↔ ∃ i, i < l.length ∧ 1000000 < l.getD i 0 := by
  simp only [bigA, List.any_eq_true, decide_eq_true_eq]
  constructor
  · rintro ⟨x, hx, h⟩
    obtain ⟨i, hi, rfl⟩ := List.mem_iff_getElem.1 hx
    exact ⟨i, hi, by simpa [List.getD, hi] using h⟩
  · rintro ⟨i, hi, h⟩
    exact ⟨l[i], List.getElem_mem hi, by simpa [List.getD, hi] using h⟩
theorem lst_zero (f : Nat → Int) : ∀ n i, lst f n < i → i ≤ n → f i = 0
  | 0, i, h1, h2 => by omega
  | n + 1, i, h1, h2 => by
    unfold lst at h1
    split at h1
    · rename_i h
      by_cases hi : i = n + 1
      · rw [hi]; exact h
      · exact lst_zero f n i h1 (by omega)
    · omega
def bigF (f : Nat → Int) : Bool := (List.range 24).any (fun i => decide (1000000 < f (i + 1)))
theorem bigF_iff {f : Nat → Int} : bigF f = true ↔ ∃ i, 1 ≤ i ∧ i ≤ 24 ∧ 1000000 < f i := by
  simp only [bigF, List.any_eq_true, List.mem_range, decide_eq_true_eq]
  constructor
  · rintro ⟨i, h1, h2⟩; exact ⟨i + 1, by omega, by omega, h2⟩
  · rintro ⟨i, h1, h2, h3⟩; exact ⟨i - 1, by omega, by rw [show i - 1 + 1 = i by omega]; exact h3⟩
theorem bigA_trm (f : Nat → Int) : bigA (trm f) = bigF f := by
  have h : bigA (trm f) = true ↔ ∃ i, 1 ≤ i ∧ i ≤ 24 ∧ 1000000 < f i := by
    rw [bigA_iff]
    have hl : (trm f).length = lst f 24 := tab_length _ _
    have hle := lst_le f 24
    constructor
    · rintro ⟨i, hi, h⟩
      unfold trm at h
      rw [tab_getD _ (by omega)] at h
      exact ⟨i + 1, by omega, by omega, h⟩
    · rintro ⟨i, h1, h2, h3⟩
      have h4 : i ≤ lst f 24 := by
        rcases Nat.lt_or_ge (lst f 24) i with h | h
        · rw [lst_zero f 24 i h h2] at h3; omega
        · exact h
      refine ⟨i - 1, by omega, ?_⟩
      unfold trm
      rw [tab_getD _ (by omega), show i - 1 + 1 = i by omega]
      exact h3
  rw [← bigF_iff] at h
  exact Bool.eq_iff_iff.2 h
theorem negA_trm {f : Nat → Int} (hf : Okf f) : negA (trm f) = false := by
  rcases hb : negA (trm f) with _ | _
  · rfl
  · simp only [negA, List.any_eq_true, decide_eq_true_eq] at hb
    obtain ⟨x, hx, h⟩ := hb
    obtain ⟨i, hi, rfl⟩ := List.mem_iff_getElem.1 hx
    have hle := lst_le f 24
    have hi2 : i < lst f 24 := by simpa [trm, tab_length] using hi
    simp only [trm, tab, List.getElem_map, List.getElem_range] at h
    have := hf (i + 1) (by omega)
    omega
theorem vErr_trm {f h : Nat → Int} (hf : Okf f) (hh : Okf h) : vErr (trm f) (trm h) = if (bigF f || bigF h) = true then 4 else 0 := by
  by_cases hb : (bigF f || bigF h) = true
  · rw [if_pos hb]
    exact vErr_big (trm_length f) (trm_length h) (negA_trm hf) (negA_trm hh) (by rw [bigA_trm, bigA_trm]; exact hb)
  · rw [if_neg hb]
    exact vErr_ok (trm_length f) (trm_length h) (negA_trm hf) (negA_trm hh) (by rw [bigA_trm, bigA_trm]; simpa using hb)
/-- What the bundle of a lock is, with the error. -/
def tieR (f h : Nat → Int) : List Int := if (bigF f || bigF h) = true then [] else trm f
def tieG (f h : Nat → Int) : List Int := if (bigF f || bigF h) = true then [] else trm h
def tieE (f h : Nat → Int) : Int := if (bigF f || bigF h) = true then 4 else 0
theorem take_tab (F : Nat → Int) (k : Nat) : tab (k + 1) F = tab k F ++ [F k] := tab_succ k F
set_option maxRecDepth 100000 in
set_option maxHeartbeats 8000000 in
theorem h_tie (f q : Nat → Int) (hf : Okf f) (hh : Okf q) (B : Nat) (w0 : Wd) (hs : HS) :
    Fn Tryd.prog 29 #[lockV f q] B w0 hs (fun u hs' => ∃ blk, NewBE (tieR f q) (tieG f q) (tieE f q) u blk ∧ hs' = blk ++ hs) := by
  have hl := lockC_length f q
  have hv := vErr_trm hf hh
  refine fn_enter Tryd.func29 rfl Tryd.ntmps29 (by simp) ?_
  repeat' (first | ((with_reducible apply kRg 5); refine cD [1, 1, 1, 2, 3, 0, 0, 0, 2, 4, 1, 1] ?_) | (with_reducible first | refine c_seq ?_ | refine c_reg ?_ | refine c_region ?_ | refine c_block ?_ | refine c_skip ?_ | refine c_exit ?_ | refine c_ret ?_ | refine s_nil ?_ | refine x_then ?_ | refine x_then_exit ?_ | refine x_then_ret ?_ | refine x_block ?_ | refine x_block_ret ?_ | refine x_block_same ?_ | refine x_block_other (by first | rfl | decide) ?_ | refine q_nil ?_ | refine k_nil ?_) | ((with_reducible apply kN); first | refine stP ?_ | refine stI ?_ | refine st1 ?_ | refine stW ?_) | ((with_reducible apply kP (.alloc _)); refine sA (fun b => ?_)) | ((with_reducible apply kP (.box _ _)); first | refine sBA (fun b => ?_) | refine sB (fun b => ?_)) | ((with_reducible apply kP _); refine sP ?_) | ((with_reducible apply kP _); refine sX ?_) | ((with_reducible apply kC); first | refine cT ?_ | refine cF ?_ | (refine cI (fun h => ?_) (fun h => ?_) <;> (try (exfalso; omega))) | refine cB (fun h => ?_) (fun h => ?_)) | ((with_reducible apply kDP (.buildSlice _ 1 _)); first | refine dl1A (fun b => ?_) | refine dl1 (fun b => ?_)) | ((with_reducible apply kDP (.call ⟨.builtin .append, _, _⟩)); first | refine dAp3 (fun oa2 c2 blk2 hrow2 => ?_) (hS := SCt) | refine dAp4 (fun oa2 c2 blk2 hrow2 => ?_)) | ((with_reducible apply kDP _); refine dP ?_) | ((with_reducible apply kDP _); refine dX ?_))
  rename_i b0
  refine c_loop (fun x : Nat × Option Addr × Nat × HS × Option Addr × Nat × HS => [(2, .pointer (some ⟨b, 0, none⟩)), (4, .slice x.2.1 x.1 x.2.2.1), (5, .slice x.2.2.2.2.1 x.1 x.2.2.2.2.2.1), (10, .slice (some ⟨b0, 0 + 1 * 2, none⟩) (25 - 1) (25 - 1)), (11, iv 24), (12, iv x.1)])
    (fun x => x.2.2.2.2.2.2 ++ (x.2.2.2.1 ++ (b, [.slice none 0 0, .slice none 0 0]) :: (b0, ivs (lockC f q)) :: hs))
    (fun x => x.1 ≤ 24 ∧ RowOk x.2.1 x.2.2.1 1 (ivs (tab x.1 (fun i => f (i + 1)))) x.2.2.2.1 ∧ RowOk x.2.2.2.2.1 x.2.2.2.2.2.1 1 (ivs (tab x.1 (fun i => q (i + 1)))) x.2.2.2.2.2.2) (fun x => 24 - x.1) (0, none, 0, [], none, 0, []) ⟨by simp, RowOk.nil, RowOk.nil⟩ (by repeat' first | trivial | rfl | apply And.intro) sb0 ?_
  rintro ⟨k, oa, c, k1, ob, d, k2⟩ ⟨hk, hr1, hr2⟩
  simp only at hk hr1 hr2 ⊢
  by_cases hk' : k < 24
  · have e1 := lockC_r f q (show k + 1 < 25 by omega)
    have e2 := lockC_w f q (show k + 1 < 25 by omega)
    rw [show (k + 1) * 2 = 2 + k * 2 by omega] at e1 e2
    repeat' (first | ((with_reducible apply kRg 5); refine cDS [1, 1, 1, 2, 3, 0, 0, 0, 2, 4, 1, 1] _ ?_ (.cons_cons _ (sbA (sbA sb0)))) | (with_reducible first | refine c_seq ?_ | refine c_reg ?_ | refine c_region ?_ | refine c_block ?_ | refine c_skip ?_ | refine c_exit ?_ | refine c_ret ?_ | refine s_nil ?_ | refine x_then ?_ | refine x_then_exit ?_ | refine x_then_ret ?_ | refine x_block ?_ | refine x_block_ret ?_ | refine x_block_same ?_ | refine x_block_other (by first | rfl | decide) ?_ | refine q_nil ?_ | refine k_nil ?_) | ((with_reducible apply kN); first | refine stP ?_ | refine stI ?_ | refine st1 ?_ | refine stW ?_) | ((with_reducible apply kP (.alloc _)); refine sA (fun b => ?_)) | ((with_reducible apply kP (.box _ _)); first | refine sBA (fun b => ?_) | refine sB (fun b => ?_)) | ((with_reducible apply kP _); refine sP ?_) | ((with_reducible apply kP _); refine sX ?_) | ((with_reducible apply kC); first | refine cT ?_ | refine cF ?_ | (refine cI (fun h => ?_) (fun h => ?_) <;> (try (exfalso; omega))) | refine cB (fun h => ?_) (fun h => ?_)) | ((with_reducible apply kDP (.buildSlice _ 1 _)); first | refine dl1A (fun b => ?_) | refine dl1 (fun b => ?_)) | ((with_reducible apply kDP (.call ⟨.builtin .append, _, _⟩)); first | refine dAp3 (fun oa2 c2 blk2 hrow2 => ?_) (hS := SCt) | refine dAp4 (fun oa2 c2 blk2 hrow2 => ?_)) | ((with_reducible apply kDP _); refine dP ?_) | ((with_reducible apply kDP _); refine dX ?_))
    rename_i oa3 c3 blk3 hrow3
    rw [show 0 + 1 * 2 + k * 2 = 2 + k * 2 by omega] at hrow2 hrow3
    rw [e1, ivs_snoc, ← tab_succ k (fun i => f (i + 1))] at hrow3
    rw [e2, ivs_snoc, ← tab_succ k (fun i => q (i + 1))] at hrow2
    exact r_end (k + 1, oa3, c3, blk3, oa2, c2, blk2) ⟨by omega, hrow3, hrow2⟩ (by simp only; omega) ⟨rfl, rfl, rfl, rfl, rfl, rfl, trivial⟩ SCt
  · obtain rfl : k = 24 := by omega
    have hS1 := Sl.row (B := B) (w0 := w0) hr1
    have hS2 := Sl.row (B := B) (w0 := w0) hr2
    have g1 := tab_length 24 (fun i => f (i + 1))
    have g2 := tab_length 24 (fun i => q (i + 1))
    have g3 := hr1.cap (k := 24) (by rw [ivs_length, g1]) (by omega)
    have g4 := hr2.cap (k := 24) (by rw [ivs_length, g2]) (by omega)
    repeat' (first | ((with_reducible apply kF 41); refine sN 41 (h_trimmed' oa c 24 _ g1 (by decide) g3 B w0 _ (hS1.sub (sbA sbL))) ?_; rw [strip_tab]; rintro u kk1 ⟨o1, cc1, rfl, hrr1⟩) | ((with_reducible apply kF 41); refine sN 41 (h_trimmed' ob d 24 _ g2 (by decide) g4 B w0 _ (hS2.sub (sbA sbL))) ?_; rw [strip_tab]; rintro u kk2 ⟨o2, cc2, rfl, hrr2⟩) | ((with_reducible apply kRg 5); refine cD [1, 1, 1, 2, 3, 0, 0, 0, 2, 4, 1, 1] ?_) | (with_reducible first | refine c_seq ?_ | refine c_reg ?_ | refine c_region ?_ | refine c_block ?_ | refine c_skip ?_ | refine c_exit ?_ | refine c_ret ?_ | refine s_nil ?_ | refine x_then ?_ | refine x_then_exit ?_ | refine x_then_ret ?_ | refine x_block ?_ | refine x_block_ret ?_ | refine x_block_same ?_ | refine x_block_other (by first | rfl | decide) ?_ | refine q_nil ?_ | refine k_nil ?_) | ((with_reducible apply kN); first | refine stP ?_ | refine stI ?_ | refine st1 ?_ | refine stW ?_) | ((with_reducible apply kP (.alloc _)); refine sA (fun b => ?_)) | ((with_reducible apply kP (.box _ _)); first | refine sBA (fun b => ?_) | refine sB (fun b => ?_)) | ((with_reducible apply kP _); refine sP ?_) | ((with_reducible apply kP _); refine sX ?_) | ((with_reducible apply kC); first | refine cT ?_ | refine cF ?_ | (refine cI (fun h => ?_) (fun h => ?_) <;> (try (exfalso; omega))) | refine cB (fun h => ?_) (fun h => ?_)) | ((with_reducible apply kDP (.buildSlice _ 1 _)); first | refine dl1A (fun b => ?_) | refine dl1 (fun b => ?_)) | ((with_reducible apply kDP (.call ⟨.builtin .append, _, _⟩)); first | refine dAp3 (fun oa2 c2 blk2 hrow2 => ?_) (hS := SCt) | refine dAp4 (fun oa2 c2 blk2 hrow2 => ?_)) | ((with_reducible apply kDP _); refine dP ?_) | ((with_reducible apply kDP _); refine dX ?_))
    have hV := fun B w0 hs h1 h2 => h_validate o1 o2 cc1 cc2 (trm f) (trm q) B w0 hs h1 h2
    rw [hv] at hV
    have hR1 := Sl.row (B := B) (w0 := w0) hrr1
    have hR2 := Sl.row (B := B) (w0 := w0) hrr2
    by_cases hb : (bigF f || bigF q) = true
    · rw [if_pos hb] at hV
      rw [show tieR f q = [] from if_pos hb, show tieG f q = [] from if_pos hb, show tieE f q = 4 from if_pos hb]
      repeat' (first | ((with_reducible apply kF 26); refine sC 26 (hV B w0 _ (hR1.sub (.cons _ (sbA sbL))) (hR2.sub (.cons _ sbL))) ?_) | ((with_reducible apply kRg 5); refine cD [1, 1, 1, 2, 3, 0, 0, 0, 2, 4, 1, 1] ?_) | (with_reducible first | refine c_seq ?_ | refine c_reg ?_ | refine c_region ?_ | refine c_block ?_ | refine c_skip ?_ | refine c_exit ?_ | refine c_ret ?_ | refine s_nil ?_ | refine x_then ?_ | refine x_then_exit ?_ | refine x_then_ret ?_ | refine x_block ?_ | refine x_block_ret ?_ | refine x_block_same ?_ | refine x_block_other (by first | rfl | decide) ?_ | refine q_nil ?_ | refine k_nil ?_) | ((with_reducible apply kN); first | refine stP ?_ | refine stI ?_ | refine st1 ?_ | refine stW ?_) | ((with_reducible apply kP (.alloc _)); refine sA (fun b => ?_)) | ((with_reducible apply kP (.box _ _)); first | refine sBA (fun b => ?_) | refine sB (fun b => ?_)) | ((with_reducible apply kP _); refine sP ?_) | ((with_reducible apply kP _); refine sX ?_) | ((with_reducible apply kC); first | refine cT ?_ | refine cF ?_ | (refine cI (fun h => ?_) (fun h => ?_) <;> (try (exfalso; omega))) | refine cB (fun h => ?_) (fun h => ?_)) | ((with_reducible apply kDP (.buildSlice _ 1 _)); first | refine dl1A (fun b => ?_) | refine dl1 (fun b => ?_)) | ((with_reducible apply kDP (.call ⟨.builtin .append, _, _⟩)); first | refine dAp3 (fun oa2 c2 blk2 hrow2 => ?_) (hS := SCt) | refine dAp4 (fun oa2 c2 blk2 hrow2 => ?_)) | ((with_reducible apply kDP _); refine dP ?_) | ((with_reducible apply kDP _); refine dX ?_))
      exact e_ret2 (hs' := hs) rfl ⟨_, rfl, ld_two (shTOf rfl) MDt rfl rfl⟩ rfl ⟨[], .none 4, rfl⟩ SCt
    · rw [if_neg hb] at hV
      rw [show tieR f q = trm f from if_neg hb, show tieG f q = trm q from if_neg hb, show tieE f q = 0 from if_neg hb]
      repeat' (first | ((with_reducible apply kF 26); refine sC 26 (hV B w0 _ (hR1.sub (.cons _ (sbA sbL))) (hR2.sub (.cons _ sbL))) ?_) | ((with_reducible apply kRg 5); refine cD [1, 1, 1, 2, 3, 0, 0, 0, 2, 4, 1, 1] ?_) | (with_reducible first | refine c_seq ?_ | refine c_reg ?_ | refine c_region ?_ | refine c_block ?_ | refine c_skip ?_ | refine c_exit ?_ | refine c_ret ?_ | refine s_nil ?_ | refine x_then ?_ | refine x_then_exit ?_ | refine x_then_ret ?_ | refine x_block ?_ | refine x_block_ret ?_ | refine x_block_same ?_ | refine x_block_other (by first | rfl | decide) ?_ | refine q_nil ?_ | refine k_nil ?_) | ((with_reducible apply kN); first | refine stP ?_ | refine stI ?_ | refine st1 ?_ | refine stW ?_) | ((with_reducible apply kP (.alloc _)); refine sA (fun b => ?_)) | ((with_reducible apply kP (.box _ _)); first | refine sBA (fun b => ?_) | refine sB (fun b => ?_)) | ((with_reducible apply kP _); refine sP ?_) | ((with_reducible apply kP _); refine sX ?_) | ((with_reducible apply kC); first | refine cT ?_ | refine cF ?_ | (refine cI (fun h => ?_) (fun h => ?_) <;> (try (exfalso; omega))) | refine cB (fun h => ?_) (fun h => ?_)) | ((with_reducible apply kDP (.buildSlice _ 1 _)); first | refine dl1A (fun b => ?_) | refine dl1 (fun b => ?_)) | ((with_reducible apply kDP (.call ⟨.builtin .append, _, _⟩)); first | refine dAp3 (fun oa2 c2 blk2 hrow2 => ?_) (hS := SCt) | refine dAp4 (fun oa2 c2 blk2 hrow2 => ?_)) | ((with_reducible apply kDP _); refine dP ?_) | ((with_reducible apply kDP _); refine dX ?_))
      exact e_ret2 rfl ⟨_, rfl, ld_two (shTOf rfl) MDt rfl rfl⟩ rfl ⟨kk2 ++ kk1, ⟨o1, o2, cc1, cc2, kk1, kk2, rfl, hrr1, hrr2, rfl⟩, rfl⟩ (by rw [List.append_assoc]; exact SCt)
set_option maxRecDepth 100000 in
set_option maxHeartbeats 8000000 in
theorem r_tie (f g : Nat → Int) (B : Nat) (w0 : Wd) (hs : HS) :
    Fn Tryd.prog 36 #[hairV f g] B w0 hs (fun u hs' => ∃ blk, NewB (trm f) (trm g) u blk ∧ hs' = blk ++ hs) := by
  have hl := hairC_length f g
  refine fn_enter Tryd.func36 rfl Tryd.ntmps36 (by simp) ?_
  repeat' (first | ((with_reducible apply kDF 46); (first | refine dN3 46 (fun F => r_side f g 0 (by decide) B w0 _) ?_ | refine dN4 46 (fun F => r_side f g 0 (by decide) B w0 _) ?_); rw [if_pos rfl]; rintro u k1 ⟨o1, c1, rfl, hr1⟩) | ((with_reducible apply kDF 46); (first | refine dN3 46 (fun F => r_side f g 1 (by decide) B w0 _) ?_ | refine dN4 46 (fun F => r_side f g 1 (by decide) B w0 _) ?_); rw [if_neg (by decide)]; rintro u k2 ⟨o2, c2, rfl, hr2⟩) | ((with_reducible apply kRg 1); refine cD [1, 3, 0, 4, 1, 4] ?_) | (with_reducible first | refine c_seq ?_ | refine c_reg ?_ | refine c_region ?_ | refine c_block ?_ | refine c_skip ?_ | refine c_exit ?_ | refine c_ret ?_ | refine s_nil ?_ | refine x_then ?_ | refine x_then_exit ?_ | refine x_then_ret ?_ | refine x_block ?_ | refine x_block_ret ?_ | refine x_block_same ?_ | refine x_block_other (by first | rfl | decide) ?_ | refine q_nil ?_ | refine k_nil ?_) | ((with_reducible apply kP (.alloc _)); refine sA (fun b => ?_)) | ((with_reducible apply kP (.box _ _)); first | refine sBA (fun b => ?_) | refine sB (fun b => ?_)) | ((with_reducible apply kP _); refine sP ?_) | ((with_reducible apply kP _); refine sX ?_) | ((with_reducible apply kC); first | refine cT ?_ | refine cF ?_ | (refine cI (fun h => ?_) (fun h => ?_) <;> (try (exfalso; omega))) | refine cB (fun h => ?_) (fun h => ?_)) | ((with_reducible apply kDN); first | refine dtI ?_ | refine dt1 ?_ | refine dtW ?_) | ((with_reducible apply kDP _); refine dP ?_) | ((with_reducible apply kDP _); refine dX ?_))
  refine e_ret1 rfl ⟨_, rfl, ld_two (shTOf rfl) MDt rfl rfl⟩ ⟨k2 ++ k1, ⟨o1, o2, c1, c2, k1, k2, rfl, hr1, hr2, rfl⟩, rfl⟩ ?_
  rw [List.append_assoc]
  exact SCt
set_option maxRecDepth 100000 in
set_option maxHeartbeats 8000000 in
theorem r_same (oa ob : Option Addr) (c d : Nat) (l m : List Int) (B : Nat) (w0 : Wd) (hs : HS) (h1 : Sl B w0 hs oa l) (h2 : Sl B w0 hs ob m) (hl : l.length ≤ 1000000) :
    Fn Tryd.prog 23 #[.slice oa l.length c, .slice ob m.length d] B w0 hs (fun v hs' => v = .bool (decide (l = m)) ∧ hs' = hs) := by
  refine fn_enter Tryd.func23 rfl Tryd.ntmps23 (by simp) ?_
  repeat' (first | (with_reducible first | refine c_seq ?_ | refine c_reg ?_ | refine c_region ?_ | refine c_block ?_ | refine c_skip ?_ | refine c_exit ?_ | refine c_ret ?_ | refine s_nil ?_ | refine x_then ?_ | refine x_then_exit ?_ | refine x_then_ret ?_ | refine x_block ?_ | refine x_block_ret ?_ | refine x_block_same ?_ | refine x_block_other (by first | rfl | decide) ?_ | refine q_nil ?_ | refine k_nil ?_) | ((with_reducible apply kP _); refine sP ?_) | ((with_reducible apply kP _); refine sX ?_) | ((with_reducible apply kQP); refine qP ?_) | ((with_reducible apply kQP); refine qX ?_) | ((with_reducible apply kC); first | refine cT ?_ | refine cF ?_ | (refine cI (fun h => ?_) (fun h => ?_) <;> (try (exfalso; omega))) | refine cB (fun h => ?_) (fun h => ?_)) | ((with_reducible apply kR); refine cQ ?_))
  · exact e_ret1 rfl rfl ⟨by rw [decide_eq_false (fun e => by subst e; omega)], rfl⟩ sb0
  have hlen : l.length = m.length := by omega
  refine c_loop (fun k : Nat => [(0, .slice oa l.length c), (1, .slice ob m.length d), (5, iv k)]) (fun _ => hs) (fun k => k ≤ l.length ∧ ∀ i, i < k → l.getD i 0 = m.getD i 0) (fun k => l.length - k) 0 ⟨by omega, by intro i hi; omega⟩ (by repeat' first | trivial | rfl | apply And.intro) sb0 ?_
  rintro k ⟨hk, hg⟩
  by_cases hk' : k < l.length
  · have g1 := h1.any hk'
    have g2 := h2.any (show k < m.length by omega)
    repeat' (first | (with_reducible first | refine c_seq ?_ | refine c_reg ?_ | refine c_region ?_ | refine c_block ?_ | refine c_skip ?_ | refine c_exit ?_ | refine c_ret ?_ | refine s_nil ?_ | refine x_then ?_ | refine x_then_exit ?_ | refine x_then_ret ?_ | refine x_block ?_ | refine x_block_ret ?_ | refine x_block_same ?_ | refine x_block_other (by first | rfl | decide) ?_ | refine q_nil ?_ | refine k_nil ?_) | ((with_reducible apply kP _); refine sP ?_) | ((with_reducible apply kP _); refine sX ?_) | ((with_reducible apply kQP); refine qP ?_) | ((with_reducible apply kQP); refine qX ?_) | ((with_reducible apply kC); first | refine cT ?_ | refine cF ?_ | (refine cI (fun h => ?_) (fun h => ?_) <;> (try (exfalso; omega))) | refine cB (fun h => ?_) (fun h => ?_)) | ((with_reducible apply kR); refine cQ ?_))
    · exact e_ret1 rfl rfl ⟨by rw [decide_eq_false (fun e => by subst e; omega)], rfl⟩ sb0
    · refine r_end (k + 1) ⟨by omega, fun i hi => ?_⟩ (by omega) ⟨rfl, rfl, rfl, trivial⟩ sb0
      rcases Nat.lt_succ_iff_lt_or_eq.1 hi with hi | rfl
      · exact hg i hi
      · omega
  · repeat' (first | (with_reducible first | refine c_seq ?_ | refine c_reg ?_ | refine c_region ?_ | refine c_block ?_ | refine c_skip ?_ | refine c_exit ?_ | refine c_ret ?_ | refine s_nil ?_ | refine x_then ?_ | refine x_then_exit ?_ | refine x_then_ret ?_ | refine x_block ?_ | refine x_block_ret ?_ | refine x_block_same ?_ | refine x_block_other (by first | rfl | decide) ?_ | refine q_nil ?_ | refine k_nil ?_) | ((with_reducible apply kP _); refine sP ?_) | ((with_reducible apply kP _); refine sX ?_) | ((with_reducible apply kQP); refine qP ?_) | ((with_reducible apply kQP); refine qX ?_) | ((with_reducible apply kC); first | refine cT ?_ | refine cF ?_ | (refine cI (fun h => ?_) (fun h => ?_) <;> (try (exfalso; omega))) | refine cB (fun h => ?_) (fun h => ?_)) | ((with_reducible apply kR); refine cQ ?_))
    refine e_ret1 rfl rfl ⟨?_, rfl⟩ sb0
    rw [decide_eq_true]
    refine List.ext_getElem hlen (fun i hi hi2 => ?_)
    have := hg i (by omega)
    simpa [List.getD, hi, hi2] using this
set_option maxRecDepth 100000 in
set_option maxHeartbeats 8000000 in
theorem r_equal (o1 o2 p1 p2 : Option Addr) (c1 c2 d1 d2 : Nat) (r g r' g' : List Int) (hr : r.length ≤ 1000000) (hg : g.length ≤ 1000000) (B : Nat) (w0 : Wd) (hs : HS) (h1 : Sl B w0 hs o1 r) (h2 : Sl B w0 hs o2 g) (h3 : Sl B w0 hs p1 r') (h4 : Sl B w0 hs p2 g') :
    Fn Tryd.prog 10 #[bv o1 o2 r.length g.length c1 c2, bv p1 p2 r'.length g'.length d1 d2] B w0 hs (fun v hs' => v = .bool (decide (r = r' ∧ g = g')) ∧ hs' = hs) := by
  refine fn_enter Tryd.func10 rfl Tryd.ntmps10 (by simp) ?_
  repeat' (first | ((with_reducible apply kF 23); refine sC 23 (r_same o1 p1 c1 d1 r r' B w0 _ (h1.sub SBt) (h3.sub SBt) hr) ?_) | ((with_reducible apply kF 23); refine sC 23 (r_same o2 p2 c2 d2 g g' B w0 _ (h2.sub SBt) (h4.sub SBt) hg) ?_) | (with_reducible first | refine c_seq ?_ | refine c_reg ?_ | refine c_region ?_ | refine c_block ?_ | refine c_skip ?_ | refine c_exit ?_ | refine c_ret ?_ | refine s_nil ?_ | refine x_then ?_ | refine x_then_exit ?_ | refine x_then_ret ?_ | refine x_block ?_ | refine x_block_ret ?_ | refine x_block_same ?_ | refine x_block_other (by first | rfl | decide) ?_ | refine q_nil ?_ | refine k_nil ?_) | ((with_reducible apply kG); first | refine gY1 ?_ | refine gN1 ?_ | refine gU1 ?_ | (refine gD1 (fun h => ?_) (fun h => ?_) <;> (try (exfalso; omega))) | refine gB1 (fun h => ?_) (fun h => ?_)) | ((with_reducible apply kP (.box _ _)); first | refine sBA (fun b => ?_) | refine sB (fun b => ?_)) | ((with_reducible apply kP _); refine sP ?_) | ((with_reducible apply kP _); refine sX ?_) | ((with_reducible apply kC); first | refine cT ?_ | refine cF ?_ | (refine cI (fun h => ?_) (fun h => ?_) <;> (try (exfalso; omega))) | refine cB (fun h => ?_) (fun h => ?_)))
  · rename_i h
    exact e_ret1 rfl rfl ⟨congrArg Value.bool (decide_eq_decide.2 ⟨fun hh => ⟨h, hh⟩, fun hh => hh.2⟩), rfl⟩ SBt
  · rename_i h
    exact e_ret1 rfl rfl ⟨by rw [decide_eq_false (fun hh => h hh.1)], rfl⟩ SBt

/-! ### A bundle is spoilt -/
def RowW (oa : Option Addr) (m : Nat) (blk : HS) : Prop := (oa = none ∧ m = 0 ∧ blk = []) ∨ ∃ b cs, oa = some ⟨b, 0, none⟩ ∧ blk = [(b, cs)] ∧ m ≤ cs.length
theorem RowOk.w {oa : Option Addr} {c m : Nat} {xs : List Value} {blk : HS} (h : RowOk oa c 1 xs blk) (hm : xs.length = m) : RowW oa m blk := by
  rcases h with ⟨h1, _, h2, h3⟩ | ⟨b, z, h1, h2, h3, _⟩
  · exact .inl ⟨h1, by rw [← hm, h2]; rfl, h3⟩
  · exact .inr ⟨b, _, h1, h2, by rw [List.length_append]; omega⟩
def Spl (o1 o2 : Option Addr) (n m : Nat) (blk : HS) : Prop := ∃ k1 k2, RowW o1 n k1 ∧ RowW o2 m k2 ∧ blk = k2 ++ k1
theorem NewB.use {r g : List Int} {u : Value} {blk : HS} (h : NewB r g u blk) : ∃ o1 o2 c1 c2, u = bv o1 o2 r.length g.length c1 c2 ∧ (∀ B w0, Sl B w0 blk o1 r) ∧ (∀ B w0, Sl B w0 blk o2 g) ∧ Spl o1 o2 r.length g.length blk := by
  obtain ⟨o1, o2, c1, c2, k1, k2, rfl, h1, h2, rfl⟩ := h
  exact ⟨o1, o2, c1, c2, rfl, fun B w0 => (Sl.row h1).sub (sbA sb0), fun B w0 => (Sl.row h2).sub sbL, k1, k2, h1.w (ivs_length _), h2.w (ivs_length _), rfl⟩
theorem NewBE.use {r g : List Int} {e : Int} {u : Value} {blk : HS} (h : NewBE r g e u blk) : ∃ o1 o2 c1 c2, u = .tuple #[bv o1 o2 r.length g.length c1 c2, iv e] ∧ (∀ B w0, Sl B w0 blk o1 r) ∧ (∀ B w0, Sl B w0 blk o2 g) ∧ Spl o1 o2 r.length g.length blk := by
  obtain ⟨o1, o2, c1, c2, k1, k2, rfl, h1, h2, rfl⟩ := h
  exact ⟨o1, o2, c1, c2, rfl, fun B w0 => (Sl.row h1).sub (sbA sb0), fun B w0 => (Sl.row h2).sub sbL, k1, k2, h1.w (ivs_length _), h2.w (ivs_length _), rfl⟩
/-- What Trim returns. -/
def trR (r g : List Int) : List Int := if vErr r g = 0 then trm (cn r) else []
def trG (r g : List Int) : List Int := if vErr r g = 0 then trm (cn g) else []
theorem bigF_cn {l : List Int} (h : bigA l = false) : bigF (cn l) = false := by
  rcases hb : bigF (cn l) with _ | _
  · rfl
  · obtain ⟨i, h1, h2, h3⟩ := bigF_iff.1 hb
    unfold cn at h3
    rw [if_neg (by omega)] at h3
    have := bigA_no h (i := i - 1)
    omega
theorem tie_cn {r g : List Int} (h : vErr r g = 0) : tieR (cn r) (cn g) = trR r g ∧ tieG (cn r) (cn g) = trG r g ∧ tieE (cn r) (cn g) = 0 := by
  obtain ⟨hr, hg, hn1, hn2, hb1, hb2⟩ := vErr_zero h
  have hb : ¬ (bigF (cn r) || bigF (cn g)) = true := by rw [bigF_cn hb1, bigF_cn hb2]; simp
  exact ⟨by unfold tieR trR; rw [if_neg hb, if_pos h], by unfold tieG trG; rw [if_neg hb, if_pos h], if_neg hb⟩
theorem trR_bad {r g : List Int} (h : ¬ vErr r g = 0) : trR r g = [] := if_neg h
theorem trG_bad {r g : List Int} (h : ¬ vErr r g = 0) : trG r g = [] := if_neg h
theorem trR_len (r g : List Int) : (trR r g).length ≤ 24 := by unfold trR; split; exact trm_length _; simp
theorem trG_len (r g : List Int) : (trG r g).length ≤ 24 := by unfold trG; split; exact trm_length _; simp
set_option maxRecDepth 100000 in
set_option maxHeartbeats 8000000 in
theorem h_Trim (o1 o2 : Option Addr) (c1 c2 : Nat) (r g : List Int) (B : Nat) (w0 : Wd) (hs : HS) (h1 : Sl B w0 hs o1 r) (h2 : Sl B w0 hs o2 g) :
    Fn Tryd.prog 14 #[bv o1 o2 r.length g.length c1 c2] B w0 hs (fun u hs' => ∃ blk, NewBE (trR r g) (trG r g) (vErr r g) u blk ∧ hs' = blk ++ hs) := by
  refine fn_enter Tryd.func14 rfl Tryd.ntmps14 (by simp) ?_
  repeat' (first | ((with_reducible apply kF 26); refine sC 26 (h_validate o1 o2 c1 c2 r g B w0 _ (h1.sub SBt) (h2.sub SBt)) ?_) | (with_reducible first | refine c_seq ?_ | refine c_reg ?_ | refine c_region ?_ | refine c_block ?_ | refine c_skip ?_ | refine c_exit ?_ | refine c_ret ?_ | refine s_nil ?_ | refine x_then ?_ | refine x_then_exit ?_ | refine x_then_ret ?_ | refine x_block ?_ | refine x_block_ret ?_ | refine x_block_same ?_ | refine x_block_other (by first | rfl | decide) ?_ | refine q_nil ?_ | refine k_nil ?_) | ((with_reducible apply kN); first | refine stP ?_ | refine stI ?_ | refine st1 ?_ | refine stW ?_) | ((with_reducible apply kP (.alloc _)); refine sA (fun b => ?_)) | ((with_reducible apply kP (.box _ _)); first | refine sBA (fun b => ?_) | refine sB (fun b => ?_)) | ((with_reducible apply kP _); refine sP ?_) | ((with_reducible apply kP _); refine sX ?_) | ((with_reducible apply kC); first | refine cT ?_ | refine cF ?_ | (refine cI (fun h => ?_) (fun h => ?_) <;> (try (exfalso; omega))) | refine cB (fun h => ?_) (fun h => ?_)))
  · rename_i h
    rw [trR_bad h, trG_bad h]
    exact e_ret2 (hs' := hs) rfl ⟨_, rfl, ld_two (shTOf rfl) MDt rfl rfl⟩ rfl ⟨[], .none _, rfl⟩ SCt
  have hv : vErr r g = 0 := by omega
  obtain ⟨hr, hg, hn1, hn2, hb1, hb2⟩ := vErr_zero hv
  obtain ⟨t1, t2, t3⟩ := tie_cn hv
  repeat' (first | ((with_reducible apply kF 27); refine sC 27 (h_open o1 o2 c1 c2 r g B w0 _ (h1.sub SBt) (h2.sub SBt) hr hg) ?_) | ((with_reducible apply kF 29); refine sN 29 (h_tie _ _ (okf_cn hn1 hb1) (okf_cn hn2 hb2) B w0 _) ?_; rw [t1, t2, t3]; rintro u blk hN; obtain ⟨p1, p2, d1, d2, rfl, _⟩ := hN.use) | (with_reducible first | refine c_seq ?_ | refine c_reg ?_ | refine c_region ?_ | refine c_block ?_ | refine c_skip ?_ | refine c_exit ?_ | refine c_ret ?_ | refine s_nil ?_ | refine x_then ?_ | refine x_then_exit ?_ | refine x_then_ret ?_ | refine x_block ?_ | refine x_block_ret ?_ | refine x_block_same ?_ | refine x_block_other (by first | rfl | decide) ?_ | refine q_nil ?_ | refine k_nil ?_) | ((with_reducible apply kN); first | refine stP ?_ | refine stI ?_ | refine st1 ?_ | refine stW ?_) | ((with_reducible apply kP (.alloc _)); refine sA (fun b => ?_)) | ((with_reducible apply kP (.box _ _)); first | refine sBA (fun b => ?_) | refine sB (fun b => ?_)) | ((with_reducible apply kP _); refine sP ?_) | ((with_reducible apply kP _); refine sX ?_) | ((with_reducible apply kC); first | refine cT ?_ | refine cF ?_ | (refine cI (fun h => ?_) (fun h => ?_) <;> (try (exfalso; omega))) | refine cB (fun h => ?_) (fun h => ?_)))
  rw [hv]
  exact e_ret2 rfl ⟨_, rfl, ld_two (shTOf rfl) MDt rfl rfl⟩ rfl ⟨blk, hN, rfl⟩ SCt
set_option maxRecDepth 100000 in
set_option maxHeartbeats 8000000 in
theorem r_Trim (o1 o2 : Option Addr) (c1 c2 : Nat) (r g : List Int) (B : Nat) (w0 : Wd) (hs : HS) (h1 : Sl B w0 hs o1 r) (h2 : Sl B w0 hs o2 g) :
    Fn Tryd.prog 17 #[bv o1 o2 r.length g.length c1 c2] B w0 hs (fun u hs' => ∃ blk, NewBE (trR r g) (trG r g) (vErr r g) u blk ∧ hs' = blk ++ hs) := by
  refine fn_enter Tryd.func17 rfl Tryd.ntmps17 (by simp) ?_
  repeat' (first | ((with_reducible apply kF 34); refine sC 34 (r_validate o1 o2 c1 c2 r g B w0 _ (h1.sub SBt) (h2.sub SBt)) ?_) | (with_reducible first | refine c_seq ?_ | refine c_reg ?_ | refine c_region ?_ | refine c_block ?_ | refine c_skip ?_ | refine c_exit ?_ | refine c_ret ?_ | refine s_nil ?_ | refine x_then ?_ | refine x_then_exit ?_ | refine x_then_ret ?_ | refine x_block ?_ | refine x_block_ret ?_ | refine x_block_same ?_ | refine x_block_other (by first | rfl | decide) ?_ | refine q_nil ?_ | refine k_nil ?_) | ((with_reducible apply kN); first | refine stP ?_ | refine stI ?_ | refine st1 ?_ | refine stW ?_) | ((with_reducible apply kP (.alloc _)); refine sA (fun b => ?_)) | ((with_reducible apply kP (.box _ _)); first | refine sBA (fun b => ?_) | refine sB (fun b => ?_)) | ((with_reducible apply kP _); refine sP ?_) | ((with_reducible apply kP _); refine sX ?_) | ((with_reducible apply kC); first | refine cT ?_ | refine cF ?_ | (refine cI (fun h => ?_) (fun h => ?_) <;> (try (exfalso; omega))) | refine cB (fun h => ?_) (fun h => ?_)))
  · rename_i h
    rw [trR_bad h, trG_bad h]
    exact e_ret2 (hs' := hs) rfl ⟨_, rfl, ld_two (shTOf rfl) MDt rfl rfl⟩ rfl ⟨[], .none _, rfl⟩ SCt
  have hv : vErr r g = 0 := by omega
  obtain ⟨hr, hg, hn1, hn2, hb1, hb2⟩ := vErr_zero hv
  rw [show trR r g = trm (cn r) from if_pos hv, show trG r g = trm (cn g) from if_pos hv]
  repeat' (first | ((with_reducible apply kF 35); refine sC 35 (r_open o1 o2 c1 c2 r g B w0 _ (h1.sub SBt) (h2.sub SBt) hr hg) ?_) | ((with_reducible apply kF 36); refine sN 36 (r_tie _ _ B w0 _) ?_; rintro u blk ⟨p1, p2, d1, d2, k1, k2, rfl, hr1, hr2, rfl⟩) | (with_reducible first | refine c_seq ?_ | refine c_reg ?_ | refine c_region ?_ | refine c_block ?_ | refine c_skip ?_ | refine c_exit ?_ | refine c_ret ?_ | refine s_nil ?_ | refine x_then ?_ | refine x_then_exit ?_ | refine x_then_ret ?_ | refine x_block ?_ | refine x_block_ret ?_ | refine x_block_same ?_ | refine x_block_other (by first | rfl | decide) ?_ | refine q_nil ?_ | refine k_nil ?_) | ((with_reducible apply kN); first | refine stP ?_ | refine stI ?_ | refine st1 ?_ | refine stW ?_) | ((with_reducible apply kP (.alloc _)); refine sA (fun b => ?_)) | ((with_reducible apply kP (.box _ _)); first | refine sBA (fun b => ?_) | refine sB (fun b => ?_)) | ((with_reducible apply kP _); refine sP ?_) | ((with_reducible apply kP _); refine sX ?_) | ((with_reducible apply kC); first | refine cT ?_ | refine cF ?_ | (refine cI (fun h => ?_) (fun h => ?_) <;> (try (exfalso; omega))) | refine cB (fun h => ?_) (fun h => ?_)))
  rw [hv]
  exact e_ret2 rfl ⟨_, rfl, ld_two (shTOf rfl) MDt rfl rfl⟩ rfl ⟨k2 ++ k1, ⟨p1, p2, d1, d2, k1, k2, rfl, hr1, hr2, rfl⟩, rfl⟩ SCt
theorem lockC_ext {f g f' g' : Nat → Int} (h1 : ∀ i, i < 25 → f i = f' i) (h2 : ∀ i, i < 25 → g i = g' i) : lockC f g = lockC f' g' := tab_ext fun i hi => by
  by_cases h : i % 2 = 0
  · rw [if_pos h, if_pos h]; exact h1 _ (by omega)
  · rw [if_neg h, if_neg h]; exact h2 _ (by omega)
theorem hairC_ext {f g f' g' : Nat → Int} (h1 : ∀ i, i < 25 → f i = f' i) (h2 : ∀ i, i < 25 → g i = g' i) : hairC f g = hairC f' g' := tab_ext fun i hi => by
  by_cases h : i < 25
  · rw [if_pos h, if_pos h]; exact h1 _ h
  · rw [if_neg h, if_neg h]; exact h2 _ (by omega)
def sameF (f g f' g' : Nat → Int) : Prop := ∀ i, i < 25 → f i = f' i ∧ g i = g' i
instance (f g f' g' : Nat → Int) : Decidable (sameF f g f' g') := inferInstanceAs (Decidable (∀ i, i < 25 → f i = f' i ∧ g i = g' i))
theorem lockC_eq {f g f' g' : Nat → Int} : lockC f g = lockC f' g' ↔ sameF f g f' g' := by
  constructor
  · intro h i hi
    have h1 := lockC_r f g hi; have h2 := lockC_w f g hi
    rw [h, lockC_r f' g' hi] at h1
    rw [h, lockC_w f' g' hi] at h2
    exact ⟨h1.symm, h2.symm⟩
  · intro h; exact lockC_ext (fun i hi => (h i hi).1) (fun i hi => (h i hi).2)
theorem hairC_eq {f g f' g' : Nat → Int} : hairC f g = hairC f' g' ↔ sameF f g f' g' := by
  constructor
  · intro h i hi
    have h1 := hairC_r f g hi; have h2 := hairC_w f g hi
    rw [h, hairC_r f' g' hi] at h1
    rw [h, hairC_w f' g' hi] at h2
    exact ⟨h1.symm, h2.symm⟩
  · intro h; exact hairC_ext (fun i hi => (h i hi).1) (fun i hi => (h i hi).2)
/-- The error of a pair. -/
def pErr (r g r' g' : List Int) : Int := if vErr r g = 0 then vErr r' g' else vErr r g
theorem pErr_one {r g r' g' : List Int} (h : ¬ vErr r g = 0) : pErr r g r' g' = vErr r g := if_neg h
theorem pErr_two {r g r' g' : List Int} (h : vErr r g = 0) : pErr r g r' g' = vErr r' g' := if_pos h
theorem pErr_zero {r g r' g' : List Int} (h : pErr r g r' g' = 0) : vErr r g = 0 ∧ vErr r' g' = 0 := by
  by_cases h1 : vErr r g = 0
  · exact ⟨h1, by rwa [pErr_two h1] at h⟩
  · rw [pErr_one h1] at h; exact absurd h h1
def pF (e : Int) (f : Nat → Int) : Nat → Int := if e = 0 then f else fun _ => 0
set_option maxRecDepth 100000 in
set_option maxHeartbeats 8000000 in
theorem h_pair (o1 o2 p1 p2 : Option Addr) (c1 c2 d1 d2 : Nat) (r g r' g' : List Int) (B : Nat) (w0 : Wd) (hs : HS) (h1 : Sl B w0 hs o1 r) (h2 : Sl B w0 hs o2 g) (h3 : Sl B w0 hs p1 r') (h4 : Sl B w0 hs p2 g') :
    Fn Tryd.prog 24 #[bv o1 o2 r.length g.length c1 c2, bv p1 p2 r'.length g'.length d1 d2] B w0 hs
      (fun v hs' => v = .tuple #[lockV (pF (pErr r g r' g') (cn r)) (pF (pErr r g r' g') (cn g)), lockV (pF (pErr r g r' g') (cn r')) (pF (pErr r g r' g') (cn g')), iv (pErr r g r' g')] ∧ hs' = hs) := by
  have hl0 := lockC_length (fun _ => 0) (fun _ => 0)
  refine fn_enter Tryd.func24 rfl Tryd.ntmps24 (by simp) ?_
  repeat' (first | ((with_reducible apply kRg 3); refine cD [1, 0, 0, 3, 3, 1] ?_) | ((with_reducible apply kRg 6); refine cD [1, 0, 0, 3, 3, 1] ?_) | ((with_reducible apply kRg 7); refine cD [1, 3, 0, 4, 4, 4, 1] ?_) | (with_reducible first | refine c_seq ?_ | refine c_reg ?_ | refine c_region ?_ | refine c_block ?_ | refine c_skip ?_ | refine c_exit ?_ | refine c_ret ?_ | refine s_nil ?_ | refine x_then ?_ | refine x_then_exit ?_ | refine x_then_ret ?_ | refine x_block ?_ | refine x_block_ret ?_ | refine x_block_same ?_ | refine x_block_other (by first | rfl | decide) ?_ | refine q_nil ?_ | refine k_nil ?_) | ((with_reducible apply kP (.alloc _)); refine sA (fun b => ?_)) | ((with_reducible apply kP (.box _ _)); first | refine sBA (fun b => ?_) | refine sB (fun b => ?_)) | ((with_reducible apply kP _); refine sP ?_) | ((with_reducible apply kP _); refine sX ?_) | ((with_reducible apply kC); first | refine cT ?_ | refine cF ?_ | (refine cI (fun h => ?_) (fun h => ?_) <;> (try (exfalso; omega))) | refine cB (fun h => ?_) (fun h => ?_)) | ((with_reducible apply kDN); first | refine dtI ?_ | refine dt1 ?_ | refine dtW ?_) | ((with_reducible apply kDP _); refine dP ?_) | ((with_reducible apply kDP _); refine dX ?_))
  rw [zeros_lock]
  repeat' (first | ((with_reducible apply kF 26); refine sC 26 (h_validate o1 o2 c1 c2 r g B w0 _ (h1.sub SBt) (h2.sub SBt)) ?_) | ((with_reducible apply kF 26); refine sC 26 (h_validate p1 p2 d1 d2 r' g' B w0 _ (h3.sub SBt) (h4.sub SBt)) ?_) | ((with_reducible apply kRg 3); refine cD [1, 0, 0, 3, 3, 1] ?_) | ((with_reducible apply kRg 6); refine cD [1, 0, 0, 3, 3, 1] ?_) | ((with_reducible apply kRg 7); refine cD [1, 3, 0, 4, 4, 4, 1] ?_) | (with_reducible first | refine c_seq ?_ | refine c_reg ?_ | refine c_region ?_ | refine c_block ?_ | refine c_skip ?_ | refine c_exit ?_ | refine c_ret ?_ | refine s_nil ?_ | refine x_then ?_ | refine x_then_exit ?_ | refine x_then_ret ?_ | refine x_block ?_ | refine x_block_ret ?_ | refine x_block_same ?_ | refine x_block_other (by first | rfl | decide) ?_ | refine q_nil ?_ | refine k_nil ?_) | ((with_reducible apply kP (.alloc _)); refine sA (fun b => ?_)) | ((with_reducible apply kP (.box _ _)); first | refine sBA (fun b => ?_) | refine sB (fun b => ?_)) | ((with_reducible apply kP _); refine sP ?_) | ((with_reducible apply kP _); refine sX ?_) | ((with_reducible apply kC); first | refine cT ?_ | refine cF ?_ | (refine cI (fun h => ?_) (fun h => ?_) <;> (try (exfalso; omega))) | refine cB (fun h => ?_) (fun h => ?_)) | ((with_reducible apply kDN); first | refine dtI ?_ | refine dt1 ?_ | refine dtW ?_) | ((with_reducible apply kDP _); refine dP ?_) | ((with_reducible apply kDP _); refine dX ?_))
  · have e0 : pErr r g r' g' = vErr r g := pErr_one h
    have e1 : ∀ f, pF (pErr r g r' g') f = fun _ => 0 := fun f => if_neg (by rw [e0]; exact h)
    rw [e1, e1, e1, e1, e0]
    exact e_ret3 rfl ⟨_, rfl, ld_whole (shTOf rfl) MDt (by rw [ivs_length]; exact hl0)⟩ ⟨_, rfl, ld_whole (shTOf rfl) MDt (by rw [ivs_length]; exact hl0)⟩ rfl ⟨rfl, rfl⟩ SCt
  · rename_i h'
    have h' : vErr r g = 0 := by omega
    have e0 : pErr r g r' g' = vErr r' g' := pErr_two h'
    have e1 : ∀ f, pF (pErr r g r' g') f = fun _ => 0 := fun f => if_neg (by rw [e0]; exact h)
    rw [e1, e1, e1, e1, e0]
    exact e_ret3 rfl ⟨_, rfl, ld_whole (shTOf rfl) MDt (by rw [ivs_length]; exact hl0)⟩ ⟨_, rfl, ld_whole (shTOf rfl) MDt (by rw [ivs_length]; exact hl0)⟩ rfl ⟨rfl, rfl⟩ SCt
  · rename_i h'
    have h' : vErr r g = 0 := by omega
    have h : vErr r' g' = 0 := by omega
    obtain ⟨q1, q2, q3, q4, q5, q6⟩ := vErr_zero h'
    obtain ⟨s1, s2, s3, s4, s5, s6⟩ := vErr_zero h
    have e0 : pErr r g r' g' = 0 := by rw [pErr_two h', h]
    have e1 : ∀ f, pF (pErr r g r' g') f = f := fun f => if_pos e0
    rw [e1, e1, e1, e1, e0]
    have hl1 := lockC_length (cn r) (cn g)
    have hl2 := lockC_length (cn r') (cn g')
    repeat' (first | ((with_reducible apply kDF 27); refine dC 27 (fun F => h_open o1 o2 c1 c2 r g B w0 _ (h1.sub (sbA SBt)) (h2.sub (sbA SBt)) q1 q2) ?_) | ((with_reducible apply kDF 27); refine dC 27 (fun F => h_open p1 p2 d1 d2 r' g' B w0 _ (h3.sub (sbA SBt)) (h4.sub (sbA SBt)) s1 s2) ?_) | ((with_reducible apply kRg 3); refine cD [1, 0, 0, 3, 3, 1] ?_) | ((with_reducible apply kRg 6); refine cD [1, 0, 0, 3, 3, 1] ?_) | ((with_reducible apply kRg 7); refine cD [1, 3, 0, 4, 4, 4, 1] ?_) | (with_reducible first | refine c_seq ?_ | refine c_reg ?_ | refine c_region ?_ | refine c_block ?_ | refine c_skip ?_ | refine c_exit ?_ | refine c_ret ?_ | refine s_nil ?_ | refine x_then ?_ | refine x_then_exit ?_ | refine x_then_ret ?_ | refine x_block ?_ | refine x_block_ret ?_ | refine x_block_same ?_ | refine x_block_other (by first | rfl | decide) ?_ | refine q_nil ?_ | refine k_nil ?_) | ((with_reducible apply kP (.alloc _)); refine sA (fun b => ?_)) | ((with_reducible apply kP (.box _ _)); first | refine sBA (fun b => ?_) | refine sB (fun b => ?_)) | ((with_reducible apply kP _); refine sP ?_) | ((with_reducible apply kP _); refine sX ?_) | ((with_reducible apply kC); first | refine cT ?_ | refine cF ?_ | (refine cI (fun h => ?_) (fun h => ?_) <;> (try (exfalso; omega))) | refine cB (fun h => ?_) (fun h => ?_)) | ((with_reducible apply kDN); first | refine dtI ?_ | refine dt1 ?_ | refine dtW ?_) | ((with_reducible apply kDP _); refine dP ?_) | ((with_reducible apply kDP _); refine dX ?_))
    exact e_ret3 rfl ⟨_, rfl, ld_whole (shTOf rfl) MDt (by rw [ivs_length]; exact hl1)⟩ ⟨_, rfl, ld_whole (shTOf rfl) MDt (by rw [ivs_length]; exact hl2)⟩ rfl ⟨rfl, rfl⟩ SCt
/-! ### Hairs are added, and taken, in place -/
def addF (f f' : Nat → Int) : Nat → Int := fun i => f i + f' i
def mixF (f f' : Nat → Int) (k : Nat) : Nat → Int := fun i => if i < k then f i + f' i else f i
theorem mixF_zero (f f' : Nat → Int) : mixF f f' 0 = f := by funext i; simp [mixF]
theorem mixF_succ (f f' : Nat → Int) (k : Nat) : upd (mixF f f' k) k (mixF f f' k k + f' k) = mixF f f' (k + 1) := by
  funext i
  simp only [upd, mixF]
  by_cases h : i = k
  · subst h; simp
  · by_cases h1 : i < k
    · rw [if_neg h, if_pos h1, if_pos (by omega)]
    · rw [if_neg h, if_neg h1, if_neg (by omega)]
theorem mixF_at (f f' : Nat → Int) (k : Nat) : mixF f f' k k = f k := by simp [mixF]
theorem mixF_all (f f' : Nat → Int) {i : Nat} (h : i < 25) : mixF f f' 25 i = addF f f' i := by simp [mixF, addF, h]
def Okh (f : Nat → Int) : Prop := ∀ i, i < 25 → 0 ≤ f i ∧ f i ≤ 1000000
theorem okh_cn {l : List Int} (h1 : negA l = false) (h2 : bigA l = false) : Okh (cn l) := fun i _ => by
  unfold cn
  split
  · omega
  · have := negA_no h1 (i := i - 1); have := bigA_no h2 (i := i - 1); omega
theorem okf_add {f f' : Nat → Int} (h1 : Okh f) (h2 : Okh f') : Okf (addF f f') := fun i hi => by
  have := h1 i hi; have := h2 i hi; unfold addF; omega
/-- What Mix returns. -/
def mxR (r g r' g' : List Int) : List Int := if pErr r g r' g' = 0 then tieR (addF (cn r) (cn r')) (addF (cn g) (cn g')) else []
def mxG (r g r' g' : List Int) : List Int := if pErr r g r' g' = 0 then tieG (addF (cn r) (cn r')) (addF (cn g) (cn g')) else []
def mxE (r g r' g' : List Int) : Int := if pErr r g r' g' = 0 then tieE (addF (cn r) (cn r')) (addF (cn g) (cn g')) else pErr r g r' g'
set_option maxRecDepth 100000 in
set_option maxHeartbeats 8000000 in
theorem h_Same (o1 o2 p1 p2 : Option Addr) (c1 c2 d1 d2 : Nat) (r g r' g' : List Int) (B : Nat) (w0 : Wd) (hs : HS) (h1 : Sl B w0 hs o1 r) (h2 : Sl B w0 hs o2 g) (h3 : Sl B w0 hs p1 r') (h4 : Sl B w0 hs p2 g') :
    Fn Tryd.prog 11 #[bv o1 o2 r.length g.length c1 c2, bv p1 p2 r'.length g'.length d1 d2] B w0 hs (fun v hs' => v = .tuple #[.bool (decide (pErr r g r' g' = 0 ∧ sameF (cn r) (cn g) (cn r') (cn g'))), iv (pErr r g r' g')] ∧ hs' = hs) := by
  have hP := fun hs a b c d => h_pair o1 o2 p1 p2 c1 c2 d1 d2 r g r' g' B w0 hs a b c d
  have hl1 := lockC_length (pF (pErr r g r' g') (cn r)) (pF (pErr r g r' g') (cn g))
  have hl2 := lockC_length (pF (pErr r g r' g') (cn r')) (pF (pErr r g r' g') (cn g'))
  refine fn_enter Tryd.func11 rfl Tryd.ntmps11 (by simp) ?_
  repeat' (first | ((with_reducible apply kF 24); refine sC 24 (hP _ (h1.sub SBt) (h2.sub SBt) (h3.sub SBt) (h4.sub SBt)) ?_) | (with_reducible first | refine c_seq ?_ | refine c_reg ?_ | refine c_region ?_ | refine c_block ?_ | refine c_skip ?_ | refine c_exit ?_ | refine c_ret ?_ | refine s_nil ?_ | refine x_then ?_ | refine x_then_exit ?_ | refine x_then_ret ?_ | refine x_block ?_ | refine x_block_ret ?_ | refine x_block_same ?_ | refine x_block_other (by first | rfl | decide) ?_ | refine q_nil ?_ | refine k_nil ?_) | ((with_reducible apply kG); first | refine gY1 ?_ | refine gN1 ?_ | refine gU1 ?_ | (refine gD1 (fun h => ?_) (fun h => ?_) <;> (try (exfalso; omega))) | refine gB1 (fun h => ?_) (fun h => ?_)) | ((with_reducible apply kN); first | refine stP ?_ | refine stI ?_ | refine st1 ?_ | refine stW ?_) | ((with_reducible apply kP (.alloc _)); refine sA (fun b => ?_)) | ((with_reducible apply kP (.box _ _)); first | refine sBA (fun b => ?_) | refine sB (fun b => ?_)) | ((with_reducible apply kP _); refine sP ?_) | ((with_reducible apply kP _); refine sX ?_) | ((with_reducible apply kC); first | refine cT ?_ | refine cF ?_ | (refine cI (fun h => ?_) (fun h => ?_) <;> (try (exfalso; omega))) | refine cB (fun h => ?_) (fun h => ?_)))
  · rename_i h
    refine e_ret2 rfl rfl rfl ⟨?_, rfl⟩ SCt
    have e1 : ∀ f, pF (pErr r g r' g') f = f := fun f => if_pos h
    rw [e1, e1, e1, e1]
    congr 2
    exact congrArg (fun b => [Value.bool b, iv (pErr r g r' g')]) (decide_eq_decide.2 ⟨fun hh => ⟨h, lockC_eq.1 hh⟩, fun hh => lockC_eq.2 hh.2⟩)
  · rename_i h
    refine e_ret2 rfl rfl rfl ⟨?_, rfl⟩ SCt
    rw [decide_eq_false (fun hh => h hh.1)]
    rfl
/-! ### The reference's -/
end Go.Proofs.YtmblgbcipniecaaDoor
