/- What hair's and its reference's inner functions yield: validity, opened bundles, sums. -/
import Derived.Test.YtiopaodiaokfdaaWalk
namespace Go.Proofs.Ytiopaodiaokfdaa
open Go.RowKit

/-! ### The hairs of a bundle, by length -/
def negA (l : List Int) : Bool := l.any (fun x => decide (x < 0))
def bigA (l : List Int) : Bool := l.any (fun x => decide (1000000 < x))
/-- The error of a bundle. -/
def vErr (r g : List Int) : Int := if 24 < r.length ∨ 24 < g.length then 4 else if negA (r ++ g) then 1 else if bigA (r ++ g) then 4 else 0
/-- How many hairs of the length i a list has. -/
def cn (l : List Int) (i : Nat) : Int := if i = 0 then 0 else l.getD (i - 1) 0
/-- The cells of hair's lock, and of the reference's hairs. -/
def lockC (f h : Nat → Int) : List Int := tab 50 (fun i => if i % 2 = 0 then f (i / 2) else h (i / 2))
def hairC (f h : Nat → Int) : List Int := tab 50 (fun i => if i < 25 then f i else h (i - 25))
def lockV (f h : Nat → Int) : Value := .agg (ivs (lockC f h)).toArray
def hairV (f h : Nat → Int) : Value := .agg (ivs (hairC f h)).toArray
theorem lockC_length (f h : Nat → Int) : (lockC f h).length = 50 := tab_length _ _
theorem hairC_length (f h : Nat → Int) : (hairC f h).length = 50 := tab_length _ _
theorem lockC_r (f h : Nat → Int) {i : Nat} (hi : i < 25) : (lockC f h).getD (i * 2) 0 = f i := by
  unfold lockC
  rw [tab_getD _ (by omega), if_pos (by omega)]
  congr 1; omega
theorem lockC_w (f h : Nat → Int) {i : Nat} (hi : i < 25) : (lockC f h).getD (i * 2 + 1) 0 = h i := by
  unfold lockC
  rw [tab_getD _ (by omega), if_neg (by omega)]
  congr 1; omega
theorem hairC_r (f h : Nat → Int) {i : Nat} (hi : i < 25) : (hairC f h).getD i 0 = f i := by
  unfold hairC
  rw [tab_getD _ (by omega), if_pos hi]
theorem hairC_w (f h : Nat → Int) {i : Nat} (hi : i < 25) : (hairC f h).getD (25 + i) 0 = h i := by
  unfold hairC
  rw [tab_getD _ (by omega), if_neg (by omega)]
  congr 1; omega
def upd (f : Nat → Int) (k : Nat) (x : Int) : Nat → Int := fun i => if i = k then x else f i
theorem upd_same (f : Nat → Int) (k : Nat) (x : Int) : upd f k x k = x := by simp [upd]
theorem upd_ne (f : Nat → Int) {k i : Nat} (x : Int) (h : i ≠ k) : upd f k x i = f i := by simp [upd, h]
theorem lockC_set_r (f h : Nat → Int) (k : Nat) (x : Int) : (lockC f h).set (k * 2) x = lockC (upd f k x) h := by
  unfold lockC
  rw [tab_set]
  refine tab_ext fun i hi => ?_
  simp only [upd]
  by_cases h2 : i % 2 = 0
  · by_cases h1 : i = k * 2
    · simp [h1]
    · have : i / 2 ≠ k := by omega
      simp [h2, h1, this]
  · have : i ≠ k * 2 := by omega
    simp [h2, this]
theorem lockC_set_w (f h : Nat → Int) (k : Nat) (x : Int) : (lockC f h).set (k * 2 + 1) x = lockC f (upd h k x) := by
  unfold lockC
  rw [tab_set]
  refine tab_ext fun i hi => ?_
  simp only [upd]
  by_cases h2 : i % 2 = 0
  · have : i ≠ k * 2 + 1 := by omega
    simp [h2, this]
  · by_cases h1 : i = k * 2 + 1
    · have : (k * 2 + 1) / 2 = k := by omega
      simp [h1, this]
    · have : i / 2 ≠ k := by omega
      simp [h2, h1, this]
theorem hairC_set_r (f h : Nat → Int) {k : Nat} (hk : k < 25) (x : Int) : (hairC f h).set k x = hairC (upd f k x) h := by
  unfold hairC
  rw [tab_set]
  refine tab_ext fun i hi => ?_
  simp only [upd]
  by_cases h2 : i < 25
  · by_cases h1 : i = k <;> simp [h2, h1, hk]
  · have : i ≠ k := by omega
    simp [h2, this]
theorem hairC_set_w (f h : Nat → Int) (k : Nat) (x : Int) : (hairC f h).set (25 + k) x = hairC f (upd h k x) := by
  unfold hairC
  rw [tab_set]
  refine tab_ext fun i hi => ?_
  simp only [upd]
  by_cases h2 : i < 25
  · have : i ≠ 25 + k := by omega
    simp [h2, this]
  · by_cases h1 : i = 25 + k
    · have : 25 + k - 25 = k := by omega
      have h3 : ¬ 25 + k < 25 := by omega
      simp [h1, this, h3]
    · have : i - 25 ≠ k := by omega
      simp [h2, h1, this]
/-- The sum of all lengths; how many hairs have at least a length. -/
def inc (f h : Nat → Int) : Int := sumTo (fun i => i * (f i + h i)) 25
def cnt (f h : Nat → Int) (len : Int) : Int := sumTo (fun i => if 1 ≤ i ∧ len ≤ i then f i + h i else 0) 25
/-- Each number is from 0 to 10^7. -/
def Okf (f : Nat → Int) : Prop := ∀ i, i < 25 → 0 ≤ f i ∧ f i ≤ 10000000

theorem inc_to (f h : Nat → Int) (hf : Okf f) (hh : Okf h) (k : Nat) (hk : k ≤ 25) : 0 ≤ sumTo (fun i => i * (f i + h i)) k ∧ sumTo (fun i => i * (f i + h i)) k ≤ k * 500000000 := by
  have key : ∀ i : Nat, i < 25 → 0 ≤ (i : Int) * (f i + h i) ∧ (i : Int) * (f i + h i) ≤ 500000000 := fun i hi => by
    have h1 := hf i hi; have h2 := hh i hi
    have h3 : (i : Int) * (f i + h i) ≤ 25 * (f i + h i) := Int.mul_le_mul_of_nonneg_right (by omega) (by omega)
    exact ⟨Int.mul_nonneg (by omega) (by omega), by omega⟩
  exact ⟨sumTo_nonneg k (fun i hi => (key i (by omega)).1), sumTo_le k (fun i hi => (key i (by omega)).2)⟩
theorem inc_at (f h : Nat → Int) (hf : Okf f) (hh : Okf h) (k : Nat) (hk : k < 25) : 0 ≤ (k : Int) * (f k + h k) ∧ (k : Int) * (f k + h k) ≤ 500000000 := by
  have h1 := hf k hk; have h2 := hh k hk
  have h3 : (k : Int) * (f k + h k) ≤ 25 * (f k + h k) := Int.mul_le_mul_of_nonneg_right (by omega) (by omega)
  exact ⟨Int.mul_nonneg (by omega) (by omega), by omega⟩
theorem cnt_to (f h : Nat → Int) (len : Int) (hf : Okf f) (hh : Okf h) (k : Nat) (hk : k ≤ 25) : 0 ≤ sumTo (fun i => if 1 ≤ i ∧ len ≤ i then f i + h i else 0) k ∧ sumTo (fun i => if 1 ≤ i ∧ len ≤ i then f i + h i else 0) k ≤ k * 20000000 := by
  have key : ∀ i : Nat, i < 25 → 0 ≤ (if 1 ≤ i ∧ len ≤ i then f i + h i else 0) ∧ (if 1 ≤ i ∧ len ≤ i then f i + h i else 0) ≤ 20000000 := fun i hi => by
    have h1 := hf i hi; have h2 := hh i hi
    split <;> omega
  exact ⟨sumTo_nonneg k (fun i hi => (key i (by omega)).1), sumTo_le k (fun i hi => (key i (by omega)).2)⟩

/-! ### Sums -/
set_option maxRecDepth 100000 in
set_option maxHeartbeats 8000000 in
theorem h_inches (f h : Nat → Int) (hf : Okf f) (hh : Okf h) (B : Nat) (w0 : World) (hs : HS) :
    Fn Try.prog 66 #[lockV f h] B w0 hs (fun v hs' => v = iv (inc f h) ∧ hs' = hs) := by
  have hl := lockC_length f h
  refine fn_enter Try.func66 rfl Try.ntmps66 (by simp) ?_
  repeat' (first | (with_reducible first | refine c_seq ?_ | refine c_reg ?_ | refine c_region ?_ | refine c_block ?_ | refine c_skip ?_ | refine c_exit ?_ | refine c_ret ?_ | refine s_nil ?_ | refine x_then ?_ | refine x_then_exit ?_ | refine x_then_ret ?_ | refine x_block ?_ | refine x_block_ret ?_ | refine x_block_same ?_ | refine x_block_other (by rfl) ?_ | refine q_nil ?_ | refine k_nil ?_) | ((with_reducible apply kP (.makeFunc _ _ _)); refine sMF ?_) | ((with_reducible apply kG); first | refine gY1 ?_ | refine gN1 ?_ | refine gU1 ?_ | (refine gD1 (fun h => ?_) (fun h => ?_) <;> (try (exfalso; omega))) | refine gB1 (fun h => ?_) (fun h => ?_)) | ((with_reducible apply kN); first | refine stP ?_ | refine stI ?_ | refine st1 ?_ | refine stW ?_) | ((with_reducible apply kP (.alloc _)); refine sA (fun b => ?_)) | ((with_reducible apply kP (.box _ _)); first | refine sBA (fun b => ?_) | refine sB (fun b => ?_)) | ((with_reducible apply kP (.buildSlice _ 1 _)); first | refine sl1A (fun b => ?_) | refine sl1 (fun b => ?_)) | ((with_reducible apply kP (.buildSlice _ 2 _)); refine sl2 (fun b => ?_)) | ((with_reducible apply kP (.buildSlice _ 3 _)); refine sl3 (fun b => ?_)) | ((with_reducible apply kP (.buildSlice _ 4 _)); refine sl4 (fun b => ?_)) | ((with_reducible apply kP (.buildSlice _ 0 _)); refine s_bs0 (scTOf rfl) (zsTOf rfl) (by decide) (fun b => ?_)) | ((with_reducible apply kP (.makeSlice _ _ _)); refine sMk (fun b => ?_)) | ((with_reducible apply kP (.call ⟨.builtin .append, _, _⟩)); refine sAp (fun oa2 c2 blk2 hrow2 => ?_)) | ((with_reducible apply kP _); refine sP ?_) | ((with_reducible apply kP _); refine sX ?_) | ((with_reducible apply kQG); first | refine qY1 ?_ | refine qN1 ?_ | refine qU1 ?_ | (refine qD1 (fun h => ?_) (fun h => ?_) <;> (try (exfalso; omega))) | refine qB1 (fun h => ?_) (fun h => ?_)) | ((with_reducible apply kQP); refine qP ?_) | ((with_reducible apply kQP); refine qX ?_) | ((with_reducible apply kC); first | refine cT ?_ | refine cF ?_ | (refine cI (fun h => ?_) (fun h => ?_) <;> (try (exfalso; omega))) | refine cB (fun h => ?_) (fun h => ?_)) | ((with_reducible apply kR); refine cQ ?_))
  refine c_loop (fun k : Nat => [(3, iv (sumTo (fun i => i * (f i + h i)) k)), (7, iv k), (6, lockV f h)]) (fun _ => hs) (fun k => k ≤ 25) (fun k => 25 - k) 0 (by simp) (by repeat' first | trivial | rfl | apply And.intro) (by simp) ?_
  intro k hk
  by_cases hk' : k < 25
  · have hb1 := inc_to f h hf hh k hk
    have hb2 := inc_at f h hf hh k hk'
    have h1 := hf k hk'; have h2 := hh k hk'
    have e1 := lockC_r f h hk'; have e2 := lockC_w f h hk'
    rw [← e1, ← e2] at hb2
    repeat' (first | (with_reducible first | refine c_seq ?_ | refine c_reg ?_ | refine c_region ?_ | refine c_block ?_ | refine c_skip ?_ | refine c_exit ?_ | refine c_ret ?_ | refine s_nil ?_ | refine x_then ?_ | refine x_then_exit ?_ | refine x_then_ret ?_ | refine x_block ?_ | refine x_block_ret ?_ | refine x_block_same ?_ | refine x_block_other (by rfl) ?_ | refine q_nil ?_ | refine k_nil ?_) | ((with_reducible apply kP (.makeFunc _ _ _)); refine sMF ?_) | ((with_reducible apply kG); first | refine gY1 ?_ | refine gN1 ?_ | refine gU1 ?_ | (refine gD1 (fun h => ?_) (fun h => ?_) <;> (try (exfalso; omega))) | refine gB1 (fun h => ?_) (fun h => ?_)) | ((with_reducible apply kN); first | refine stP ?_ | refine stI ?_ | refine st1 ?_ | refine stW ?_) | ((with_reducible apply kP (.alloc _)); refine sA (fun b => ?_)) | ((with_reducible apply kP (.box _ _)); first | refine sBA (fun b => ?_) | refine sB (fun b => ?_)) | ((with_reducible apply kP (.buildSlice _ 1 _)); first | refine sl1A (fun b => ?_) | refine sl1 (fun b => ?_)) | ((with_reducible apply kP (.buildSlice _ 2 _)); refine sl2 (fun b => ?_)) | ((with_reducible apply kP (.buildSlice _ 3 _)); refine sl3 (fun b => ?_)) | ((with_reducible apply kP (.buildSlice _ 4 _)); refine sl4 (fun b => ?_)) | ((with_reducible apply kP (.buildSlice _ 0 _)); refine s_bs0 (scTOf rfl) (zsTOf rfl) (by decide) (fun b => ?_)) | ((with_reducible apply kP (.makeSlice _ _ _)); refine sMk (fun b => ?_)) | ((with_reducible apply kP (.call ⟨.builtin .append, _, _⟩)); refine sAp (fun oa2 c2 blk2 hrow2 => ?_)) | ((with_reducible apply kP _); refine sP ?_) | ((with_reducible apply kP _); refine sX ?_) | ((with_reducible apply kQG); first | refine qY1 ?_ | refine qN1 ?_ | refine qU1 ?_ | (refine qD1 (fun h => ?_) (fun h => ?_) <;> (try (exfalso; omega))) | refine qB1 (fun h => ?_) (fun h => ?_)) | ((with_reducible apply kQP); refine qP ?_) | ((with_reducible apply kQP); refine qX ?_) | ((with_reducible apply kC); first | refine cT ?_ | refine cF ?_ | (refine cI (fun h => ?_) (fun h => ?_) <;> (try (exfalso; omega))) | refine cB (fun h => ?_) (fun h => ?_)) | ((with_reducible apply kR); refine cQ ?_))
    refine r_end (k + 1) (by omega) (by omega) ⟨?_, rfl, rfl, trivial⟩ (by simp)
    show some (iv _) = some (iv _)
    rw [sumTo_succ, ← e1, ← e2]
  · obtain rfl : k = 25 := by omega
    repeat' (first | (with_reducible first | refine c_seq ?_ | refine c_reg ?_ | refine c_region ?_ | refine c_block ?_ | refine c_skip ?_ | refine c_exit ?_ | refine c_ret ?_ | refine s_nil ?_ | refine x_then ?_ | refine x_then_exit ?_ | refine x_then_ret ?_ | refine x_block ?_ | refine x_block_ret ?_ | refine x_block_same ?_ | refine x_block_other (by rfl) ?_ | refine q_nil ?_ | refine k_nil ?_) | ((with_reducible apply kP (.makeFunc _ _ _)); refine sMF ?_) | ((with_reducible apply kG); first | refine gY1 ?_ | refine gN1 ?_ | refine gU1 ?_ | (refine gD1 (fun h => ?_) (fun h => ?_) <;> (try (exfalso; omega))) | refine gB1 (fun h => ?_) (fun h => ?_)) | ((with_reducible apply kN); first | refine stP ?_ | refine stI ?_ | refine st1 ?_ | refine stW ?_) | ((with_reducible apply kP (.alloc _)); refine sA (fun b => ?_)) | ((with_reducible apply kP (.box _ _)); first | refine sBA (fun b => ?_) | refine sB (fun b => ?_)) | ((with_reducible apply kP (.buildSlice _ 1 _)); first | refine sl1A (fun b => ?_) | refine sl1 (fun b => ?_)) | ((with_reducible apply kP (.buildSlice _ 2 _)); refine sl2 (fun b => ?_)) | ((with_reducible apply kP (.buildSlice _ 3 _)); refine sl3 (fun b => ?_)) | ((with_reducible apply kP (.buildSlice _ 4 _)); refine sl4 (fun b => ?_)) | ((with_reducible apply kP (.buildSlice _ 0 _)); refine s_bs0 (scTOf rfl) (zsTOf rfl) (by decide) (fun b => ?_)) | ((with_reducible apply kP (.makeSlice _ _ _)); refine sMk (fun b => ?_)) | ((with_reducible apply kP (.call ⟨.builtin .append, _, _⟩)); refine sAp (fun oa2 c2 blk2 hrow2 => ?_)) | ((with_reducible apply kP _); refine sP ?_) | ((with_reducible apply kP _); refine sX ?_) | ((with_reducible apply kQG); first | refine qY1 ?_ | refine qN1 ?_ | refine qU1 ?_ | (refine qD1 (fun h => ?_) (fun h => ?_) <;> (try (exfalso; omega))) | refine qB1 (fun h => ?_) (fun h => ?_)) | ((with_reducible apply kQP); refine qP ?_) | ((with_reducible apply kQP); refine qX ?_) | ((with_reducible apply kC); first | refine cT ?_ | refine cF ?_ | (refine cI (fun h => ?_) (fun h => ?_) <;> (try (exfalso; omega))) | refine cB (fun h => ?_) (fun h => ?_)) | ((with_reducible apply kR); refine cQ ?_))
    exact e_ret1 rfl rfl ⟨rfl, rfl⟩ (by simp)

set_option maxRecDepth 100000 in
set_option maxHeartbeats 8000000 in
theorem r_inches (f h : Nat → Int) (hf : Okf f) (hh : Okf h) (B : Nat) (w0 : World) (hs : HS) :
    Fn Try.prog 68 #[hairV f h] B w0 hs (fun v hs' => v = iv (inc f h) ∧ hs' = hs) := by
  have hl := hairC_length f h
  refine fn_enter Try.func68 rfl Try.ntmps68 (by simp) ?_
  repeat' (first | (with_reducible first | refine c_seq ?_ | refine c_reg ?_ | refine c_region ?_ | refine c_block ?_ | refine c_skip ?_ | refine c_exit ?_ | refine c_ret ?_ | refine s_nil ?_ | refine x_then ?_ | refine x_then_exit ?_ | refine x_then_ret ?_ | refine x_block ?_ | refine x_block_ret ?_ | refine x_block_same ?_ | refine x_block_other (by rfl) ?_ | refine q_nil ?_ | refine k_nil ?_) | ((with_reducible apply kP (.makeFunc _ _ _)); refine sMF ?_) | ((with_reducible apply kG); first | refine gY1 ?_ | refine gN1 ?_ | refine gU1 ?_ | (refine gD1 (fun h => ?_) (fun h => ?_) <;> (try (exfalso; omega))) | refine gB1 (fun h => ?_) (fun h => ?_)) | ((with_reducible apply kN); first | refine stP ?_ | refine stI ?_ | refine st1 ?_ | refine stW ?_) | ((with_reducible apply kP (.alloc _)); refine sA (fun b => ?_)) | ((with_reducible apply kP (.box _ _)); first | refine sBA (fun b => ?_) | refine sB (fun b => ?_)) | ((with_reducible apply kP (.buildSlice _ 1 _)); first | refine sl1A (fun b => ?_) | refine sl1 (fun b => ?_)) | ((with_reducible apply kP (.buildSlice _ 2 _)); refine sl2 (fun b => ?_)) | ((with_reducible apply kP (.buildSlice _ 3 _)); refine sl3 (fun b => ?_)) | ((with_reducible apply kP (.buildSlice _ 4 _)); refine sl4 (fun b => ?_)) | ((with_reducible apply kP (.buildSlice _ 0 _)); refine s_bs0 (scTOf rfl) (zsTOf rfl) (by decide) (fun b => ?_)) | ((with_reducible apply kP (.makeSlice _ _ _)); refine sMk (fun b => ?_)) | ((with_reducible apply kP (.call ⟨.builtin .append, _, _⟩)); refine sAp (fun oa2 c2 blk2 hrow2 => ?_)) | ((with_reducible apply kP _); refine sP ?_) | ((with_reducible apply kP _); refine sX ?_) | ((with_reducible apply kQG); first | refine qY1 ?_ | refine qN1 ?_ | refine qU1 ?_ | (refine qD1 (fun h => ?_) (fun h => ?_) <;> (try (exfalso; omega))) | refine qB1 (fun h => ?_) (fun h => ?_)) | ((with_reducible apply kQP); refine qP ?_) | ((with_reducible apply kQP); refine qX ?_) | ((with_reducible apply kC); first | refine cT ?_ | refine cF ?_ | (refine cI (fun h => ?_) (fun h => ?_) <;> (try (exfalso; omega))) | refine cB (fun h => ?_) (fun h => ?_)) | ((with_reducible apply kR); refine cQ ?_))
  refine c_loop (fun k : Nat => [(3, iv (sumTo (fun i => i * (f i + h i)) k)), (4, iv k), (1, .pointer (some ⟨b, 0, none⟩))]) (fun _ => (b, ivs (hairC f h)) :: hs) (fun k => 1 ≤ k ∧ k ≤ 25) (fun k => 25 - k) 1 (by simp) ⟨by simp [sumTo]; rfl, rfl, rfl, trivial⟩ sb0 ?_
  rintro k ⟨hk0, hk⟩
  by_cases hk' : k < 25
  · have hb1 := inc_to f h hf hh k hk
    have hb2 := inc_at f h hf hh k hk'
    have h1 := hf k hk'; have h2 := hh k hk'
    have e1 := hairC_r f h hk'; have e2 := hairC_w f h hk'
    rw [← e1, ← e2] at hb2
    repeat' (first | (with_reducible first | refine c_seq ?_ | refine c_reg ?_ | refine c_region ?_ | refine c_block ?_ | refine c_skip ?_ | refine c_exit ?_ | refine c_ret ?_ | refine s_nil ?_ | refine x_then ?_ | refine x_then_exit ?_ | refine x_then_ret ?_ | refine x_block ?_ | refine x_block_ret ?_ | refine x_block_same ?_ | refine x_block_other (by rfl) ?_ | refine q_nil ?_ | refine k_nil ?_) | ((with_reducible apply kP (.makeFunc _ _ _)); refine sMF ?_) | ((with_reducible apply kG); first | refine gY1 ?_ | refine gN1 ?_ | refine gU1 ?_ | (refine gD1 (fun h => ?_) (fun h => ?_) <;> (try (exfalso; omega))) | refine gB1 (fun h => ?_) (fun h => ?_)) | ((with_reducible apply kN); first | refine stP ?_ | refine stI ?_ | refine st1 ?_ | refine stW ?_) | ((with_reducible apply kP (.alloc _)); refine sA (fun b => ?_)) | ((with_reducible apply kP (.box _ _)); first | refine sBA (fun b => ?_) | refine sB (fun b => ?_)) | ((with_reducible apply kP (.buildSlice _ 1 _)); first | refine sl1A (fun b => ?_) | refine sl1 (fun b => ?_)) | ((with_reducible apply kP (.buildSlice _ 2 _)); refine sl2 (fun b => ?_)) | ((with_reducible apply kP (.buildSlice _ 3 _)); refine sl3 (fun b => ?_)) | ((with_reducible apply kP (.buildSlice _ 4 _)); refine sl4 (fun b => ?_)) | ((with_reducible apply kP (.buildSlice _ 0 _)); refine s_bs0 (scTOf rfl) (zsTOf rfl) (by decide) (fun b => ?_)) | ((with_reducible apply kP (.makeSlice _ _ _)); refine sMk (fun b => ?_)) | ((with_reducible apply kP (.call ⟨.builtin .append, _, _⟩)); refine sAp (fun oa2 c2 blk2 hrow2 => ?_)) | ((with_reducible apply kP _); refine sP ?_) | ((with_reducible apply kP _); refine sX ?_) | ((with_reducible apply kQG); first | refine qY1 ?_ | refine qN1 ?_ | refine qU1 ?_ | (refine qD1 (fun h => ?_) (fun h => ?_) <;> (try (exfalso; omega))) | refine qB1 (fun h => ?_) (fun h => ?_)) | ((with_reducible apply kQP); refine qP ?_) | ((with_reducible apply kQP); refine qX ?_) | ((with_reducible apply kC); first | refine cT ?_ | refine cF ?_ | (refine cI (fun h => ?_) (fun h => ?_) <;> (try (exfalso; omega))) | refine cB (fun h => ?_) (fun h => ?_)) | ((with_reducible apply kR); refine cQ ?_))
    refine r_end (k + 1) (by omega) (by omega) ⟨?_, rfl, rfl, trivial⟩ sb0
    show some (iv _) = some (iv _)
    rw [sumTo_succ, ← e1, ← e2]
  · obtain rfl : k = 25 := by omega
    repeat' (first | (with_reducible first | refine c_seq ?_ | refine c_reg ?_ | refine c_region ?_ | refine c_block ?_ | refine c_skip ?_ | refine c_exit ?_ | refine c_ret ?_ | refine s_nil ?_ | refine x_then ?_ | refine x_then_exit ?_ | refine x_then_ret ?_ | refine x_block ?_ | refine x_block_ret ?_ | refine x_block_same ?_ | refine x_block_other (by rfl) ?_ | refine q_nil ?_ | refine k_nil ?_) | ((with_reducible apply kP (.makeFunc _ _ _)); refine sMF ?_) | ((with_reducible apply kG); first | refine gY1 ?_ | refine gN1 ?_ | refine gU1 ?_ | (refine gD1 (fun h => ?_) (fun h => ?_) <;> (try (exfalso; omega))) | refine gB1 (fun h => ?_) (fun h => ?_)) | ((with_reducible apply kN); first | refine stP ?_ | refine stI ?_ | refine st1 ?_ | refine stW ?_) | ((with_reducible apply kP (.alloc _)); refine sA (fun b => ?_)) | ((with_reducible apply kP (.box _ _)); first | refine sBA (fun b => ?_) | refine sB (fun b => ?_)) | ((with_reducible apply kP (.buildSlice _ 1 _)); first | refine sl1A (fun b => ?_) | refine sl1 (fun b => ?_)) | ((with_reducible apply kP (.buildSlice _ 2 _)); refine sl2 (fun b => ?_)) | ((with_reducible apply kP (.buildSlice _ 3 _)); refine sl3 (fun b => ?_)) | ((with_reducible apply kP (.buildSlice _ 4 _)); refine sl4 (fun b => ?_)) | ((with_reducible apply kP (.buildSlice _ 0 _)); refine s_bs0 (scTOf rfl) (zsTOf rfl) (by decide) (fun b => ?_)) | ((with_reducible apply kP (.makeSlice _ _ _)); refine sMk (fun b => ?_)) | ((with_reducible apply kP (.call ⟨.builtin .append, _, _⟩)); refine sAp (fun oa2 c2 blk2 hrow2 => ?_)) | ((with_reducible apply kP _); refine sP ?_) | ((with_reducible apply kP _); refine sX ?_) | ((with_reducible apply kQG); first | refine qY1 ?_ | refine qN1 ?_ | refine qU1 ?_ | (refine qD1 (fun h => ?_) (fun h => ?_) <;> (try (exfalso; omega))) | refine qB1 (fun h => ?_) (fun h => ?_)) | ((with_reducible apply kQP); refine qP ?_) | ((with_reducible apply kQP); refine qX ?_) | ((with_reducible apply kC); first | refine cT ?_ | refine cF ?_ | (refine cI (fun h => ?_) (fun h => ?_) <;> (try (exfalso; omega))) | refine cB (fun h => ?_) (fun h => ?_)) | ((with_reducible apply kR); refine cQ ?_))
    exact e_ret1 rfl rfl ⟨rfl, rfl⟩ (by simp)

theorem cnt_skip (f h : Nat → Int) (len : Int) (k : Nat) (hk : (k : Int) ≤ max 1 len) : sumTo (fun i => if 1 ≤ i ∧ len ≤ i then f i + h i else 0) k = 0 :=
  sumTo_zero k (fun i hi => if_neg (by omega))
set_option maxRecDepth 100000 in
set_option maxHeartbeats 8000000 in
theorem h_count (f h : Nat → Int) (len : Int) (hf : Okf f) (hh : Okf h) (B : Nat) (w0 : World) (hs : HS) :
    Fn Try.prog 69 #[lockV f h, iv len] B w0 hs (fun v hs' => v = iv (cnt f h len) ∧ hs' = hs) := by
  have hl := lockC_length f h
  refine fn_enter Try.func69 rfl Try.ntmps69 (by simp) ?_
  repeat' (first | (with_reducible first | refine c_seq ?_ | refine c_reg ?_ | refine c_region ?_ | refine c_block ?_ | refine c_skip ?_ | refine c_exit ?_ | refine c_ret ?_ | refine s_nil ?_ | refine x_then ?_ | refine x_then_exit ?_ | refine x_then_ret ?_ | refine x_block ?_ | refine x_block_ret ?_ | refine x_block_same ?_ | refine x_block_other (by rfl) ?_ | refine q_nil ?_ | refine k_nil ?_) | ((with_reducible apply kP (.makeFunc _ _ _)); refine sMF ?_) | ((with_reducible apply kG); first | refine gY1 ?_ | refine gN1 ?_ | refine gU1 ?_ | (refine gD1 (fun h => ?_) (fun h => ?_) <;> (try (exfalso; omega))) | refine gB1 (fun h => ?_) (fun h => ?_)) | ((with_reducible apply kN); first | refine stP ?_ | refine stI ?_ | refine st1 ?_ | refine stW ?_) | ((with_reducible apply kP (.alloc _)); refine sA (fun b => ?_)) | ((with_reducible apply kP (.box _ _)); first | refine sBA (fun b => ?_) | refine sB (fun b => ?_)) | ((with_reducible apply kP (.buildSlice _ 1 _)); first | refine sl1A (fun b => ?_) | refine sl1 (fun b => ?_)) | ((with_reducible apply kP (.buildSlice _ 2 _)); refine sl2 (fun b => ?_)) | ((with_reducible apply kP (.buildSlice _ 3 _)); refine sl3 (fun b => ?_)) | ((with_reducible apply kP (.buildSlice _ 4 _)); refine sl4 (fun b => ?_)) | ((with_reducible apply kP (.buildSlice _ 0 _)); refine s_bs0 (scTOf rfl) (zsTOf rfl) (by decide) (fun b => ?_)) | ((with_reducible apply kP (.makeSlice _ _ _)); refine sMk (fun b => ?_)) | ((with_reducible apply kP (.call ⟨.builtin .append, _, _⟩)); refine sAp (fun oa2 c2 blk2 hrow2 => ?_)) | ((with_reducible apply kP _); refine sP ?_) | ((with_reducible apply kP _); refine sX ?_) | ((with_reducible apply kQG); first | refine qY1 ?_ | refine qN1 ?_ | refine qU1 ?_ | (refine qD1 (fun h => ?_) (fun h => ?_) <;> (try (exfalso; omega))) | refine qB1 (fun h => ?_) (fun h => ?_)) | ((with_reducible apply kQP); refine qP ?_) | ((with_reducible apply kQP); refine qX ?_) | ((with_reducible apply kC); first | refine cT ?_ | refine cF ?_ | (refine cI (fun h => ?_) (fun h => ?_) <;> (try (exfalso; omega))) | refine cB (fun h => ?_) (fun h => ?_)) | ((with_reducible apply kR); refine cQ ?_))
  by_cases hm : max 1 len < 25
  · obtain ⟨m, hm1⟩ := Int.eq_ofNat_of_zero_le (show 0 ≤ max 1 len by omega)
    refine c_loop (fun k : Nat => [(5, iv (sumTo (fun i => if 1 ≤ i ∧ len ≤ i then f i + h i else 0) k)), (6, iv k), (2, .pointer (some ⟨b, 0, none⟩))]) (fun _ => (b, ivs (lockC f h)) :: hs) (fun k => m ≤ k ∧ k ≤ 25) (fun k => 25 - k) m (by omega) ⟨?_, ?_, rfl, trivial⟩ sb0 ?_
    · rw [cnt_skip f h len m (by omega)]; rfl
    · rw [← hm1]; rfl
    rintro k ⟨hk0, hk⟩
    by_cases hk' : k < 25
    · have hb1 := cnt_to f h len hf hh k hk
      have h1 := hf k hk'; have h2 := hh k hk'
      have e1 := lockC_r f h hk'; have e2 := lockC_w f h hk'
      rw [← e1] at h1; rw [← e2] at h2
      repeat' (first | (with_reducible first | refine c_seq ?_ | refine c_reg ?_ | refine c_region ?_ | refine c_block ?_ | refine c_skip ?_ | refine c_exit ?_ | refine c_ret ?_ | refine s_nil ?_ | refine x_then ?_ | refine x_then_exit ?_ | refine x_then_ret ?_ | refine x_block ?_ | refine x_block_ret ?_ | refine x_block_same ?_ | refine x_block_other (by rfl) ?_ | refine q_nil ?_ | refine k_nil ?_) | ((with_reducible apply kP (.makeFunc _ _ _)); refine sMF ?_) | ((with_reducible apply kG); first | refine gY1 ?_ | refine gN1 ?_ | refine gU1 ?_ | (refine gD1 (fun h => ?_) (fun h => ?_) <;> (try (exfalso; omega))) | refine gB1 (fun h => ?_) (fun h => ?_)) | ((with_reducible apply kN); first | refine stP ?_ | refine stI ?_ | refine st1 ?_ | refine stW ?_) | ((with_reducible apply kP (.alloc _)); refine sA (fun b => ?_)) | ((with_reducible apply kP (.box _ _)); first | refine sBA (fun b => ?_) | refine sB (fun b => ?_)) | ((with_reducible apply kP (.buildSlice _ 1 _)); first | refine sl1A (fun b => ?_) | refine sl1 (fun b => ?_)) | ((with_reducible apply kP (.buildSlice _ 2 _)); refine sl2 (fun b => ?_)) | ((with_reducible apply kP (.buildSlice _ 3 _)); refine sl3 (fun b => ?_)) | ((with_reducible apply kP (.buildSlice _ 4 _)); refine sl4 (fun b => ?_)) | ((with_reducible apply kP (.buildSlice _ 0 _)); refine s_bs0 (scTOf rfl) (zsTOf rfl) (by decide) (fun b => ?_)) | ((with_reducible apply kP (.makeSlice _ _ _)); refine sMk (fun b => ?_)) | ((with_reducible apply kP (.call ⟨.builtin .append, _, _⟩)); refine sAp (fun oa2 c2 blk2 hrow2 => ?_)) | ((with_reducible apply kP _); refine sP ?_) | ((with_reducible apply kP _); refine sX ?_) | ((with_reducible apply kQG); first | refine qY1 ?_ | refine qN1 ?_ | refine qU1 ?_ | (refine qD1 (fun h => ?_) (fun h => ?_) <;> (try (exfalso; omega))) | refine qB1 (fun h => ?_) (fun h => ?_)) | ((with_reducible apply kQP); refine qP ?_) | ((with_reducible apply kQP); refine qX ?_) | ((with_reducible apply kC); first | refine cT ?_ | refine cF ?_ | (refine cI (fun h => ?_) (fun h => ?_) <;> (try (exfalso; omega))) | refine cB (fun h => ?_) (fun h => ?_)) | ((with_reducible apply kR); refine cQ ?_))
      refine r_end (k + 1) (by omega) (by omega) ⟨?_, rfl, rfl, trivial⟩ sb0
      show some (iv _) = some (iv _)
      rw [sumTo_succ, if_pos (by omega), ← e1, ← e2]
    · obtain rfl : k = 25 := by omega
      repeat' (first | (with_reducible first | refine c_seq ?_ | refine c_reg ?_ | refine c_region ?_ | refine c_block ?_ | refine c_skip ?_ | refine c_exit ?_ | refine c_ret ?_ | refine s_nil ?_ | refine x_then ?_ | refine x_then_exit ?_ | refine x_then_ret ?_ | refine x_block ?_ | refine x_block_ret ?_ | refine x_block_same ?_ | refine x_block_other (by rfl) ?_ | refine q_nil ?_ | refine k_nil ?_) | ((with_reducible apply kP (.makeFunc _ _ _)); refine sMF ?_) | ((with_reducible apply kG); first | refine gY1 ?_ | refine gN1 ?_ | refine gU1 ?_ | (refine gD1 (fun h => ?_) (fun h => ?_) <;> (try (exfalso; omega))) | refine gB1 (fun h => ?_) (fun h => ?_)) | ((with_reducible apply kN); first | refine stP ?_ | refine stI ?_ | refine st1 ?_ | refine stW ?_) | ((with_reducible apply kP (.alloc _)); refine sA (fun b => ?_)) | ((with_reducible apply kP (.box _ _)); first | refine sBA (fun b => ?_) | refine sB (fun b => ?_)) | ((with_reducible apply kP (.buildSlice _ 1 _)); first | refine sl1A (fun b => ?_) | refine sl1 (fun b => ?_)) | ((with_reducible apply kP (.buildSlice _ 2 _)); refine sl2 (fun b => ?_)) | ((with_reducible apply kP (.buildSlice _ 3 _)); refine sl3 (fun b => ?_)) | ((with_reducible apply kP (.buildSlice _ 4 _)); refine sl4 (fun b => ?_)) | ((with_reducible apply kP (.buildSlice _ 0 _)); refine s_bs0 (scTOf rfl) (zsTOf rfl) (by decide) (fun b => ?_)) | ((with_reducible apply kP (.makeSlice _ _ _)); refine sMk (fun b => ?_)) | ((with_reducible apply kP (.call ⟨.builtin .append, _, _⟩)); refine sAp (fun oa2 c2 blk2 hrow2 => ?_)) | ((with_reducible apply kP _); refine sP ?_) | ((with_reducible apply kP _); refine sX ?_) | ((with_reducible apply kQG); first | refine qY1 ?_ | refine qN1 ?_ | refine qU1 ?_ | (refine qD1 (fun h => ?_) (fun h => ?_) <;> (try (exfalso; omega))) | refine qB1 (fun h => ?_) (fun h => ?_)) | ((with_reducible apply kQP); refine qP ?_) | ((with_reducible apply kQP); refine qX ?_) | ((with_reducible apply kC); first | refine cT ?_ | refine cF ?_ | (refine cI (fun h => ?_) (fun h => ?_) <;> (try (exfalso; omega))) | refine cB (fun h => ?_) (fun h => ?_)) | ((with_reducible apply kR); refine cQ ?_))
      exact e_ret1 rfl rfl ⟨rfl, rfl⟩ sb1
  · have hz : cnt f h len = 0 := cnt_skip f h len 25 (by omega)
    refine c_loop (fun _ : Unit => [(5, iv 0), (6, iv (max 1 len)), (2, .pointer (some ⟨b, 0, none⟩))]) (fun _ => (b, ivs (lockC f h)) :: hs) (fun _ => True) (fun _ => 0) () trivial (by repeat' first | trivial | rfl | apply And.intro) sb0 ?_
    intro _ _
    repeat' (first | (with_reducible first | refine c_seq ?_ | refine c_reg ?_ | refine c_region ?_ | refine c_block ?_ | refine c_skip ?_ | refine c_exit ?_ | refine c_ret ?_ | refine s_nil ?_ | refine x_then ?_ | refine x_then_exit ?_ | refine x_then_ret ?_ | refine x_block ?_ | refine x_block_ret ?_ | refine x_block_same ?_ | refine x_block_other (by rfl) ?_ | refine q_nil ?_ | refine k_nil ?_) | ((with_reducible apply kP (.makeFunc _ _ _)); refine sMF ?_) | ((with_reducible apply kG); first | refine gY1 ?_ | refine gN1 ?_ | refine gU1 ?_ | (refine gD1 (fun h => ?_) (fun h => ?_) <;> (try (exfalso; omega))) | refine gB1 (fun h => ?_) (fun h => ?_)) | ((with_reducible apply kN); first | refine stP ?_ | refine stI ?_ | refine st1 ?_ | refine stW ?_) | ((with_reducible apply kP (.alloc _)); refine sA (fun b => ?_)) | ((with_reducible apply kP (.box _ _)); first | refine sBA (fun b => ?_) | refine sB (fun b => ?_)) | ((with_reducible apply kP (.buildSlice _ 1 _)); first | refine sl1A (fun b => ?_) | refine sl1 (fun b => ?_)) | ((with_reducible apply kP (.buildSlice _ 2 _)); refine sl2 (fun b => ?_)) | ((with_reducible apply kP (.buildSlice _ 3 _)); refine sl3 (fun b => ?_)) | ((with_reducible apply kP (.buildSlice _ 4 _)); refine sl4 (fun b => ?_)) | ((with_reducible apply kP (.buildSlice _ 0 _)); refine s_bs0 (scTOf rfl) (zsTOf rfl) (by decide) (fun b => ?_)) | ((with_reducible apply kP (.makeSlice _ _ _)); refine sMk (fun b => ?_)) | ((with_reducible apply kP (.call ⟨.builtin .append, _, _⟩)); refine sAp (fun oa2 c2 blk2 hrow2 => ?_)) | ((with_reducible apply kP _); refine sP ?_) | ((with_reducible apply kP _); refine sX ?_) | ((with_reducible apply kQG); first | refine qY1 ?_ | refine qN1 ?_ | refine qU1 ?_ | (refine qD1 (fun h => ?_) (fun h => ?_) <;> (try (exfalso; omega))) | refine qB1 (fun h => ?_) (fun h => ?_)) | ((with_reducible apply kQP); refine qP ?_) | ((with_reducible apply kQP); refine qX ?_) | ((with_reducible apply kC); first | refine cT ?_ | refine cF ?_ | (refine cI (fun h => ?_) (fun h => ?_) <;> (try (exfalso; omega))) | refine cB (fun h => ?_) (fun h => ?_)) | ((with_reducible apply kR); refine cQ ?_))
    exact e_ret1 rfl rfl ⟨by rw [hz], rfl⟩ sb1

set_option maxRecDepth 100000 in
set_option maxHeartbeats 8000000 in
theorem r_above (f h : Nat → Int) (len : Int) (hf : Okf f) (hh : Okf h) (B : Nat) (w0 : World) (hs : HS) :
    Fn Try.prog 70 #[hairV f h, iv len] B w0 hs (fun v hs' => v = iv (cnt f h len) ∧ hs' = hs) := by
  have hl := hairC_length f h
  refine fn_enter Try.func70 rfl Try.ntmps70 (by simp) ?_
  repeat' (first | (with_reducible first | refine c_seq ?_ | refine c_reg ?_ | refine c_region ?_ | refine c_block ?_ | refine c_skip ?_ | refine c_exit ?_ | refine c_ret ?_ | refine s_nil ?_ | refine x_then ?_ | refine x_then_exit ?_ | refine x_then_ret ?_ | refine x_block ?_ | refine x_block_ret ?_ | refine x_block_same ?_ | refine x_block_other (by rfl) ?_ | refine q_nil ?_ | refine k_nil ?_) | ((with_reducible apply kP (.makeFunc _ _ _)); refine sMF ?_) | ((with_reducible apply kG); first | refine gY1 ?_ | refine gN1 ?_ | refine gU1 ?_ | (refine gD1 (fun h => ?_) (fun h => ?_) <;> (try (exfalso; omega))) | refine gB1 (fun h => ?_) (fun h => ?_)) | ((with_reducible apply kN); first | refine stP ?_ | refine stI ?_ | refine st1 ?_ | refine stW ?_) | ((with_reducible apply kP (.alloc _)); refine sA (fun b => ?_)) | ((with_reducible apply kP (.box _ _)); first | refine sBA (fun b => ?_) | refine sB (fun b => ?_)) | ((with_reducible apply kP (.buildSlice _ 1 _)); first | refine sl1A (fun b => ?_) | refine sl1 (fun b => ?_)) | ((with_reducible apply kP (.buildSlice _ 2 _)); refine sl2 (fun b => ?_)) | ((with_reducible apply kP (.buildSlice _ 3 _)); refine sl3 (fun b => ?_)) | ((with_reducible apply kP (.buildSlice _ 4 _)); refine sl4 (fun b => ?_)) | ((with_reducible apply kP (.buildSlice _ 0 _)); refine s_bs0 (scTOf rfl) (zsTOf rfl) (by decide) (fun b => ?_)) | ((with_reducible apply kP (.makeSlice _ _ _)); refine sMk (fun b => ?_)) | ((with_reducible apply kP (.call ⟨.builtin .append, _, _⟩)); refine sAp (fun oa2 c2 blk2 hrow2 => ?_)) | ((with_reducible apply kP _); refine sP ?_) | ((with_reducible apply kP _); refine sX ?_) | ((with_reducible apply kQG); first | refine qY1 ?_ | refine qN1 ?_ | refine qU1 ?_ | (refine qD1 (fun h => ?_) (fun h => ?_) <;> (try (exfalso; omega))) | refine qB1 (fun h => ?_) (fun h => ?_)) | ((with_reducible apply kQP); refine qP ?_) | ((with_reducible apply kQP); refine qX ?_) | ((with_reducible apply kC); first | refine cT ?_ | refine cF ?_ | (refine cI (fun h => ?_) (fun h => ?_) <;> (try (exfalso; omega))) | refine cB (fun h => ?_) (fun h => ?_)) | ((with_reducible apply kR); refine cQ ?_))
  refine c_loop (fun k : Nat => [(5, iv (sumTo (fun i => if 1 ≤ i ∧ len ≤ i then f i + h i else 0) k)), (6, iv k), (1, iv len), (2, .pointer (some ⟨b, 0, none⟩))]) (fun _ => (b, ivs (hairC f h)) :: hs) (fun k => 1 ≤ k ∧ k ≤ 25) (fun k => 25 - k) 1 (by simp) ⟨?_, rfl, rfl, rfl, trivial⟩ sb0 ?_
  · show some (iv _) = some (iv _)
    simp [sumTo]
  rintro k ⟨hk0, hk⟩
  by_cases hk' : k < 25
  · have hb1 := cnt_to f h len hf hh k hk
    have h1 := hf k hk'; have h2 := hh k hk'
    have e1 := hairC_r f h hk'; have e2 := hairC_w f h hk'
    rw [← e1] at h1; rw [← e2] at h2
    repeat' (first | (with_reducible first | refine c_seq ?_ | refine c_reg ?_ | refine c_region ?_ | refine c_block ?_ | refine c_skip ?_ | refine c_exit ?_ | refine c_ret ?_ | refine s_nil ?_ | refine x_then ?_ | refine x_then_exit ?_ | refine x_then_ret ?_ | refine x_block ?_ | refine x_block_ret ?_ | refine x_block_same ?_ | refine x_block_other (by rfl) ?_ | refine q_nil ?_ | refine k_nil ?_) | ((with_reducible apply kP (.makeFunc _ _ _)); refine sMF ?_) | ((with_reducible apply kG); first | refine gY1 ?_ | refine gN1 ?_ | refine gU1 ?_ | (refine gD1 (fun h => ?_) (fun h => ?_) <;> (try (exfalso; omega))) | refine gB1 (fun h => ?_) (fun h => ?_)) | ((with_reducible apply kN); first | refine stP ?_ | refine stI ?_ | refine st1 ?_ | refine stW ?_) | ((with_reducible apply kP (.alloc _)); refine sA (fun b => ?_)) | ((with_reducible apply kP (.box _ _)); first | refine sBA (fun b => ?_) | refine sB (fun b => ?_)) | ((with_reducible apply kP (.buildSlice _ 1 _)); first | refine sl1A (fun b => ?_) | refine sl1 (fun b => ?_)) | ((with_reducible apply kP (.buildSlice _ 2 _)); refine sl2 (fun b => ?_)) | ((with_reducible apply kP (.buildSlice _ 3 _)); refine sl3 (fun b => ?_)) | ((with_reducible apply kP (.buildSlice _ 4 _)); refine sl4 (fun b => ?_)) | ((with_reducible apply kP (.buildSlice _ 0 _)); refine s_bs0 (scTOf rfl) (zsTOf rfl) (by decide) (fun b => ?_)) | ((with_reducible apply kP (.makeSlice _ _ _)); refine sMk (fun b => ?_)) | ((with_reducible apply kP (.call ⟨.builtin .append, _, _⟩)); refine sAp (fun oa2 c2 blk2 hrow2 => ?_)) | ((with_reducible apply kP _); refine sP ?_) | ((with_reducible apply kP _); refine sX ?_) | ((with_reducible apply kQG); first | refine qY1 ?_ | refine qN1 ?_ | refine qU1 ?_ | (refine qD1 (fun h => ?_) (fun h => ?_) <;> (try (exfalso; omega))) | refine qB1 (fun h => ?_) (fun h => ?_)) | ((with_reducible apply kQP); refine qP ?_) | ((with_reducible apply kQP); refine qX ?_) | ((with_reducible apply kC); first | refine cT ?_ | refine cF ?_ | (refine cI (fun h => ?_) (fun h => ?_) <;> (try (exfalso; omega))) | refine cB (fun h => ?_) (fun h => ?_)) | ((with_reducible apply kR); refine cQ ?_))
    · refine r_end (k + 1) (by omega) (by omega) ⟨?_, rfl, rfl, rfl, trivial⟩ sb0
      show some (iv _) = some (iv _)
      rw [sumTo_succ, if_pos (by omega), ← e1, ← e2]
    · refine r_end (k + 1) (by omega) (by omega) ⟨?_, rfl, rfl, rfl, trivial⟩ sb0
      show some (iv _) = some (iv _)
      rw [sumTo_succ, if_neg (by omega), Int.add_zero]
  · obtain rfl : k = 25 := by omega
    repeat' (first | (with_reducible first | refine c_seq ?_ | refine c_reg ?_ | refine c_region ?_ | refine c_block ?_ | refine c_skip ?_ | refine c_exit ?_ | refine c_ret ?_ | refine s_nil ?_ | refine x_then ?_ | refine x_then_exit ?_ | refine x_then_ret ?_ | refine x_block ?_ | refine x_block_ret ?_ | refine x_block_same ?_ | refine x_block_other (by rfl) ?_ | refine q_nil ?_ | refine k_nil ?_) | ((with_reducible apply kP (.makeFunc _ _ _)); refine sMF ?_) | ((with_reducible apply kG); first | refine gY1 ?_ | refine gN1 ?_ | refine gU1 ?_ | (refine gD1 (fun h => ?_) (fun h => ?_) <;> (try (exfalso; omega))) | refine gB1 (fun h => ?_) (fun h => ?_)) | ((with_reducible apply kN); first | refine stP ?_ | refine stI ?_ | refine st1 ?_ | refine stW ?_) | ((with_reducible apply kP (.alloc _)); refine sA (fun b => ?_)) | ((with_reducible apply kP (.box _ _)); first | refine sBA (fun b => ?_) | refine sB (fun b => ?_)) | ((with_reducible apply kP (.buildSlice _ 1 _)); first | refine sl1A (fun b => ?_) | refine sl1 (fun b => ?_)) | ((with_reducible apply kP (.buildSlice _ 2 _)); refine sl2 (fun b => ?_)) | ((with_reducible apply kP (.buildSlice _ 3 _)); refine sl3 (fun b => ?_)) | ((with_reducible apply kP (.buildSlice _ 4 _)); refine sl4 (fun b => ?_)) | ((with_reducible apply kP (.buildSlice _ 0 _)); refine s_bs0 (scTOf rfl) (zsTOf rfl) (by decide) (fun b => ?_)) | ((with_reducible apply kP (.makeSlice _ _ _)); refine sMk (fun b => ?_)) | ((with_reducible apply kP (.call ⟨.builtin .append, _, _⟩)); refine sAp (fun oa2 c2 blk2 hrow2 => ?_)) | ((with_reducible apply kP _); refine sP ?_) | ((with_reducible apply kP _); refine sX ?_) | ((with_reducible apply kQG); first | refine qY1 ?_ | refine qN1 ?_ | refine qU1 ?_ | (refine qD1 (fun h => ?_) (fun h => ?_) <;> (try (exfalso; omega))) | refine qB1 (fun h => ?_) (fun h => ?_)) | ((with_reducible apply kQP); refine qP ?_) | ((with_reducible apply kQP); refine qX ?_) | ((with_reducible apply kC); first | refine cT ?_ | refine cF ?_ | (refine cI (fun h => ?_) (fun h => ?_) <;> (try (exfalso; omega))) | refine cB (fun h => ?_) (fun h => ?_)) | ((with_reducible apply kR); refine cQ ?_))
    exact e_ret1 rfl rfl ⟨rfl, rfl⟩ sb1

end Go.Proofs.Ytiopaodiaokfdaa
