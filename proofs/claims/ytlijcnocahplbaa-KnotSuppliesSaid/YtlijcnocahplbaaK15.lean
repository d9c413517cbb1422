/- Stretches of a row: their sums, the greatest and the least of them. -/
import Derived.Test.YtlijcnocahplbaaK14
namespace Go.Proofs.Ytlijcnocahplbaa
open Go.RowKit

/-- The least and the greatest of the first numbers; and the first greatest one, with its place. -/
def mnk (F : Nat → Int) : Nat → Int
  | 0 => F 0
  | k + 1 => min (mnk F k) (F k)
def mxk (F : Nat → Int) : Nat → Int
  | 0 => F 0
  | k + 1 => max (mxk F k) (F k)
def dn (F : Nat → Int) : Nat → Int × Int
  | 0 => (0, -1)
  | k + 1 => if (dn F k).2 < F k then (k, F k) else dn F k
theorem mnk_le (F : Nat → Int) : ∀ k i, i < k → mnk F k ≤ F i
  | 0, _, h => absurd h (by omega)
  | k + 1, i, h => by
    show min (mnk F k) (F k) ≤ _
    by_cases e : i = k
    · subst e; omega
    · have := mnk_le F k i (by omega); omega
theorem mnk_in (F : Nat → Int) : ∀ k, 1 ≤ k → ∃ i, i < k ∧ mnk F k = F i
  | 0, h => absurd h (by omega)
  | k + 1, _ => by
    show ∃ i, i < k + 1 ∧ min (mnk F k) (F k) = F i
    by_cases hk : k = 0
    · subst hk; exact ⟨0, by omega, by show min (F 0) (F 0) = F 0; omega⟩
    · obtain ⟨i, h1, h2⟩ := mnk_in F k (by omega)
      by_cases hh : mnk F k ≤ F k
      · exact ⟨i, by omega, by omega⟩
      · exact ⟨k, by omega, by omega⟩
theorem le_mxk (F : Nat → Int) : ∀ k i, i < k → F i ≤ mxk F k
  | 0, _, h => absurd h (by omega)
  | k + 1, i, h => by
    show _ ≤ max (mxk F k) (F k)
    by_cases e : i = k
    · subst e; omega
    · have := le_mxk F k i (by omega); omega
theorem mxk_in (F : Nat → Int) : ∀ k, 1 ≤ k → ∃ i, i < k ∧ mxk F k = F i
  | 0, h => absurd h (by omega)
  | k + 1, _ => by
    show ∃ i, i < k + 1 ∧ max (mxk F k) (F k) = F i
    by_cases hk : k = 0
    · subst hk; exact ⟨0, by omega, by show max (F 0) (F 0) = F 0; omega⟩
    · obtain ⟨i, h1, h2⟩ := mxk_in F k (by omega)
      by_cases hh : F k ≤ mxk F k
      · exact ⟨i, by omega, by omega⟩
      · exact ⟨k, by omega, by omega⟩
theorem dn_mx {F : Nat → Int} (h0 : -1 < F 0) : ∀ k, 1 ≤ k → (dn F k).2 = mxk F k
  | 0, h => absurd h (by omega)
  | k + 1, _ => by
    show (if (dn F k).2 < F k then ((k : Int), F k) else dn F k).2 = max (mxk F k) (F k)
    by_cases hk : k = 0
    · subst hk
      show (if (-1 : Int) < F 0 then (((0 : Nat) : Int), F 0) else (0, -1)).2 = max (F 0) (F 0)
      rw [if_pos h0]; show F 0 = _; omega
    · have := dn_mx h0 k (by omega)
      by_cases hh : (dn F k).2 < F k
      · rw [if_pos hh]; show F k = _; omega
      · rw [if_neg hh]; omega
theorem dn_at (F : Nat → Int) : ∀ k, 0 ≤ (dn F k).1 ∧ (dn F k).1 ≤ k
  | 0 => ⟨Int.le_refl _, Int.le_refl _⟩
  | k + 1 => by
    have := dn_at F k
    show 0 ≤ (if (dn F k).2 < F k then ((k : Int), F k) else dn F k).1 ∧ (if (dn F k).2 < F k then ((k : Int), F k) else dn F k).1 ≤ _
    split
    · show (0 : Int) ≤ k ∧ (k : Int) ≤ _; omega
    · omega
/-- Equally long stretches differ by at most 1. -/
theorem gap_iff (F : Nat → Int) {k : Nat} (hk : 1 ≤ k) : mxk F k - mnk F k ≤ 1 ↔ ∀ i j, i < k → j < k → F i - F j ≤ 1 := by
  refine ⟨fun h i j hi hj => ?_, fun h => ?_⟩
  · have := mnk_le F k j hj; have := le_mxk F k i hi; omega
  · obtain ⟨i, h1, h2⟩ := mxk_in F k hk
    obtain ⟨j, h3, h4⟩ := mnk_in F k hk
    rw [h2, h4]; exact h i j h1 h3
/-- The sum ahead of a place, and of a stretch. -/
def pfx (l : List Int) (k : Nat) : Int := sumTo (fun i => l.getD i 0) k
def ws (l : List Int) (w i : Nat) : Int := pfx l (i + w) - pfx l i
def gap (l : List Int) (w : Nat) : Int := mxk (ws l w) (l.length + 1 - w) - mnk (ws l w) (l.length + 1 - w)
def balB (l : List Int) : Bool := decide (∀ w, w < l.length → gap l (w + 1) ≤ 1)
theorem bal_iff (l : List Int) : balB l = true ↔ ∀ w i j, 1 ≤ w → i + w ≤ l.length → j + w ≤ l.length → ws l w i - ws l w j ≤ 1 := by
  refine ⟨fun h w i j h1 h2 h3 => ?_, fun h => decide_eq_true fun w hw => ?_⟩
  · have := of_decide_eq_true h (w - 1) (by omega)
    rw [show w - 1 + 1 = w by omega] at this
    exact (gap_iff _ (by omega)).1 this i j (by omega) (by omega)
  · exact (gap_iff _ (by omega)).2 fun i j hi hj => h (w + 1) i j (by omega) (by omega) (by omega)
theorem pfx_rev (l : List Int) : ∀ k, k ≤ l.length → pfx l.reverse k = pfx l l.length - pfx l (l.length - k)
  | 0, _ => by show (0 : Int) = _; rw [Nat.sub_zero]; omega
  | k + 1, h => by
    show pfx l.reverse k + l.reverse.getD k 0 = _
    rw [pfx_rev l k (by omega), show l.length - k = (l.length - (k + 1)) + 1 by omega]
    show pfx l l.length - (pfx l (l.length - (k + 1)) + l.getD (l.length - (k + 1)) 0) + _ = _
    have : l.reverse.getD k 0 = l.getD (l.length - (k + 1)) 0 := by
      rw [List.getD_eq_getElem?_getD, List.getD_eq_getElem?_getD, List.getElem?_reverse (by omega)]
      congr 2
      omega
    omega
theorem ws_rev (l : List Int) {w i : Nat} (h : i + w ≤ l.length) : ws l.reverse w i = ws l w (l.length - w - i) := by
  unfold ws
  rw [pfx_rev l (i + w) h, pfx_rev l i (by omega), show l.length - w - i = l.length - (i + w) by omega, show l.length - (i + w) + w = l.length - i by omega]
  omega
theorem bal_rev (l : List Int) : balB l.reverse = balB l := by
  have key : ∀ l : List Int, balB l = true → balB l.reverse = true := fun l h => by
    rw [bal_iff] at h ⊢
    intro w i j h1 h2 h3
    rw [List.length_reverse] at h2 h3
    rw [ws_rev l h2, ws_rev l h3]
    exact h w _ _ h1 (by omega) (by omega)
  by_cases h : balB l = true
  · rw [h, key l h]
  · by_cases h' : balB l.reverse = true
    · have := key _ h'; rw [List.reverse_reverse] at this; exact absurd this h
    · rw [Bool.not_eq_true] at h h'; rw [h, h']
theorem div_two (x c : Int) {W : Int} (h : 0 < W) : x / W + c / W ≤ (x + c) / W ∧ (x + c) / W ≤ x / W + c / W + 1 := by
  have a1 := Int.ediv_mul_le x (show W ≠ 0 by omega)
  have a2 := Int.ediv_mul_le c (show W ≠ 0 by omega)
  have a3 := Int.lt_ediv_add_one_mul_self x h
  have a4 := Int.lt_ediv_add_one_mul_self c h
  rw [Int.add_mul] at a3 a4
  refine ⟨(Int.le_ediv_iff_mul_le h).2 (by rw [Int.add_mul]; omega), ?_⟩
  have : (x + c) / W < x / W + c / W + 2 := (Int.ediv_lt_iff_lt_mul h).2 (by rw [Int.add_mul, Int.add_mul]; omega)
  omega
def rng (l : List Int) : Bool := decide (∀ i, i < l.length → 0 ≤ l.getD i 0 ∧ l.getD i 0 ≤ 1000000)
def rErr (l : List Int) : Int := if 200 < l.length then 4 else if rng l = true then 0 else 1
theorem rng_bad {l : List Int} {k : Nat} (hk : k < l.length) (h : ¬ (0 ≤ l.getD k 0 ∧ l.getD k 0 ≤ 1000000)) : rng l = false := decide_eq_false (fun hh => h (hh k hk))
theorem rErr_zero {l : List Int} (h : rErr l = 0) : l.length ≤ 200 ∧ rng l = true := by
  unfold rErr at h
  split at h
  · omega
  · split at h
    · exact ⟨by omega, by assumption⟩
    · omega
theorem rng_at {l : List Int} (h : rng l = true) {i : Nat} (hi : i < l.length) : 0 ≤ l.getD i 0 ∧ l.getD i 0 ≤ 1000000 := of_decide_eq_true h i hi
theorem rErr_long {l : List Int} (h : 200 < l.length) : rErr l = 4 := if_pos h
theorem rErr_short {l : List Int} (h : l.length ≤ 200) : rErr l = if rng l = true then 0 else 1 := if_neg (by omega)
attribute [irreducible] rng
theorem pfx_to {l : List Int} (h : rng l = true) (hl : l.length ≤ 200) : ∀ k, k ≤ l.length → 0 ≤ pfx l k ∧ pfx l k ≤ k * 1000000 := fun k hk =>
  ⟨sumTo_nonneg k (fun i hi => (rng_at h (by omega)).1), sumTo_le k (fun i hi => (rng_at h (by omega)).2)⟩
theorem pfx_succ (l : List Int) (k : Nat) : pfx l (k + 1) = pfx l k + l.getD k 0 := rfl
theorem pfx_mono {l : List Int} (h : rng l = true) (i : Nat) : ∀ d, i + d ≤ l.length → pfx l i ≤ pfx l (i + d)
  | 0, _ => Int.le_refl _
  | d + 1, hd => by
    have := pfx_mono h i d (by omega)
    have := (rng_at h (i := i + d) (by omega)).1
    rw [show i + (d + 1) = i + d + 1 by omega, pfx_succ]; omega
theorem ws_to {l : List Int} (h : rng l = true) (hl : l.length ≤ 200) {w i : Nat} (hi : i + w ≤ l.length) : 0 ≤ ws l w i ∧ ws l w i ≤ 200000000 := by
  have := pfx_mono h i w hi
  have := pfx_to h hl (i + w) hi
  have := pfx_to h hl i (by omega)
  unfold ws; omega
set_option maxRecDepth 100000 in
set_option maxHeartbeats 8000000 in
theorem k_examineRow (oa : Option Addr) (c : Nat) (l : List Int) (hl : l.length ≤ 1000000) (B : Nat) (w0 : World) (hs : HS) (h1 : Sl B w0 hs oa l) :
    Fn Try.prog 75 #[.slice oa l.length c] B w0 hs (fun v hs' => v = iv (rErr l) ∧ hs' = hs) := by
  refine fn_enter Try.func75 rfl Try.ntmps75 (by simp) ?_
  by_cases hb : 200 < l.length
  · rw [rErr_long hb]
    repeat' (first | (with_reducible first | refine c_seq ?_ | refine c_reg ?_ | refine c_region ?_ | refine c_block ?_ | refine c_skip ?_ | refine c_exit ?_ | refine c_ret ?_ | refine s_nil ?_ | refine x_then ?_ | refine x_then_exit ?_ | refine x_then_ret ?_ | refine x_block ?_ | refine x_block_ret ?_ | refine x_block_same ?_ | refine x_block_other (by rfl) ?_ | refine q_nil ?_ | refine k_nil ?_) | ((with_reducible apply kP (.makeFunc _ _ _)); refine sMF ?_) | ((with_reducible apply kG); first | refine gY1 ?_ | refine gN1 ?_ | refine gU1 ?_ | (refine gD1 (fun h => ?_) (fun h => ?_) <;> (try (exfalso; omega))) | refine gB1 (fun h => ?_) (fun h => ?_)) | ((with_reducible apply kN); first | refine stP ?_ | refine stI ?_ | refine st1 ?_ | refine stW ?_) | ((with_reducible apply kP (.alloc _)); refine sA (fun b => ?_)) | ((with_reducible apply kP (.box _ _)); first | refine sBA (fun b => ?_) | refine sB (fun b => ?_)) | ((with_reducible apply kP (.buildSlice _ 1 _)); first | refine sl1A (fun b => ?_) | refine sl1 (fun b => ?_)) | ((with_reducible apply kP (.buildSlice _ 2 _)); refine sl2 (fun b => ?_)) | ((with_reducible apply kP (.buildSlice _ 3 _)); refine sl3 (fun b => ?_)) | ((with_reducible apply kP (.buildSlice _ 4 _)); refine sl4 (fun b => ?_)) | ((with_reducible apply kP (.buildSlice _ 0 _)); refine s_bs0 (scTOf rfl) (zsTOf rfl) (by decide) (fun b => ?_)) | ((with_reducible apply kP (.makeSlice _ _ _)); refine sMk (fun b => ?_)) | ((with_reducible apply kP (.call ⟨.builtin .append, _, _⟩)); refine sAp (fun oa2 c2 blk2 hrow2 => ?_)) | ((with_reducible apply kP _); refine sP ?_) | ((with_reducible apply kP _); refine sX ?_) | ((with_reducible apply kQG); first | refine qY1 ?_ | refine qN1 ?_ | refine qU1 ?_ | (refine qD1 (fun h => ?_) (fun h => ?_) <;> (try (exfalso; omega))) | refine qB1 (fun h => ?_) (fun h => ?_)) | ((with_reducible apply kQP); refine qP ?_) | ((with_reducible apply kQP); refine qX ?_) | ((with_reducible apply kC); first | refine cT ?_ | refine cF ?_ | (refine cI (fun h => ?_) (fun h => ?_) <;> (try (exfalso; omega))) | refine cB (fun h => ?_) (fun h => ?_)) | ((with_reducible apply kR); refine cQ ?_))
    exact e_ret1 rfl rfl ⟨rfl, rfl⟩ sb0
  · rw [rErr_short (by omega)]
    repeat' (first | (with_reducible first | refine c_seq ?_ | refine c_reg ?_ | refine c_region ?_ | refine c_block ?_ | refine c_skip ?_ | refine c_exit ?_ | refine c_ret ?_ | refine s_nil ?_ | refine x_then ?_ | refine x_then_exit ?_ | refine x_then_ret ?_ | refine x_block ?_ | refine x_block_ret ?_ | refine x_block_same ?_ | refine x_block_other (by rfl) ?_ | refine q_nil ?_ | refine k_nil ?_) | ((with_reducible apply kP (.makeFunc _ _ _)); refine sMF ?_) | ((with_reducible apply kG); first | refine gY1 ?_ | refine gN1 ?_ | refine gU1 ?_ | (refine gD1 (fun h => ?_) (fun h => ?_) <;> (try (exfalso; omega))) | refine gB1 (fun h => ?_) (fun h => ?_)) | ((with_reducible apply kN); first | refine stP ?_ | refine stI ?_ | refine st1 ?_ | refine stW ?_) | ((with_reducible apply kP (.alloc _)); refine sA (fun b => ?_)) | ((with_reducible apply kP (.box _ _)); first | refine sBA (fun b => ?_) | refine sB (fun b => ?_)) | ((with_reducible apply kP (.buildSlice _ 1 _)); first | refine sl1A (fun b => ?_) | refine sl1 (fun b => ?_)) | ((with_reducible apply kP (.buildSlice _ 2 _)); refine sl2 (fun b => ?_)) | ((with_reducible apply kP (.buildSlice _ 3 _)); refine sl3 (fun b => ?_)) | ((with_reducible apply kP (.buildSlice _ 4 _)); refine sl4 (fun b => ?_)) | ((with_reducible apply kP (.buildSlice _ 0 _)); refine s_bs0 (scTOf rfl) (zsTOf rfl) (by decide) (fun b => ?_)) | ((with_reducible apply kP (.makeSlice _ _ _)); refine sMk (fun b => ?_)) | ((with_reducible apply kP (.call ⟨.builtin .append, _, _⟩)); refine sAp (fun oa2 c2 blk2 hrow2 => ?_)) | ((with_reducible apply kP _); refine sP ?_) | ((with_reducible apply kP _); refine sX ?_) | ((with_reducible apply kQG); first | refine qY1 ?_ | refine qN1 ?_ | refine qU1 ?_ | (refine qD1 (fun h => ?_) (fun h => ?_) <;> (try (exfalso; omega))) | refine qB1 (fun h => ?_) (fun h => ?_)) | ((with_reducible apply kQP); refine qP ?_) | ((with_reducible apply kQP); refine qX ?_) | ((with_reducible apply kC); first | refine cT ?_ | refine cF ?_ | (refine cI (fun h => ?_) (fun h => ?_) <;> (try (exfalso; omega))) | refine cB (fun h => ?_) (fun h => ?_)) | ((with_reducible apply kR); refine cQ ?_))
    refine c_loop (fun k : Nat => [(8, .slice oa l.length c), (9, iv l.length), (10, iv k)]) (fun _ => hs) (fun k => k ≤ l.length ∧ ∀ i, i < k → 0 ≤ l.getD i 0 ∧ l.getD i 0 ≤ 1000000) (fun k => l.length - k) 0 ⟨by omega, fun i hi => by omega⟩ (by repeat' first | trivial | rfl | apply And.intro) sb0 ?_
    rintro k ⟨hk, hg⟩
    by_cases hk' : k < l.length
    · have g1 := h1.any hk'
      repeat' (first | ((with_reducible apply kF 65); refine sC 65 (k_within _ _ _ B w0 _) ?_) | (with_reducible first | refine c_seq ?_ | refine c_reg ?_ | refine c_region ?_ | refine c_block ?_ | refine c_skip ?_ | refine c_exit ?_ | refine c_ret ?_ | refine s_nil ?_ | refine x_then ?_ | refine x_then_exit ?_ | refine x_then_ret ?_ | refine x_block ?_ | refine x_block_ret ?_ | refine x_block_same ?_ | refine x_block_other (by rfl) ?_ | refine q_nil ?_ | refine k_nil ?_) | ((with_reducible apply kP (.makeFunc _ _ _)); refine sMF ?_) | ((with_reducible apply kG); first | refine gY1 ?_ | refine gN1 ?_ | refine gU1 ?_ | (refine gD1 (fun h => ?_) (fun h => ?_) <;> (try (exfalso; omega))) | refine gB1 (fun h => ?_) (fun h => ?_)) | ((with_reducible apply kN); first | refine stP ?_ | refine stI ?_ | refine st1 ?_ | refine stW ?_) | ((with_reducible apply kP (.alloc _)); refine sA (fun b => ?_)) | ((with_reducible apply kP (.box _ _)); first | refine sBA (fun b => ?_) | refine sB (fun b => ?_)) | ((with_reducible apply kP (.buildSlice _ 1 _)); first | refine sl1A (fun b => ?_) | refine sl1 (fun b => ?_)) | ((with_reducible apply kP (.buildSlice _ 2 _)); refine sl2 (fun b => ?_)) | ((with_reducible apply kP (.buildSlice _ 3 _)); refine sl3 (fun b => ?_)) | ((with_reducible apply kP (.buildSlice _ 4 _)); refine sl4 (fun b => ?_)) | ((with_reducible apply kP (.buildSlice _ 0 _)); refine s_bs0 (scTOf rfl) (zsTOf rfl) (by decide) (fun b => ?_)) | ((with_reducible apply kP (.makeSlice _ _ _)); refine sMk (fun b => ?_)) | ((with_reducible apply kP (.call ⟨.builtin .append, _, _⟩)); refine sAp (fun oa2 c2 blk2 hrow2 => ?_)) | ((with_reducible apply kP _); refine sP ?_) | ((with_reducible apply kP _); refine sX ?_) | ((with_reducible apply kQG); first | refine qY1 ?_ | refine qN1 ?_ | refine qU1 ?_ | (refine qD1 (fun h => ?_) (fun h => ?_) <;> (try (exfalso; omega))) | refine qB1 (fun h => ?_) (fun h => ?_)) | ((with_reducible apply kQP); refine qP ?_) | ((with_reducible apply kQP); refine qX ?_) | ((with_reducible apply kC); first | refine cT ?_ | refine cF ?_ | (refine cI (fun h => ?_) (fun h => ?_) <;> (try (exfalso; omega))) | refine cB (fun h => ?_) (fun h => ?_)) | ((with_reducible apply kR); refine cQ ?_))
      · rw [if_neg (by rw [rng_bad hk' (by assumption)]; decide)]
        exact e_ret1 rfl rfl ⟨rfl, rfl⟩ sb0
      · refine r_end (k + 1) ⟨by omega, fun i hi => ?_⟩ (by omega) ⟨rfl, rfl, rfl, trivial⟩ sb0
        by_cases hik : i = k
        · subst hik; omega
        · exact hg i (by omega)
    · obtain rfl : k = l.length := by omega
      rw [if_pos (show rng l = true by unfold rng; exact decide_eq_true hg)]
      repeat' (first | (with_reducible first | refine c_seq ?_ | refine c_reg ?_ | refine c_region ?_ | refine c_block ?_ | refine c_skip ?_ | refine c_exit ?_ | refine c_ret ?_ | refine s_nil ?_ | refine x_then ?_ | refine x_then_exit ?_ | refine x_then_ret ?_ | refine x_block ?_ | refine x_block_ret ?_ | refine x_block_same ?_ | refine x_block_other (by rfl) ?_ | refine q_nil ?_ | refine k_nil ?_) | ((with_reducible apply kP (.makeFunc _ _ _)); refine sMF ?_) | ((with_reducible apply kG); first | refine gY1 ?_ | refine gN1 ?_ | refine gU1 ?_ | (refine gD1 (fun h => ?_) (fun h => ?_) <;> (try (exfalso; omega))) | refine gB1 (fun h => ?_) (fun h => ?_)) | ((with_reducible apply kN); first | refine stP ?_ | refine stI ?_ | refine st1 ?_ | refine stW ?_) | ((with_reducible apply kP (.alloc _)); refine sA (fun b => ?_)) | ((with_reducible apply kP (.box _ _)); first | refine sBA (fun b => ?_) | refine sB (fun b => ?_)) | ((with_reducible apply kP (.buildSlice _ 1 _)); first | refine sl1A (fun b => ?_) | refine sl1 (fun b => ?_)) | ((with_reducible apply kP (.buildSlice _ 2 _)); refine sl2 (fun b => ?_)) | ((with_reducible apply kP (.buildSlice _ 3 _)); refine sl3 (fun b => ?_)) | ((with_reducible apply kP (.buildSlice _ 4 _)); refine sl4 (fun b => ?_)) | ((with_reducible apply kP (.buildSlice _ 0 _)); refine s_bs0 (scTOf rfl) (zsTOf rfl) (by decide) (fun b => ?_)) | ((with_reducible apply kP (.makeSlice _ _ _)); refine sMk (fun b => ?_)) | ((with_reducible apply kP (.call ⟨.builtin .append, _, _⟩)); refine sAp (fun oa2 c2 blk2 hrow2 => ?_)) | ((with_reducible apply kP _); refine sP ?_) | ((with_reducible apply kP _); refine sX ?_) | ((with_reducible apply kQG); first | refine qY1 ?_ | refine qN1 ?_ | refine qU1 ?_ | (refine qD1 (fun h => ?_) (fun h => ?_) <;> (try (exfalso; omega))) | refine qB1 (fun h => ?_) (fun h => ?_)) | ((with_reducible apply kQP); refine qP ?_) | ((with_reducible apply kQP); refine qX ?_) | ((with_reducible apply kC); first | refine cT ?_ | refine cF ?_ | (refine cI (fun h => ?_) (fun h => ?_) <;> (try (exfalso; omega))) | refine cB (fun h => ?_) (fun h => ?_)) | ((with_reducible apply kR); refine cQ ?_))
      exact e_ret1 rfl rfl ⟨rfl, rfl⟩ sb0
set_option maxRecDepth 100000 in
set_option maxHeartbeats 8000000 in
theorem r_rowError (oa : Option Addr) (c : Nat) (l : List Int) (hl : l.length ≤ 1000000) (B : Nat) (w0 : World) (hs : HS) (h1 : Sl B w0 hs oa l) :
    Fn Try.prog 77 #[.slice oa l.length c] B w0 hs (fun v hs' => v = iv (rErr l) ∧ hs' = hs) := by
  refine fn_enter Try.func77 rfl Try.ntmps77 (by simp) ?_
  by_cases hb : 200 < l.length
  · rw [rErr_long hb]
    repeat' (first | (with_reducible first | refine c_seq ?_ | refine c_reg ?_ | refine c_region ?_ | refine c_block ?_ | refine c_skip ?_ | refine c_exit ?_ | refine c_ret ?_ | refine s_nil ?_ | refine x_then ?_ | refine x_then_exit ?_ | refine x_then_ret ?_ | refine x_block ?_ | refine x_block_ret ?_ | refine x_block_same ?_ | refine x_block_other (by rfl) ?_ | refine q_nil ?_ | refine k_nil ?_) | ((with_reducible apply kP (.makeFunc _ _ _)); refine sMF ?_) | ((with_reducible apply kG); first | refine gY1 ?_ | refine gN1 ?_ | refine gU1 ?_ | (refine gD1 (fun h => ?_) (fun h => ?_) <;> (try (exfalso; omega))) | refine gB1 (fun h => ?_) (fun h => ?_)) | ((with_reducible apply kN); first | refine stP ?_ | refine stI ?_ | refine st1 ?_ | refine stW ?_) | ((with_reducible apply kP (.alloc _)); refine sA (fun b => ?_)) | ((with_reducible apply kP (.box _ _)); first | refine sBA (fun b => ?_) | refine sB (fun b => ?_)) | ((with_reducible apply kP (.buildSlice _ 1 _)); first | refine sl1A (fun b => ?_) | refine sl1 (fun b => ?_)) | ((with_reducible apply kP (.buildSlice _ 2 _)); refine sl2 (fun b => ?_)) | ((with_reducible apply kP (.buildSlice _ 3 _)); refine sl3 (fun b => ?_)) | ((with_reducible apply kP (.buildSlice _ 4 _)); refine sl4 (fun b => ?_)) | ((with_reducible apply kP (.buildSlice _ 0 _)); refine s_bs0 (scTOf rfl) (zsTOf rfl) (by decide) (fun b => ?_)) | ((with_reducible apply kP (.makeSlice _ _ _)); refine sMk (fun b => ?_)) | ((with_reducible apply kP (.call ⟨.builtin .append, _, _⟩)); refine sAp (fun oa2 c2 blk2 hrow2 => ?_)) | ((with_reducible apply kP _); refine sP ?_) | ((with_reducible apply kP _); refine sX ?_) | ((with_reducible apply kQG); first | refine qY1 ?_ | refine qN1 ?_ | refine qU1 ?_ | (refine qD1 (fun h => ?_) (fun h => ?_) <;> (try (exfalso; omega))) | refine qB1 (fun h => ?_) (fun h => ?_)) | ((with_reducible apply kQP); refine qP ?_) | ((with_reducible apply kQP); refine qX ?_) | ((with_reducible apply kC); first | refine cT ?_ | refine cF ?_ | (refine cI (fun h => ?_) (fun h => ?_) <;> (try (exfalso; omega))) | refine cB (fun h => ?_) (fun h => ?_)) | ((with_reducible apply kR); refine cQ ?_))
    exact e_ret1 rfl rfl ⟨rfl, rfl⟩ sb0
  · rw [rErr_short (by omega)]
    repeat' (first | (with_reducible first | refine c_seq ?_ | refine c_reg ?_ | refine c_region ?_ | refine c_block ?_ | refine c_skip ?_ | refine c_exit ?_ | refine c_ret ?_ | refine s_nil ?_ | refine x_then ?_ | refine x_then_exit ?_ | refine x_then_ret ?_ | refine x_block ?_ | refine x_block_ret ?_ | refine x_block_same ?_ | refine x_block_other (by rfl) ?_ | refine q_nil ?_ | refine k_nil ?_) | ((with_reducible apply kP (.makeFunc _ _ _)); refine sMF ?_) | ((with_reducible apply kG); first | refine gY1 ?_ | refine gN1 ?_ | refine gU1 ?_ | (refine gD1 (fun h => ?_) (fun h => ?_) <;> (try (exfalso; omega))) | refine gB1 (fun h => ?_) (fun h => ?_)) | ((with_reducible apply kN); first | refine stP ?_ | refine stI ?_ | refine st1 ?_ | refine stW ?_) | ((with_reducible apply kP (.alloc _)); refine sA (fun b => ?_)) | ((with_reducible apply kP (.box _ _)); first | refine sBA (fun b => ?_) | refine sB (fun b => ?_)) | ((with_reducible apply kP (.buildSlice _ 1 _)); first | refine sl1A (fun b => ?_) | refine sl1 (fun b => ?_)) | ((with_reducible apply kP (.buildSlice _ 2 _)); refine sl2 (fun b => ?_)) | ((with_reducible apply kP (.buildSlice _ 3 _)); refine sl3 (fun b => ?_)) | ((with_reducible apply kP (.buildSlice _ 4 _)); refine sl4 (fun b => ?_)) | ((with_reducible apply kP (.buildSlice _ 0 _)); refine s_bs0 (scTOf rfl) (zsTOf rfl) (by decide) (fun b => ?_)) | ((with_reducible apply kP (.makeSlice _ _ _)); refine sMk (fun b => ?_)) | ((with_reducible apply kP (.call ⟨.builtin .append, _, _⟩)); refine sAp (fun oa2 c2 blk2 hrow2 => ?_)) | ((with_reducible apply kP _); refine sP ?_) | ((with_reducible apply kP _); refine sX ?_) | ((with_reducible apply kQG); first | refine qY1 ?_ | refine qN1 ?_ | refine qU1 ?_ | (refine qD1 (fun h => ?_) (fun h => ?_) <;> (try (exfalso; omega))) | refine qB1 (fun h => ?_) (fun h => ?_)) | ((with_reducible apply kQP); refine qP ?_) | ((with_reducible apply kQP); refine qX ?_) | ((with_reducible apply kC); first | refine cT ?_ | refine cF ?_ | (refine cI (fun h => ?_) (fun h => ?_) <;> (try (exfalso; omega))) | refine cB (fun h => ?_) (fun h => ?_)) | ((with_reducible apply kR); refine cQ ?_))
    refine c_loop (fun k : Nat => [(0, .slice oa l.length c), (3, iv k)]) (fun _ => hs) (fun k => k ≤ l.length ∧ ∀ i, i < k → 0 ≤ l.getD i 0 ∧ l.getD i 0 ≤ 1000000) (fun k => l.length - k) 0 ⟨by omega, fun i hi => by omega⟩ (by repeat' first | trivial | rfl | apply And.intro) sb0 ?_
    rintro k ⟨hk, hg⟩
    by_cases hk' : k < l.length
    · have g1 := h1.any hk'
      repeat' (first | (with_reducible first | refine c_seq ?_ | refine c_reg ?_ | refine c_region ?_ | refine c_block ?_ | refine c_skip ?_ | refine c_exit ?_ | refine c_ret ?_ | refine s_nil ?_ | refine x_then ?_ | refine x_then_exit ?_ | refine x_then_ret ?_ | refine x_block ?_ | refine x_block_ret ?_ | refine x_block_same ?_ | refine x_block_other (by rfl) ?_ | refine q_nil ?_ | refine k_nil ?_) | ((with_reducible apply kP (.makeFunc _ _ _)); refine sMF ?_) | ((with_reducible apply kG); first | refine gY1 ?_ | refine gN1 ?_ | refine gU1 ?_ | (refine gD1 (fun h => ?_) (fun h => ?_) <;> (try (exfalso; omega))) | refine gB1 (fun h => ?_) (fun h => ?_)) | ((with_reducible apply kN); first | refine stP ?_ | refine stI ?_ | refine st1 ?_ | refine stW ?_) | ((with_reducible apply kP (.alloc _)); refine sA (fun b => ?_)) | ((with_reducible apply kP (.box _ _)); first | refine sBA (fun b => ?_) | refine sB (fun b => ?_)) | ((with_reducible apply kP (.buildSlice _ 1 _)); first | refine sl1A (fun b => ?_) | refine sl1 (fun b => ?_)) | ((with_reducible apply kP (.buildSlice _ 2 _)); refine sl2 (fun b => ?_)) | ((with_reducible apply kP (.buildSlice _ 3 _)); refine sl3 (fun b => ?_)) | ((with_reducible apply kP (.buildSlice _ 4 _)); refine sl4 (fun b => ?_)) | ((with_reducible apply kP (.buildSlice _ 0 _)); refine s_bs0 (scTOf rfl) (zsTOf rfl) (by decide) (fun b => ?_)) | ((with_reducible apply kP (.makeSlice _ _ _)); refine sMk (fun b => ?_)) | ((with_reducible apply kP (.call ⟨.builtin .append, _, _⟩)); refine sAp (fun oa2 c2 blk2 hrow2 => ?_)) | ((with_reducible apply kP _); refine sP ?_) | ((with_reducible apply kP _); refine sX ?_) | ((with_reducible apply kQG); first | refine qY1 ?_ | refine qN1 ?_ | refine qU1 ?_ | (refine qD1 (fun h => ?_) (fun h => ?_) <;> (try (exfalso; omega))) | refine qB1 (fun h => ?_) (fun h => ?_)) | ((with_reducible apply kQP); refine qP ?_) | ((with_reducible apply kQP); refine qX ?_) | ((with_reducible apply kC); first | refine cT ?_ | refine cF ?_ | (refine cI (fun h => ?_) (fun h => ?_) <;> (try (exfalso; omega))) | refine cB (fun h => ?_) (fun h => ?_)) | ((with_reducible apply kR); refine cQ ?_))
      · rw [if_neg (by rw [rng_bad hk' (by omega)]; decide)]
        exact e_ret1 rfl rfl ⟨rfl, rfl⟩ sb0
      · rw [if_neg (by rw [rng_bad hk' (by omega)]; decide)]
        exact e_ret1 rfl rfl ⟨rfl, rfl⟩ sb0
      · refine r_end (k + 1) ⟨by omega, fun i hi => ?_⟩ (by omega) ⟨rfl, rfl, trivial⟩ sb0
        by_cases hik : i = k
        · subst hik; omega
        · exact hg i (by omega)
    · obtain rfl : k = l.length := by omega
      rw [if_pos (show rng l = true by unfold rng; exact decide_eq_true hg)]
      repeat' (first | (with_reducible first | refine c_seq ?_ | refine c_reg ?_ | refine c_region ?_ | refine c_block ?_ | refine c_skip ?_ | refine c_exit ?_ | refine c_ret ?_ | refine s_nil ?_ | refine x_then ?_ | refine x_then_exit ?_ | refine x_then_ret ?_ | refine x_block ?_ | refine x_block_ret ?_ | refine x_block_same ?_ | refine x_block_other (by rfl) ?_ | refine q_nil ?_ | refine k_nil ?_) | ((with_reducible apply kP (.makeFunc _ _ _)); refine sMF ?_) | ((with_reducible apply kG); first | refine gY1 ?_ | refine gN1 ?_ | refine gU1 ?_ | (refine gD1 (fun h => ?_) (fun h => ?_) <;> (try (exfalso; omega))) | refine gB1 (fun h => ?_) (fun h => ?_)) | ((with_reducible apply kN); first | refine stP ?_ | refine stI ?_ | refine st1 ?_ | refine stW ?_) | ((with_reducible apply kP (.alloc _)); refine sA (fun b => ?_)) | ((with_reducible apply kP (.box _ _)); first | refine sBA (fun b => ?_) | refine sB (fun b => ?_)) | ((with_reducible apply kP (.buildSlice _ 1 _)); first | refine sl1A (fun b => ?_) | refine sl1 (fun b => ?_)) | ((with_reducible apply kP (.buildSlice _ 2 _)); refine sl2 (fun b => ?_)) | ((with_reducible apply kP (.buildSlice _ 3 _)); refine sl3 (fun b => ?_)) | ((with_reducible apply kP (.buildSlice _ 4 _)); refine sl4 (fun b => ?_)) | ((with_reducible apply kP (.buildSlice _ 0 _)); refine s_bs0 (scTOf rfl) (zsTOf rfl) (by decide) (fun b => ?_)) | ((with_reducible apply kP (.makeSlice _ _ _)); refine sMk (fun b => ?_)) | ((with_reducible apply kP (.call ⟨.builtin .append, _, _⟩)); refine sAp (fun oa2 c2 blk2 hrow2 => ?_)) | ((with_reducible apply kP _); refine sP ?_) | ((with_reducible apply kP _); refine sX ?_) | ((with_reducible apply kQG); first | refine qY1 ?_ | refine qN1 ?_ | refine qU1 ?_ | (refine qD1 (fun h => ?_) (fun h => ?_) <;> (try (exfalso; omega))) | refine qB1 (fun h => ?_) (fun h => ?_)) | ((with_reducible apply kQP); refine qP ?_) | ((with_reducible apply kQP); refine qX ?_) | ((with_reducible apply kC); first | refine cT ?_ | refine cF ?_ | (refine cI (fun h => ?_) (fun h => ?_) <;> (try (exfalso; omega))) | refine cB (fun h => ?_) (fun h => ?_)) | ((with_reducible apply kR); refine cQ ?_))
      exact e_ret1 rfl rfl ⟨rfl, rfl⟩ sb0
set_option maxRecDepth 100000 in
set_option maxHeartbeats 8000000 in
theorem k_stretches (oa : Option Addr) (c : Nat) (l : List Int) (w : Nat) (h : rng l = true) (hl : l.length ≤ 200) (hw : 1 ≤ w) (hw2 : w ≤ 1000000) (B : Nat) (w0 : World) (hs : HS) (h1 : Sl B w0 hs oa l) :
    Fn Try.prog 76 #[.slice oa l.length c, iv w] B w0 hs (fun u hs' => ∃ blk, NewI (tab (l.length + 1 - w) (ws l w)) u blk ∧ hs' = blk ++ hs) := by
  refine fn_enter Try.func76 rfl Try.ntmps76 (by simp) ?_
  repeat' (first | (with_reducible first | refine c_seq ?_ | refine c_reg ?_ | refine c_region ?_ | refine c_block ?_ | refine c_skip ?_ | refine c_exit ?_ | refine c_ret ?_ | refine s_nil ?_ | refine x_then ?_ | refine x_then_exit ?_ | refine x_then_ret ?_ | refine x_block ?_ | refine x_block_ret ?_ | refine x_block_same ?_ | refine x_block_other (by rfl) ?_ | refine q_nil ?_ | refine k_nil ?_) | ((with_reducible apply kP (.makeFunc _ _ _)); refine sMF ?_) | ((with_reducible apply kG); first | refine gY1 ?_ | refine gN1 ?_ | refine gU1 ?_ | (refine gD1 (fun h => ?_) (fun h => ?_) <;> (try (exfalso; omega))) | refine gB1 (fun h => ?_) (fun h => ?_)) | ((with_reducible apply kN); first | refine stP ?_ | refine stI ?_ | refine st1 ?_ | refine stW ?_) | ((with_reducible apply kP (.alloc _)); refine sA (fun b => ?_)) | ((with_reducible apply kP (.box _ _)); first | refine sBA (fun b => ?_) | refine sB (fun b => ?_)) | ((with_reducible apply kP (.buildSlice _ 1 _)); first | refine sl1A (fun b => ?_) | refine sl1 (fun b => ?_)) | ((with_reducible apply kP (.buildSlice _ 2 _)); refine sl2 (fun b => ?_)) | ((with_reducible apply kP (.buildSlice _ 3 _)); refine sl3 (fun b => ?_)) | ((with_reducible apply kP (.buildSlice _ 4 _)); refine sl4 (fun b => ?_)) | ((with_reducible apply kP (.buildSlice _ 0 _)); refine s_bs0 (scTOf rfl) (zsTOf rfl) (by decide) (fun b => ?_)) | ((with_reducible apply kP (.makeSlice _ _ _)); refine sMk (fun b => ?_)) | ((with_reducible apply kP (.call ⟨.builtin .append, _, _⟩)); refine sAp (fun oa2 c2 blk2 hrow2 => ?_)) | ((with_reducible apply kP _); refine sP ?_) | ((with_reducible apply kP _); refine sX ?_) | ((with_reducible apply kQG); first | refine qY1 ?_ | refine qN1 ?_ | refine qU1 ?_ | (refine qD1 (fun h => ?_) (fun h => ?_) <;> (try (exfalso; omega))) | refine qB1 (fun h => ?_) (fun h => ?_)) | ((with_reducible apply kQP); refine qP ?_) | ((with_reducible apply kQP); refine qX ?_) | ((with_reducible apply kC); first | refine cT ?_ | refine cF ?_ | (refine cI (fun h => ?_) (fun h => ?_) <;> (try (exfalso; omega))) | refine cB (fun h => ?_) (fun h => ?_)) | ((with_reducible apply kR); refine cQ ?_))
  refine c_loop (fun x : Nat × Option Addr × Nat × HS => [(0, .slice oa l.length c), (1, iv w), (5, .slice x.2.1 (x.1 + 1 - w) x.2.2.1), (6, iv (pfx l x.1 - pfx l (x.1 - w))), (9, .slice oa l.length c), (10, iv l.length), (11, iv x.1)]) (fun x => x.2.2.2 ++ hs)
    (fun x => x.1 ≤ l.length ∧ RowOk x.2.1 x.2.2.1 1 (ivs (tab (x.1 + 1 - w) (ws l w))) x.2.2.2) (fun x => l.length - x.1) (0, none, 0, []) ⟨by simp, by rw [show 0 + 1 - w = 0 by omega]; exact RowOk.nil⟩ (by simp only [show 0 + 1 - w = 0 by omega, show 0 - w = 0 by omega]; exact (by repeat' first | trivial | rfl | apply And.intro)) sb0 ?_
  rintro ⟨k, ob, d, blk⟩ ⟨hk, hrow⟩
  simp only at hk hrow ⊢
  have hlr := tab_length (k + 1 - w) (ws l w)
  by_cases hk' : k < l.length
  · have g1 := h1.any hk'
    have a1 := pfx_to h hl k (by omega)
    have a2 := pfx_to h hl (k - w) (by omega)
    have a3 := rng_at h hk'
    have a4 := pfx_succ l k
    by_cases hkw : k + 1 < w
    · repeat' (first | (with_reducible first | refine c_seq ?_ | refine c_reg ?_ | refine c_region ?_ | refine c_block ?_ | refine c_skip ?_ | refine c_exit ?_ | refine c_ret ?_ | refine s_nil ?_ | refine x_then ?_ | refine x_then_exit ?_ | refine x_then_ret ?_ | refine x_block ?_ | refine x_block_ret ?_ | refine x_block_same ?_ | refine x_block_other (by rfl) ?_ | refine q_nil ?_ | refine k_nil ?_) | ((with_reducible apply kP (.makeFunc _ _ _)); refine sMF ?_) | ((with_reducible apply kG); first | refine gY1 ?_ | refine gN1 ?_ | refine gU1 ?_ | (refine gD1 (fun h => ?_) (fun h => ?_) <;> (try (exfalso; omega))) | refine gB1 (fun h => ?_) (fun h => ?_)) | ((with_reducible apply kN); first | refine stP ?_ | refine stI ?_ | refine st1 ?_ | refine stW ?_) | ((with_reducible apply kP (.alloc _)); refine sA (fun b => ?_)) | ((with_reducible apply kP (.box _ _)); first | refine sBA (fun b => ?_) | refine sB (fun b => ?_)) | ((with_reducible apply kP (.buildSlice _ 1 _)); first | refine sl1A (fun b => ?_) | refine sl1 (fun b => ?_)) | ((with_reducible apply kP (.buildSlice _ 2 _)); refine sl2 (fun b => ?_)) | ((with_reducible apply kP (.buildSlice _ 3 _)); refine sl3 (fun b => ?_)) | ((with_reducible apply kP (.buildSlice _ 4 _)); refine sl4 (fun b => ?_)) | ((with_reducible apply kP (.buildSlice _ 0 _)); refine s_bs0 (scTOf rfl) (zsTOf rfl) (by decide) (fun b => ?_)) | ((with_reducible apply kP (.makeSlice _ _ _)); refine sMk (fun b => ?_)) | ((with_reducible apply kP (.call ⟨.builtin .append, _, _⟩)); refine sAp (fun oa2 c2 blk2 hrow2 => ?_)) | ((with_reducible apply kP _); refine sP ?_) | ((with_reducible apply kP _); refine sX ?_) | ((with_reducible apply kQG); first | refine qY1 ?_ | refine qN1 ?_ | refine qU1 ?_ | (refine qD1 (fun h => ?_) (fun h => ?_) <;> (try (exfalso; omega))) | refine qB1 (fun h => ?_) (fun h => ?_)) | ((with_reducible apply kQP); refine qP ?_) | ((with_reducible apply kQP); refine qX ?_) | ((with_reducible apply kC); first | refine cT ?_ | refine cF ?_ | (refine cI (fun h => ?_) (fun h => ?_) <;> (try (exfalso; omega))) | refine cB (fun h => ?_) (fun h => ?_)) | ((with_reducible apply kR); refine cQ ?_))
      refine r_end (k + 1, ob, d, blk) ⟨by simp only; omega, by simp only; rw [show k + 1 + 1 - w = k + 1 - w by omega]; exact hrow⟩ (by simp only; omega) ⟨rfl, rfl, ?_, ?_, rfl, rfl, rfl, trivial⟩ SCt
      · simp only [show k + 1 + 1 - w = k + 1 - w by omega]; rfl
      · show some (iv _) = some (iv _)
        rw [a4, show k + 1 - w = k - w by omega]; congr 2; omega
    · have hj : k + 1 - w + w = k + 1 := by omega
      have hws : ws l w (k + 1 - w) = pfx l (k + 1) - pfx l (k + 1 - w) := by unfold ws; rw [hj]
      by_cases hk2 : k < w
      · have e1 : pfx l k - pfx l (k - w) + l.getD k 0 = ws l w (k + 1 - w) := by rw [hws, a4, show k + 1 - w = k - w by omega]; omega
        repeat' (first | (with_reducible refine f_eq (t := 6) (v := iv (pfx l k - pfx l (k - w) + l.getD k 0)) rfl (congrArg iv e1) ?_) | (with_reducible first | refine c_seq ?_ | refine c_reg ?_ | refine c_region ?_ | refine c_block ?_ | refine c_skip ?_ | refine c_exit ?_ | refine c_ret ?_ | refine s_nil ?_ | refine x_then ?_ | refine x_then_exit ?_ | refine x_then_ret ?_ | refine x_block ?_ | refine x_block_ret ?_ | refine x_block_same ?_ | refine x_block_other (by rfl) ?_ | refine q_nil ?_ | refine k_nil ?_) | ((with_reducible apply kP (.makeFunc _ _ _)); refine sMF ?_) | ((with_reducible apply kG); first | refine gY1 ?_ | refine gN1 ?_ | refine gU1 ?_ | (refine gD1 (fun h => ?_) (fun h => ?_) <;> (try (exfalso; omega))) | refine gB1 (fun h => ?_) (fun h => ?_)) | ((with_reducible apply kN); first | refine stP ?_ | refine stI ?_ | refine st1 ?_ | refine stW ?_) | ((with_reducible apply kP (.alloc _)); refine sA (fun b => ?_)) | ((with_reducible apply kP (.box _ _)); first | refine sBA (fun b => ?_) | refine sB (fun b => ?_)) | ((with_reducible apply kP (.buildSlice _ 1 _)); first | refine sl1A (fun b => ?_) | refine sl1 (fun b => ?_)) | ((with_reducible apply kP (.buildSlice _ 2 _)); refine sl2 (fun b => ?_)) | ((with_reducible apply kP (.buildSlice _ 3 _)); refine sl3 (fun b => ?_)) | ((with_reducible apply kP (.buildSlice _ 4 _)); refine sl4 (fun b => ?_)) | ((with_reducible apply kP (.buildSlice _ 0 _)); refine s_bs0 (scTOf rfl) (zsTOf rfl) (by decide) (fun b => ?_)) | ((with_reducible apply kP (.makeSlice _ _ _)); refine sMk (fun b => ?_)) | ((with_reducible apply kP (.call ⟨.builtin .append, _, _⟩)); refine sAp (fun oa2 c2 blk2 hrow2 => ?_)) | ((with_reducible apply kP _); refine sP ?_) | ((with_reducible apply kP _); refine sX ?_) | ((with_reducible apply kQG); first | refine qY1 ?_ | refine qN1 ?_ | refine qU1 ?_ | (refine qD1 (fun h => ?_) (fun h => ?_) <;> (try (exfalso; omega))) | refine qB1 (fun h => ?_) (fun h => ?_)) | ((with_reducible apply kQP); refine qP ?_) | ((with_reducible apply kQP); refine qX ?_) | ((with_reducible apply kC); first | refine cT ?_ | refine cF ?_ | (refine cI (fun h => ?_) (fun h => ?_) <;> (try (exfalso; omega))) | refine cB (fun h => ?_) (fun h => ?_)) | ((with_reducible apply kR); refine cQ ?_))
        refine r_end (k + 1, oa2, c2, blk2) ⟨by simp only; omega, by simp only; rw [show k + 1 + 1 - w = k + 1 - w + 1 by omega]; exact row_succ hrow2⟩ (by simp only; omega) ⟨rfl, rfl, ?_, ?_, rfl, rfl, rfl, trivial⟩ SCt
        · simp only [show k + 1 + 1 - w = k + 1 - w + 1 by omega]; rfl
        · exact congrArg (fun x => some (iv x)) hws
      · have a5 := rng_at h (i := k - w) (by omega)
        have a6 := pfx_succ l (k - w)
        have e1 : pfx l k - pfx l (k - w) + l.getD k 0 - l.getD (k - w) 0 = ws l w (k + 1 - w) := by rw [hws, a4, show k + 1 - w = k - w + 1 by omega, a6]; omega
        repeat' (first | (with_reducible refine f_eq (t := 6) (v := iv (pfx l k - pfx l (k - w) + l.getD k 0 - l.getD (k - w) 0)) rfl (congrArg iv e1) ?_) | (with_reducible first | refine c_seq ?_ | refine c_reg ?_ | refine c_region ?_ | refine c_block ?_ | refine c_skip ?_ | refine c_exit ?_ | refine c_ret ?_ | refine s_nil ?_ | refine x_then ?_ | refine x_then_exit ?_ | refine x_then_ret ?_ | refine x_block ?_ | refine x_block_ret ?_ | refine x_block_same ?_ | refine x_block_other (by rfl) ?_ | refine q_nil ?_ | refine k_nil ?_) | ((with_reducible apply kP (.makeFunc _ _ _)); refine sMF ?_) | ((with_reducible apply kG); first | refine gY1 ?_ | refine gN1 ?_ | refine gU1 ?_ | (refine gD1 (fun h => ?_) (fun h => ?_) <;> (try (exfalso; omega))) | refine gB1 (fun h => ?_) (fun h => ?_)) | ((with_reducible apply kN); first | refine stP ?_ | refine stI ?_ | refine st1 ?_ | refine stW ?_) | ((with_reducible apply kP (.alloc _)); refine sA (fun b => ?_)) | ((with_reducible apply kP (.box _ _)); first | refine sBA (fun b => ?_) | refine sB (fun b => ?_)) | ((with_reducible apply kP (.buildSlice _ 1 _)); first | refine sl1A (fun b => ?_) | refine sl1 (fun b => ?_)) | ((with_reducible apply kP (.buildSlice _ 2 _)); refine sl2 (fun b => ?_)) | ((with_reducible apply kP (.buildSlice _ 3 _)); refine sl3 (fun b => ?_)) | ((with_reducible apply kP (.buildSlice _ 4 _)); refine sl4 (fun b => ?_)) | ((with_reducible apply kP (.buildSlice _ 0 _)); refine s_bs0 (scTOf rfl) (zsTOf rfl) (by decide) (fun b => ?_)) | ((with_reducible apply kP (.makeSlice _ _ _)); refine sMk (fun b => ?_)) | ((with_reducible apply kP (.call ⟨.builtin .append, _, _⟩)); refine sAp (fun oa2 c2 blk2 hrow2 => ?_)) | ((with_reducible apply kP _); refine sP ?_) | ((with_reducible apply kP _); refine sX ?_) | ((with_reducible apply kQG); first | refine qY1 ?_ | refine qN1 ?_ | refine qU1 ?_ | (refine qD1 (fun h => ?_) (fun h => ?_) <;> (try (exfalso; omega))) | refine qB1 (fun h => ?_) (fun h => ?_)) | ((with_reducible apply kQP); refine qP ?_) | ((with_reducible apply kQP); refine qX ?_) | ((with_reducible apply kC); first | refine cT ?_ | refine cF ?_ | (refine cI (fun h => ?_) (fun h => ?_) <;> (try (exfalso; omega))) | refine cB (fun h => ?_) (fun h => ?_)) | ((with_reducible apply kR); refine cQ ?_))
        refine r_end (k + 1, oa2, c2, blk2) ⟨by simp only; omega, by simp only; rw [show k + 1 + 1 - w = k + 1 - w + 1 by omega]; exact row_succ hrow2⟩ (by simp only; omega) ⟨rfl, rfl, ?_, ?_, rfl, rfl, rfl, trivial⟩ SCt
        · simp only [show k + 1 + 1 - w = k + 1 - w + 1 by omega]; rfl
        · exact congrArg (fun x => some (iv x)) hws
  · obtain rfl : k = l.length := by omega
    repeat' (first | (with_reducible first | refine c_seq ?_ | refine c_reg ?_ | refine c_region ?_ | refine c_block ?_ | refine c_skip ?_ | refine c_exit ?_ | refine c_ret ?_ | refine s_nil ?_ | refine x_then ?_ | refine x_then_exit ?_ | refine x_then_ret ?_ | refine x_block ?_ | refine x_block_ret ?_ | refine x_block_same ?_ | refine x_block_other (by rfl) ?_ | refine q_nil ?_ | refine k_nil ?_) | ((with_reducible apply kP (.makeFunc _ _ _)); refine sMF ?_) | ((with_reducible apply kG); first | refine gY1 ?_ | refine gN1 ?_ | refine gU1 ?_ | (refine gD1 (fun h => ?_) (fun h => ?_) <;> (try (exfalso; omega))) | refine gB1 (fun h => ?_) (fun h => ?_)) | ((with_reducible apply kN); first | refine stP ?_ | refine stI ?_ | refine st1 ?_ | refine stW ?_) | ((with_reducible apply kP (.alloc _)); refine sA (fun b => ?_)) | ((with_reducible apply kP (.box _ _)); first | refine sBA (fun b => ?_) | refine sB (fun b => ?_)) | ((with_reducible apply kP (.buildSlice _ 1 _)); first | refine sl1A (fun b => ?_) | refine sl1 (fun b => ?_)) | ((with_reducible apply kP (.buildSlice _ 2 _)); refine sl2 (fun b => ?_)) | ((with_reducible apply kP (.buildSlice _ 3 _)); refine sl3 (fun b => ?_)) | ((with_reducible apply kP (.buildSlice _ 4 _)); refine sl4 (fun b => ?_)) | ((with_reducible apply kP (.buildSlice _ 0 _)); refine s_bs0 (scTOf rfl) (zsTOf rfl) (by decide) (fun b => ?_)) | ((with_reducible apply kP (.makeSlice _ _ _)); refine sMk (fun b => ?_)) | ((with_reducible apply kP (.call ⟨.builtin .append, _, _⟩)); refine sAp (fun oa2 c2 blk2 hrow2 => ?_)) | ((with_reducible apply kP _); refine sP ?_) | ((with_reducible apply kP _); refine sX ?_) | ((with_reducible apply kQG); first | refine qY1 ?_ | refine qN1 ?_ | refine qU1 ?_ | (refine qD1 (fun h => ?_) (fun h => ?_) <;> (try (exfalso; omega))) | refine qB1 (fun h => ?_) (fun h => ?_)) | ((with_reducible apply kQP); refine qP ?_) | ((with_reducible apply kQP); refine qX ?_) | ((with_reducible apply kC); first | refine cT ?_ | refine cF ?_ | (refine cI (fun h => ?_) (fun h => ?_) <;> (try (exfalso; omega))) | refine cB (fun h => ?_) (fun h => ?_)) | ((with_reducible apply kR); refine cQ ?_))
    exact e_ret1 rfl rfl ⟨blk, ⟨ob, d, by rw [hlr], hrow⟩, rfl⟩ SCt
end Go.Proofs.Ytlijcnocahplbaa
