/- Hairs are drawn: the longest first. -/
import Derived.Test.YtiopaodiaokfdaaH14
namespace Go.Proofs.Ytiopaodiaokfdaa
open Go.RowKit

/-- How many hairs are still to be drawn after j lengths; when the length i is due. -/
def dL (f g : Nat → Int) (n : Int) : Nat → Int
  | 0 => n
  | j + 1 => dL f g n j - min (dL f g n j) (f (24 - j) + g (24 - j))
def lft (f g : Nat → Int) (n : Int) (i : Nat) : Int := dL f g n (24 - i)
def oF (f g : Nat → Int) (n : Int) (i : Nat) : Int := if i = 0 then 0 else min (min (lft f g n i) (f i + g i)) (f i)
def oG (f g : Nat → Int) (n : Int) (i : Nat) : Int := if i = 0 then 0 else min (lft f g n i) (f i + g i) - min (min (lft f g n i) (f i + g i)) (f i)
/-- The drawn hairs, and the left ones, while the lengths above i are done. -/
def sO (F : Nat → Int) (i x : Nat) : Int := if i < x then F x else 0
def sQ (f F : Nat → Int) (i x : Nat) : Int := if i < x then f x - F x else f x
theorem lft_pred (f g : Nat → Int) (n : Int) {i : Nat} (h : i < 24) : lft f g n i = lft f g n (i + 1) - min (lft f g n (i + 1)) (f (i + 1) + g (i + 1)) := by
  unfold lft
  rw [show 24 - i = (24 - (i + 1)) + 1 by omega]
  show dL f g n (24 - (i + 1)) - min (dL f g n (24 - (i + 1))) (f (24 - (24 - (i + 1))) + g (24 - (24 - (i + 1)))) = _
  rw [show 24 - (24 - (i + 1)) = i + 1 by omega]
theorem lft_to {f g : Nat → Int} {n : Int} (hf : Okf f) (hg : Okf g) (hn : 0 ≤ n) : ∀ j, j ≤ 24 → 0 ≤ lft f g n (24 - j) ∧ lft f g n (24 - j) ≤ n
  | 0, _ => by unfold lft; exact ⟨hn, Int.le_refl _⟩
  | j + 1, h => by
    have := lft_to hf hg hn j (by omega)
    have e := lft_pred f g n (i := 24 - (j + 1)) (by omega)
    rw [show 24 - (j + 1) + 1 = 24 - j by omega] at e
    have := hf (24 - j) (by omega); have := hg (24 - j) (by omega)
    omega
theorem lft_ok {f g : Nat → Int} {n : Int} (hf : Okf f) (hg : Okf g) (hn : 0 ≤ n) {i : Nat} (hi : i ≤ 24) : 0 ≤ lft f g n i ∧ lft f g n i ≤ n := by
  have := lft_to hf hg hn (24 - i) (by omega)
  rwa [show 24 - (24 - i) = i by omega] at this
theorem lft_zero {f g : Nat → Int} {n : Int} (hf : Okf f) (hg : Okf g) (hn : 0 ≤ n) {i : Nat} (hi : i ≤ 24) (h : lft f g n i ≤ 0) : ∀ d, d ≤ i → lft f g n (i - d) ≤ 0
  | 0, _ => h
  | d + 1, hd => by
    have := lft_zero hf hg hn hi h d (by omega)
    have e := lft_pred f g n (i := i - (d + 1)) (by omega)
    rw [show i - (d + 1) + 1 = i - d by omega] at e
    have := hf (i - d) (by omega); have := hg (i - d) (by omega); have := lft_ok hf hg hn (i := i - d) (by omega)
    omega
theorem oF_to {f g : Nat → Int} {n : Int} (hf : Okf f) (hg : Okf g) (hn : 0 ≤ n) {i : Nat} (hi : i < 25) : 0 ≤ oF f g n i ∧ oF f g n i ≤ f i ∧ 0 ≤ oG f g n i ∧ oG f g n i ≤ g i := by
  have := hf i hi; have := hg i hi; have := lft_ok hf hg hn (i := i) (by omega)
  unfold oF oG
  split <;> omega
theorem oF_zero {f g : Nat → Int} {n : Int} (hf : Okf f) (hg : Okf g) (hn : 0 ≤ n) {i : Nat} (hi : i ≤ 24) (h : lft f g n i ≤ 0) {x : Nat} (hx : x ≤ i) : oF f g n x = 0 ∧ oG f g n x = 0 := by
  have := lft_zero hf hg hn hi h (i - x) (by omega)
  rw [show i - (i - x) = x by omega] at this
  have := hf x (by omega); have := hg x (by omega); have := lft_ok hf hg hn (i := x) (by omega)
  unfold oF oG
  split <;> omega
theorem sO_step (F : Nat → Int) (i : Nat) : upd (sO F (i + 1)) (i + 1) (F (i + 1)) = sO F i := by
  funext x; simp only [upd, sO]
  by_cases h : x = i + 1
  · subst h; rw [if_pos rfl, if_pos (by omega)]
  · rw [if_neg h]
    by_cases h' : i + 1 < x
    · rw [if_pos h', if_pos (by omega)]
    · rw [if_neg h', if_neg (by omega)]
theorem sQ_step (f F : Nat → Int) (i : Nat) : upd (sQ f F (i + 1)) (i + 1) (f (i + 1) - F (i + 1)) = sQ f F i := by
  funext x; simp only [upd, sQ]
  by_cases h : x = i + 1
  · subst h; rw [if_pos rfl, if_pos (by omega)]
  · rw [if_neg h]
    by_cases h' : i + 1 < x
    · rw [if_pos h', if_pos (by omega)]
    · rw [if_neg h', if_neg (by omega)]
theorem sO_at (F : Nat → Int) (i : Nat) : sO F i i = 0 := if_neg (by omega)
theorem sQ_at (f F : Nat → Int) (i : Nat) : sQ f F i i = f i := if_neg (by omega)
theorem sO_top (F : Nat → Int) {x : Nat} (hx : x < 25) : sO F 24 x = 0 := if_neg (by omega)
theorem sQ_top (f F : Nat → Int) {x : Nat} (hx : x < 25) : sQ f F 24 x = f x := if_neg (by omega)
theorem sO_end (F : Nat → Int) {i : Nat} (h : ∀ x, x ≤ i → F x = 0) (x : Nat) : sO F i x = F x := by
  unfold sO; split
  · rfl
  · rw [h x (by omega)]
theorem sQ_end (f F : Nat → Int) {i : Nat} (h : ∀ x, x ≤ i → F x = 0) (x : Nat) : sQ f F i x = f x - F x := by
  unfold sQ; split
  · rfl
  · rw [h x (by omega)]; omega
set_option maxRecDepth 100000 in
set_option maxHeartbeats 8000000 in
theorem h_draw (f g : Nat → Int) (n : Int) (hf : Okf f) (hg : Okf g) (hn : 0 ≤ n) (hn2 : n ≤ 1000000000) (b0 : Nat) (B : Nat) (w0 : World) (hs : HS) :
    Fn Try.prog 87 #[.pointer (some ⟨b0, 0, none⟩), iv n] B w0 ((b0, ivs (lockC f g)) :: hs)
      (fun u hs' => u = lockV (oF f g n) (oG f g n) ∧ hs' = (b0, ivs (lockC (fun i => f i - oF f g n i) (fun i => g i - oG f g n i))) :: hs) := by
  refine fn_enter Try.func87 rfl Try.ntmps87 (by simp) ?_
  repeat' (first | (with_reducible first | refine c_seq ?_ | refine c_reg ?_ | refine c_region ?_ | refine c_block ?_ | refine c_skip ?_ | refine c_exit ?_ | refine c_ret ?_ | refine s_nil ?_ | refine x_then ?_ | refine x_then_exit ?_ | refine x_then_ret ?_ | refine x_block ?_ | refine x_block_ret ?_ | refine x_block_same ?_ | refine x_block_other (by rfl) ?_ | refine q_nil ?_ | refine k_nil ?_) | ((with_reducible apply kP (.makeFunc _ _ _)); refine sMF ?_) | ((with_reducible apply kG); first | refine gY1 ?_ | refine gN1 ?_ | refine gU1 ?_ | (refine gD1 (fun h => ?_) (fun h => ?_) <;> (try (exfalso; omega))) | refine gB1 (fun h => ?_) (fun h => ?_)) | ((with_reducible apply kN); first | refine stP ?_ | refine stI ?_ | refine st1 ?_ | refine stW ?_) | ((with_reducible apply kP (.alloc _)); refine sA (fun b => ?_)) | ((with_reducible apply kP (.box _ _)); first | refine sBA (fun b => ?_) | refine sB (fun b => ?_)) | ((with_reducible apply kP (.buildSlice _ 1 _)); first | refine sl1A (fun b => ?_) | refine sl1 (fun b => ?_)) | ((with_reducible apply kP (.buildSlice _ 2 _)); refine sl2 (fun b => ?_)) | ((with_reducible apply kP (.buildSlice _ 3 _)); refine sl3 (fun b => ?_)) | ((with_reducible apply kP (.buildSlice _ 4 _)); refine sl4 (fun b => ?_)) | ((with_reducible apply kP (.buildSlice _ 0 _)); refine s_bs0 (scTOf rfl) (zsTOf rfl) (by decide) (fun b => ?_)) | ((with_reducible apply kP (.makeSlice _ _ _)); refine sMk (fun b => ?_)) | ((with_reducible apply kP (.call ⟨.builtin .append, _, _⟩)); refine sAp (fun oa2 c2 blk2 hrow2 => ?_)) | ((with_reducible apply kP _); refine sP ?_) | ((with_reducible apply kP _); refine sX ?_) | ((with_reducible apply kQG); first | refine qY1 ?_ | refine qN1 ?_ | refine qU1 ?_ | (refine qD1 (fun h => ?_) (fun h => ?_) <;> (try (exfalso; omega))) | refine qB1 (fun h => ?_) (fun h => ?_)) | ((with_reducible apply kQP); refine qP ?_) | ((with_reducible apply kQP); refine qX ?_) | ((with_reducible apply kC); first | refine cT ?_ | refine cF ?_ | (refine cI (fun h => ?_) (fun h => ?_) <;> (try (exfalso; omega))) | refine cB (fun h => ?_) (fun h => ?_)) | ((with_reducible apply kR); refine cQ ?_))
  have hz := zeros_lock
  rename_i b4
  have oR : ∀ i, Okf (sQ f (oF f g n) i) := fun i x hx => by have := hf x hx; have := oF_to hf hg hn hx; unfold sQ; split <;> omega
  have oR' : ∀ i, Okf (sQ g (oG f g n) i) := fun i x hx => by have := hg x hx; have := oF_to hf hg hn hx; unfold sQ; split <;> omega
  refine Sat.perm (.cons _ (.swap _ _ _)) ?_
  refine c_loop (fun i : Nat => [(0, .pointer (some ⟨b0, 0, none⟩)), (1, iv (lft f g n i)), (4, .pointer (some ⟨b4, 0, none⟩)), (5, .pointer (some ⟨b, 0, none⟩)), (6, iv i)])
    (fun i => (b, ivs (lockC (sO (oF f g n) i) (sO (oG f g n) i))) :: (b0, ivs (lockC (sQ f (oF f g n) i) (sQ g (oG f g n) i))) :: (b4, List.replicate 50 (Value.int .i64 0)) :: hs) (fun i => i ≤ 24) (fun i => i) 24 (by omega) (by repeat' first | trivial | rfl | apply And.intro)
    (by rw [lockC_ext (fun x hx => sO_top _ hx) (fun x hx => sO_top _ hx), ← hz, lockC_ext (fun x hx => sQ_top _ _ hx) (fun x hx => sQ_top _ _ hx)]; exact sb0) ?_
  intro i hi
  have hl1 := lockC_length (sO (oF f g n) i) (sO (oG f g n) i)
  have hl2 := lockC_length (sQ f (oF f g n) i) (sQ g (oG f g n) i)
  have hl := lft_ok hf hg hn hi
  have fin : (∀ x, x ≤ i → oF f g n x = 0 ∧ oG f g n x = 0) → lockC (sO (oF f g n) i) (sO (oG f g n) i) = lockC (oF f g n) (oG f g n) ∧ lockC (sQ f (oF f g n) i) (sQ g (oG f g n) i) = lockC (fun i => f i - oF f g n i) (fun i => g i - oG f g n i) := fun h =>
    ⟨lockC_ext (fun x _ => sO_end _ (fun x hx => (h x hx).1) x) (fun x _ => sO_end _ (fun x hx => (h x hx).2) x), lockC_ext (fun x _ => sQ_end _ _ (fun x hx => (h x hx).1) x) (fun x _ => sQ_end _ _ (fun x hx => (h x hx).2) x)⟩
  by_cases hz0 : lft f g n i ≤ 0
  · obtain ⟨f1, f2⟩ := fin (fun x hx => oF_zero hf hg hn hi hz0 hx)
    rw [f1] at hl1 ⊢
    rw [f2] at hl2 ⊢
    repeat' (first | (with_reducible first | refine c_seq ?_ | refine c_reg ?_ | refine c_region ?_ | refine c_block ?_ | refine c_skip ?_ | refine c_exit ?_ | refine c_ret ?_ | refine s_nil ?_ | refine x_then ?_ | refine x_then_exit ?_ | refine x_then_ret ?_ | refine x_block ?_ | refine x_block_ret ?_ | refine x_block_same ?_ | refine x_block_other (by rfl) ?_ | refine q_nil ?_ | refine k_nil ?_) | ((with_reducible apply kP (.makeFunc _ _ _)); refine sMF ?_) | ((with_reducible apply kG); first | refine gY1 ?_ | refine gN1 ?_ | refine gU1 ?_ | (refine gD1 (fun h => ?_) (fun h => ?_) <;> (try (exfalso; omega))) | refine gB1 (fun h => ?_) (fun h => ?_)) | ((with_reducible apply kN); first | refine stP ?_ | refine stI ?_ | refine st1 ?_ | refine stW ?_) | ((with_reducible apply kP (.alloc _)); refine sA (fun b => ?_)) | ((with_reducible apply kP (.box _ _)); first | refine sBA (fun b => ?_) | refine sB (fun b => ?_)) | ((with_reducible apply kP (.buildSlice _ 1 _)); first | refine sl1A (fun b => ?_) | refine sl1 (fun b => ?_)) | ((with_reducible apply kP (.buildSlice _ 2 _)); refine sl2 (fun b => ?_)) | ((with_reducible apply kP (.buildSlice _ 3 _)); refine sl3 (fun b => ?_)) | ((with_reducible apply kP (.buildSlice _ 4 _)); refine sl4 (fun b => ?_)) | ((with_reducible apply kP (.buildSlice _ 0 _)); refine s_bs0 (scTOf rfl) (zsTOf rfl) (by decide) (fun b => ?_)) | ((with_reducible apply kP (.makeSlice _ _ _)); refine sMk (fun b => ?_)) | ((with_reducible apply kP (.call ⟨.builtin .append, _, _⟩)); refine sAp (fun oa2 c2 blk2 hrow2 => ?_)) | ((with_reducible apply kP _); refine sP ?_) | ((with_reducible apply kP _); refine sX ?_) | ((with_reducible apply kQG); first | refine qY1 ?_ | refine qN1 ?_ | refine qU1 ?_ | (refine qD1 (fun h => ?_) (fun h => ?_) <;> (try (exfalso; omega))) | refine qB1 (fun h => ?_) (fun h => ?_)) | ((with_reducible apply kQP); refine qP ?_) | ((with_reducible apply kQP); refine qX ?_) | ((with_reducible apply kC); first | refine cT ?_ | refine cF ?_ | (refine cI (fun h => ?_) (fun h => ?_) <;> (try (exfalso; omega))) | refine cB (fun h => ?_) (fun h => ?_)) | ((with_reducible apply kR); refine cQ ?_))
    all_goals exact e_ret1 rfl ⟨_, rfl, ld_whole (shTOf rfl) MDt (by rw [ivs_length]; exact hl1)⟩ ⟨rfl, rfl⟩ SCt
  · rcases i with _ | i
    · obtain ⟨f1, f2⟩ := fin (fun x hx => by obtain rfl : x = 0 := by omega
                                             exact ⟨rfl, rfl⟩)
      rw [f1] at hl1 ⊢
      rw [f2] at hl2 ⊢
      repeat' (first | (with_reducible first | refine c_seq ?_ | refine c_reg ?_ | refine c_region ?_ | refine c_block ?_ | refine c_skip ?_ | refine c_exit ?_ | refine c_ret ?_ | refine s_nil ?_ | refine x_then ?_ | refine x_then_exit ?_ | refine x_then_ret ?_ | refine x_block ?_ | refine x_block_ret ?_ | refine x_block_same ?_ | refine x_block_other (by rfl) ?_ | refine q_nil ?_ | refine k_nil ?_) | ((with_reducible apply kP (.makeFunc _ _ _)); refine sMF ?_) | ((with_reducible apply kG); first | refine gY1 ?_ | refine gN1 ?_ | refine gU1 ?_ | (refine gD1 (fun h => ?_) (fun h => ?_) <;> (try (exfalso; omega))) | refine gB1 (fun h => ?_) (fun h => ?_)) | ((with_reducible apply kN); first | refine stP ?_ | refine stI ?_ | refine st1 ?_ | refine stW ?_) | ((with_reducible apply kP (.alloc _)); refine sA (fun b => ?_)) | ((with_reducible apply kP (.box _ _)); first | refine sBA (fun b => ?_) | refine sB (fun b => ?_)) | ((with_reducible apply kP (.buildSlice _ 1 _)); first | refine sl1A (fun b => ?_) | refine sl1 (fun b => ?_)) | ((with_reducible apply kP (.buildSlice _ 2 _)); refine sl2 (fun b => ?_)) | ((with_reducible apply kP (.buildSlice _ 3 _)); refine sl3 (fun b => ?_)) | ((with_reducible apply kP (.buildSlice _ 4 _)); refine sl4 (fun b => ?_)) | ((with_reducible apply kP (.buildSlice _ 0 _)); refine s_bs0 (scTOf rfl) (zsTOf rfl) (by decide) (fun b => ?_)) | ((with_reducible apply kP (.makeSlice _ _ _)); refine sMk (fun b => ?_)) | ((with_reducible apply kP (.call ⟨.builtin .append, _, _⟩)); refine sAp (fun oa2 c2 blk2 hrow2 => ?_)) | ((with_reducible apply kP _); refine sP ?_) | ((with_reducible apply kP _); refine sX ?_) | ((with_reducible apply kQG); first | refine qY1 ?_ | refine qN1 ?_ | refine qU1 ?_ | (refine qD1 (fun h => ?_) (fun h => ?_) <;> (try (exfalso; omega))) | refine qB1 (fun h => ?_) (fun h => ?_)) | ((with_reducible apply kQP); refine qP ?_) | ((with_reducible apply kQP); refine qX ?_) | ((with_reducible apply kC); first | refine cT ?_ | refine cF ?_ | (refine cI (fun h => ?_) (fun h => ?_) <;> (try (exfalso; omega))) | refine cB (fun h => ?_) (fun h => ?_)) | ((with_reducible apply kR); refine cQ ?_))
      all_goals exact e_ret1 rfl ⟨_, rfl, ld_whole (shTOf rfl) MDt (by rw [ivs_length]; exact hl1)⟩ ⟨rfl, rfl⟩ SCt
    · have u1 := hf (i + 1) (by omega); have u2 := hg (i + 1) (by omega)
      have e1 := (lockC_r (sQ f (oF f g n) (i + 1)) (sQ g (oG f g n) (i + 1)) (show i + 1 < 25 by omega)).trans (sQ_at _ _ _)
      have e2 := (lockC_w (sQ f (oF f g n) (i + 1)) (sQ g (oG f g n) (i + 1)) (show i + 1 < 25 by omega)).trans (sQ_at _ _ _)
      have hF : oF f g n (i + 1) = min (min (lft f g n (i + 1)) (f (i + 1) + g (i + 1))) (f (i + 1)) := if_neg (by omega)
      have hG : oG f g n (i + 1) = min (lft f g n (i + 1)) (f (i + 1) + g (i + 1)) - min (min (lft f g n (i + 1)) (f (i + 1) + g (i + 1))) (f (i + 1)) := if_neg (by omega)
      have lp := lft_pred f g n (i := i) (by omega)
      have q := oF_to hf hg hn (i := i + 1) (by omega)
      generalize hm : min (lft f g n (i + 1)) (f (i + 1) + g (i + 1)) = mm at hF hG lp
      have tk := fun b hs => h_takeL (sQ f (oF f g n) (i + 1)) (sQ g (oG f g n) (i + 1)) (i + 1) mm (by omega) (oR _) (oR' _) (by omega) (by rw [sQ_at, sQ_at]; omega) b B w0 hs
      rw [← hF] at hG
      rw [sQ_at, sQ_at, ← hF, ← hG, sQ_step, sQ_step] at tk
      have ad := fun b hs => h_add (sO (oF f g n) (i + 1)) (sO (oG f g n) (i + 1)) (i + 1) (oF f g n (i + 1)) (oG f g n (i + 1)) (by omega) (by rw [sO_at]; exact ⟨by omega, by omega⟩) (by rw [sO_at]; exact ⟨by omega, by omega⟩) b B w0 hs
      rw [sO_at, sO_at, Int.zero_add, Int.zero_add, sO_step, sO_step] at ad
      have e3 : Value.int .i64 (min (lft f g n (i + 1)) ((lockC (sQ f (oF f g n) (i + 1)) (sQ g (oG f g n) (i + 1))).getD ((i + 1) * 2) 0 + (lockC (sQ f (oF f g n) (i + 1)) (sQ g (oG f g n) (i + 1))).getD ((i + 1) * 2 + 1) 0)) = iv mm := by rw [e1, e2, hm]; rfl
      repeat' (first | (with_reducible refine f_eq (t := 7) (v := Value.int .i64 (min (lft f g n (i + 1)) ((lockC (sQ f (oF f g n) (i + 1)) (sQ g (oG f g n) (i + 1))).getD ((i + 1) * 2) 0 + (lockC (sQ f (oF f g n) (i + 1)) (sQ g (oG f g n) (i + 1))).getD ((i + 1) * 2 + 1) 0))) rfl e3 ?_) | ((with_reducible apply kF 86); refine s_mut1 (goTOf rfl) rfl (by with_reducible ((repeat (first | exact Take.head | exact Take.one | apply Take.tail | apply Take.app)); done)) (tk _ _) (by decide) ?_) | ((with_reducible apply kF 83); refine s_mut1 (goTOf rfl) rfl (by with_reducible ((repeat (first | exact Take.head | exact Take.one | apply Take.tail | apply Take.app)); done)) (ad _ _) (by decide) ?_) | (with_reducible first | refine c_seq ?_ | refine c_reg ?_ | refine c_region ?_ | refine c_block ?_ | refine c_skip ?_ | refine c_exit ?_ | refine c_ret ?_ | refine s_nil ?_ | refine x_then ?_ | refine x_then_exit ?_ | refine x_then_ret ?_ | refine x_block ?_ | refine x_block_ret ?_ | refine x_block_same ?_ | refine x_block_other (by rfl) ?_ | refine q_nil ?_ | refine k_nil ?_) | ((with_reducible apply kP (.makeFunc _ _ _)); refine sMF ?_) | ((with_reducible apply kG); first | refine gY1 ?_ | refine gN1 ?_ | refine gU1 ?_ | (refine gD1 (fun h => ?_) (fun h => ?_) <;> (try (exfalso; omega))) | refine gB1 (fun h => ?_) (fun h => ?_)) | ((with_reducible apply kN); first | refine stP ?_ | refine stI ?_ | refine st1 ?_ | refine stW ?_) | ((with_reducible apply kP (.alloc _)); refine sA (fun b => ?_)) | ((with_reducible apply kP (.box _ _)); first | refine sBA (fun b => ?_) | refine sB (fun b => ?_)) | ((with_reducible apply kP (.buildSlice _ 1 _)); first | refine sl1A (fun b => ?_) | refine sl1 (fun b => ?_)) | ((with_reducible apply kP (.buildSlice _ 2 _)); refine sl2 (fun b => ?_)) | ((with_reducible apply kP (.buildSlice _ 3 _)); refine sl3 (fun b => ?_)) | ((with_reducible apply kP (.buildSlice _ 4 _)); refine sl4 (fun b => ?_)) | ((with_reducible apply kP (.buildSlice _ 0 _)); refine s_bs0 (scTOf rfl) (zsTOf rfl) (by decide) (fun b => ?_)) | ((with_reducible apply kP (.makeSlice _ _ _)); refine sMk (fun b => ?_)) | ((with_reducible apply kP (.call ⟨.builtin .append, _, _⟩)); refine sAp (fun oa2 c2 blk2 hrow2 => ?_)) | ((with_reducible apply kP _); refine sP ?_) | ((with_reducible apply kP _); refine sX ?_) | ((with_reducible apply kQG); first | refine qY1 ?_ | refine qN1 ?_ | refine qU1 ?_ | (refine qD1 (fun h => ?_) (fun h => ?_) <;> (try (exfalso; omega))) | refine qB1 (fun h => ?_) (fun h => ?_)) | ((with_reducible apply kQP); refine qP ?_) | ((with_reducible apply kQP); refine qX ?_) | ((with_reducible apply kC); first | refine cT ?_ | refine cF ?_ | (refine cI (fun h => ?_) (fun h => ?_) <;> (try (exfalso; omega))) | refine cB (fun h => ?_) (fun h => ?_)) | ((with_reducible apply kR); refine cQ ?_))
      refine r_end i (by omega) (by omega) ⟨rfl, congrArg (fun x => some (iv x)) lp.symm, rfl, rfl, congrArg (fun x => some (iv x)) (show ((i + 1 : Nat) : Int) - 1 = i by omega), trivial⟩ ?_
      exact SCt
def iA (k : Nat) : Nat := 24 - (k + 1) / 2
def iB (k : Nat) : Nat := 24 - k / 2
def rL (f g : Nat → Int) (n : Int) (k : Nat) : Int := if k % 2 = 0 then lft f g n (24 - k / 2) else lft f g n (24 - k / 2) - oF f g n (24 - k / 2)
set_option maxRecDepth 100000 in
set_option maxHeartbeats 8000000 in
theorem r_draw (f g : Nat → Int) (n : Int) (hf : Okf f) (hg : Okf g) (hn : 0 ≤ n) (hn2 : n ≤ 1000000000) (B : Nat) (w0 : World) (hs : HS) :
    Fn Try.prog 88 #[hairV f g, iv n] B w0 hs
      (fun u hs' => u = .tuple #[hairV (oF f g n) (oG f g n), hairV (fun i => f i - oF f g n i) (fun i => g i - oG f g n i)] ∧ hs' = hs) := by
  have hl0 := hairC_length f g
  refine fn_enter Try.func88 rfl Try.ntmps88 (by simp) ?_
  repeat' (first | ((with_reducible apply kRg 10); refine cD [1, 1, 1, 1, 1, 1, 1, 1, 1, 4] ?_) | ((with_reducible apply kRg 12); refine cD [1, 0, 3, 4] ?_) | (with_reducible first | refine c_seq ?_ | refine c_reg ?_ | refine c_region ?_ | refine c_block ?_ | refine c_skip ?_ | refine c_exit ?_ | refine c_ret ?_ | refine s_nil ?_ | refine x_then ?_ | refine x_then_exit ?_ | refine x_then_ret ?_ | refine x_block ?_ | refine x_block_ret ?_ | refine x_block_same ?_ | refine x_block_other (by rfl) ?_ | refine q_nil ?_ | refine k_nil ?_) | ((with_reducible apply kP (.makeFunc _ _ _)); refine sMF ?_) | ((with_reducible apply kG); first | refine gY1 ?_ | refine gN1 ?_ | refine gU1 ?_ | (refine gD1 (fun h => ?_) (fun h => ?_) <;> (try (exfalso; omega))) | refine gB1 (fun h => ?_) (fun h => ?_)) | ((with_reducible apply kN); first | refine stP ?_ | refine stI ?_ | refine st1 ?_ | refine stW ?_) | ((with_reducible apply kP (.alloc _)); refine sA (fun b => ?_)) | ((with_reducible apply kP (.box _ _)); first | refine sBA (fun b => ?_) | refine sB (fun b => ?_)) | ((with_reducible apply kP (.buildSlice _ 1 _)); first | refine sl1A (fun b => ?_) | refine sl1 (fun b => ?_)) | ((with_reducible apply kP (.buildSlice _ 2 _)); refine sl2 (fun b => ?_)) | ((with_reducible apply kP (.buildSlice _ 3 _)); refine sl3 (fun b => ?_)) | ((with_reducible apply kP (.buildSlice _ 4 _)); refine sl4 (fun b => ?_)) | ((with_reducible apply kP (.buildSlice _ 0 _)); refine s_bs0 (scTOf rfl) (zsTOf rfl) (by decide) (fun b => ?_)) | ((with_reducible apply kP (.makeSlice _ _ _)); refine sMk (fun b => ?_)) | ((with_reducible apply kP (.call ⟨.builtin .append, _, _⟩)); refine sAp (fun oa2 c2 blk2 hrow2 => ?_)) | ((with_reducible apply kP _); refine sP ?_) | ((with_reducible apply kP _); refine sX ?_) | ((with_reducible apply kQG); first | refine qY1 ?_ | refine qN1 ?_ | refine qU1 ?_ | (refine qD1 (fun h => ?_) (fun h => ?_) <;> (try (exfalso; omega))) | refine qB1 (fun h => ?_) (fun h => ?_)) | ((with_reducible apply kQP); refine qP ?_) | ((with_reducible apply kQP); refine qX ?_) | ((with_reducible apply kC); first | refine cT ?_ | refine cF ?_ | (refine cI (fun h => ?_) (fun h => ?_) <;> (try (exfalso; omega))) | refine cB (fun h => ?_) (fun h => ?_)) | ((with_reducible apply kR); refine cQ ?_) | ((with_reducible apply kDG); first | refine dY1 ?_ | refine dNo1 ?_ | refine dU1 ?_ | (refine dD1 (fun h => ?_) (fun h => ?_) <;> (try (exfalso; omega))) | refine dB1 (fun h => ?_) (fun h => ?_)) | ((with_reducible apply kDN); first | refine dtI ?_ | refine dt1 ?_ | refine dtW ?_) | ((with_reducible apply kDP (.alloc _)); refine dA (fun b => ?_)) | ((with_reducible apply kDP (.box _ _)); first | refine dBA (fun b => ?_) | refine dB (fun b => ?_)) | ((with_reducible apply kDP (.buildSlice _ 1 _)); first | refine dl1A (fun b => ?_) | refine dl1 (fun b => ?_)) | ((with_reducible apply kDP (.call ⟨.builtin .append, _, _⟩)); first | refine dAp3 (fun oa2 c2 blk2 hrow2 => ?_) (hS := SCt) | refine dAp4 (fun oa2 c2 blk2 hrow2 => ?_)) | ((with_reducible apply kDP _); refine dP ?_) | ((with_reducible apply kDP _); refine dX ?_))
  have hz := zeros_hair
  rename_i b2 b4 b5
  refine Sat.perm (.cons _ ((List.Perm.cons _ (.swap _ _ _)).trans (.swap _ _ _))) ?_
  refine c_loop (fun k : Nat => [(1, iv (rL f g n k)), (2, .pointer (some ⟨b2, 0, none⟩)), (4, .pointer (some ⟨b4, 0, none⟩)), (5, .pointer (some ⟨b5, 0, none⟩)), (6, .pointer (some ⟨b, 0, none⟩)), (7, iv k)])
    (fun k => (b, ivs (hairC (sO (oF f g n) (iA k)) (sO (oG f g n) (iB k)))) :: (b2, ivs (hairC (sQ f (oF f g n) (iA k)) (sQ g (oG f g n) (iB k)))) :: (b5, List.replicate 50 (Value.int .i64 0)) :: (b4, List.replicate 50 (Value.int .i64 0)) :: hs) (fun k => k ≤ 48) (fun k => 48 - k) 0 (by omega) (by repeat' first | trivial | rfl | apply And.intro)
    (by rw [show iA 0 = 24 from rfl, show iB 0 = 24 from rfl, hairC_ext (fun x hx => sO_top _ hx) (fun x hx => sO_top _ hx), ← hz, hairC_ext (fun x hx => sQ_top _ _ hx) (fun x hx => sQ_top _ _ hx)]; exact sb0) ?_
  intro k hk
  have hl1 := hairC_length (sO (oF f g n) (iA k)) (sO (oG f g n) (iB k))
  have hl2 := hairC_length (sQ f (oF f g n) (iA k)) (sQ g (oG f g n) (iB k))
  by_cases hk' : k < 48
  · obtain ⟨i, hi, hc⟩ : ∃ i, i < 24 ∧ (k = 46 - 2 * i ∨ k = 47 - 2 * i) := ⟨23 - k / 2, by omega, by omega⟩
    have u1 := hf (i + 1) (by omega); have u2 := hg (i + 1) (by omega)
    have hl := lft_ok hf hg hn (i := i + 1) (by omega)
    have hF : oF f g n (i + 1) = min (min (lft f g n (i + 1)) (f (i + 1) + g (i + 1))) (f (i + 1)) := if_neg (by omega)
    have hG : oG f g n (i + 1) = min (lft f g n (i + 1)) (f (i + 1) + g (i + 1)) - min (min (lft f g n (i + 1)) (f (i + 1) + g (i + 1))) (f (i + 1)) := if_neg (by omega)
    have lp := lft_pred f g n (i := i) (by omega)
    have q := oF_to hf hg hn (i := i + 1) (by omega)
    rcases hc with hc | hc
    · have hA : iA k = i + 1 := by unfold iA; omega
      have hB : iB k = i + 1 := by unfold iB; omega
      have hA' : iA (k + 1) = i := by unfold iA; omega
      have hB' : iB (k + 1) = i + 1 := by unfold iB; omega
      have hL : rL f g n k = lft f g n (i + 1) := by unfold rL; rw [if_pos (by omega), show 24 - k / 2 = i + 1 by omega]
      have hL' : rL f g n (k + 1) = lft f g n (i + 1) - oF f g n (i + 1) := by unfold rL; rw [if_neg (by omega), show 24 - (k + 1) / 2 = i + 1 by omega]
      rw [hA, hB] at hl1 hl2 ⊢
      rw [hL]
      have e1 := (hairC_r (sQ f (oF f g n) (i + 1)) (sQ g (oG f g n) (i + 1)) (show i + 1 < 25 by omega)).trans (sQ_at _ _ _)
      repeat' (first | (with_reducible refine f_eq (t := 8) (v := iv (24 - (k : Int) / 2)) rfl (congrArg iv (show (24 : Int) - k / 2 = ((i + 1 : Nat) : Int) by omega)) ?_) | (with_reducible refine f_eq (t := 9) (v := iv ((k : Int) % 2)) rfl (congrArg iv (show (k : Int) % 2 = ((0 : Nat) : Int) by omega)) ?_) | (with_reducible refine f_eq (t := 10) (v := iv ((hairC (sQ f (oF f g n) (i + 1)) (sQ g (oG f g n) (i + 1))).getD (i + 1) 0)) rfl (congrArg iv e1) ?_) | (with_reducible refine f_eq (t := 31) (v := iv (lft f g n (i + 1))) rfl (congrArg iv (show lft f g n (i + 1) = oF f g n (i + 1) by omega)) ?_) | (with_reducible refine f_eq (t := 31) (v := iv (f (i + 1))) rfl (congrArg iv (show f (i + 1) = oF f g n (i + 1) by omega)) ?_) | (with_reducible refine k_eq (t := 39) (v := iv (lft f g n (i + 1))) rfl (congrArg iv (show lft f g n (i + 1) = oF f g n (i + 1) by omega)) ?_) | (with_reducible refine k_eq (t := 39) (v := iv (f (i + 1))) rfl (congrArg iv (show f (i + 1) = oF f g n (i + 1) by omega)) ?_) | (with_reducible refine k_eq (t := 38) (v := iv ((hairC (sQ f (oF f g n) (i + 1)) (sQ g (oG f g n) (i + 1))).getD (i + 1) 0)) rfl (congrArg iv e1) ?_) | (with_reducible refine f_eq (t := 44) (v := iv (lft f g n (i + 1))) rfl (congrArg iv (show lft f g n (i + 1) = oF f g n (i + 1) by omega)) ?_) | (with_reducible refine f_eq (t := 44) (v := iv (f (i + 1))) rfl (congrArg iv (show f (i + 1) = oF f g n (i + 1) by omega)) ?_) | ((with_reducible apply kRg 10); refine cD [1, 1, 1, 1, 1, 1, 1, 1, 1, 4] ?_) | ((with_reducible apply kRg 12); refine cD [1, 0, 3, 4] ?_) | (with_reducible first | refine c_seq ?_ | refine c_reg ?_ | refine c_region ?_ | refine c_block ?_ | refine c_skip ?_ | refine c_exit ?_ | refine c_ret ?_ | refine s_nil ?_ | refine x_then ?_ | refine x_then_exit ?_ | refine x_then_ret ?_ | refine x_block ?_ | refine x_block_ret ?_ | refine x_block_same ?_ | refine x_block_other (by rfl) ?_ | refine q_nil ?_ | refine k_nil ?_) | ((with_reducible apply kP (.makeFunc _ _ _)); refine sMF ?_) | ((with_reducible apply kG); first | refine gY1 ?_ | refine gN1 ?_ | refine gU1 ?_ | (refine gD1 (fun h => ?_) (fun h => ?_) <;> (try (exfalso; omega))) | refine gB1 (fun h => ?_) (fun h => ?_)) | ((with_reducible apply kN); first | refine stP ?_ | refine stI ?_ | refine st1 ?_ | refine stW ?_) | ((with_reducible apply kP (.alloc _)); refine sA (fun b => ?_)) | ((with_reducible apply kP (.box _ _)); first | refine sBA (fun b => ?_) | refine sB (fun b => ?_)) | ((with_reducible apply kP (.buildSlice _ 1 _)); first | refine sl1A (fun b => ?_) | refine sl1 (fun b => ?_)) | ((with_reducible apply kP (.buildSlice _ 2 _)); refine sl2 (fun b => ?_)) | ((with_reducible apply kP (.buildSlice _ 3 _)); refine sl3 (fun b => ?_)) | ((with_reducible apply kP (.buildSlice _ 4 _)); refine sl4 (fun b => ?_)) | ((with_reducible apply kP (.buildSlice _ 0 _)); refine s_bs0 (scTOf rfl) (zsTOf rfl) (by decide) (fun b => ?_)) | ((with_reducible apply kP (.makeSlice _ _ _)); refine sMk (fun b => ?_)) | ((with_reducible apply kP (.call ⟨.builtin .append, _, _⟩)); refine sAp (fun oa2 c2 blk2 hrow2 => ?_)) | ((with_reducible apply kP _); refine sP ?_) | ((with_reducible apply kP _); refine sX ?_) | ((with_reducible apply kQG); first | refine qY1 ?_ | refine qN1 ?_ | refine qU1 ?_ | (refine qD1 (fun h => ?_) (fun h => ?_) <;> (try (exfalso; omega))) | refine qB1 (fun h => ?_) (fun h => ?_)) | ((with_reducible apply kQP); refine qP ?_) | ((with_reducible apply kQP); refine qX ?_) | ((with_reducible apply kC); first | refine cT ?_ | refine cF ?_ | (refine cI (fun h => ?_) (fun h => ?_) <;> (try (exfalso; omega))) | refine cB (fun h => ?_) (fun h => ?_)) | ((with_reducible apply kR); refine cQ ?_) | ((with_reducible apply kDG); first | refine dY1 ?_ | refine dNo1 ?_ | refine dU1 ?_ | (refine dD1 (fun h => ?_) (fun h => ?_) <;> (try (exfalso; omega))) | refine dB1 (fun h => ?_) (fun h => ?_)) | ((with_reducible apply kDN); first | refine dtI ?_ | refine dt1 ?_ | refine dtW ?_) | ((with_reducible apply kDP (.alloc _)); refine dA (fun b => ?_)) | ((with_reducible apply kDP (.box _ _)); first | refine dBA (fun b => ?_) | refine dB (fun b => ?_)) | ((with_reducible apply kDP (.buildSlice _ 1 _)); first | refine dl1A (fun b => ?_) | refine dl1 (fun b => ?_)) | ((with_reducible apply kDP (.call ⟨.builtin .append, _, _⟩)); first | refine dAp3 (fun oa2 c2 blk2 hrow2 => ?_) (hS := SCt) | refine dAp4 (fun oa2 c2 blk2 hrow2 => ?_)) | ((with_reducible apply kDP _); refine dP ?_) | ((with_reducible apply kDP _); refine dX ?_))
      all_goals
        refine r_end (k + 1) (by omega) (by omega) ⟨congrArg (fun x => some (iv x)) hL'.symm, rfl, rfl, rfl, rfl, rfl, trivial⟩ ?_
        rw [hairC_set_r _ _ (by omega), hairC_set_r _ _ (by omega), sO_step, sQ_step]
        simp only [hA', hB']
        exact sb0
    · have hA : iA k = i := by unfold iA; omega
      have hB : iB k = i + 1 := by unfold iB; omega
      have hA' : iA (k + 1) = i := by unfold iA; omega
      have hB' : iB (k + 1) = i := by unfold iB; omega
      have hL : rL f g n k = lft f g n (i + 1) - oF f g n (i + 1) := by unfold rL; rw [if_neg (by omega), show 24 - k / 2 = i + 1 by omega]
      have hL' : rL f g n (k + 1) = lft f g n (i + 1) - oF f g n (i + 1) - oG f g n (i + 1) := by unfold rL; rw [if_pos (by omega), show 24 - (k + 1) / 2 = i by omega]; omega
      rw [hA, hB] at hl1 hl2 ⊢
      rw [hL]
      generalize hl' : lft f g n (i + 1) - oF f g n (i + 1) = lf at hL hL'
      have e1 := (hairC_w (sQ f (oF f g n) i) (sQ g (oG f g n) (i + 1)) (show i + 1 < 25 by omega)).trans (sQ_at _ _ _)
      repeat' (first | (with_reducible refine f_eq (t := 8) (v := iv (24 - (k : Int) / 2)) rfl (congrArg iv (show (24 : Int) - k / 2 = ((i + 1 : Nat) : Int) by omega)) ?_) | (with_reducible refine f_eq (t := 9) (v := iv ((k : Int) % 2)) rfl (congrArg iv (show (k : Int) % 2 = ((1 : Nat) : Int) by omega)) ?_) | (with_reducible refine f_eq (t := 10) (v := iv ((hairC (sQ f (oF f g n) i) (sQ g (oG f g n) (i + 1))).getD (25 + (i + 1)) 0)) rfl (congrArg iv e1) ?_) | (with_reducible refine f_eq (t := 31) (v := iv lf) rfl (congrArg iv (show lf = oG f g n (i + 1) by omega)) ?_) | (with_reducible refine f_eq (t := 31) (v := iv (g (i + 1))) rfl (congrArg iv (show g (i + 1) = oG f g n (i + 1) by omega)) ?_) | (with_reducible refine k_eq (t := 39) (v := iv lf) rfl (congrArg iv (show lf = oG f g n (i + 1) by omega)) ?_) | (with_reducible refine k_eq (t := 39) (v := iv (g (i + 1))) rfl (congrArg iv (show g (i + 1) = oG f g n (i + 1) by omega)) ?_) | (with_reducible refine k_eq (t := 38) (v := iv ((hairC (sQ f (oF f g n) i) (sQ g (oG f g n) (i + 1))).getD (25 + (i + 1)) 0)) rfl (congrArg iv e1) ?_) | (with_reducible refine f_eq (t := 44) (v := iv lf) rfl (congrArg iv (show lf = oG f g n (i + 1) by omega)) ?_) | (with_reducible refine f_eq (t := 44) (v := iv (g (i + 1))) rfl (congrArg iv (show g (i + 1) = oG f g n (i + 1) by omega)) ?_) | ((with_reducible apply kRg 10); refine cD [1, 1, 1, 1, 1, 1, 1, 1, 1, 4] ?_) | ((with_reducible apply kRg 12); refine cD [1, 0, 3, 4] ?_) | (with_reducible first | refine c_seq ?_ | refine c_reg ?_ | refine c_region ?_ | refine c_block ?_ | refine c_skip ?_ | refine c_exit ?_ | refine c_ret ?_ | refine s_nil ?_ | refine x_then ?_ | refine x_then_exit ?_ | refine x_then_ret ?_ | refine x_block ?_ | refine x_block_ret ?_ | refine x_block_same ?_ | refine x_block_other (by rfl) ?_ | refine q_nil ?_ | refine k_nil ?_) | ((with_reducible apply kP (.makeFunc _ _ _)); refine sMF ?_) | ((with_reducible apply kG); first | refine gY1 ?_ | refine gN1 ?_ | refine gU1 ?_ | (refine gD1 (fun h => ?_) (fun h => ?_) <;> (try (exfalso; omega))) | refine gB1 (fun h => ?_) (fun h => ?_)) | ((with_reducible apply kN); first | refine stP ?_ | refine stI ?_ | refine st1 ?_ | refine stW ?_) | ((with_reducible apply kP (.alloc _)); refine sA (fun b => ?_)) | ((with_reducible apply kP (.box _ _)); first | refine sBA (fun b => ?_) | refine sB (fun b => ?_)) | ((with_reducible apply kP (.buildSlice _ 1 _)); first | refine sl1A (fun b => ?_) | refine sl1 (fun b => ?_)) | ((with_reducible apply kP (.buildSlice _ 2 _)); refine sl2 (fun b => ?_)) | ((with_reducible apply kP (.buildSlice _ 3 _)); refine sl3 (fun b => ?_)) | ((with_reducible apply kP (.buildSlice _ 4 _)); refine sl4 (fun b => ?_)) | ((with_reducible apply kP (.buildSlice _ 0 _)); refine s_bs0 (scTOf rfl) (zsTOf rfl) (by decide) (fun b => ?_)) | ((with_reducible apply kP (.makeSlice _ _ _)); refine sMk (fun b => ?_)) | ((with_reducible apply kP (.call ⟨.builtin .append, _, _⟩)); refine sAp (fun oa2 c2 blk2 hrow2 => ?_)) | ((with_reducible apply kP _); refine sP ?_) | ((with_reducible apply kP _); refine sX ?_) | ((with_reducible apply kQG); first | refine qY1 ?_ | refine qN1 ?_ | refine qU1 ?_ | (refine qD1 (fun h => ?_) (fun h => ?_) <;> (try (exfalso; omega))) | refine qB1 (fun h => ?_) (fun h => ?_)) | ((with_reducible apply kQP); refine qP ?_) | ((with_reducible apply kQP); refine qX ?_) | ((with_reducible apply kC); first | refine cT ?_ | refine cF ?_ | (refine cI (fun h => ?_) (fun h => ?_) <;> (try (exfalso; omega))) | refine cB (fun h => ?_) (fun h => ?_)) | ((with_reducible apply kR); refine cQ ?_) | ((with_reducible apply kDG); first | refine dY1 ?_ | refine dNo1 ?_ | refine dU1 ?_ | (refine dD1 (fun h => ?_) (fun h => ?_) <;> (try (exfalso; omega))) | refine dB1 (fun h => ?_) (fun h => ?_)) | ((with_reducible apply kDN); first | refine dtI ?_ | refine dt1 ?_ | refine dtW ?_) | ((with_reducible apply kDP (.alloc _)); refine dA (fun b => ?_)) | ((with_reducible apply kDP (.box _ _)); first | refine dBA (fun b => ?_) | refine dB (fun b => ?_)) | ((with_reducible apply kDP (.buildSlice _ 1 _)); first | refine dl1A (fun b => ?_) | refine dl1 (fun b => ?_)) | ((with_reducible apply kDP (.call ⟨.builtin .append, _, _⟩)); first | refine dAp3 (fun oa2 c2 blk2 hrow2 => ?_) (hS := SCt) | refine dAp4 (fun oa2 c2 blk2 hrow2 => ?_)) | ((with_reducible apply kDP _); refine dP ?_) | ((with_reducible apply kDP _); refine dX ?_))
      all_goals
        refine r_end (k + 1) (by omega) (by omega) ⟨congrArg (fun x => some (iv x)) hL'.symm, rfl, rfl, rfl, rfl, rfl, trivial⟩ ?_
        rw [hairC_set_w, hairC_set_w, sO_step, sQ_step]
        simp only [hA', hB']
        exact sb0
  · obtain rfl : k = 48 := by omega
    have z1 : ∀ x, x ≤ 0 → oF f g n x = 0 := fun x hx => by obtain rfl : x = 0 := by omega
                                                            rfl
    have z2 : ∀ x, x ≤ 0 → oG f g n x = 0 := fun x hx => by obtain rfl : x = 0 := by omega
                                                            rfl
    rw [show iA 48 = 0 from rfl, show iB 48 = 0 from rfl, hairC_ext (fun x _ => sO_end _ z1 x) (fun x _ => sO_end _ z2 x), hairC_ext (fun x _ => sQ_end _ _ z1 x) (fun x _ => sQ_end _ _ z2 x)]
    have hl3 := hairC_length (oF f g n) (oG f g n)
    have hl4 := hairC_length (fun i => f i - oF f g n i) (fun i => g i - oG f g n i)
    repeat' (first | ((with_reducible apply kRg 12); refine cDS [1, 0, 3, 4] _ ?_ (.cons_cons _ (.cons_cons _ (.cons_cons _ (.cons _ (.refl _)))))) | ((with_reducible apply kRg 10); refine cD [1, 1, 1, 1, 1, 1, 1, 1, 1, 4] ?_) | (with_reducible first | refine c_seq ?_ | refine c_reg ?_ | refine c_region ?_ | refine c_block ?_ | refine c_skip ?_ | refine c_exit ?_ | refine c_ret ?_ | refine s_nil ?_ | refine x_then ?_ | refine x_then_exit ?_ | refine x_then_ret ?_ | refine x_block ?_ | refine x_block_ret ?_ | refine x_block_same ?_ | refine x_block_other (by rfl) ?_ | refine q_nil ?_ | refine k_nil ?_) | ((with_reducible apply kP (.makeFunc _ _ _)); refine sMF ?_) | ((with_reducible apply kG); first | refine gY1 ?_ | refine gN1 ?_ | refine gU1 ?_ | (refine gD1 (fun h => ?_) (fun h => ?_) <;> (try (exfalso; omega))) | refine gB1 (fun h => ?_) (fun h => ?_)) | ((with_reducible apply kN); first | refine stP ?_ | refine stI ?_ | refine st1 ?_ | refine stW ?_) | ((with_reducible apply kP (.alloc _)); refine sA (fun b => ?_)) | ((with_reducible apply kP (.box _ _)); first | refine sBA (fun b => ?_) | refine sB (fun b => ?_)) | ((with_reducible apply kP (.buildSlice _ 1 _)); first | refine sl1A (fun b => ?_) | refine sl1 (fun b => ?_)) | ((with_reducible apply kP (.buildSlice _ 2 _)); refine sl2 (fun b => ?_)) | ((with_reducible apply kP (.buildSlice _ 3 _)); refine sl3 (fun b => ?_)) | ((with_reducible apply kP (.buildSlice _ 4 _)); refine sl4 (fun b => ?_)) | ((with_reducible apply kP (.buildSlice _ 0 _)); refine s_bs0 (scTOf rfl) (zsTOf rfl) (by decide) (fun b => ?_)) | ((with_reducible apply kP (.makeSlice _ _ _)); refine sMk (fun b => ?_)) | ((with_reducible apply kP (.call ⟨.builtin .append, _, _⟩)); refine sAp (fun oa2 c2 blk2 hrow2 => ?_)) | ((with_reducible apply kP _); refine sP ?_) | ((with_reducible apply kP _); refine sX ?_) | ((with_reducible apply kQG); first | refine qY1 ?_ | refine qN1 ?_ | refine qU1 ?_ | (refine qD1 (fun h => ?_) (fun h => ?_) <;> (try (exfalso; omega))) | refine qB1 (fun h => ?_) (fun h => ?_)) | ((with_reducible apply kQP); refine qP ?_) | ((with_reducible apply kQP); refine qX ?_) | ((with_reducible apply kC); first | refine cT ?_ | refine cF ?_ | (refine cI (fun h => ?_) (fun h => ?_) <;> (try (exfalso; omega))) | refine cB (fun h => ?_) (fun h => ?_)) | ((with_reducible apply kR); refine cQ ?_) | ((with_reducible apply kDG); first | refine dY1 ?_ | refine dNo1 ?_ | refine dU1 ?_ | (refine dD1 (fun h => ?_) (fun h => ?_) <;> (try (exfalso; omega))) | refine dB1 (fun h => ?_) (fun h => ?_)) | ((with_reducible apply kDN); first | refine dtI ?_ | refine dt1 ?_ | refine dtW ?_) | ((with_reducible apply kDP (.alloc _)); refine dA (fun b => ?_)) | ((with_reducible apply kDP (.box _ _)); first | refine dBA (fun b => ?_) | refine dB (fun b => ?_)) | ((with_reducible apply kDP (.buildSlice _ 1 _)); first | refine dl1A (fun b => ?_) | refine dl1 (fun b => ?_)) | ((with_reducible apply kDP (.call ⟨.builtin .append, _, _⟩)); first | refine dAp3 (fun oa2 c2 blk2 hrow2 => ?_) (hS := SCt) | refine dAp4 (fun oa2 c2 blk2 hrow2 => ?_)) | ((with_reducible apply kDP _); refine dP ?_) | ((with_reducible apply kDP _); refine dX ?_))
    exact e_ret2 rfl ⟨_, rfl, ld_whole (shTOf rfl) MDt (by rw [ivs_length]; exact hl3)⟩ ⟨_, rfl, ld_whole (shTOf rfl) MDt (by rw [ivs_length]; exact hl4)⟩ ⟨rfl, rfl⟩ SCt
end Go.Proofs.Ytiopaodiaokfdaa
