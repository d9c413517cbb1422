/- All shades; how far two blends are apart, in the document. -/
import Derived.Test.YtphobgibcpmgdaaMD31
namespace Go.Proofs.Ytphobgibcpmgdaa
open Go.RowKit

theorem ivs_sn3 {acc : List Int} {a b c : Int} : ivs acc ++ [iv a, iv b, iv c] = ivs (acc ++ [a, b, c]) := by simp [ivs]
def shl : Nat → List Int
  | 0 => []
  | k + 1 => shl k ++ [shL k, shT_ k, shC k]
theorem shl_len : ∀ k, (shl k).length = k * 3
  | 0 => rfl
  | k + 1 => by simp only [shl, List.length_append, shl_len k, List.length_cons, List.length_nil]; omega
theorem shl_get {k : Nat} : ∀ {n : Nat}, k < n → (shl n).getD (k * 3) 0 = shL k ∧ (shl n).getD (k * 3 + 1) 0 = shT_ k ∧ (shl n).getD (k * 3 + 2) 0 = shC k
  | 0, h => absurd h (Nat.not_lt_zero k)
  | n + 1, h => by
    have hl := shl_len n
    simp only [shl, List.getD_eq_getElem?_getD]
    by_cases e : k = n
    · subst e
      rw [List.getElem?_append_right (by omega), List.getElem?_append_right (by omega), List.getElem?_append_right (by omega), hl]
      rw [show k * 3 - k * 3 = 0 by omega, show k * 3 + 1 - k * 3 = 1 by omega, show k * 3 + 2 - k * 3 = 2 by omega]
      exact ⟨rfl, rfl, rfl⟩
    · have hk : k < n := by omega
      rw [List.getElem?_append_left (by omega), List.getElem?_append_left (by omega), List.getElem?_append_left (by omega)]
      have := shl_get (n := n) hk
      simp only [List.getD_eq_getElem?_getD] at this
      exact this
structure F30 where
  i : Nat
  oa : Option Addr
  c : Nat
  blk : HS
set_option maxRecDepth 100000 in
set_option maxHeartbeats 8000000 in
theorem r_shades (B : Nat) (w0 : Wd) (hs : HS) : Fn Try.prog 82 #[] B w0 hs (fun u h => ∃ blk, (∃ oa c, u = .slice oa 240 c ∧ RowOk oa c 3 (ivs (shl 240)) blk) ∧ h = blk ++ hs) := by
  refine fn_enter Try.func82 rfl Try.ntmps82 (by simp) ?_
  repeat' (first | (with_reducible first | refine c_seq ?_ | refine c_reg ?_ | refine c_region ?_ | refine c_block ?_ | refine c_skip ?_ | refine c_exit ?_ | refine c_ret ?_ | refine s_nil ?_ | refine x_then ?_ | refine x_then_exit ?_ | refine x_then_ret ?_ | refine x_block ?_ | refine x_block_ret ?_ | refine x_block_same ?_ | refine x_block_other (by rfl) ?_ | refine q_nil ?_ | refine k_nil ?_) | ((with_reducible apply kP (.makeFunc _ _ _)); refine sMF ?_) | ((with_reducible apply kG); first | refine gY1 ?_ | refine gN1 ?_ | refine gU1 ?_ | (refine gD1 (fun h => ?_) (fun h => ?_) <;> (try (exfalso; omega))) | refine gB1 (fun h => ?_) (fun h => ?_)) | ((with_reducible apply kN); first | refine stP ?_ | refine stI ?_ | refine st1 ?_ | refine stW ?_) | ((with_reducible apply kP (.alloc _)); refine sA (fun b => ?_)) | ((with_reducible apply kP (.box _ _)); first | refine sBA (fun b => ?_) | refine sB (fun b => ?_)) | ((with_reducible apply kP (.buildSlice _ 1 _)); first | refine sl1A (fun b => ?_) | refine sl1 (fun b => ?_)) | ((with_reducible apply kP (.buildSlice _ 2 _)); refine sl2 (fun b => ?_)) | ((with_reducible apply kP (.buildSlice _ 3 _)); refine sl3 (fun b => ?_)) | ((with_reducible apply kP (.buildSlice _ 4 _)); refine sl4 (fun b => ?_)) | ((with_reducible apply kP (.buildSlice _ 0 _)); refine s_bs0 (scTOf rfl) (zsTOf rfl) (by decide) (fun b => ?_)) | ((with_reducible apply kP (.makeSlice _ _ _)); refine sMk (fun b => ?_)) | ((with_reducible apply kP (.call ⟨.builtin .append, _, _⟩)); refine sAp (fun oa2 c2 blk2 hrow2 => ?_)) | ((with_reducible apply kP _); refine sP ?_) | ((with_reducible apply kP _); refine sX ?_) | ((with_reducible apply kQG); first | refine qY1 ?_ | refine qN1 ?_ | refine qU1 ?_ | (refine qD1 (fun h => ?_) (fun h => ?_) <;> (try (exfalso; omega))) | refine qB1 (fun h => ?_) (fun h => ?_)) | ((with_reducible apply kQP); refine qP ?_) | ((with_reducible apply kQP); refine qX ?_) | ((with_reducible apply kC); first | refine cT ?_ | refine cF ?_ | (refine cI (fun h => ?_) (fun h => ?_) <;> (try (exfalso; omega))) | refine cB (fun h => ?_) (fun h => ?_)) | ((with_reducible apply kR); refine cQ ?_))
  refine c_loop (fun s : F30 => [(1, .slice s.oa (s.i * 24) s.c), (2, iv ((s.i : Int) + 1))]) (fun s => s.blk ++ hs) (fun s => s.i ≤ 10 ∧ RowOk s.oa s.c 3 (ivs (shl (s.i * 24))) s.blk) (fun s => 10 - s.i) ⟨0, none, 0, []⟩ ⟨by simp, RowOk.nil⟩ (by repeat' first | trivial | rfl | apply And.intro) (.refl _) ?_
  rintro ⟨x, oa, c, blk⟩ ⟨hx, hrow⟩
  dsimp only at hx hrow ⊢
  by_cases hx' : x < 10
  · repeat' (first | (with_reducible first | refine c_seq ?_ | refine c_reg ?_ | refine c_region ?_ | refine c_block ?_ | refine c_skip ?_ | refine c_exit ?_ | refine c_ret ?_ | refine s_nil ?_ | refine x_then ?_ | refine x_then_exit ?_ | refine x_then_ret ?_ | refine x_block ?_ | refine x_block_ret ?_ | refine x_block_same ?_ | refine x_block_other (by rfl) ?_ | refine q_nil ?_ | refine k_nil ?_) | ((with_reducible apply kP (.makeFunc _ _ _)); refine sMF ?_) | ((with_reducible apply kG); first | refine gY1 ?_ | refine gN1 ?_ | refine gU1 ?_ | (refine gD1 (fun h => ?_) (fun h => ?_) <;> (try (exfalso; omega))) | refine gB1 (fun h => ?_) (fun h => ?_)) | ((with_reducible apply kN); first | refine stP ?_ | refine stI ?_ | refine st1 ?_ | refine stW ?_) | ((with_reducible apply kP (.alloc _)); refine sA (fun b => ?_)) | ((with_reducible apply kP (.box _ _)); first | refine sBA (fun b => ?_) | refine sB (fun b => ?_)) | ((with_reducible apply kP (.buildSlice _ 1 _)); first | refine sl1A (fun b => ?_) | refine sl1 (fun b => ?_)) | ((with_reducible apply kP (.buildSlice _ 2 _)); refine sl2 (fun b => ?_)) | ((with_reducible apply kP (.buildSlice _ 3 _)); refine sl3 (fun b => ?_)) | ((with_reducible apply kP (.buildSlice _ 4 _)); refine sl4 (fun b => ?_)) | ((with_reducible apply kP (.buildSlice _ 0 _)); refine s_bs0 (scTOf rfl) (zsTOf rfl) (by decide) (fun b => ?_)) | ((with_reducible apply kP (.makeSlice _ _ _)); refine sMk (fun b => ?_)) | ((with_reducible apply kP (.call ⟨.builtin .append, _, _⟩)); refine sAp (fun oa2 c2 blk2 hrow2 => ?_)) | ((with_reducible apply kP _); refine sP ?_) | ((with_reducible apply kP _); refine sX ?_) | ((with_reducible apply kQG); first | refine qY1 ?_ | refine qN1 ?_ | refine qU1 ?_ | (refine qD1 (fun h => ?_) (fun h => ?_) <;> (try (exfalso; omega))) | refine qB1 (fun h => ?_) (fun h => ?_)) | ((with_reducible apply kQP); refine qP ?_) | ((with_reducible apply kQP); refine qX ?_) | ((with_reducible apply kC); first | refine cT ?_ | refine cF ?_ | (refine cI (fun h => ?_) (fun h => ?_) <;> (try (exfalso; omega))) | refine cB (fun h => ?_) (fun h => ?_)) | ((with_reducible apply kR); refine cQ ?_))
    refine c_loop (fun s : F30 => [(1, .slice s.oa (x * 24 + s.i * 4) s.c), (2, iv ((x : Int) + 1)), (3, iv s.i)]) (fun s => s.blk ++ hs) (fun s => s.i ≤ 6 ∧ RowOk s.oa s.c 3 (ivs (shl (x * 24 + s.i * 4))) s.blk) (fun s => 6 - s.i) ⟨0, oa, c, blk⟩ ⟨by simp, hrow⟩ (by repeat' first | trivial | rfl | apply And.intro) (.refl _) ?_
    clear hrow oa c blk
    rintro ⟨y, oa, c, blk⟩ ⟨hy, hrow⟩
    dsimp only at hy hrow ⊢
    by_cases hy' : y < 6
    · repeat' (first | (with_reducible first | refine c_seq ?_ | refine c_reg ?_ | refine c_region ?_ | refine c_block ?_ | refine c_skip ?_ | refine c_exit ?_ | refine c_ret ?_ | refine s_nil ?_ | refine x_then ?_ | refine x_then_exit ?_ | refine x_then_ret ?_ | refine x_block ?_ | refine x_block_ret ?_ | refine x_block_same ?_ | refine x_block_other (by rfl) ?_ | refine q_nil ?_ | refine k_nil ?_) | ((with_reducible apply kP (.makeFunc _ _ _)); refine sMF ?_) | ((with_reducible apply kG); first | refine gY1 ?_ | refine gN1 ?_ | refine gU1 ?_ | (refine gD1 (fun h => ?_) (fun h => ?_) <;> (try (exfalso; omega))) | refine gB1 (fun h => ?_) (fun h => ?_)) | ((with_reducible apply kN); first | refine stP ?_ | refine stI ?_ | refine st1 ?_ | refine stW ?_) | ((with_reducible apply kP (.alloc _)); refine sA (fun b => ?_)) | ((with_reducible apply kP (.box _ _)); first | refine sBA (fun b => ?_) | refine sB (fun b => ?_)) | ((with_reducible apply kP (.buildSlice _ 1 _)); first | refine sl1A (fun b => ?_) | refine sl1 (fun b => ?_)) | ((with_reducible apply kP (.buildSlice _ 2 _)); refine sl2 (fun b => ?_)) | ((with_reducible apply kP (.buildSlice _ 3 _)); refine sl3 (fun b => ?_)) | ((with_reducible apply kP (.buildSlice _ 4 _)); refine sl4 (fun b => ?_)) | ((with_reducible apply kP (.buildSlice _ 0 _)); refine s_bs0 (scTOf rfl) (zsTOf rfl) (by decide) (fun b => ?_)) | ((with_reducible apply kP (.makeSlice _ _ _)); refine sMk (fun b => ?_)) | ((with_reducible apply kP (.call ⟨.builtin .append, _, _⟩)); refine sAp (fun oa2 c2 blk2 hrow2 => ?_)) | ((with_reducible apply kP _); refine sP ?_) | ((with_reducible apply kP _); refine sX ?_) | ((with_reducible apply kQG); first | refine qY1 ?_ | refine qN1 ?_ | refine qU1 ?_ | (refine qD1 (fun h => ?_) (fun h => ?_) <;> (try (exfalso; omega))) | refine qB1 (fun h => ?_) (fun h => ?_)) | ((with_reducible apply kQP); refine qP ?_) | ((with_reducible apply kQP); refine qX ?_) | ((with_reducible apply kC); first | refine cT ?_ | refine cF ?_ | (refine cI (fun h => ?_) (fun h => ?_) <;> (try (exfalso; omega))) | refine cB (fun h => ?_) (fun h => ?_)) | ((with_reducible apply kR); refine cQ ?_))
      refine c_loop (fun s : F30 => [(1, .slice s.oa (x * 24 + y * 4 + s.i) s.c), (2, iv ((x : Int) + 1)), (3, iv y), (4, iv s.i)]) (fun s => s.blk ++ hs) (fun s => s.i ≤ 4 ∧ RowOk s.oa s.c 3 (ivs (shl (x * 24 + y * 4 + s.i))) s.blk) (fun s => 4 - s.i) ⟨0, oa, c, blk⟩ ⟨by simp, hrow⟩ (by repeat' first | trivial | rfl | apply And.intro) (.refl _) ?_
      clear hrow oa c blk
      rintro ⟨z, oa, c, blk⟩ ⟨hz, hrow⟩
      dsimp only at hz hrow ⊢
      by_cases hz' : z < 4
      · have hacc : (ivs (shl (x * 24 + y * 4 + z))).length = (x * 24 + y * 4 + z) * 3 := by rw [ivs_length]; exact shl_len _
        have e : ivs (shl (x * 24 + y * 4 + z)) ++ [iv ((x : Int) + 1), iv y, iv z] = ivs (shl (x * 24 + y * 4 + (z + 1))) := by
          rw [ivs_sn3, show x * 24 + y * 4 + (z + 1) = (x * 24 + y * 4 + z) + 1 by omega]
          have e1 : shL (x * 24 + y * 4 + z) = (x : Int) + 1 := by unfold shL; omega
          have e2 : shT_ (x * 24 + y * 4 + z) = y := by unfold shT_; omega
          have e3 : shC (x * 24 + y * 4 + z) = z := by unfold shC; omega
          simp only [shl, e1, e2, e3]
        repeat' (first | (with_reducible first | refine c_seq ?_ | refine c_reg ?_ | refine c_region ?_ | refine c_block ?_ | refine c_skip ?_ | refine c_exit ?_ | refine c_ret ?_ | refine s_nil ?_ | refine x_then ?_ | refine x_then_exit ?_ | refine x_then_ret ?_ | refine x_block ?_ | refine x_block_ret ?_ | refine x_block_same ?_ | refine x_block_other (by rfl) ?_ | refine q_nil ?_ | refine k_nil ?_) | ((with_reducible apply kP (.makeFunc _ _ _)); refine sMF ?_) | ((with_reducible apply kG); first | refine gY1 ?_ | refine gN1 ?_ | refine gU1 ?_ | (refine gD1 (fun h => ?_) (fun h => ?_) <;> (try (exfalso; omega))) | refine gB1 (fun h => ?_) (fun h => ?_)) | ((with_reducible apply kN); first | refine stP ?_ | refine stI ?_ | refine st1 ?_ | refine stW ?_) | ((with_reducible apply kP (.alloc _)); refine sA (fun b => ?_)) | ((with_reducible apply kP (.box _ _)); first | refine sBA (fun b => ?_) | refine sB (fun b => ?_)) | ((with_reducible apply kP (.buildSlice _ 1 _)); first | refine sl1A (fun b => ?_) | refine sl1 (fun b => ?_)) | ((with_reducible apply kP (.buildSlice _ 2 _)); refine sl2 (fun b => ?_)) | ((with_reducible apply kP (.buildSlice _ 3 _)); refine sl3 (fun b => ?_)) | ((with_reducible apply kP (.buildSlice _ 4 _)); refine sl4 (fun b => ?_)) | ((with_reducible apply kP (.buildSlice _ 0 _)); refine s_bs0 (scTOf rfl) (zsTOf rfl) (by decide) (fun b => ?_)) | ((with_reducible apply kP (.makeSlice _ _ _)); refine sMk (fun b => ?_)) | ((with_reducible apply kP (.call ⟨.builtin .append, _, _⟩)); refine sAp (fun oa2 c2 blk2 hrow2 => ?_)) | ((with_reducible apply kP _); refine sP ?_) | ((with_reducible apply kP _); refine sX ?_) | ((with_reducible apply kQG); first | refine qY1 ?_ | refine qN1 ?_ | refine qU1 ?_ | (refine qD1 (fun h => ?_) (fun h => ?_) <;> (try (exfalso; omega))) | refine qB1 (fun h => ?_) (fun h => ?_)) | ((with_reducible apply kQP); refine qP ?_) | ((with_reducible apply kQP); refine qX ?_) | ((with_reducible apply kC); first | refine cT ?_ | refine cF ?_ | (refine cI (fun h => ?_) (fun h => ?_) <;> (try (exfalso; omega))) | refine cB (fun h => ?_) (fun h => ?_)) | ((with_reducible apply kR); refine cQ ?_))
        exact r_end ⟨z + 1, oa2, c2, blk2⟩ ⟨hz', e ▸ hrow2⟩ (by simp only; omega) (by repeat' first | trivial | rfl | apply And.intro) SCt
      · obtain rfl : z = 4 := by omega
        repeat' (first | (with_reducible first | refine c_seq ?_ | refine c_reg ?_ | refine c_region ?_ | refine c_block ?_ | refine c_skip ?_ | refine c_exit ?_ | refine c_ret ?_ | refine s_nil ?_ | refine x_then ?_ | refine x_then_exit ?_ | refine x_then_ret ?_ | refine x_block ?_ | refine x_block_ret ?_ | refine x_block_same ?_ | refine x_block_other (by rfl) ?_ | refine q_nil ?_ | refine k_nil ?_) | ((with_reducible apply kP (.makeFunc _ _ _)); refine sMF ?_) | ((with_reducible apply kG); first | refine gY1 ?_ | refine gN1 ?_ | refine gU1 ?_ | (refine gD1 (fun h => ?_) (fun h => ?_) <;> (try (exfalso; omega))) | refine gB1 (fun h => ?_) (fun h => ?_)) | ((with_reducible apply kN); first | refine stP ?_ | refine stI ?_ | refine st1 ?_ | refine stW ?_) | ((with_reducible apply kP (.alloc _)); refine sA (fun b => ?_)) | ((with_reducible apply kP (.box _ _)); first | refine sBA (fun b => ?_) | refine sB (fun b => ?_)) | ((with_reducible apply kP (.buildSlice _ 1 _)); first | refine sl1A (fun b => ?_) | refine sl1 (fun b => ?_)) | ((with_reducible apply kP (.buildSlice _ 2 _)); refine sl2 (fun b => ?_)) | ((with_reducible apply kP (.buildSlice _ 3 _)); refine sl3 (fun b => ?_)) | ((with_reducible apply kP (.buildSlice _ 4 _)); refine sl4 (fun b => ?_)) | ((with_reducible apply kP (.buildSlice _ 0 _)); refine s_bs0 (scTOf rfl) (zsTOf rfl) (by decide) (fun b => ?_)) | ((with_reducible apply kP (.makeSlice _ _ _)); refine sMk (fun b => ?_)) | ((with_reducible apply kP (.call ⟨.builtin .append, _, _⟩)); refine sAp (fun oa2 c2 blk2 hrow2 => ?_)) | ((with_reducible apply kP _); refine sP ?_) | ((with_reducible apply kP _); refine sX ?_) | ((with_reducible apply kQG); first | refine qY1 ?_ | refine qN1 ?_ | refine qU1 ?_ | (refine qD1 (fun h => ?_) (fun h => ?_) <;> (try (exfalso; omega))) | refine qB1 (fun h => ?_) (fun h => ?_)) | ((with_reducible apply kQP); refine qP ?_) | ((with_reducible apply kQP); refine qX ?_) | ((with_reducible apply kC); first | refine cT ?_ | refine cF ?_ | (refine cI (fun h => ?_) (fun h => ?_) <;> (try (exfalso; omega))) | refine cB (fun h => ?_) (fun h => ?_)) | ((with_reducible apply kR); refine cQ ?_))
        exact r_end ⟨y + 1, oa, c, blk⟩ ⟨hy', by rw [show x * 24 + (y + 1) * 4 = x * 24 + y * 4 + 4 by omega]; exact hrow⟩ (by simp only; omega) (by simp only [show x * 24 + (y + 1) * 4 = x * 24 + y * 4 + 4 by omega]; exact (by repeat' first | trivial | rfl | apply And.intro)) SCt
    · obtain rfl : y = 6 := by omega
      repeat' (first | (with_reducible first | refine c_seq ?_ | refine c_reg ?_ | refine c_region ?_ | refine c_block ?_ | refine c_skip ?_ | refine c_exit ?_ | refine c_ret ?_ | refine s_nil ?_ | refine x_then ?_ | refine x_then_exit ?_ | refine x_then_ret ?_ | refine x_block ?_ | refine x_block_ret ?_ | refine x_block_same ?_ | refine x_block_other (by rfl) ?_ | refine q_nil ?_ | refine k_nil ?_) | ((with_reducible apply kP (.makeFunc _ _ _)); refine sMF ?_) | ((with_reducible apply kG); first | refine gY1 ?_ | refine gN1 ?_ | refine gU1 ?_ | (refine gD1 (fun h => ?_) (fun h => ?_) <;> (try (exfalso; omega))) | refine gB1 (fun h => ?_) (fun h => ?_)) | ((with_reducible apply kN); first | refine stP ?_ | refine stI ?_ | refine st1 ?_ | refine stW ?_) | ((with_reducible apply kP (.alloc _)); refine sA (fun b => ?_)) | ((with_reducible apply kP (.box _ _)); first | refine sBA (fun b => ?_) | refine sB (fun b => ?_)) | ((with_reducible apply kP (.buildSlice _ 1 _)); first | refine sl1A (fun b => ?_) | refine sl1 (fun b => ?_)) | ((with_reducible apply kP (.buildSlice _ 2 _)); refine sl2 (fun b => ?_)) | ((with_reducible apply kP (.buildSlice _ 3 _)); refine sl3 (fun b => ?_)) | ((with_reducible apply kP (.buildSlice _ 4 _)); refine sl4 (fun b => ?_)) | ((with_reducible apply kP (.buildSlice _ 0 _)); refine s_bs0 (scTOf rfl) (zsTOf rfl) (by decide) (fun b => ?_)) | ((with_reducible apply kP (.makeSlice _ _ _)); refine sMk (fun b => ?_)) | ((with_reducible apply kP (.call ⟨.builtin .append, _, _⟩)); refine sAp (fun oa2 c2 blk2 hrow2 => ?_)) | ((with_reducible apply kP _); refine sP ?_) | ((with_reducible apply kP _); refine sX ?_) | ((with_reducible apply kQG); first | refine qY1 ?_ | refine qN1 ?_ | refine qU1 ?_ | (refine qD1 (fun h => ?_) (fun h => ?_) <;> (try (exfalso; omega))) | refine qB1 (fun h => ?_) (fun h => ?_)) | ((with_reducible apply kQP); refine qP ?_) | ((with_reducible apply kQP); refine qX ?_) | ((with_reducible apply kC); first | refine cT ?_ | refine cF ?_ | (refine cI (fun h => ?_) (fun h => ?_) <;> (try (exfalso; omega))) | refine cB (fun h => ?_) (fun h => ?_)) | ((with_reducible apply kR); refine cQ ?_))
      exact r_end ⟨x + 1, oa, c, blk⟩ ⟨hx', by rw [show (x + 1) * 24 = x * 24 + 6 * 4 by omega]; exact hrow⟩ (by simp only; omega) (by simp only [show (x + 1) * 24 = x * 24 + 6 * 4 by omega]; exact (by repeat' first | trivial | rfl | apply And.intro)) SCt
  · obtain rfl : x = 10 := by omega
    repeat' (first | (with_reducible first | refine c_seq ?_ | refine c_reg ?_ | refine c_region ?_ | refine c_block ?_ | refine c_skip ?_ | refine c_exit ?_ | refine c_ret ?_ | refine s_nil ?_ | refine x_then ?_ | refine x_then_exit ?_ | refine x_then_ret ?_ | refine x_block ?_ | refine x_block_ret ?_ | refine x_block_same ?_ | refine x_block_other (by rfl) ?_ | refine q_nil ?_ | refine k_nil ?_) | ((with_reducible apply kP (.makeFunc _ _ _)); refine sMF ?_) | ((with_reducible apply kG); first | refine gY1 ?_ | refine gN1 ?_ | refine gU1 ?_ | (refine gD1 (fun h => ?_) (fun h => ?_) <;> (try (exfalso; omega))) | refine gB1 (fun h => ?_) (fun h => ?_)) | ((with_reducible apply kN); first | refine stP ?_ | refine stI ?_ | refine st1 ?_ | refine stW ?_) | ((with_reducible apply kP (.alloc _)); refine sA (fun b => ?_)) | ((with_reducible apply kP (.box _ _)); first | refine sBA (fun b => ?_) | refine sB (fun b => ?_)) | ((with_reducible apply kP (.buildSlice _ 1 _)); first | refine sl1A (fun b => ?_) | refine sl1 (fun b => ?_)) | ((with_reducible apply kP (.buildSlice _ 2 _)); refine sl2 (fun b => ?_)) | ((with_reducible apply kP (.buildSlice _ 3 _)); refine sl3 (fun b => ?_)) | ((with_reducible apply kP (.buildSlice _ 4 _)); refine sl4 (fun b => ?_)) | ((with_reducible apply kP (.buildSlice _ 0 _)); refine s_bs0 (scTOf rfl) (zsTOf rfl) (by decide) (fun b => ?_)) | ((with_reducible apply kP (.makeSlice _ _ _)); refine sMk (fun b => ?_)) | ((with_reducible apply kP (.call ⟨.builtin .append, _, _⟩)); refine sAp (fun oa2 c2 blk2 hrow2 => ?_)) | ((with_reducible apply kP _); refine sP ?_) | ((with_reducible apply kP _); refine sX ?_) | ((with_reducible apply kQG); first | refine qY1 ?_ | refine qN1 ?_ | refine qU1 ?_ | (refine qD1 (fun h => ?_) (fun h => ?_) <;> (try (exfalso; omega))) | refine qB1 (fun h => ?_) (fun h => ?_)) | ((with_reducible apply kQP); refine qP ?_) | ((with_reducible apply kQP); refine qX ?_) | ((with_reducible apply kC); first | refine cT ?_ | refine cF ?_ | (refine cI (fun h => ?_) (fun h => ?_) <;> (try (exfalso; omega))) | refine cB (fun h => ?_) (fun h => ?_)) | ((with_reducible apply kR); refine cQ ?_))
    exact e_ret1 rfl rfl ⟨blk, ⟨oa, c, rfl, hrow⟩, rfl⟩ SCt
/-! ### Distances -/
def wS (lz : List Int) (N k : Nat) : Int := sumTo (wts lz (shL k) (shT_ k) (shC k)) N
def tW (lz : List Int) (N : Nat) : Int := sumTo (wgt lz) N
def dsS (N M : Nat) (lz wz : List Int) (k : Nat) : Int := ab (wS lz N k * tW wz M - wS wz M k * tW lz N)
def dst (N M : Nat) (lz wz : List Int) : Int := sumTo (dsS N M lz wz) 240
def dnm (N M : Nat) (lz wz : List Int) : Int := 2 * tW lz N * tW wz M
def dgc (N M : Nat) (lz wz : List Int) : Int := (Nat.gcd (dst N M lz wz).toNat (dnm N M lz wz).toNat : Nat)
theorem prod_b {x y : Int} (h1 : 0 ≤ x ∧ x ≤ 6000) (h2 : 0 ≤ y ∧ y ≤ 6000) : 0 ≤ x * y ∧ x * y ≤ 36000000 := by
  refine ⟨Int.mul_nonneg h1.1 h2.1, ?_⟩
  have := Int.mul_le_mul h1.2 h2.2 h2.1 (by decide)
  simpa using this
/-- The weights of a valid blend. -/
structure VB (N : Nat) (lz : List Int) : Prop where
  pos : 0 < N
  le : N ≤ 6
  sd : ∀ i, i < N → sdB (lz.getD (i * 4) 0) (lz.getD (i * 4 + 1) 0) (lz.getD (i * 4 + 2) 0) = true
  w : ∀ i, i < N → 1 ≤ wgt lz i ∧ wgt lz i ≤ 1000
theorem VB.of {N : Nat} {lz : List Int} (h : vbE N lz = 0) : VB N lz := let ⟨h1, h2, h3⟩ := vb_to h; ⟨h2, h1, fun i hi => (h3 i hi).1, fun i hi => (h3 i hi).2⟩
theorem VB.tot {N : Nat} {lz : List Int} (h : VB N lz) : 1 ≤ tW lz N ∧ tW lz N ≤ 6000 := by
  have h1 := wsum_le h.w N (Nat.le_refl _)
  have h2 := h.le
  have h3 : 1 ≤ sumTo (wgt lz) N := by
    have h0 := h.pos
    obtain ⟨m, rfl⟩ : ∃ m, N = m + 1 := ⟨N - 1, by omega⟩
    rw [sumTo_succ]
    have := wsum_le h.w m (by omega)
    have := h.w m (by omega)
    omega
  unfold tW
  omega
theorem VB.wS {N : Nat} {lz : List Int} (h : VB N lz) (k : Nat) : 0 ≤ wS lz N k ∧ wS lz N k ≤ 6000 := by
  have h1 := wts_le (L := shL k) (T := shT_ k) (C := shC k) h.w N (Nat.le_refl _)
  have h2 := h.le
  unfold Ytphobgibcpmgdaa.wS
  omega
theorem dsS_b {N M : Nat} {lz wz : List Int} (h1 : VB N lz) (h2 : VB M wz) (k : Nat) : 0 ≤ dsS N M lz wz k ∧ dsS N M lz wz k ≤ 36000000 := by
  have a1 := prod_b (h1.wS k) ⟨by have := h2.tot; omega, h2.tot.2⟩
  have a2 := prod_b (h2.wS k) ⟨by have := h1.tot; omega, h1.tot.2⟩
  unfold dsS ab
  omega
theorem ds_b {N M : Nat} {lz wz : List Int} (h1 : VB N lz) (h2 : VB M wz) (i : Nat) : 0 ≤ sumTo (dsS N M lz wz) i ∧ sumTo (dsS N M lz wz) i ≤ i * 36000000 :=
  ⟨sumTo_nonneg i fun k _ => (dsS_b h1 h2 k).1, sumTo_le i fun k _ => (dsS_b h1 h2 k).2⟩
theorem k_gcdI (x y : Int) (hx : 0 ≤ x ∧ x ≤ 1000000000000) (hy : 0 ≤ y ∧ y ≤ 1000000000000) (B : Nat) (w0 : Wd) (hs : HS) : Fn Try.prog 69 #[iv x, iv y] B w0 hs (fun v h => v = iv (Nat.gcd x.toNat y.toNat) ∧ h = hs) := by
  have := k_gcd x.toNat y.toNat (by omega) (by omega) B w0 hs
  rwa [Int.toNat_of_nonneg hx.1, Int.toNat_of_nonneg hy.1] at this
theorem r_divisorI (x y : Int) (hx : 0 ≤ x ∧ x ≤ 1000000000000) (hy : 0 ≤ y ∧ y ≤ 1000000000000) (B : Nat) (w0 : Wd) (hs : HS) : Fn Try.prog 71 #[iv x, iv y] B w0 hs (fun v h => v = iv (Nat.gcd x.toNat y.toNat) ∧ h = hs) := by
  have := r_divisor x.toNat y.toNat (by omega) (by omega) B w0 hs
  rwa [Int.toNat_of_nonneg hx.1, Int.toNat_of_nonneg hy.1] at this
end Go.Proofs.Ytphobgibcpmgdaa
