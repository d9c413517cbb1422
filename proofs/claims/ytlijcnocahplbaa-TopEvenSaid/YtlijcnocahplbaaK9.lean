/- Runs of equal colors. -/
import Derived.Test.YtlijcnocahplbaaK8
namespace Go.Proofs.Ytlijcnocahplbaa
open Go.RowKit

/-- The run that ends ahead of a place; the longest one so far. -/
def rnc (l : List Int) : Nat → Int
  | 0 => 0
  | k + 1 => if 0 < k ∧ l.getD k 0 = l.getD (k - 1) 0 then rnc l k + 1 else 1
def bst (l : List Int) : Nat → Int
  | 0 => 0
  | k + 1 => max (bst l k) (rnc l (k + 1))
theorem rnc_to (l : List Int) : ∀ k, 0 ≤ rnc l k ∧ rnc l k ≤ k
  | 0 => by simp [rnc]
  | k + 1 => by
    have := rnc_to l k
    unfold rnc
    split <;> omega
theorem bst_to (l : List Int) : ∀ k, 0 ≤ bst l k ∧ bst l k ≤ k
  | 0 => by simp [bst]
  | k + 1 => by
    have h1 := bst_to l k; have h2 := rnc_to l (k + 1)
    unfold bst
    omega
theorem bst_ge (l : List Int) : ∀ k j, j ≤ k → rnc l j ≤ bst l k
  | 0, j, h => by
    obtain rfl : j = 0 := by omega
    simp [rnc, bst]
  | k + 1, j, h => by
    unfold bst
    by_cases hj : j = k + 1
    · subst hj; omega
    · have := bst_ge l k j (by omega); omega
theorem bst_mono (l : List Int) : ∀ k j, j ≤ k → bst l j ≤ bst l k
  | 0, j, h => by
    obtain rfl : j = 0 := by omega
    omega
  | k + 1, j, h => by
    by_cases hj : j = k + 1
    · subst hj; omega
    · have h1 := bst_mono l k j (by omega)
      have : bst l k ≤ bst l (k + 1) := by rw [bst]; omega
      omega
def runV (l : List Int) : Value := if 600 < l.length then .tuple #[iv 0, iv 4] else .tuple #[iv (bst l l.length), iv 0]
set_option maxRecDepth 100000 in
set_option maxHeartbeats 8000000 in
theorem k_runs (oa : Option Addr) (c : Nat) (l : List Int) (hl : l.length ≤ 1000000) (B : Nat) (w0 : World) (hs : HS) (h1 : Sl B w0 hs oa l) :
    Fn Try.prog 31 #[.slice oa l.length c] B w0 hs (fun v hs' => v = runV l ∧ hs' = hs) := by
  refine fn_enter Try.func31 rfl Try.ntmps31 (by simp) ?_
  repeat' (first | (with_reducible first | refine c_seq ?_ | refine c_reg ?_ | refine c_region ?_ | refine c_block ?_ | refine c_skip ?_ | refine c_exit ?_ | refine c_ret ?_ | refine s_nil ?_ | refine x_then ?_ | refine x_then_exit ?_ | refine x_then_ret ?_ | refine x_block ?_ | refine x_block_ret ?_ | refine x_block_same ?_ | refine x_block_other (by rfl) ?_ | refine q_nil ?_ | refine k_nil ?_) | ((with_reducible apply kP (.makeFunc _ _ _)); refine sMF ?_) | ((with_reducible apply kG); first | refine gY1 ?_ | refine gN1 ?_ | refine gU1 ?_ | (refine gD1 (fun h => ?_) (fun h => ?_) <;> (try (exfalso; omega))) | refine gB1 (fun h => ?_) (fun h => ?_)) | ((with_reducible apply kN); first | refine stP ?_ | refine stI ?_ | refine st1 ?_ | refine stW ?_) | ((with_reducible apply kP (.alloc _)); refine sA (fun b => ?_)) | ((with_reducible apply kP (.box _ _)); first | refine sBA (fun b => ?_) | refine sB (fun b => ?_)) | ((with_reducible apply kP (.buildSlice _ 1 _)); first | refine sl1A (fun b => ?_) | refine sl1 (fun b => ?_)) | ((with_reducible apply kP (.buildSlice _ 2 _)); refine sl2 (fun b => ?_)) | ((with_reducible apply kP (.buildSlice _ 3 _)); refine sl3 (fun b => ?_)) | ((with_reducible apply kP (.buildSlice _ 4 _)); refine sl4 (fun b => ?_)) | ((with_reducible apply kP (.buildSlice _ 0 _)); refine s_bs0 (scTOf rfl) (zsTOf rfl) (by decide) (fun b => ?_)) | ((with_reducible apply kP (.makeSlice _ _ _)); refine sMk (fun b => ?_)) | ((with_reducible apply kP (.call ⟨.builtin .append, _, _⟩)); refine sAp (fun oa2 c2 blk2 hrow2 => ?_)) | ((with_reducible apply kP _); refine sP ?_) | ((with_reducible apply kP _); refine sX ?_) | ((with_reducible apply kQG); first | refine qY1 ?_ | refine qN1 ?_ | refine qU1 ?_ | (refine qD1 (fun h => ?_) (fun h => ?_) <;> (try (exfalso; omega))) | refine qB1 (fun h => ?_) (fun h => ?_)) | ((with_reducible apply kQP); refine qP ?_) | ((with_reducible apply kQP); refine qX ?_) | ((with_reducible apply kC); first | refine cT ?_ | refine cF ?_ | (refine cI (fun h => ?_) (fun h => ?_) <;> (try (exfalso; omega))) | refine cB (fun h => ?_) (fun h => ?_)) | ((with_reducible apply kR); refine cQ ?_))
  · exact e_ret2 rfl rfl rfl ⟨by unfold runV; rw [if_pos (by omega)]; rfl, rfl⟩ sb0
  have h6 : ¬ 600 < l.length := by omega
  refine c_loop (fun k : Nat => [(0, .slice oa l.length c), (4, iv (bst l k)), (5, iv (rnc l k)), (11, .slice oa l.length c), (12, iv l.length), (13, iv k)]) (fun _ => hs) (fun k => k ≤ l.length) (fun k => l.length - k) 0 (by omega) (by repeat' first | trivial | rfl | apply And.intro) sb0 ?_
  intro k hk
  have b1 := rnc_to l k
  have b2 := bst_to l k
  by_cases hk' : k < l.length
  · have g1 := h1.any hk'
    have e1 : rnc l (k + 1) = if 0 < k ∧ l.getD k 0 = l.getD (k - 1) 0 then rnc l k + 1 else 1 := rfl
    have e2 : bst l (k + 1) = max (bst l k) (rnc l (k + 1)) := rfl
    by_cases hk0 : k = 0
    · subst hk0
      rw [if_neg (by omega)] at e1
      repeat' (first | (with_reducible first | refine c_seq ?_ | refine c_reg ?_ | refine c_region ?_ | refine c_block ?_ | refine c_skip ?_ | refine c_exit ?_ | refine c_ret ?_ | refine s_nil ?_ | refine x_then ?_ | refine x_then_exit ?_ | refine x_then_ret ?_ | refine x_block ?_ | refine x_block_ret ?_ | refine x_block_same ?_ | refine x_block_other (by rfl) ?_ | refine q_nil ?_ | refine k_nil ?_) | ((with_reducible apply kP (.makeFunc _ _ _)); refine sMF ?_) | ((with_reducible apply kG); first | refine gY1 ?_ | refine gN1 ?_ | refine gU1 ?_ | (refine gD1 (fun h => ?_) (fun h => ?_) <;> (try (exfalso; omega))) | refine gB1 (fun h => ?_) (fun h => ?_)) | ((with_reducible apply kN); first | refine stP ?_ | refine stI ?_ | refine st1 ?_ | refine stW ?_) | ((with_reducible apply kP (.alloc _)); refine sA (fun b => ?_)) | ((with_reducible apply kP (.box _ _)); first | refine sBA (fun b => ?_) | refine sB (fun b => ?_)) | ((with_reducible apply kP (.buildSlice _ 1 _)); first | refine sl1A (fun b => ?_) | refine sl1 (fun b => ?_)) | ((with_reducible apply kP (.buildSlice _ 2 _)); refine sl2 (fun b => ?_)) | ((with_reducible apply kP (.buildSlice _ 3 _)); refine sl3 (fun b => ?_)) | ((with_reducible apply kP (.buildSlice _ 4 _)); refine sl4 (fun b => ?_)) | ((with_reducible apply kP (.buildSlice _ 0 _)); refine s_bs0 (scTOf rfl) (zsTOf rfl) (by decide) (fun b => ?_)) | ((with_reducible apply kP (.makeSlice _ _ _)); refine sMk (fun b => ?_)) | ((with_reducible apply kP (.call ⟨.builtin .append, _, _⟩)); refine sAp (fun oa2 c2 blk2 hrow2 => ?_)) | ((with_reducible apply kP _); refine sP ?_) | ((with_reducible apply kP _); refine sX ?_) | ((with_reducible apply kQG); first | refine qY1 ?_ | refine qN1 ?_ | refine qU1 ?_ | (refine qD1 (fun h => ?_) (fun h => ?_) <;> (try (exfalso; omega))) | refine qB1 (fun h => ?_) (fun h => ?_)) | ((with_reducible apply kQP); refine qP ?_) | ((with_reducible apply kQP); refine qX ?_) | ((with_reducible apply kC); first | refine cT ?_ | refine cF ?_ | (refine cI (fun h => ?_) (fun h => ?_) <;> (try (exfalso; omega))) | refine cB (fun h => ?_) (fun h => ?_)) | ((with_reducible apply kR); refine cQ ?_))
      exact r_end 1 (by omega) (by omega) ⟨rfl, by rw [e2, e1]; rfl, by rw [e1]; rfl, rfl, rfl, rfl, trivial⟩ sb0
    · repeat' (first | (with_reducible first | refine c_seq ?_ | refine c_reg ?_ | refine c_region ?_ | refine c_block ?_ | refine c_skip ?_ | refine c_exit ?_ | refine c_ret ?_ | refine s_nil ?_ | refine x_then ?_ | refine x_then_exit ?_ | refine x_then_ret ?_ | refine x_block ?_ | refine x_block_ret ?_ | refine x_block_same ?_ | refine x_block_other (by rfl) ?_ | refine q_nil ?_ | refine k_nil ?_) | ((with_reducible apply kP (.makeFunc _ _ _)); refine sMF ?_) | ((with_reducible apply kG); first | refine gY1 ?_ | refine gN1 ?_ | refine gU1 ?_ | (refine gD1 (fun h => ?_) (fun h => ?_) <;> (try (exfalso; omega))) | refine gB1 (fun h => ?_) (fun h => ?_)) | ((with_reducible apply kN); first | refine stP ?_ | refine stI ?_ | refine st1 ?_ | refine stW ?_) | ((with_reducible apply kP (.alloc _)); refine sA (fun b => ?_)) | ((with_reducible apply kP (.box _ _)); first | refine sBA (fun b => ?_) | refine sB (fun b => ?_)) | ((with_reducible apply kP (.buildSlice _ 1 _)); first | refine sl1A (fun b => ?_) | refine sl1 (fun b => ?_)) | ((with_reducible apply kP (.buildSlice _ 2 _)); refine sl2 (fun b => ?_)) | ((with_reducible apply kP (.buildSlice _ 3 _)); refine sl3 (fun b => ?_)) | ((with_reducible apply kP (.buildSlice _ 4 _)); refine sl4 (fun b => ?_)) | ((with_reducible apply kP (.buildSlice _ 0 _)); refine s_bs0 (scTOf rfl) (zsTOf rfl) (by decide) (fun b => ?_)) | ((with_reducible apply kP (.makeSlice _ _ _)); refine sMk (fun b => ?_)) | ((with_reducible apply kP (.call ⟨.builtin .append, _, _⟩)); refine sAp (fun oa2 c2 blk2 hrow2 => ?_)) | ((with_reducible apply kP _); refine sP ?_) | ((with_reducible apply kP _); refine sX ?_) | ((with_reducible apply kQG); first | refine qY1 ?_ | refine qN1 ?_ | refine qU1 ?_ | (refine qD1 (fun h => ?_) (fun h => ?_) <;> (try (exfalso; omega))) | refine qB1 (fun h => ?_) (fun h => ?_)) | ((with_reducible apply kQP); refine qP ?_) | ((with_reducible apply kQP); refine qX ?_) | ((with_reducible apply kC); first | refine cT ?_ | refine cF ?_ | (refine cI (fun h => ?_) (fun h => ?_) <;> (try (exfalso; omega))) | refine cB (fun h => ?_) (fun h => ?_)) | ((with_reducible apply kR); refine cQ ?_))
      · rename_i h
        rw [if_pos ⟨by omega, h.symm⟩] at e1
        exact r_end (k + 1) (by omega) (by omega) ⟨rfl, by rw [e2, e1]; rfl, by rw [e1]; rfl, rfl, rfl, rfl, trivial⟩ sb0
      · rename_i h
        rw [if_neg (fun hh => h hh.2.symm)] at e1
        exact r_end (k + 1) (by omega) (by omega) ⟨rfl, by rw [e2, e1]; rfl, by rw [e1]; rfl, rfl, rfl, rfl, trivial⟩ sb0
  · obtain rfl : k = l.length := by omega
    repeat' (first | (with_reducible first | refine c_seq ?_ | refine c_reg ?_ | refine c_region ?_ | refine c_block ?_ | refine c_skip ?_ | refine c_exit ?_ | refine c_ret ?_ | refine s_nil ?_ | refine x_then ?_ | refine x_then_exit ?_ | refine x_then_ret ?_ | refine x_block ?_ | refine x_block_ret ?_ | refine x_block_same ?_ | refine x_block_other (by rfl) ?_ | refine q_nil ?_ | refine k_nil ?_) | ((with_reducible apply kP (.makeFunc _ _ _)); refine sMF ?_) | ((with_reducible apply kG); first | refine gY1 ?_ | refine gN1 ?_ | refine gU1 ?_ | (refine gD1 (fun h => ?_) (fun h => ?_) <;> (try (exfalso; omega))) | refine gB1 (fun h => ?_) (fun h => ?_)) | ((with_reducible apply kN); first | refine stP ?_ | refine stI ?_ | refine st1 ?_ | refine stW ?_) | ((with_reducible apply kP (.alloc _)); refine sA (fun b => ?_)) | ((with_reducible apply kP (.box _ _)); first | refine sBA (fun b => ?_) | refine sB (fun b => ?_)) | ((with_reducible apply kP (.buildSlice _ 1 _)); first | refine sl1A (fun b => ?_) | refine sl1 (fun b => ?_)) | ((with_reducible apply kP (.buildSlice _ 2 _)); refine sl2 (fun b => ?_)) | ((with_reducible apply kP (.buildSlice _ 3 _)); refine sl3 (fun b => ?_)) | ((with_reducible apply kP (.buildSlice _ 4 _)); refine sl4 (fun b => ?_)) | ((with_reducible apply kP (.buildSlice _ 0 _)); refine s_bs0 (scTOf rfl) (zsTOf rfl) (by decide) (fun b => ?_)) | ((with_reducible apply kP (.makeSlice _ _ _)); refine sMk (fun b => ?_)) | ((with_reducible apply kP (.call ⟨.builtin .append, _, _⟩)); refine sAp (fun oa2 c2 blk2 hrow2 => ?_)) | ((with_reducible apply kP _); refine sP ?_) | ((with_reducible apply kP _); refine sX ?_) | ((with_reducible apply kQG); first | refine qY1 ?_ | refine qN1 ?_ | refine qU1 ?_ | (refine qD1 (fun h => ?_) (fun h => ?_) <;> (try (exfalso; omega))) | refine qB1 (fun h => ?_) (fun h => ?_)) | ((with_reducible apply kQP); refine qP ?_) | ((with_reducible apply kQP); refine qX ?_) | ((with_reducible apply kC); first | refine cT ?_ | refine cF ?_ | (refine cI (fun h => ?_) (fun h => ?_) <;> (try (exfalso; omega))) | refine cB (fun h => ?_) (fun h => ?_)) | ((with_reducible apply kR); refine cQ ?_))
    exact e_ret2 rfl rfl rfl ⟨by unfold runV; rw [if_neg h6]; rfl, rfl⟩ sb0
set_option maxRecDepth 100000 in
set_option maxHeartbeats 8000000 in
theorem r_runs (oa : Option Addr) (c : Nat) (l : List Int) (hl : l.length ≤ 1000000) (B : Nat) (w0 : World) (hs : HS) (h1 : Sl B w0 hs oa l) :
    Fn Try.prog 32 #[.slice oa l.length c] B w0 hs (fun v hs' => v = runV l ∧ hs' = hs) := by
  refine fn_enter Try.func32 rfl Try.ntmps32 (by simp) ?_
  repeat' (first | (with_reducible first | refine c_seq ?_ | refine c_reg ?_ | refine c_region ?_ | refine c_block ?_ | refine c_skip ?_ | refine c_exit ?_ | refine c_ret ?_ | refine s_nil ?_ | refine x_then ?_ | refine x_then_exit ?_ | refine x_then_ret ?_ | refine x_block ?_ | refine x_block_ret ?_ | refine x_block_same ?_ | refine x_block_other (by rfl) ?_ | refine q_nil ?_ | refine k_nil ?_) | ((with_reducible apply kP (.makeFunc _ _ _)); refine sMF ?_) | ((with_reducible apply kG); first | refine gY1 ?_ | refine gN1 ?_ | refine gU1 ?_ | (refine gD1 (fun h => ?_) (fun h => ?_) <;> (try (exfalso; omega))) | refine gB1 (fun h => ?_) (fun h => ?_)) | ((with_reducible apply kN); first | refine stP ?_ | refine stI ?_ | refine st1 ?_ | refine stW ?_) | ((with_reducible apply kP (.alloc _)); refine sA (fun b => ?_)) | ((with_reducible apply kP (.box _ _)); first | refine sBA (fun b => ?_) | refine sB (fun b => ?_)) | ((with_reducible apply kP (.buildSlice _ 1 _)); first | refine sl1A (fun b => ?_) | refine sl1 (fun b => ?_)) | ((with_reducible apply kP (.buildSlice _ 2 _)); refine sl2 (fun b => ?_)) | ((with_reducible apply kP (.buildSlice _ 3 _)); refine sl3 (fun b => ?_)) | ((with_reducible apply kP (.buildSlice _ 4 _)); refine sl4 (fun b => ?_)) | ((with_reducible apply kP (.buildSlice _ 0 _)); refine s_bs0 (scTOf rfl) (zsTOf rfl) (by decide) (fun b => ?_)) | ((with_reducible apply kP (.makeSlice _ _ _)); refine sMk (fun b => ?_)) | ((with_reducible apply kP (.call ⟨.builtin .append, _, _⟩)); refine sAp (fun oa2 c2 blk2 hrow2 => ?_)) | ((with_reducible apply kP _); refine sP ?_) | ((with_reducible apply kP _); refine sX ?_) | ((with_reducible apply kQG); first | refine qY1 ?_ | refine qN1 ?_ | refine qU1 ?_ | (refine qD1 (fun h => ?_) (fun h => ?_) <;> (try (exfalso; omega))) | refine qB1 (fun h => ?_) (fun h => ?_)) | ((with_reducible apply kQP); refine qP ?_) | ((with_reducible apply kQP); refine qX ?_) | ((with_reducible apply kC); first | refine cT ?_ | refine cF ?_ | (refine cI (fun h => ?_) (fun h => ?_) <;> (try (exfalso; omega))) | refine cB (fun h => ?_) (fun h => ?_)) | ((with_reducible apply kR); refine cQ ?_))
  · exact e_ret2 rfl rfl rfl ⟨by unfold runV; rw [if_pos (by omega)]; rfl, rfl⟩ sb0
  have h6 : ¬ 600 < l.length := by omega
  refine c_loop (fun k : Nat => [(0, .slice oa l.length c), (4, iv (bst l k)), (5, iv (rnc l k)), (6, iv k)]) (fun _ => hs) (fun k => k ≤ l.length) (fun k => l.length - k) 0 (by omega) (by repeat' first | trivial | rfl | apply And.intro) sb0 ?_
  intro k hk
  have b1 := rnc_to l k
  have b2 := bst_to l k
  by_cases hk' : k < l.length
  · have g1 := h1.any hk'
    have e1 : rnc l (k + 1) = if 0 < k ∧ l.getD k 0 = l.getD (k - 1) 0 then rnc l k + 1 else 1 := rfl
    have e2 : bst l (k + 1) = max (bst l k) (rnc l (k + 1)) := rfl
    by_cases hk0 : k = 0
    · subst hk0
      rw [if_neg (by omega)] at e1
      repeat' (first | (with_reducible first | refine c_seq ?_ | refine c_reg ?_ | refine c_region ?_ | refine c_block ?_ | refine c_skip ?_ | refine c_exit ?_ | refine c_ret ?_ | refine s_nil ?_ | refine x_then ?_ | refine x_then_exit ?_ | refine x_then_ret ?_ | refine x_block ?_ | refine x_block_ret ?_ | refine x_block_same ?_ | refine x_block_other (by rfl) ?_ | refine q_nil ?_ | refine k_nil ?_) | ((with_reducible apply kP (.makeFunc _ _ _)); refine sMF ?_) | ((with_reducible apply kG); first | refine gY1 ?_ | refine gN1 ?_ | refine gU1 ?_ | (refine gD1 (fun h => ?_) (fun h => ?_) <;> (try (exfalso; omega))) | refine gB1 (fun h => ?_) (fun h => ?_)) | ((with_reducible apply kN); first | refine stP ?_ | refine stI ?_ | refine st1 ?_ | refine stW ?_) | ((with_reducible apply kP (.alloc _)); refine sA (fun b => ?_)) | ((with_reducible apply kP (.box _ _)); first | refine sBA (fun b => ?_) | refine sB (fun b => ?_)) | ((with_reducible apply kP (.buildSlice _ 1 _)); first | refine sl1A (fun b => ?_) | refine sl1 (fun b => ?_)) | ((with_reducible apply kP (.buildSlice _ 2 _)); refine sl2 (fun b => ?_)) | ((with_reducible apply kP (.buildSlice _ 3 _)); refine sl3 (fun b => ?_)) | ((with_reducible apply kP (.buildSlice _ 4 _)); refine sl4 (fun b => ?_)) | ((with_reducible apply kP (.buildSlice _ 0 _)); refine s_bs0 (scTOf rfl) (zsTOf rfl) (by decide) (fun b => ?_)) | ((with_reducible apply kP (.makeSlice _ _ _)); refine sMk (fun b => ?_)) | ((with_reducible apply kP (.call ⟨.builtin .append, _, _⟩)); refine sAp (fun oa2 c2 blk2 hrow2 => ?_)) | ((with_reducible apply kP _); refine sP ?_) | ((with_reducible apply kP _); refine sX ?_) | ((with_reducible apply kQG); first | refine qY1 ?_ | refine qN1 ?_ | refine qU1 ?_ | (refine qD1 (fun h => ?_) (fun h => ?_) <;> (try (exfalso; omega))) | refine qB1 (fun h => ?_) (fun h => ?_)) | ((with_reducible apply kQP); refine qP ?_) | ((with_reducible apply kQP); refine qX ?_) | ((with_reducible apply kC); first | refine cT ?_ | refine cF ?_ | (refine cI (fun h => ?_) (fun h => ?_) <;> (try (exfalso; omega))) | refine cB (fun h => ?_) (fun h => ?_)) | ((with_reducible apply kR); refine cQ ?_))
      exact r_end 1 (by omega) (by omega) ⟨rfl, by rw [e2, e1]; rfl, by rw [e1]; rfl, rfl, trivial⟩ sb0
    · repeat' (first | (with_reducible first | refine c_seq ?_ | refine c_reg ?_ | refine c_region ?_ | refine c_block ?_ | refine c_skip ?_ | refine c_exit ?_ | refine c_ret ?_ | refine s_nil ?_ | refine x_then ?_ | refine x_then_exit ?_ | refine x_then_ret ?_ | refine x_block ?_ | refine x_block_ret ?_ | refine x_block_same ?_ | refine x_block_other (by rfl) ?_ | refine q_nil ?_ | refine k_nil ?_) | ((with_reducible apply kP (.makeFunc _ _ _)); refine sMF ?_) | ((with_reducible apply kG); first | refine gY1 ?_ | refine gN1 ?_ | refine gU1 ?_ | (refine gD1 (fun h => ?_) (fun h => ?_) <;> (try (exfalso; omega))) | refine gB1 (fun h => ?_) (fun h => ?_)) | ((with_reducible apply kN); first | refine stP ?_ | refine stI ?_ | refine st1 ?_ | refine stW ?_) | ((with_reducible apply kP (.alloc _)); refine sA (fun b => ?_)) | ((with_reducible apply kP (.box _ _)); first | refine sBA (fun b => ?_) | refine sB (fun b => ?_)) | ((with_reducible apply kP (.buildSlice _ 1 _)); first | refine sl1A (fun b => ?_) | refine sl1 (fun b => ?_)) | ((with_reducible apply kP (.buildSlice _ 2 _)); refine sl2 (fun b => ?_)) | ((with_reducible apply kP (.buildSlice _ 3 _)); refine sl3 (fun b => ?_)) | ((with_reducible apply kP (.buildSlice _ 4 _)); refine sl4 (fun b => ?_)) | ((with_reducible apply kP (.buildSlice _ 0 _)); refine s_bs0 (scTOf rfl) (zsTOf rfl) (by decide) (fun b => ?_)) | ((with_reducible apply kP (.makeSlice _ _ _)); refine sMk (fun b => ?_)) | ((with_reducible apply kP (.call ⟨.builtin .append, _, _⟩)); refine sAp (fun oa2 c2 blk2 hrow2 => ?_)) | ((with_reducible apply kP _); refine sP ?_) | ((with_reducible apply kP _); refine sX ?_) | ((with_reducible apply kQG); first | refine qY1 ?_ | refine qN1 ?_ | refine qU1 ?_ | (refine qD1 (fun h => ?_) (fun h => ?_) <;> (try (exfalso; omega))) | refine qB1 (fun h => ?_) (fun h => ?_)) | ((with_reducible apply kQP); refine qP ?_) | ((with_reducible apply kQP); refine qX ?_) | ((with_reducible apply kC); first | refine cT ?_ | refine cF ?_ | (refine cI (fun h => ?_) (fun h => ?_) <;> (try (exfalso; omega))) | refine cB (fun h => ?_) (fun h => ?_)) | ((with_reducible apply kR); refine cQ ?_))
      · rename_i h
        rw [if_neg (fun hh => h hh.2)] at e1
        exact r_end (k + 1) (by omega) (by omega) ⟨rfl, by rw [e2, e1]; rfl, by rw [e1]; rfl, rfl, trivial⟩ sb0
      · rename_i h
        rw [if_pos ⟨by omega, by omega⟩] at e1
        exact r_end (k + 1) (by omega) (by omega) ⟨rfl, by rw [e2, e1]; rfl, by rw [e1]; rfl, rfl, trivial⟩ sb0
  · obtain rfl : k = l.length := by omega
    repeat' (first | (with_reducible first | refine c_seq ?_ | refine c_reg ?_ | refine c_region ?_ | refine c_block ?_ | refine c_skip ?_ | refine c_exit ?_ | refine c_ret ?_ | refine s_nil ?_ | refine x_then ?_ | refine x_then_exit ?_ | refine x_then_ret ?_ | refine x_block ?_ | refine x_block_ret ?_ | refine x_block_same ?_ | refine x_block_other (by rfl) ?_ | refine q_nil ?_ | refine k_nil ?_) | ((with_reducible apply kP (.makeFunc _ _ _)); refine sMF ?_) | ((with_reducible apply kG); first | refine gY1 ?_ | refine gN1 ?_ | refine gU1 ?_ | (refine gD1 (fun h => ?_) (fun h => ?_) <;> (try (exfalso; omega))) | refine gB1 (fun h => ?_) (fun h => ?_)) | ((with_reducible apply kN); first | refine stP ?_ | refine stI ?_ | refine st1 ?_ | refine stW ?_) | ((with_reducible apply kP (.alloc _)); refine sA (fun b => ?_)) | ((with_reducible apply kP (.box _ _)); first | refine sBA (fun b => ?_) | refine sB (fun b => ?_)) | ((with_reducible apply kP (.buildSlice _ 1 _)); first | refine sl1A (fun b => ?_) | refine sl1 (fun b => ?_)) | ((with_reducible apply kP (.buildSlice _ 2 _)); refine sl2 (fun b => ?_)) | ((with_reducible apply kP (.buildSlice _ 3 _)); refine sl3 (fun b => ?_)) | ((with_reducible apply kP (.buildSlice _ 4 _)); refine sl4 (fun b => ?_)) | ((with_reducible apply kP (.buildSlice _ 0 _)); refine s_bs0 (scTOf rfl) (zsTOf rfl) (by decide) (fun b => ?_)) | ((with_reducible apply kP (.makeSlice _ _ _)); refine sMk (fun b => ?_)) | ((with_reducible apply kP (.call ⟨.builtin .append, _, _⟩)); refine sAp (fun oa2 c2 blk2 hrow2 => ?_)) | ((with_reducible apply kP _); refine sP ?_) | ((with_reducible apply kP _); refine sX ?_) | ((with_reducible apply kQG); first | refine qY1 ?_ | refine qN1 ?_ | refine qU1 ?_ | (refine qD1 (fun h => ?_) (fun h => ?_) <;> (try (exfalso; omega))) | refine qB1 (fun h => ?_) (fun h => ?_)) | ((with_reducible apply kQP); refine qP ?_) | ((with_reducible apply kQP); refine qX ?_) | ((with_reducible apply kC); first | refine cT ?_ | refine cF ?_ | (refine cI (fun h => ?_) (fun h => ?_) <;> (try (exfalso; omega))) | refine cB (fun h => ?_) (fun h => ?_)) | ((with_reducible apply kR); refine cQ ?_))
    exact e_ret2 rfl rfl rfl ⟨by unfold runV; rw [if_neg h6]; rfl, rfl⟩ sb0
/-! ### A row behind itself -/
theorem app_lo {l m : List Int} {i : Nat} (h : i < l.length) : (l ++ m).getD i 0 = l.getD i 0 := by simp only [List.getD]; rw [List.getElem?_append_left h]
theorem app_hi {l m : List Int} (i : Nat) : (l ++ m).getD (l.length + i) 0 = m.getD i 0 := by simp only [List.getD]; rw [List.getElem?_append_right (by omega)]; congr 2; omega
theorem rnc_lo (l m : List Int) : ∀ k, k ≤ l.length → rnc (l ++ m) k = rnc l k
  | 0, _ => rfl
  | k + 1, h => by
    unfold rnc
    rw [app_lo (by omega), app_lo (by omega), rnc_lo l m k (by omega)]
theorem bst_lo (l m : List Int) : ∀ k, k ≤ l.length → bst (l ++ m) k = bst l k
  | 0, _ => rfl
  | k + 1, h => by
    unfold bst
    rw [rnc_lo l m (k + 1) h, bst_lo l m k (by omega)]
theorem rnc_hi (l : List Int) : ∀ j, j ≤ l.length → rnc (l ++ l) (l.length + j) ≤ rnc l j + bst l l.length
  | 0, _ => by
    rw [Nat.add_zero, rnc_lo l l _ (Nat.le_refl _)]
    have := bst_ge l l.length l.length (Nat.le_refl _)
    simp only [rnc]; omega
  | j + 1, h => by
    have ih := rnc_hi l j (by omega)
    have hb := bst_to l l.length
    have e : rnc (l ++ l) (l.length + j + 1) = if 0 < l.length + j ∧ (l ++ l).getD (l.length + j) 0 = (l ++ l).getD (l.length + j - 1) 0 then rnc (l ++ l) (l.length + j) + 1 else 1 := rfl
    have e' : rnc l (j + 1) = if 0 < j ∧ l.getD j 0 = l.getD (j - 1) 0 then rnc l j + 1 else 1 := rfl
    rw [show l.length + (j + 1) = l.length + j + 1 from rfl, e, app_hi]
    by_cases hj : j = 0
    · subst hj
      rw [if_neg (by omega)] at e'
      rw [e']
      simp only [rnc] at ih
      split <;> omega
    · rw [show l.length + j - 1 = l.length + (j - 1) by omega, app_hi, e']
      by_cases hq : l.getD j 0 = l.getD (j - 1) 0
      · rw [if_pos ⟨by omega, hq⟩, if_pos ⟨by omega, hq⟩]; omega
      · rw [if_neg (fun hh => hq hh.2), if_neg (fun hh => hq hh.2)]; omega
theorem bst_hi (l : List Int) : ∀ j, j ≤ l.length → bst (l ++ l) (l.length + j) ≤ 2 * bst l l.length
  | 0, _ => by
    rw [Nat.add_zero, bst_lo l l _ (Nat.le_refl _)]
    have := bst_to l l.length; omega
  | j + 1, h => by
    have h1 := bst_hi l j (by omega)
    have h2 := rnc_hi l (j + 1) h
    have h3 := bst_ge l l.length (j + 1) h
    rw [show l.length + (j + 1) = l.length + j + 1 from rfl, bst]
    rw [show l.length + (j + 1) = l.length + j + 1 from rfl] at h2
    omega
theorem bst_twice (l : List Int) : bst l l.length ≤ bst (l ++ l) (l ++ l).length ∧ bst (l ++ l) (l ++ l).length ≤ 2 * bst l l.length := by
  have h1 := bst_hi l l.length (Nat.le_refl _)
  have h2 := bst_mono (l ++ l) (l.length + l.length) l.length (by omega)
  rw [bst_lo l l _ (Nat.le_refl _)] at h2
  rw [List.length_append]
  exact ⟨h2, h1⟩
theorem k_runs' (oa : Option Addr) (c m : Nat) (l : List Int) (hm : l.length = m) (hl : m ≤ 1000000) (B : Nat) (w0 : World) (hs : HS) (h1 : Sl B w0 hs oa l) :
    Fn Try.prog 31 #[.slice oa m c] B w0 hs (fun v hs' => v = runV l ∧ hs' = hs) := by
  subst hm; exact k_runs oa c l hl B w0 hs h1
end Go.Proofs.Ytlijcnocahplbaa
