/- The chapter's two examples, as the laws ask for them. -/
import Derived.Test.YtlijcnocahplbaaK5
namespace Go.Proofs.Ytlijcnocahplbaa
open Go.RowKit

theorem known_row : rowL 3 2 1 2 4 = [2, 1, 2, 1] ∧ rowErr 3 2 1 2 4 = 0 := by
  unfold rowL rowErr rightB hr bef tab
  unfold densB phasB gz
  decide +kernel
theorem known_spread : spV [1, 1, 2] [0, 1, 2, 2] = .tuple #[iv 2, .bool false, iv 0] := by
  unfold spV
  unfold vw wts cok
  kernel_rfl
set_option maxRecDepth 100000 in
set_option maxHeartbeats 8000000 in
theorem l_known (B : Nat) (w0 : World) (hs : HS) :
    Fn Try.prog 22 #[] B w0 hs (fun v hs' => v = .bool true ∧ hs' = hs) := by
  obtain ⟨k1, k2⟩ := known_row
  have k3 := known_spread
  refine fn_enter Try.func22 rfl Try.ntmps22 (by simp) ?_
  repeat' (first | ((with_reducible apply kF 19); refine sN 19 (k_Row 3 2 1 2 4 (by decide) (by decide) B w0 _) ?_; rintro u blk ⟨oa, c, rfl, hrow⟩; rw [k1] at hrow; rw [k1, k2]) | ((with_reducible apply kF 23); refine sC 23 (k3 ▸ k_isSpread _ _ _ _ [1, 1, 2] [0, 1, 2, 2] (by decide) (by decide) B w0 _ (Sl.own MDt) (Sl.own MDt)) ?_) | ((with_reducible apply kF 21); refine sC 21 (r_same oa _ c _ [2, 1, 2, 1] [2, 1, 2, 1] (by decide) B w0 _ ((Sl.row hrow).sub SBt) (Sl.own MDt)) ?_) | (with_reducible first | refine c_seq ?_ | refine c_reg ?_ | refine c_region ?_ | refine c_block ?_ | refine c_skip ?_ | refine c_exit ?_ | refine c_ret ?_ | refine s_nil ?_ | refine x_then ?_ | refine x_then_exit ?_ | refine x_then_ret ?_ | refine x_block ?_ | refine x_block_ret ?_ | refine x_block_same ?_ | refine x_block_other (by rfl) ?_ | refine q_nil ?_ | refine k_nil ?_) | ((with_reducible apply kP (.makeFunc _ _ _)); refine sMF ?_) | ((with_reducible apply kG); first | refine gY1 ?_ | refine gN1 ?_ | refine gU1 ?_ | (refine gD1 (fun h => ?_) (fun h => ?_) <;> (try (exfalso; omega))) | refine gB1 (fun h => ?_) (fun h => ?_)) | ((with_reducible apply kN); first | refine stP ?_ | refine stI ?_ | refine st1 ?_ | refine stW ?_) | ((with_reducible apply kP (.alloc _)); refine sA (fun b => ?_)) | ((with_reducible apply kP (.box _ _)); first | refine sBA (fun b => ?_) | refine sB (fun b => ?_)) | ((with_reducible apply kP (.buildSlice _ 1 _)); first | refine sl1A (fun b => ?_) | refine sl1 (fun b => ?_)) | ((with_reducible apply kP (.buildSlice _ 2 _)); refine sl2 (fun b => ?_)) | ((with_reducible apply kP (.buildSlice _ 3 _)); refine sl3 (fun b => ?_)) | ((with_reducible apply kP (.buildSlice _ 4 _)); refine sl4 (fun b => ?_)) | ((with_reducible apply kP (.buildSlice _ 0 _)); refine s_bs0 (scTOf rfl) (zsTOf rfl) (by decide) (fun b => ?_)) | ((with_reducible apply kP (.makeSlice _ _ _)); refine sMk (fun b => ?_)) | ((with_reducible apply kP (.call ⟨.builtin .append, _, _⟩)); refine sAp (fun oa2 c2 blk2 hrow2 => ?_)) | ((with_reducible apply kP _); refine sP ?_) | ((with_reducible apply kP _); refine sX ?_) | ((with_reducible apply kQG); first | refine qY1 ?_ | refine qN1 ?_ | refine qU1 ?_ | (refine qD1 (fun h => ?_) (fun h => ?_) <;> (try (exfalso; omega))) | refine qB1 (fun h => ?_) (fun h => ?_)) | ((with_reducible apply kQP); refine qP ?_) | ((with_reducible apply kQP); refine qX ?_) | ((with_reducible apply kC); first | refine cT ?_ | refine cF ?_ | (refine cI (fun h => ?_) (fun h => ?_) <;> (try (exfalso; omega))) | refine cB (fun h => ?_) (fun h => ?_)) | ((with_reducible apply kR); refine cQ ?_))
  exact e_ret1 rfl rfl ⟨by rw [decide_eq_true (by decide)], rfl⟩ SBt
end Go.Proofs.Ytlijcnocahplbaa
