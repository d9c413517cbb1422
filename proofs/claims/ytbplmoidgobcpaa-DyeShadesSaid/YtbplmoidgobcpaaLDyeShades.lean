/- DyeShades holds: which shades there are, and what bleach and dye make of them. -/
import Derived.Test.YtbplmoidgobcpaaD13
import Derived.Test.YtbplmoidgobcpaaClose2
namespace Go.Proofs.Ytbplmoidgobcpaa
open Go.RowKit Go.ChangeShapes Go.WideShapes Go.ChangeAt

theorem blV_shd (L T C : Int) : ∃ x y z, blV L T C = .agg #[iv x, iv y, iv z] := by
  unfold blV
  split
  · exact ⟨_, _, _, rfl⟩
  · exact ⟨_, _, _, rfl⟩
theorem dyV_shd (L T C l t : Int) : ∃ x y z, dyV L T C l t = .agg #[iv x, iv y, iv z] := by
  unfold dyV
  split
  · exact ⟨_, _, _, rfl⟩
  · exact ⟨_, _, _, rfl⟩
set_option maxRecDepth 100000 in
set_option maxHeartbeats 8000000 in
theorem l_shades (L T C l t : Int) (B : Nat) (w0 : World) (hs : HS) : Fn Try.prog 3 #[.agg #[iv L, iv T, iv C], .agg #[iv l, iv t]] B w0 hs (fun v _ => v = .bool true) := by
  have k1 := k_bleach L T C B w0
  have k2 := r_bleach L T C B w0
  have k3 := k_dye L T C l t B w0
  have k4 := r_dye L T C l t B w0
  have k5 := k_valid L T C B w0
  have k6 := r_valid L T C B w0
  obtain ⟨x, y, z, e1⟩ := blV_shd L T C
  obtain ⟨x', y', z', e2⟩ := dyV_shd L T C l t
  rw [e1] at k1 k2
  rw [e2] at k3 k4
  unfold shd at k1 k2 k3 k4 k5 k6
  generalize sdB L T C = b at k5 k6
  refine fn_enter Try.func3 rfl Try.ntmps3 (by simp) ?_
  repeat' (first | ((with_reducible apply kF 14); refine sC 14 (k1 _) ?_) | ((with_reducible apply kF 15); refine sC 15 (k2 _) ?_) | ((with_reducible apply kF 16); refine sC 16 (k3 _) ?_) | ((with_reducible apply kF 17); refine sC 17 (k4 _) ?_) | ((with_reducible apply kDF 18); refine dC 18 (fun F => k5 _) ?_) | ((with_reducible apply kDF 19); refine dC 19 (fun F => k6 _) ?_) | ((with_reducible apply kDF 20); refine dC 20 (fun F => k_known B w0 _) ?_) | ((with_reducible apply kRg 5); refine cD [1, 3, 0, 4, 1, 1, 1, 1, 1, 1, 1, 1, 1, 1, 1, 1, 1, 1, 1, 1, 1, 1, 1, 1, 1, 1, 4, 1, 1] ?_) | (with_reducible first | refine c_seq ?_ | refine c_reg ?_ | refine c_region ?_ | refine c_block ?_ | refine c_skip ?_ | refine c_exit ?_ | refine c_ret ?_ | refine s_nil ?_ | refine x_then ?_ | refine x_then_exit ?_ | refine x_then_ret ?_ | refine x_block ?_ | refine x_block_ret ?_ | refine x_block_same ?_ | refine x_block_other (by rfl) ?_ | refine q_nil ?_ | refine k_nil ?_) | ((with_reducible apply kP (.makeFunc _ _ _)); refine sMF ?_) | ((with_reducible apply kG); first | refine gY1 ?_ | refine gN1 ?_ | refine gU1 ?_ | (refine gD1 (fun h => ?_) (fun h => ?_) <;> (try (exfalso; omega))) | refine gB1 (fun h => ?_) (fun h => ?_)) | ((with_reducible apply kN); first | refine stP ?_ | refine stI ?_ | refine st1 ?_ | refine stW ?_) | ((with_reducible apply kP (.alloc _)); refine sA (fun b => ?_)) | ((with_reducible apply kP (.box _ _)); first | refine sBA (fun b => ?_) | refine sB (fun b => ?_)) | ((with_reducible apply kP (.buildSlice _ 1 _)); first | refine sl1A (fun b => ?_) | refine sl1 (fun b => ?_)) | ((with_reducible apply kP (.buildSlice _ 2 _)); refine sl2 (fun b => ?_)) | ((with_reducible apply kP (.buildSlice _ 3 _)); refine sl3 (fun b => ?_)) | ((with_reducible apply kP (.buildSlice _ 4 _)); refine sl4 (fun b => ?_)) | ((with_reducible apply kP (.buildSlice _ 0 _)); refine s_bs0 (scTOf rfl) (zsTOf rfl) (by decide) (fun b => ?_)) | ((with_reducible apply kP (.makeSlice _ _ _)); refine sMk (fun b => ?_)) | ((with_reducible apply kP (.call ⟨.builtin .append, _, _⟩)); refine sAp (fun oa2 c2 blk2 hrow2 => ?_)) | ((with_reducible apply kP _); refine sP ?_) | ((with_reducible apply kP _); refine sX ?_) | ((with_reducible apply kQG); first | refine qY1 ?_ | refine qN1 ?_ | refine qU1 ?_ | (refine qD1 (fun h => ?_) (fun h => ?_) <;> (try (exfalso; omega))) | refine qB1 (fun h => ?_) (fun h => ?_)) | ((with_reducible apply kQP); refine qP ?_) | ((with_reducible apply kQP); refine qX ?_) | ((with_reducible apply kC); first | refine cT ?_ | refine cF ?_ | (refine cI (fun h => ?_) (fun h => ?_) <;> (try (exfalso; omega))) | refine cB (fun h => ?_) (fun h => ?_)) | ((with_reducible apply kR); refine cQ ?_) | ((with_reducible apply kDG); first | refine dY1 ?_ | refine dNo1 ?_ | refine dU1 ?_ | (refine dD1 (fun h => ?_) (fun h => ?_) <;> (try (exfalso; omega))) | refine dB1 (fun h => ?_) (fun h => ?_)) | ((with_reducible apply kDN); first | refine dtI ?_ | refine dt1 ?_ | refine dtW ?_) | ((with_reducible apply kDP (.alloc _)); refine dA (fun b => ?_)) | ((with_reducible apply kDP (.box _ _)); first | refine dBA (fun b => ?_) | refine dB (fun b => ?_)) | ((with_reducible apply kDP (.buildSlice _ 1 _)); first | refine dl1A (fun b => ?_) | refine dl1 (fun b => ?_)) | ((with_reducible apply kDP (.call ⟨.builtin .append, _, _⟩)); first | refine dAp3 (fun oa2 c2 blk2 hrow2 => ?_) (hS := SCt) | refine dAp4 (fun oa2 c2 blk2 hrow2 => ?_)) | ((with_reducible apply kDP _); refine dP ?_) | ((with_reducible apply kDP _); refine dX ?_))
  all_goals first
    | exact e_ret1 rfl rfl rfl (.refl _)
    | (exfalso; simp_all; done)
    | trace_state
set_option maxRecDepth 100000 in
theorem shades_holds_lifted (os : Os) (started : os.Started) (H : Type) (enc : TypeId × Value → H) :
    ReturnsInHanded {} Try.checked os 3 .any (Rows.dyeShadesSpec.pre6 enc Try.prog Try.f3 Rows.dyeShadesRow.domain false) (Rows.dyeShadesSpec.post enc Try.prog Try.f3 false true false false) := by
  refine returnsInHanded_of_change (C := Try.checked) ownK started (by kernel_rfl) Try.func3
    (ChangeSpec.witness6 (enc := enc) (C := Try.checked) false ⟨#[], #[.agg #[.int .i64 0, .int .i64 0, .int .i64 0], .agg #[.int .i64 0, .int .i64 0]], []⟩ 8 (by kernel_rfl) (by kernel_rfl) (by kernel_rfl) (by kernel_rfl)) ?_
  intro W base args ds gs before hval0 hW hcnd _
  have hval : ∀ (j : Nat) t v, Try.f3.params[j]? = some t → args[j]? = some v → Value.okWide Try.prog W .any base t v := hval0
  have hW' := hW
  obtain ⟨p, q, hA0, hV, rfl, hfz, hnd⟩ := hW
  have hA : DataW.TrodAll enc Try.prog W 0 (fun _ => true) true Try.f3.params.toList args.toList ds p := hA0
  rw [Try.params3] at hA hval
  obtain ⟨v0, v1, d_0, d_1, p_0, p_1, rfl, rfl, rfl, h0, h1⟩ := trodAll_two hA
  obtain ⟨x0, rfl, n0, I0⟩ := arg_flat (m := 5) (k := 3) (by kernel_rfl) (by kernel_rfl) (hval 0 _ v0 rfl rfl) h0
  obtain ⟨x0_0, x0_1, x0_2, rfl⟩ := len_3 n0
  obtain ⟨x1, rfl, n1, I1⟩ := arg_flat (m := 5) (k := 2) (by kernel_rfl) (by kernel_rfl) (hval 1 _ v1 rfl rfl) h1
  obtain ⟨x1_0, x1_1, rfl⟩ := len_2 n1
  refine (law_calls (l_shades x0_0 x0_1 x0_2 x1_0 x1_1 _ W [])).mono fun e W' ⟨he, hb⟩ => ⟨.bool true, he, ?_⟩
  exact law_post rfl ⟨⟨by kernel_rfl, of_decide_eq_true (by kernel_rfl)⟩, ⟨by kernel_rfl, of_decide_eq_true (by kernel_rfl)⟩, trivial⟩ rfl hW' ⟨rfl, rfl, rfl⟩ hb
theorem shades_holds : Rows.DyeShadesSaid :=
  OpenClaim.holds_of_wide 3 Try.f3 rfl rfl rfl rfl rfl rfl rfl ⟨rfl, rfl, rfl, rfl, rfl⟩ rfl rfl rfl rfl rfl (by kernel_rfl) Try.func3 (by kernel_rfl)
    (of_decide_eq_true (by kernel_rfl)) (by unfold Func.isWrapper; first | (rw [if_pos (by decide +kernel)]; kernel_rfl) | (rw [if_neg (by decide +kernel)]; exact ⟨rfl, rfl⟩))
    (fun os started H enc _ => shades_holds_lifted os started H enc)
#print axioms shades_holds
end Go.Proofs.Ytbplmoidgobcpaa
