/- DyeBaths holds: the smallest number of baths, and a path of so many baths. -/
import Derived.Test.YtbplmoidgobcpaaD29
import Derived.Test.YtbplmoidgobcpaaClose2
namespace Go.Proofs.Ytbplmoidgobcpaa
open Go.RowKit Go.ChangeShapes Go.WideShapes Go.ChangeAt

set_option maxRecDepth 100000 in
set_option maxHeartbeats 8000000 in
theorem l_baths (L T C l t : Int) (B : Nat) (w0 : World) (hs : HS) : Fn Try.prog 4 #[.agg #[iv L, iv T, iv C], .agg #[iv l, iv t]] B w0 hs (fun v _ => v = .bool true) := by
  have kba := k_Baths L T C l t B w0
  have kbb := r_Baths L T C l t B w0
  have kpa := k_Path L T C l t B w0
  have e2 : paN L T C l t = ((paL L T C l t).length / 3 : Nat) := rfl
  rw [e2] at kba kbb
  have kis := fun (h1 : paB L T C l t = true) (h2 : paO L T C l t = true) o3 n3 c3 hl3 hn3 => by
    have hv : sdB L T C = true := by
      unfold paB at h1
      rw [Bool.and_eq_true] at h1
      exact h1.1
    obtain ⟨p1, p2, p3⟩ := pa_steps hv h1 h2
    exact fun (hn : n3 = (paL L T C l t).length / 3) => r_IsPath L T C l t (paL L T C l t) o3 n3 c3 hl3 hn3 hv (by rw [hn]; exact p1) (by rw [hn]; exact p2) (by rw [hn]; exact p3) B w0
  have hB : paO L T C l t = true → paB L T C l t = true := fun h => by
    unfold paO at h
    by_cases e : paB L T C l t = true
    · exact e
    · rw [if_neg e] at h; cases h
  generalize hpl : paL L T C l t = pl at *
  rcases hO : paO L T C l t with _ | _
  all_goals
    rw [hO] at kba kbb
    unfold shd at kba kbb kpa
  · clear kis
    generalize hE : paE L T C l t = pe at kba kbb
    refine fn_enter Try.func4 rfl Try.ntmps4 (by simp) ?_
    repeat' (first | ((with_reducible apply kF 21); refine sC 21 (kba _) ?_) | ((with_reducible apply kF 22); refine sC 22 (kbb _) ?_) | ((with_reducible apply kF 23); refine sR 23 (kpa _) ?_; rintro u h' ⟨o3, n3, c3, blk, rfl, hrow, hlen, hn3, rfl⟩; rw [hpl] at hrow hlen; obtain rfl : n3 = pl.length / 3 := (by omega); rw [hO, hE]) | ((with_reducible apply kF 20); refine sC 20 (k_known B w0 _) ?_) | (with_reducible first | refine c_seq ?_ | refine c_reg ?_ | refine c_region ?_ | refine c_block ?_ | refine c_skip ?_ | refine c_exit ?_ | refine c_ret ?_ | refine s_nil ?_ | refine x_then ?_ | refine x_then_exit ?_ | refine x_then_ret ?_ | refine x_block ?_ | refine x_block_ret ?_ | refine x_block_same ?_ | refine x_block_other (by rfl) ?_ | refine q_nil ?_ | refine k_nil ?_) | ((with_reducible apply kP (.makeFunc _ _ _)); refine sMF ?_) | ((with_reducible apply kG); first | refine gY1 ?_ | refine gN1 ?_ | refine gU1 ?_ | (refine gD1 (fun h => ?_) (fun h => ?_) <;> (try (exfalso; omega))) | refine gB1 (fun h => ?_) (fun h => ?_)) | ((with_reducible apply kN); first | refine stP ?_ | refine stI ?_ | refine st1 ?_ | refine stW ?_) | ((with_reducible apply kP (.alloc _)); refine sA (fun b => ?_)) | ((with_reducible apply kP (.box _ _)); first | refine sBA (fun b => ?_) | refine sB (fun b => ?_)) | ((with_reducible apply kP (.buildSlice _ 1 _)); first | refine sl1A (fun b => ?_) | refine sl1 (fun b => ?_)) | ((with_reducible apply kP (.buildSlice _ 2 _)); refine sl2 (fun b => ?_)) | ((with_reducible apply kP (.buildSlice _ 3 _)); refine sl3 (fun b => ?_)) | ((with_reducible apply kP (.buildSlice _ 4 _)); refine sl4 (fun b => ?_)) | ((with_reducible apply kP (.buildSlice _ 0 _)); refine s_bs0 (scTOf rfl) (zsTOf rfl) (by decide) (fun b => ?_)) | ((with_reducible apply kP (.makeSlice _ _ _)); refine sMk (fun b => ?_)) | ((with_reducible apply kP (.call ⟨.builtin .append, _, _⟩)); refine sAp (fun oa2 c2 blk2 hrow2 => ?_)) | ((with_reducible apply kP _); refine sP ?_) | ((with_reducible apply kP _); refine sX ?_) | ((with_reducible apply kQG); first | refine qY1 ?_ | refine qN1 ?_ | refine qU1 ?_ | (refine qD1 (fun h => ?_) (fun h => ?_) <;> (try (exfalso; omega))) | refine qB1 (fun h => ?_) (fun h => ?_)) | ((with_reducible apply kQP); refine qP ?_) | ((with_reducible apply kQP); refine qX ?_) | ((with_reducible apply kC); first | refine cT ?_ | refine cF ?_ | (refine cI (fun h => ?_) (fun h => ?_) <;> (try (exfalso; omega))) | refine cB (fun h => ?_) (fun h => ?_)) | ((with_reducible apply kR); refine cQ ?_))
    all_goals first
      | exact e_ret1 rfl rfl rfl SCt
      | exact absurd rfl ‹¬ _ = _›
      | exact absurd rfl ‹_ ≠ _›
      | trace_state
  · have hpe : paE L T C l t = 0 := if_pos (hB hO)
    have kis2 := fun o3 n3 c3 hl3 hn3 => kis (hB hO) hO o3 n3 c3 hl3 hn3
    unfold shd at kis2
    rw [hpe] at kba kbb
    refine fn_enter Try.func4 rfl Try.ntmps4 (by simp) ?_
    repeat' (first | ((with_reducible apply kF 21); refine sC 21 (kba _) ?_) | ((with_reducible apply kF 22); refine sC 22 (kbb _) ?_) | ((with_reducible apply kF 23); refine sR 23 (kpa _) ?_; rintro u h' ⟨o3, n3, c3, blk, rfl, hrow, hlen, hn3, rfl⟩; rw [hpl] at hrow hlen; obtain rfl : n3 = pl.length / 3 := (by omega); rw [hO, hpe]; have hS3 := (Sv.row (B := B) (w0 := w0) hrow).ints; have kis3 := kis2 o3 (pl.length / 3) c3 hlen (by omega) rfl) | ((with_reducible apply kF 24); refine sC 24 (kis3 _ (hS3.sub SBt)) ?_) | ((with_reducible apply kF 20); refine sC 20 (k_known B w0 _) ?_) | (with_reducible first | refine c_seq ?_ | refine c_reg ?_ | refine c_region ?_ | refine c_block ?_ | refine c_skip ?_ | refine c_exit ?_ | refine c_ret ?_ | refine s_nil ?_ | refine x_then ?_ | refine x_then_exit ?_ | refine x_then_ret ?_ | refine x_block ?_ | refine x_block_ret ?_ | refine x_block_same ?_ | refine x_block_other (by rfl) ?_ | refine q_nil ?_ | refine k_nil ?_) | ((with_reducible apply kP (.makeFunc _ _ _)); refine sMF ?_) | ((with_reducible apply kG); first | refine gY1 ?_ | refine gN1 ?_ | refine gU1 ?_ | (refine gD1 (fun h => ?_) (fun h => ?_) <;> (try (exfalso; omega))) | refine gB1 (fun h => ?_) (fun h => ?_)) | ((with_reducible apply kN); first | refine stP ?_ | refine stI ?_ | refine st1 ?_ | refine stW ?_) | ((with_reducible apply kP (.alloc _)); refine sA (fun b => ?_)) | ((with_reducible apply kP (.box _ _)); first | refine sBA (fun b => ?_) | refine sB (fun b => ?_)) | ((with_reducible apply kP (.buildSlice _ 1 _)); first | refine sl1A (fun b => ?_) | refine sl1 (fun b => ?_)) | ((with_reducible apply kP (.buildSlice _ 2 _)); refine sl2 (fun b => ?_)) | ((with_reducible apply kP (.buildSlice _ 3 _)); refine sl3 (fun b => ?_)) | ((with_reducible apply kP (.buildSlice _ 4 _)); refine sl4 (fun b => ?_)) | ((with_reducible apply kP (.buildSlice _ 0 _)); refine s_bs0 (scTOf rfl) (zsTOf rfl) (by decide) (fun b => ?_)) | ((with_reducible apply kP (.makeSlice _ _ _)); refine sMk (fun b => ?_)) | ((with_reducible apply kP (.call ⟨.builtin .append, _, _⟩)); refine sAp (fun oa2 c2 blk2 hrow2 => ?_)) | ((with_reducible apply kP _); refine sP ?_) | ((with_reducible apply kP _); refine sX ?_) | ((with_reducible apply kQG); first | refine qY1 ?_ | refine qN1 ?_ | refine qU1 ?_ | (refine qD1 (fun h => ?_) (fun h => ?_) <;> (try (exfalso; omega))) | refine qB1 (fun h => ?_) (fun h => ?_)) | ((with_reducible apply kQP); refine qP ?_) | ((with_reducible apply kQP); refine qX ?_) | ((with_reducible apply kC); first | refine cT ?_ | refine cF ?_ | (refine cI (fun h => ?_) (fun h => ?_) <;> (try (exfalso; omega))) | refine cB (fun h => ?_) (fun h => ?_)) | ((with_reducible apply kR); refine cQ ?_))
    all_goals first
      | exact e_ret1 rfl rfl rfl SCt
      | exact absurd rfl ‹¬ _ = _›
      | exact absurd rfl ‹_ ≠ _›
      | trace_state
set_option maxRecDepth 100000 in
theorem baths_holds_lifted (os : Os) (started : os.Started) (H : Type) (enc : TypeId × Value → H) :
    ReturnsInHanded {} Try.checked os 4 .any (Rows.dyeBathsSpec.pre6 enc Try.prog Try.f4 Rows.dyeBathsRow.domain false) (Rows.dyeBathsSpec.post enc Try.prog Try.f4 false true false false) := by
  refine returnsInHanded_of_change (C := Try.checked) ownK started (by kernel_rfl) Try.func4
    (ChangeSpec.witness6 (enc := enc) (C := Try.checked) false ⟨#[], #[.agg #[.int .i64 0, .int .i64 0, .int .i64 0], .agg #[.int .i64 0, .int .i64 0]], []⟩ 8 (by kernel_rfl) (by kernel_rfl) (by kernel_rfl) (by kernel_rfl)) ?_
  intro W base args ds gs before hval0 hW hcnd _
  have hval : ∀ (j : Nat) t v, Try.f4.params[j]? = some t → args[j]? = some v → Value.okWide Try.prog W .any base t v := hval0
  have hW' := hW
  obtain ⟨p, q, hA0, hV, rfl, hfz, hnd⟩ := hW
  have hA : DataW.TrodAll enc Try.prog W 0 (fun _ => true) true Try.f4.params.toList args.toList ds p := hA0
  rw [Try.params4] at hA hval
  obtain ⟨v0, v1, d_0, d_1, p_0, p_1, rfl, rfl, rfl, h0, h1⟩ := trodAll_two hA
  obtain ⟨x0, rfl, n0, I0⟩ := arg_flat (m := 5) (k := 3) (by kernel_rfl) (by kernel_rfl) (hval 0 _ v0 rfl rfl) h0
  obtain ⟨x0_0, x0_1, x0_2, rfl⟩ := len_3 n0
  obtain ⟨x1, rfl, n1, I1⟩ := arg_flat (m := 5) (k := 2) (by kernel_rfl) (by kernel_rfl) (hval 1 _ v1 rfl rfl) h1
  obtain ⟨x1_0, x1_1, rfl⟩ := len_2 n1
  refine (law_calls (l_baths x0_0 x0_1 x0_2 x1_0 x1_1 _ W [])).mono fun e W' ⟨he, hb⟩ => ⟨.bool true, he, ?_⟩
  exact law_post rfl ⟨⟨by kernel_rfl, of_decide_eq_true (by kernel_rfl)⟩, ⟨by kernel_rfl, of_decide_eq_true (by kernel_rfl)⟩, trivial⟩ rfl hW' ⟨rfl, rfl, rfl⟩ hb
theorem baths_holds : Rows.DyeBathsSaid :=
  OpenClaim.holds_of_wide 4 Try.f4 rfl rfl rfl rfl rfl rfl rfl ⟨rfl, rfl, rfl, rfl, rfl⟩ rfl rfl rfl rfl rfl (by kernel_rfl) Try.func4 (by kernel_rfl)
    (of_decide_eq_true (by kernel_rfl)) (by unfold Func.isWrapper; first | (rw [if_pos (by decide +kernel)]; kernel_rfl) | (rw [if_neg (by decide +kernel)]; exact ⟨rfl, rfl⟩))
    (fun os started H enc _ => baths_holds_lifted os started H enc)
#print axioms baths_holds
end Go.Proofs.Ytbplmoidgobcpaa
