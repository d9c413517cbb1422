/- PlotPlays holds: which plays are valid, and which wearings clash, for all plays and numbers. -/
import Derived.Test.YtgcjddlcgpjlcaaMP23
import Derived.Test.YtgcjddlcgpjlcaaMCloseP
namespace Go.Proofs.Ytgcjddlcgpjlcaa
open Go.RowKit Go.ChangeShapes Go.WideShapes Go.ChangeAt

set_option maxRecDepth 100000 in
set_option maxHeartbeats 8000000 in
theorem l_plays (oa : Option Addr) (n c : Nat) (l : List Int) (R C x y : Int) (hl : l.length = n * 4) (hc : n ≤ c) (B : Nat) (w0 : Wd) (hs : HS) (hL : Sl B w0 hs oa l) : Fn Try.prog 5 #[.agg #[.slice oa n c, iv R, iv C], iv x, iv y] B w0 hs (fun v _ => v = .bool true) := by
  have m1 := k_long n c R C oa B w0
  by_cases h1 : 60 < n
  · rw [decide_eq_true h1] at m1
    refine fn_enter Try.func5 rfl Try.ntmps5 (by simp) ?_
    repeat' (first | ((with_reducible apply kF 19); refine sC 19 (m1 _) ?_) | ((with_reducible apply kF 20); refine sC 20 (k_known B w0 _) ?_) | ((with_reducible apply kRg 6); refine cD [1, 3, 0, 4, 1, 1, 1, 1, 1, 1, 1, 1, 1, 1, 1, 1, 1, 1, 1, 1, 1, 1, 1, 1, 1, 1, 4, 1, 1] ?_) | (with_reducible first | refine c_seq ?_ | refine c_reg ?_ | refine c_region ?_ | refine c_block ?_ | refine c_skip ?_ | refine c_exit ?_ | refine c_ret ?_ | refine s_nil ?_ | refine x_then ?_ | refine x_then_exit ?_ | refine x_then_ret ?_ | refine x_block ?_ | refine x_block_ret ?_ | refine x_block_same ?_ | refine x_block_other (by rfl) ?_ | refine q_nil ?_ | refine k_nil ?_) | ((with_reducible apply kP (.makeFunc _ _ _)); refine sMF ?_) | ((with_reducible apply kG); first | refine gY1 ?_ | refine gN1 ?_ | refine gU1 ?_ | (refine gD1 (fun h => ?_) (fun h => ?_) <;> (try (exfalso; omega))) | refine gB1 (fun h => ?_) (fun h => ?_)) | ((with_reducible apply kN); first | refine stP ?_ | refine stI ?_ | refine st1 ?_ | refine stW ?_) | ((with_reducible apply kP (.alloc _)); refine sA (fun b => ?_)) | ((with_reducible apply kP (.box _ _)); first | refine sBA (fun b => ?_) | refine sB (fun b => ?_)) | ((with_reducible apply kP (.buildSlice _ 1 _)); first | refine sl1A (fun b => ?_) | refine sl1 (fun b => ?_)) | ((with_reducible apply kP (.buildSlice _ 2 _)); refine sl2 (fun b => ?_)) | ((with_reducible apply kP (.buildSlice _ 3 _)); refine sl3 (fun b => ?_)) | ((with_reducible apply kP (.buildSlice _ 4 _)); refine sl4 (fun b => ?_)) | ((with_reducible apply kP (.buildSlice _ 0 _)); refine s_bs0 (scTOf rfl) (zsTOf rfl) (by decide) (fun b => ?_)) | ((with_reducible apply kP (.makeSlice _ _ _)); refine sMk (fun b => ?_)) | ((with_reducible apply kP (.call ⟨.builtin .append, _, _⟩)); refine sAp (fun oa2 c2 blk2 hrow2 => ?_)) | ((with_reducible apply kP _); refine sP ?_) | ((with_reducible apply kP _); refine sX ?_) | ((with_reducible apply kQG); first | refine qY1 ?_ | refine qN1 ?_ | refine qU1 ?_ | (refine qD1 (fun h => ?_) (fun h => ?_) <;> (try (exfalso; omega))) | refine qB1 (fun h => ?_) (fun h => ?_)) | ((with_reducible apply kQP); refine qP ?_) | ((with_reducible apply kQP); refine qX ?_) | ((with_reducible apply kC); first | refine cT ?_ | refine cF ?_ | (refine cI (fun h => ?_) (fun h => ?_) <;> (try (exfalso; omega))) | refine cB (fun h => ?_) (fun h => ?_)) | ((with_reducible apply kR); refine cQ ?_) | ((with_reducible apply kDG); first | refine dY1 ?_ | refine dNo1 ?_ | refine dU1 ?_ | (refine dD1 (fun h => ?_) (fun h => ?_) <;> (try (exfalso; omega))) | refine dB1 (fun h => ?_) (fun h => ?_)) | ((with_reducible apply kDN); first | refine dtI ?_ | refine dt1 ?_ | refine dtW ?_) | ((with_reducible apply kDP (.alloc _)); refine dA (fun b => ?_)) | ((with_reducible apply kDP (.box _ _)); first | refine dBA (fun b => ?_) | refine dB (fun b => ?_)) | ((with_reducible apply kDP (.buildSlice _ 1 _)); first | refine dl1A (fun b => ?_) | refine dl1 (fun b => ?_)) | ((with_reducible apply kDP (.call ⟨.builtin .append, _, _⟩)); first | refine dAp3 (fun oa2 c2 blk2 hrow2 => ?_) (hS := SCt) | refine dAp4 (fun oa2 c2 blk2 hrow2 => ?_)) | ((with_reducible apply kDP _); refine dP ?_) | ((with_reducible apply kDP _); refine dX ?_))
    all_goals first
      | exact e_ret1 rfl rfl rfl SCt
      | trace_state
  · rw [decide_eq_false h1] at m1
    have k1 := fun hs hL => k_Clash n c R C x y l oa hl (by omega) hc B w0 hs hL
    have k2 := fun hs hL => r_Clash n c R C x y l oa hl (by omega) hc B w0 hs hL
    have k3 := fun hs hL => k_Clash n c R C y x l oa hl (by omega) hc B w0 hs hL
    rw [clE_sym n R C l y x, clB_sym n R C l y x] at k3
    have k4 := fun hs hL => k_VP n c R C l oa hl (by omega) hc B w0 hs hL
    have k5 := fun hs hL => r_VP n c R C l oa hl (by omega) hc B w0 hs hL
    generalize clE n R C l x y = p at *
    generalize clB n R C l x y = q at *
    generalize vpE n R C l = e at *
    rcases q with _ | _
    all_goals
      refine fn_enter Try.func5 rfl Try.ntmps5 (by simp) ?_
      repeat' (first | ((with_reducible apply kF 19); refine sC 19 (m1 _) ?_) | ((with_reducible apply kF 26); refine sC 26 (k1 _ (hL.sub SBt)) ?_) | ((with_reducible apply kF 26); refine sC 26 (k3 _ (hL.sub SBt)) ?_) | ((with_reducible apply kF 27); refine sC 27 (k2 _ (hL.sub SBt)) ?_) | ((with_reducible apply kDF 28); refine dC 28 (fun F => k4 _ (hL.sub SBt)) ?_) | ((with_reducible apply kDF 29); refine dC 29 (fun F => k5 _ (hL.sub SBt)) ?_) | ((with_reducible apply kDF 20); refine dC 20 (fun F => k_known B w0 _) ?_) | ((with_reducible apply kRg 6); refine cD [1, 3, 0, 4, 1, 1, 1, 1, 1, 1, 1, 1, 1, 1, 1, 1, 1, 1, 1, 1, 1, 1, 1, 1, 1, 1, 4, 1, 1] ?_) | (with_reducible first | refine c_seq ?_ | refine c_reg ?_ | refine c_region ?_ | refine c_block ?_ | refine c_skip ?_ | refine c_exit ?_ | refine c_ret ?_ | refine s_nil ?_ | refine x_then ?_ | refine x_then_exit ?_ | refine x_then_ret ?_ | refine x_block ?_ | refine x_block_ret ?_ | refine x_block_same ?_ | refine x_block_other (by rfl) ?_ | refine q_nil ?_ | refine k_nil ?_) | ((with_reducible apply kP (.makeFunc _ _ _)); refine sMF ?_) | ((with_reducible apply kG); first | refine gY1 ?_ | refine gN1 ?_ | refine gU1 ?_ | (refine gD1 (fun h => ?_) (fun h => ?_) <;> (try (exfalso; omega))) | refine gB1 (fun h => ?_) (fun h => ?_)) | ((with_reducible apply kN); first | refine stP ?_ | refine stI ?_ | refine st1 ?_ | refine stW ?_) | ((with_reducible apply kP (.alloc _)); refine sA (fun b => ?_)) | ((with_reducible apply kP (.box _ _)); first | refine sBA (fun b => ?_) | refine sB (fun b => ?_)) | ((with_reducible apply kP (.buildSlice _ 1 _)); first | refine sl1A (fun b => ?_) | refine sl1 (fun b => ?_)) | ((with_reducible apply kP (.buildSlice _ 2 _)); refine sl2 (fun b => ?_)) | ((with_reducible apply kP (.buildSlice _ 3 _)); refine sl3 (fun b => ?_)) | ((with_reducible apply kP (.buildSlice _ 4 _)); refine sl4 (fun b => ?_)) | ((with_reducible apply kP (.buildSlice _ 0 _)); refine s_bs0 (scTOf rfl) (zsTOf rfl) (by decide) (fun b => ?_)) | ((with_reducible apply kP (.makeSlice _ _ _)); refine sMk (fun b => ?_)) | ((with_reducible apply kP (.call ⟨.builtin .append, _, _⟩)); refine sAp (fun oa2 c2 blk2 hrow2 => ?_)) | ((with_reducible apply kP _); refine sP ?_) | ((with_reducible apply kP _); refine sX ?_) | ((with_reducible apply kQG); first | refine qY1 ?_ | refine qN1 ?_ | refine qU1 ?_ | (refine qD1 (fun h => ?_) (fun h => ?_) <;> (try (exfalso; omega))) | refine qB1 (fun h => ?_) (fun h => ?_)) | ((with_reducible apply kQP); refine qP ?_) | ((with_reducible apply kQP); refine qX ?_) | ((with_reducible apply kC); first | refine cT ?_ | refine cF ?_ | (refine cI (fun h => ?_) (fun h => ?_) <;> (try (exfalso; omega))) | refine cB (fun h => ?_) (fun h => ?_)) | ((with_reducible apply kR); refine cQ ?_) | ((with_reducible apply kDG); first | refine dY1 ?_ | refine dNo1 ?_ | refine dU1 ?_ | (refine dD1 (fun h => ?_) (fun h => ?_) <;> (try (exfalso; omega))) | refine dB1 (fun h => ?_) (fun h => ?_)) | ((with_reducible apply kDN); first | refine dtI ?_ | refine dt1 ?_ | refine dtW ?_) | ((with_reducible apply kDP (.alloc _)); refine dA (fun b => ?_)) | ((with_reducible apply kDP (.box _ _)); first | refine dBA (fun b => ?_) | refine dB (fun b => ?_)) | ((with_reducible apply kDP (.buildSlice _ 1 _)); first | refine dl1A (fun b => ?_) | refine dl1 (fun b => ?_)) | ((with_reducible apply kDP (.call ⟨.builtin .append, _, _⟩)); first | refine dAp3 (fun oa2 c2 blk2 hrow2 => ?_) (hS := SCt) | refine dAp4 (fun oa2 c2 blk2 hrow2 => ?_)) | ((with_reducible apply kDP _); refine dP ?_) | ((with_reducible apply kDP _); refine dX ?_))
      all_goals first
        | exact e_ret1 rfl rfl rfl SCt
        | exact absurd rfl ‹¬ _ = _›
        | (exfalso; omega)
        | trace_state
set_option maxRecDepth 100000 in
theorem plays_holds_lifted (os : Os) (started : os.Started) (H : Type) (enc : TypeId × Value → H) :
    ReturnsInHanded {} Try.checked os 5 .any (Rows.plotPlaysSpec.pre6 enc Try.prog Try.f5 Rows.plotPlaysRow.domain false) (Rows.plotPlaysSpec.post enc Try.prog Try.f5 false true false false) := by
  refine returnsInHanded_of_change (C := Try.checked) ownK started (by kernel_rfl) Try.func5
    (ChangeSpec.witness6 (enc := enc) (C := Try.checked) false ⟨#[], #[.agg #[.slice none 0 0, .int .i64 0, .int .i64 0], .int .i64 0, .int .i64 0], []⟩ 8 (by kernel_rfl) (by kernel_rfl) (by kernel_rfl) (by kernel_rfl)) ?_
  intro W base args ds gs before hval0 hW hcnd _
  have hval : ∀ (j : Nat) t v, Try.f5.params[j]? = some t → args[j]? = some v → Value.okWide Try.prog W .any base t v := hval0
  have hW' := hW
  obtain ⟨p, q, hA0, hV, rfl, hfz, hnd⟩ := hW
  have hA : DataW.TrodAll enc Try.prog W 0 (fun _ => true) true Try.f5.params.toList args.toList ds p := hA0
  rw [Try.params5] at hA hval
  obtain ⟨v0, v1, v2, d_0, d_1, d_2, p_0, p_1, p_2, rfl, rfl, rfl, h0, h1, h2⟩ := trodAll_three hA
  obtain ⟨oa0, n0, c0, l0, x0, y0, rfl, e0, g0, I0, J0, s0⟩ := arg_play (k := 4) (by kernel_rfl) (hval 0 _ v0 rfl rfl) h0
  obtain ⟨z1, rfl, I1⟩ := arg_int (by kernel_rfl) (hval 1 _ v1 rfl rfl) h1
  obtain ⟨z2, rfl, I2⟩ := arg_int (by kernel_rfl) (hval 2 _ v2 rfl rfl) h2
  refine (law_calls (l_plays _ _ _ _ _ _ _ _ e0 g0 _ ⟨W, []⟩ [] s0)).mono fun e W' ⟨he, hb⟩ => ⟨.bool true, he, ?_⟩
  exact law_post rfl ⟨⟨by kernel_rfl, of_decide_eq_true (by kernel_rfl)⟩, ⟨by kernel_rfl, of_decide_eq_true (by kernel_rfl)⟩, ⟨by kernel_rfl, of_decide_eq_true (by kernel_rfl)⟩, trivial⟩ rfl hW' ⟨rfl, rfl, rfl⟩ hb
theorem plays_holds_q1 : (Rows.plotPlaysRow.inPlace == Try.pinned.checked.prog.inPlace 5) = true := by kernel_rfl
theorem plays_holds_q2 : (Rows.plotPlaysRow.unfollowed == Try.pinned.checked.prog.unfollowed 5) = true := by kernel_rfl
theorem plays_holds_q3 : (Rows.plotPlaysRow.recurses == Try.pinned.checked.prog.recurses 5) = true := by kernel_rfl
theorem plays_holds_q4 : (Rows.plotPlaysRow.named == Try.pinned.checked.prog.varsNamed 5) = true := by kernel_rfl
theorem plays_holds_q5 : laidOutB Try.pinned.checked.prog = true := by kernel_rfl
theorem plays_holds_q6 : mapsRowed Try.pinned.checked.prog = true := by kernel_rfl
theorem plays_holds_q7 : Try.pinned.checked.prog.funcNamed Rows.plotPlaysRow.func = some 5 := by kernel_rfl
theorem plays_holds_q8 : joinedFacts Try.pinned.checked.prog 5 Try.f5 Rows.plotPlaysSpec Rows.plotPlaysRow = true := by
  unfold joinedFacts
  rw [plays_holds_q1, plays_holds_q2, plays_holds_q3, plays_holds_q4, plays_holds_q5, plays_holds_q6]
  kernel_rfl
theorem plays_holds : Rows.PlotPlaysSaid :=
  OpenClaim.holds_of_wide 5 Try.f5 rfl rfl rfl rfl rfl rfl rfl ⟨rfl, rfl, rfl, rfl, rfl⟩ rfl rfl rfl rfl rfl plays_holds_q7 Try.func5 plays_holds_q8
    (of_decide_eq_true (by kernel_rfl)) (by unfold Func.isWrapper; first | (rw [if_pos (by decide +kernel)]; kernel_rfl) | (rw [if_neg (by decide +kernel)]; exact ⟨rfl, rfl⟩))
    (fun os started H enc _ => plays_holds_lifted os started H enc)
#print axioms plays_holds
end Go.Proofs.Ytgcjddlcgpjlcaa
