/- PlotNeeds holds: how many wigs moments prove to be needed; never more than the smallest number, for all plays and moments. -/
import Derived.Test.YtgcjddlcgpjlcaaMP30
import Derived.Test.YtgcjddlcgpjlcaaMCloseP
namespace Go.Proofs.Ytgcjddlcgpjlcaa
open Go.RowKit Go.ChangeShapes Go.WideShapes Go.ChangeAt

set_option maxRecDepth 100000 in
set_option maxHeartbeats 8000000 in
theorem l_needs (oa ob : Option Addr) (n c m d : Nat) (l q : List Int) (R C : Int) (hl : l.length = n * 4) (hq : q.length = m * 2) (hc : n ≤ c) (hd : m ≤ d) (B : Nat) (w0 : Wd) (hs : HS) (hL : Sl B w0 hs oa l) (hQ : Sl B w0 hs ob q) : Fn Try.prog 10 #[.agg #[.slice oa n c, iv R, iv C], .slice ob m d] B w0 hs (fun v _ => v = .bool true) := by
  have m1 := k_long n c R C oa B w0
  by_cases h1 : 60 < n
  · rw [decide_eq_true h1] at m1
    refine fn_enter Try.func10 rfl Try.ntmps10 (by simp) ?_
    repeat' (first | ((with_reducible apply kF 19); refine sC 19 (m1 _) ?_) | ((with_reducible apply kF 20); refine sC 20 (k_known B w0 _) ?_) | (with_reducible first | refine c_seq ?_ | refine c_reg ?_ | refine c_region ?_ | refine c_block ?_ | refine c_skip ?_ | refine c_exit ?_ | refine c_ret ?_ | refine s_nil ?_ | refine x_then ?_ | refine x_then_exit ?_ | refine x_then_ret ?_ | refine x_block ?_ | refine x_block_ret ?_ | refine x_block_same ?_ | refine x_block_other (by rfl) ?_ | refine q_nil ?_ | refine k_nil ?_) | ((with_reducible apply kP (.makeFunc _ _ _)); refine sMF ?_) | ((with_reducible apply kG); first | refine gY1 ?_ | refine gN1 ?_ | refine gU1 ?_ | (refine gD1 (fun h => ?_) (fun h => ?_) <;> (try (exfalso; omega))) | refine gB1 (fun h => ?_) (fun h => ?_)) | ((with_reducible apply kN); first | refine stP ?_ | refine stI ?_ | refine st1 ?_ | refine stW ?_) | ((with_reducible apply kP (.alloc _)); refine sA (fun b => ?_)) | ((with_reducible apply kP (.box _ _)); first | refine sBA (fun b => ?_) | refine sB (fun b => ?_)) | ((with_reducible apply kP (.buildSlice _ 1 _)); first | refine sl1A (fun b => ?_) | refine sl1 (fun b => ?_)) | ((with_reducible apply kP (.buildSlice _ 2 _)); refine sl2 (fun b => ?_)) | ((with_reducible apply kP (.buildSlice _ 3 _)); refine sl3 (fun b => ?_)) | ((with_reducible apply kP (.buildSlice _ 4 _)); refine sl4 (fun b => ?_)) | ((with_reducible apply kP (.buildSlice _ 0 _)); refine s_bs0 (scTOf rfl) (zsTOf rfl) (by decide) (fun b => ?_)) | ((with_reducible apply kP (.makeSlice _ _ _)); refine sMk (fun b => ?_)) | ((with_reducible apply kP (.call ⟨.builtin .append, _, _⟩)); refine sAp (fun oa2 c2 blk2 hrow2 => ?_)) | ((with_reducible apply kP _); refine sP ?_) | ((with_reducible apply kP _); refine sX ?_) | ((with_reducible apply kQG); first | refine qY1 ?_ | refine qN1 ?_ | refine qU1 ?_ | (refine qD1 (fun h => ?_) (fun h => ?_) <;> (try (exfalso; omega))) | refine qB1 (fun h => ?_) (fun h => ?_)) | ((with_reducible apply kQP); refine qP ?_) | ((with_reducible apply kQP); refine qX ?_) | ((with_reducible apply kC); first | refine cT ?_ | refine cF ?_ | (refine cI (fun h => ?_) (fun h => ?_) <;> (try (exfalso; omega))) | refine cB (fun h => ?_) (fun h => ?_)) | ((with_reducible apply kR); refine cQ ?_))
    all_goals first
      | exact e_ret1 rfl rfl rfl SCt
      | trace_state
  · rw [decide_eq_false h1] at m1
    by_cases h2 : 60 < m
    · refine fn_enter Try.func10 rfl Try.ntmps10 (by simp) ?_
      repeat' (first | ((with_reducible apply kF 19); refine sC 19 (m1 _) ?_) | ((with_reducible apply kF 20); refine sC 20 (k_known B w0 _) ?_) | (with_reducible first | refine c_seq ?_ | refine c_reg ?_ | refine c_region ?_ | refine c_block ?_ | refine c_skip ?_ | refine c_exit ?_ | refine c_ret ?_ | refine s_nil ?_ | refine x_then ?_ | refine x_then_exit ?_ | refine x_then_ret ?_ | refine x_block ?_ | refine x_block_ret ?_ | refine x_block_same ?_ | refine x_block_other (by rfl) ?_ | refine q_nil ?_ | refine k_nil ?_) | ((with_reducible apply kP (.makeFunc _ _ _)); refine sMF ?_) | ((with_reducible apply kG); first | refine gY1 ?_ | refine gN1 ?_ | refine gU1 ?_ | (refine gD1 (fun h => ?_) (fun h => ?_) <;> (try (exfalso; omega))) | refine gB1 (fun h => ?_) (fun h => ?_)) | ((with_reducible apply kN); first | refine stP ?_ | refine stI ?_ | refine st1 ?_ | refine stW ?_) | ((with_reducible apply kP (.alloc _)); refine sA (fun b => ?_)) | ((with_reducible apply kP (.box _ _)); first | refine sBA (fun b => ?_) | refine sB (fun b => ?_)) | ((with_reducible apply kP (.buildSlice _ 1 _)); first | refine sl1A (fun b => ?_) | refine sl1 (fun b => ?_)) | ((with_reducible apply kP (.buildSlice _ 2 _)); refine sl2 (fun b => ?_)) | ((with_reducible apply kP (.buildSlice _ 3 _)); refine sl3 (fun b => ?_)) | ((with_reducible apply kP (.buildSlice _ 4 _)); refine sl4 (fun b => ?_)) | ((with_reducible apply kP (.buildSlice _ 0 _)); refine s_bs0 (scTOf rfl) (zsTOf rfl) (by decide) (fun b => ?_)) | ((with_reducible apply kP (.makeSlice _ _ _)); refine sMk (fun b => ?_)) | ((with_reducible apply kP (.call ⟨.builtin .append, _, _⟩)); refine sAp (fun oa2 c2 blk2 hrow2 => ?_)) | ((with_reducible apply kP _); refine sP ?_) | ((with_reducible apply kP _); refine sX ?_) | ((with_reducible apply kQG); first | refine qY1 ?_ | refine qN1 ?_ | refine qU1 ?_ | (refine qD1 (fun h => ?_) (fun h => ?_) <;> (try (exfalso; omega))) | refine qB1 (fun h => ?_) (fun h => ?_)) | ((with_reducible apply kQP); refine qP ?_) | ((with_reducible apply kQP); refine qX ?_) | ((with_reducible apply kC); first | refine cT ?_ | refine cF ?_ | (refine cI (fun h => ?_) (fun h => ?_) <;> (try (exfalso; omega))) | refine cB (fun h => ?_) (fun h => ?_)) | ((with_reducible apply kR); refine cQ ?_))
      all_goals first
        | exact e_ret1 rfl rfl rfl SCt
        | (exfalso; omega)
        | trace_state
    · have k1 := fun hs hL hQ => k_Needs n c m d R C l q oa ob hl hq (by omega) (by omega) hc hd B w0 hs hL hQ
      have k2 := fun hs hL hQ => r_Needs n c m d R C l q oa ob hl hq (by omega) (by omega) hc B w0 hs hL hQ
      have k3 := fun hs hL => k_Least n c R C l oa hl (by omega) hc B w0 hs hL
      have hok : ndE n R C l m q = 0 → vpE n R C l = 0 ∧ ndV n R C l m q ≤ lsV n R C l := fun he => by
        obtain ⟨g1, g2, g3⟩ := ndE_to he
        refine ⟨g1, ?_⟩
        rw [ndV_ok he, lsV, if_pos g1]
        exact nd_le (vp_to g1) g3
      generalize ndE n R C l m q = e at *
      generalize ndV n R C l m q = a at *
      generalize lsV n R C l = b at *
      generalize vpE n R C l = f at *
      by_cases he : e = 0
      · obtain ⟨hf, hab⟩ := hok he
        subst he hf
        refine fn_enter Try.func10 rfl Try.ntmps10 (by simp) ?_
        repeat' (first | ((with_reducible apply kF 19); refine sC 19 (m1 _) ?_) | ((with_reducible apply kF 44); refine sC 44 (k1 _ (hL.sub SBt) (hQ.sub SBt)) ?_) | ((with_reducible apply kF 40); refine sC 40 (k2 _ (hL.sub SBt) (hQ.sub SBt)) ?_) | ((with_reducible apply kF 21); refine sC 21 (k3 _ (hL.sub SBt)) ?_) | ((with_reducible apply kF 20); refine sC 20 (k_known B w0 _) ?_) | (with_reducible first | refine c_seq ?_ | refine c_reg ?_ | refine c_region ?_ | refine c_block ?_ | refine c_skip ?_ | refine c_exit ?_ | refine c_ret ?_ | refine s_nil ?_ | refine x_then ?_ | refine x_then_exit ?_ | refine x_then_ret ?_ | refine x_block ?_ | refine x_block_ret ?_ | refine x_block_same ?_ | refine x_block_other (by rfl) ?_ | refine q_nil ?_ | refine k_nil ?_) | ((with_reducible apply kP (.makeFunc _ _ _)); refine sMF ?_) | ((with_reducible apply kG); first | refine gY1 ?_ | refine gN1 ?_ | refine gU1 ?_ | (refine gD1 (fun h => ?_) (fun h => ?_) <;> (try (exfalso; omega))) | refine gB1 (fun h => ?_) (fun h => ?_)) | ((with_reducible apply kN); first | refine stP ?_ | refine stI ?_ | refine st1 ?_ | refine stW ?_) | ((with_reducible apply kP (.alloc _)); refine sA (fun b => ?_)) | ((with_reducible apply kP (.box _ _)); first | refine sBA (fun b => ?_) | refine sB (fun b => ?_)) | ((with_reducible apply kP (.buildSlice _ 1 _)); first | refine sl1A (fun b => ?_) | refine sl1 (fun b => ?_)) | ((with_reducible apply kP (.buildSlice _ 2 _)); refine sl2 (fun b => ?_)) | ((with_reducible apply kP (.buildSlice _ 3 _)); refine sl3 (fun b => ?_)) | ((with_reducible apply kP (.buildSlice _ 4 _)); refine sl4 (fun b => ?_)) | ((with_reducible apply kP (.buildSlice _ 0 _)); refine s_bs0 (scTOf rfl) (zsTOf rfl) (by decide) (fun b => ?_)) | ((with_reducible apply kP (.makeSlice _ _ _)); refine sMk (fun b => ?_)) | ((with_reducible apply kP (.call ⟨.builtin .append, _, _⟩)); refine sAp (fun oa2 c2 blk2 hrow2 => ?_)) | ((with_reducible apply kP _); refine sP ?_) | ((with_reducible apply kP _); refine sX ?_) | ((with_reducible apply kQG); first | refine qY1 ?_ | refine qN1 ?_ | refine qU1 ?_ | (refine qD1 (fun h => ?_) (fun h => ?_) <;> (try (exfalso; omega))) | refine qB1 (fun h => ?_) (fun h => ?_)) | ((with_reducible apply kQP); refine qP ?_) | ((with_reducible apply kQP); refine qX ?_) | ((with_reducible apply kC); first | refine cT ?_ | refine cF ?_ | (refine cI (fun h => ?_) (fun h => ?_) <;> (try (exfalso; omega))) | refine cB (fun h => ?_) (fun h => ?_)) | ((with_reducible apply kR); refine cQ ?_))
        all_goals first
          | exact e_ret1 rfl rfl rfl SCt
          | exact absurd rfl ‹¬ _ = _›
          | exact absurd rfl ‹_ ≠ _›
          | (exfalso; omega)
          | trace_state
      · refine fn_enter Try.func10 rfl Try.ntmps10 (by simp) ?_
        repeat' (first | ((with_reducible apply kF 19); refine sC 19 (m1 _) ?_) | ((with_reducible apply kF 44); refine sC 44 (k1 _ (hL.sub SBt) (hQ.sub SBt)) ?_) | ((with_reducible apply kF 40); refine sC 40 (k2 _ (hL.sub SBt) (hQ.sub SBt)) ?_) | ((with_reducible apply kF 21); refine sC 21 (k3 _ (hL.sub SBt)) ?_) | ((with_reducible apply kF 20); refine sC 20 (k_known B w0 _) ?_) | (with_reducible first | refine c_seq ?_ | refine c_reg ?_ | refine c_region ?_ | refine c_block ?_ | refine c_skip ?_ | refine c_exit ?_ | refine c_ret ?_ | refine s_nil ?_ | refine x_then ?_ | refine x_then_exit ?_ | refine x_then_ret ?_ | refine x_block ?_ | refine x_block_ret ?_ | refine x_block_same ?_ | refine x_block_other (by rfl) ?_ | refine q_nil ?_ | refine k_nil ?_) | ((with_reducible apply kP (.makeFunc _ _ _)); refine sMF ?_) | ((with_reducible apply kG); first | refine gY1 ?_ | refine gN1 ?_ | refine gU1 ?_ | (refine gD1 (fun h => ?_) (fun h => ?_) <;> (try (exfalso; omega))) | refine gB1 (fun h => ?_) (fun h => ?_)) | ((with_reducible apply kN); first | refine stP ?_ | refine stI ?_ | refine st1 ?_ | refine stW ?_) | ((with_reducible apply kP (.alloc _)); refine sA (fun b => ?_)) | ((with_reducible apply kP (.box _ _)); first | refine sBA (fun b => ?_) | refine sB (fun b => ?_)) | ((with_reducible apply kP (.buildSlice _ 1 _)); first | refine sl1A (fun b => ?_) | refine sl1 (fun b => ?_)) | ((with_reducible apply kP (.buildSlice _ 2 _)); refine sl2 (fun b => ?_)) | ((with_reducible apply kP (.buildSlice _ 3 _)); refine sl3 (fun b => ?_)) | ((with_reducible apply kP (.buildSlice _ 4 _)); refine sl4 (fun b => ?_)) | ((with_reducible apply kP (.buildSlice _ 0 _)); refine s_bs0 (scTOf rfl) (zsTOf rfl) (by decide) (fun b => ?_)) | ((with_reducible apply kP (.makeSlice _ _ _)); refine sMk (fun b => ?_)) | ((with_reducible apply kP (.call ⟨.builtin .append, _, _⟩)); refine sAp (fun oa2 c2 blk2 hrow2 => ?_)) | ((with_reducible apply kP _); refine sP ?_) | ((with_reducible apply kP _); refine sX ?_) | ((with_reducible apply kQG); first | refine qY1 ?_ | refine qN1 ?_ | refine qU1 ?_ | (refine qD1 (fun h => ?_) (fun h => ?_) <;> (try (exfalso; omega))) | refine qB1 (fun h => ?_) (fun h => ?_)) | ((with_reducible apply kQP); refine qP ?_) | ((with_reducible apply kQP); refine qX ?_) | ((with_reducible apply kC); first | refine cT ?_ | refine cF ?_ | (refine cI (fun h => ?_) (fun h => ?_) <;> (try (exfalso; omega))) | refine cB (fun h => ?_) (fun h => ?_)) | ((with_reducible apply kR); refine cQ ?_))
        all_goals first
          | exact e_ret1 rfl rfl rfl SCt
          | exact absurd rfl ‹¬ _ = _›
          | exact absurd rfl ‹_ ≠ _›
          | (exfalso; omega)
          | trace_state
set_option maxRecDepth 100000 in
theorem needs_holds_lifted (os : Os) (started : os.Started) (H : Type) (enc : TypeId × Value → H) :
    ReturnsInHanded {} Try.checked os 10 .any (Rows.plotNeedsSpec.pre6 enc Try.prog Try.f10 Rows.plotNeedsRow.domain false) (Rows.plotNeedsSpec.post enc Try.prog Try.f10 false true false false) := by
  refine returnsInHanded_of_change (C := Try.checked) ownK started (by kernel_rfl) Try.func10
    (ChangeSpec.witness6 (enc := enc) (C := Try.checked) false ⟨#[], #[.agg #[.slice none 0 0, .int .i64 0, .int .i64 0], .slice none 0 0], []⟩ 8 (by kernel_rfl) (by kernel_rfl) (by kernel_rfl) (by kernel_rfl)) ?_
  intro W base args ds gs before hval0 hW hcnd _
  have hval : ∀ (j : Nat) t v, Try.f10.params[j]? = some t → args[j]? = some v → Value.okWide Try.prog W .any base t v := hval0
  have hW' := hW
  obtain ⟨p, q, hA0, hV, rfl, hfz, hnd⟩ := hW
  have hA : DataW.TrodAll enc Try.prog W 0 (fun _ => true) true Try.f10.params.toList args.toList ds p := hA0
  rw [Try.params10] at hA hval
  obtain ⟨v0, v1, d_0, d_1, p_0, p_1, rfl, rfl, rfl, h0, h1⟩ := trodAll_two hA
  obtain ⟨oa0, n0, c0, l0, x0, y0, rfl, e0, g0, I0, J0, s0⟩ := arg_play (k := 4) (by kernel_rfl) (hval 0 _ v0 rfl rfl) h0
  obtain ⟨oa1, n1, c1, l1, rfl, e1, m1, g1, I1, s1⟩ := arg_sl (m := 5) (k := 2) (by kernel_rfl) (hval 1 _ v1 rfl rfl) h1
  refine (law_calls (l_needs _ _ _ _ _ _ _ _ _ _ e0 e1 g0 m1 _ ⟨W, []⟩ [] s0 s1)).mono fun e W' ⟨he, hb⟩ => ⟨.bool true, he, ?_⟩
  exact law_post rfl ⟨⟨by kernel_rfl, of_decide_eq_true (by kernel_rfl)⟩, ⟨by kernel_rfl, of_decide_eq_true (by kernel_rfl)⟩, trivial⟩ rfl hW' ⟨rfl, rfl, rfl⟩ hb
theorem needs_holds_q1 : (Rows.plotNeedsRow.inPlace == Try.pinned.checked.prog.inPlace 10) = true := by kernel_rfl
theorem needs_holds_q2 : (Rows.plotNeedsRow.unfollowed == Try.pinned.checked.prog.unfollowed 10) = true := by kernel_rfl
theorem needs_holds_q3 : (Rows.plotNeedsRow.recurses == Try.pinned.checked.prog.recurses 10) = true := by kernel_rfl
theorem needs_holds_q4 : (Rows.plotNeedsRow.named == Try.pinned.checked.prog.varsNamed 10) = true := by kernel_rfl
theorem needs_holds_q5 : laidOutB Try.pinned.checked.prog = true := by kernel_rfl
theorem needs_holds_q6 : mapsRowed Try.pinned.checked.prog = true := by kernel_rfl
theorem needs_holds_q7 : Try.pinned.checked.prog.funcNamed Rows.plotNeedsRow.func = some 10 := by kernel_rfl
theorem needs_holds_q8 : joinedFacts Try.pinned.checked.prog 10 Try.f10 Rows.plotNeedsSpec Rows.plotNeedsRow = true := by
  unfold joinedFacts
  rw [needs_holds_q1, needs_holds_q2, needs_holds_q3, needs_holds_q4, needs_holds_q5, needs_holds_q6]
  kernel_rfl
theorem needs_holds : Rows.PlotNeedsSaid :=
  OpenClaim.holds_of_wide 10 Try.f10 rfl rfl rfl rfl rfl rfl rfl ⟨rfl, rfl, rfl, rfl, rfl⟩ rfl rfl rfl rfl rfl needs_holds_q7 Try.func10 needs_holds_q8
    (of_decide_eq_true (by kernel_rfl)) (by unfold Func.isWrapper; first | (rw [if_pos (by decide +kernel)]; kernel_rfl) | (rw [if_neg (by decide +kernel)]; exact ⟨rfl, rfl⟩))
    (fun os started H enc _ => needs_holds_lifted os started H enc)
#print axioms needs_holds
end Go.Proofs.Ytgcjddlcgpjlcaa
