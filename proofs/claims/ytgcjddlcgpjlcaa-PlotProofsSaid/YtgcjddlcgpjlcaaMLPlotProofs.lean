/- PlotProofs holds: what is spare in a window, whether it is a proof, and the first proof, for all shifts, commissions and days. -/
import Derived.Test.YtgcjddlcgpjlcaaMP22
import Derived.Test.YtgcjddlcgpjlcaaMCloseP
namespace Go.Proofs.Ytgcjddlcgpjlcaa
open Go.RowKit Go.ChangeShapes Go.WideShapes Go.ChangeAt

theorem pfR_is (N K : Nat) (s z : List Int) : ∃ (a b e : Int) (q : Bool), pfR N K s z = .tuple #[iv a, iv b, .bool q, iv e] := by
  unfold pfR
  split
  · cases pfO N K s z with
    | none => exact ⟨0, 0, 0, false, rfl⟩
    | some p => exact ⟨p.1, p.2, 0, true, rfl⟩
  · exact ⟨0, 0, _, false, rfl⟩
set_option maxRecDepth 100000 in
set_option maxHeartbeats 8000000 in
theorem l_proofs (oa ob : Option Addr) (n m c d : Nat) (s z : List Int) (x y : Int) (hl : s.length = n * 1) (hz : z.length = m * 3) (hc : n ≤ c) (B : Nat) (w0 : Wd) (hs : HS) (hL : Sl B w0 hs oa s) (hJ : Sl B w0 hs ob z) : Fn Try.prog 6 #[.agg #[.slice oa n c, .slice ob m d], .agg #[iv x, iv y]] B w0 hs (fun v _ => v = .bool true) := by
  have m1 := k_wide n m c d oa ob B w0
  rw [Nat.mul_one] at hl
  by_cases h1 : 200 < n ∨ 30 < m
  · rw [decide_eq_true h1] at m1
    refine fn_enter Try.func6 rfl Try.ntmps6 (by simp) ?_
    repeat' (first | ((with_reducible apply kF 30); refine sC 30 (m1 _) ?_) | ((with_reducible apply kF 20); refine sC 20 (k_known B w0 _) ?_) | (with_reducible first | refine c_seq ?_ | refine c_reg ?_ | refine c_region ?_ | refine c_block ?_ | refine c_skip ?_ | refine c_exit ?_ | refine c_ret ?_ | refine s_nil ?_ | refine x_then ?_ | refine x_then_exit ?_ | refine x_then_ret ?_ | refine x_block ?_ | refine x_block_ret ?_ | refine x_block_same ?_ | refine x_block_other (by rfl) ?_ | refine q_nil ?_ | refine k_nil ?_) | ((with_reducible apply kP (.makeFunc _ _ _)); refine sMF ?_) | ((with_reducible apply kG); first | refine gY1 ?_ | refine gN1 ?_ | refine gU1 ?_ | (refine gD1 (fun h => ?_) (fun h => ?_) <;> (try (exfalso; omega))) | refine gB1 (fun h => ?_) (fun h => ?_)) | ((with_reducible apply kN); first | refine stP ?_ | refine stI ?_ | refine st1 ?_ | refine stW ?_) | ((with_reducible apply kP (.alloc _)); refine sA (fun b => ?_)) | ((with_reducible apply kP (.box _ _)); first | refine sBA (fun b => ?_) | refine sB (fun b => ?_)) | ((with_reducible apply kP (.buildSlice _ 1 _)); first | refine sl1A (fun b => ?_) | refine sl1 (fun b => ?_)) | ((with_reducible apply kP (.buildSlice _ 2 _)); refine sl2 (fun b => ?_)) | ((with_reducible apply kP (.buildSlice _ 3 _)); refine sl3 (fun b => ?_)) | ((with_reducible apply kP (.buildSlice _ 4 _)); refine sl4 (fun b => ?_)) | ((with_reducible apply kP (.buildSlice _ 0 _)); refine s_bs0 (scTOf rfl) (zsTOf rfl) (by decide) (fun b => ?_)) | ((with_reducible apply kP (.makeSlice _ _ _)); refine sMk (fun b => ?_)) | ((with_reducible apply kP (.call ⟨.builtin .append, _, _⟩)); refine sAp (fun oa2 c2 blk2 hrow2 => ?_)) | ((with_reducible apply kP _); refine sP ?_) | ((with_reducible apply kP _); refine sX ?_) | ((with_reducible apply kQG); first | refine qY1 ?_ | refine qN1 ?_ | refine qU1 ?_ | (refine qD1 (fun h => ?_) (fun h => ?_) <;> (try (exfalso; omega))) | refine qB1 (fun h => ?_) (fun h => ?_)) | ((with_reducible apply kQP); refine qP ?_) | ((with_reducible apply kQP); refine qX ?_) | ((with_reducible apply kC); first | refine cT ?_ | refine cF ?_ | (refine cI (fun h => ?_) (fun h => ?_) <;> (try (exfalso; omega))) | refine cB (fun h => ?_) (fun h => ?_)) | ((with_reducible apply kR); refine cQ ?_))
    all_goals first
      | exact e_ret1 rfl rfl rfl SCt
      | trace_state
  · rw [decide_eq_false h1] at m1
    have k1 := fun hs hL hJ => k_Spare n m c d s z x y oa ob hl hz (by omega) (by omega) hc B w0 hs hL hJ
    have k2 := fun hs hL hJ => r_Spare n m c d s z x y oa ob hl hz (by omega) (by omega) B w0 hs hL hJ
    have k3 := fun hs hL hJ => k_IsProof n m c d s z x y oa ob hl hz (by omega) (by omega) hc B w0 hs hL hJ
    have k4 := fun hs hL hJ => r_IsProof n m c d s z x y oa ob hl hz (by omega) (by omega) B w0 hs hL hJ
    have k5 := fun hs hL hJ => k_Proof n m c d s z oa ob hl hz (by omega) (by omega) hc B w0 hs hL hJ
    have k6 := fun hs hL hJ => r_Proof n m c d s z oa ob hl hz (by omega) (by omega) B w0 hs hL hJ
    obtain ⟨a, b, e, q, hpf⟩ := pfR_is n m s z
    rw [hpf] at k5 k6
    generalize hpb : decide (spE n m s z x y = 0 ∧ spR n m s z x y < 0) = pb at *
    clear hpb hpf
    generalize spE n m s z x y = p at *
    generalize spR n m s z x y = r at *
    rcases q with _ | _ <;> rcases pb with _ | _
    all_goals
      refine fn_enter Try.func6 rfl Try.ntmps6 (by simp) ?_
      repeat' (first | ((with_reducible apply kF 30); refine sC 30 (m1 _) ?_) | ((with_reducible apply kF 31); refine sC 31 (k1 _ (hL.sub SBt) (hJ.sub SBt)) ?_) | ((with_reducible apply kF 32); refine sC 32 (k2 _ (hL.sub SBt) (hJ.sub SBt)) ?_) | ((with_reducible apply kF 33); refine sC 33 (k3 _ (hL.sub SBt) (hJ.sub SBt)) ?_) | ((with_reducible apply kF 34); refine sC 34 (k4 _ (hL.sub SBt) (hJ.sub SBt)) ?_) | ((with_reducible apply kF 35); refine sC 35 (k5 _ (hL.sub SBt) (hJ.sub SBt)) ?_) | ((with_reducible apply kF 36); refine sC 36 (k6 _ (hL.sub SBt) (hJ.sub SBt)) ?_) | ((with_reducible apply kF 20); refine sC 20 (k_known B w0 _) ?_) | (with_reducible first | refine c_seq ?_ | refine c_reg ?_ | refine c_region ?_ | refine c_block ?_ | refine c_skip ?_ | refine c_exit ?_ | refine c_ret ?_ | refine s_nil ?_ | refine x_then ?_ | refine x_then_exit ?_ | refine x_then_ret ?_ | refine x_block ?_ | refine x_block_ret ?_ | refine x_block_same ?_ | refine x_block_other (by rfl) ?_ | refine q_nil ?_ | refine k_nil ?_) | ((with_reducible apply kP (.makeFunc _ _ _)); refine sMF ?_) | ((with_reducible apply kG); first | refine gY1 ?_ | refine gN1 ?_ | refine gU1 ?_ | (refine gD1 (fun h => ?_) (fun h => ?_) <;> (try (exfalso; omega))) | refine gB1 (fun h => ?_) (fun h => ?_)) | ((with_reducible apply kN); first | refine stP ?_ | refine stI ?_ | refine st1 ?_ | refine stW ?_) | ((with_reducible apply kP (.alloc _)); refine sA (fun b => ?_)) | ((with_reducible apply kP (.box _ _)); first | refine sBA (fun b => ?_) | refine sB (fun b => ?_)) | ((with_reducible apply kP (.buildSlice _ 1 _)); first | refine sl1A (fun b => ?_) | refine sl1 (fun b => ?_)) | ((with_reducible apply kP (.buildSlice _ 2 _)); refine sl2 (fun b => ?_)) | ((with_reducible apply kP (.buildSlice _ 3 _)); refine sl3 (fun b => ?_)) | ((with_reducible apply kP (.buildSlice _ 4 _)); refine sl4 (fun b => ?_)) | ((with_reducible apply kP (.buildSlice _ 0 _)); refine s_bs0 (scTOf rfl) (zsTOf rfl) (by decide) (fun b => ?_)) | ((with_reducible apply kP (.makeSlice _ _ _)); refine sMk (fun b => ?_)) | ((with_reducible apply kP (.call ⟨.builtin .append, _, _⟩)); refine sAp (fun oa2 c2 blk2 hrow2 => ?_)) | ((with_reducible apply kP _); refine sP ?_) | ((with_reducible apply kP _); refine sX ?_) | ((with_reducible apply kQG); first | refine qY1 ?_ | refine qN1 ?_ | refine qU1 ?_ | (refine qD1 (fun h => ?_) (fun h => ?_) <;> (try (exfalso; omega))) | refine qB1 (fun h => ?_) (fun h => ?_)) | ((with_reducible apply kQP); refine qP ?_) | ((with_reducible apply kQP); refine qX ?_) | ((with_reducible apply kC); first | refine cT ?_ | refine cF ?_ | (refine cI (fun h => ?_) (fun h => ?_) <;> (try (exfalso; omega))) | refine cB (fun h => ?_) (fun h => ?_)) | ((with_reducible apply kR); refine cQ ?_))
      all_goals first
        | exact e_ret1 rfl rfl rfl SCt
        | exact absurd rfl ‹¬ _ = _›
        | (exfalso; omega)
        | trace_state
set_option maxRecDepth 100000 in
theorem proofs_holds_lifted (os : Os) (started : os.Started) (H : Type) (enc : TypeId × Value → H) :
    ReturnsInHanded {} Try.checked os 6 .any (Rows.plotProofsSpec.pre6 enc Try.prog Try.f6 Rows.plotProofsRow.domain false) (Rows.plotProofsSpec.post enc Try.prog Try.f6 false true false false) := by
  refine returnsInHanded_of_change (C := Try.checked) ownK started (by kernel_rfl) Try.func6
    (ChangeSpec.witness6 (enc := enc) (C := Try.checked) false ⟨#[], #[.agg #[.slice none 0 0, .slice none 0 0], .agg #[.int .i64 0, .int .i64 0]], []⟩ 8 (by kernel_rfl) (by kernel_rfl) (by kernel_rfl) (by kernel_rfl)) ?_
  intro W base args ds gs before hval0 hW hcnd _
  have hval : ∀ (j : Nat) t v, Try.f6.params[j]? = some t → args[j]? = some v → Value.okWide Try.prog W .any base t v := hval0
  have hW' := hW
  obtain ⟨p, q, hA0, hV, rfl, hfz, hnd⟩ := hW
  have hA : DataW.TrodAll enc Try.prog W 0 (fun _ => true) true Try.f6.params.toList args.toList ds p := hA0
  rw [Try.params6] at hA hval
  obtain ⟨v0, v1, d_0, d_1, p_0, p_1, rfl, rfl, rfl, h0, h1⟩ := trodAll_two hA
  obtain ⟨oa0, ob0, n0, m0, c0, d0, r0, q0, rfl, e0, f0, g0, i0, s0, t0⟩ := arg_shop (k := 1) (j := 3) (by kernel_rfl) (hval 0 _ v0 rfl rfl) h0
  obtain ⟨x1, rfl, n1, I1⟩ := arg_flat (m := 5) (k := 2) (by kernel_rfl) (by kernel_rfl) (hval 1 _ v1 rfl rfl) h1
  obtain ⟨x1_0, x1_1, rfl⟩ := len_2 n1
  refine (law_calls (l_proofs _ _ _ _ _ _ _ _ x1_0 x1_1 e0 f0 g0 _ ⟨W, []⟩ [] s0 t0)).mono fun e W' ⟨he, hb⟩ => ⟨.bool true, he, ?_⟩
  exact law_post rfl ⟨⟨by kernel_rfl, of_decide_eq_true (by kernel_rfl)⟩, ⟨by kernel_rfl, of_decide_eq_true (by kernel_rfl)⟩, trivial⟩ rfl hW' ⟨rfl, rfl, rfl⟩ hb
theorem proofs_holds_q1 : (Rows.plotProofsRow.inPlace == Try.pinned.checked.prog.inPlace 6) = true := by kernel_rfl
theorem proofs_holds_q2 : (Rows.plotProofsRow.unfollowed == Try.pinned.checked.prog.unfollowed 6) = true := by kernel_rfl
theorem proofs_holds_q3 : (Rows.plotProofsRow.recurses == Try.pinned.checked.prog.recurses 6) = true := by kernel_rfl
theorem proofs_holds_q4 : (Rows.plotProofsRow.named == Try.pinned.checked.prog.varsNamed 6) = true := by kernel_rfl
theorem proofs_holds_q5 : laidOutB Try.pinned.checked.prog = true := by kernel_rfl
theorem proofs_holds_q6 : mapsRowed Try.pinned.checked.prog = true := by kernel_rfl
theorem proofs_holds_q7 : Try.pinned.checked.prog.funcNamed Rows.plotProofsRow.func = some 6 := by kernel_rfl
theorem proofs_holds_q8 : joinedFacts Try.pinned.checked.prog 6 Try.f6 Rows.plotProofsSpec Rows.plotProofsRow = true := by
  unfold joinedFacts
  rw [proofs_holds_q1, proofs_holds_q2, proofs_holds_q3, proofs_holds_q4, proofs_holds_q5, proofs_holds_q6]
  kernel_rfl
theorem proofs_holds : Rows.PlotProofsSaid :=
  OpenClaim.holds_of_wide 6 Try.f6 rfl rfl rfl rfl rfl rfl rfl ⟨rfl, rfl, rfl, rfl, rfl⟩ rfl rfl rfl rfl rfl proofs_holds_q7 Try.func6 proofs_holds_q8
    (of_decide_eq_true (by kernel_rfl)) (by unfold Func.isWrapper; first | (rw [if_pos (by decide +kernel)]; kernel_rfl) | (rw [if_neg (by decide +kernel)]; exact ⟨rfl, rfl⟩))
    (fun os started H enc _ => proofs_holds_lifted os started H enc)
#print axioms proofs_holds
end Go.Proofs.Ytgcjddlcgpjlcaa
