/- PlotQuick holds: which changes of an actor are quick, for all plays and minutes. -/
import Derived.Test.YtgcjddlcgpjlcaaMP33
import Derived.Test.YtgcjddlcgpjlcaaMP21
import Derived.Test.YtgcjddlcgpjlcaaMCloseP
namespace Go.Proofs.Ytgcjddlcgpjlcaa
open Go.RowKit Go.ChangeShapes Go.WideShapes Go.ChangeAt

theorem qkP_len (n : Nat) (R C : Int) (l : List Int) (t : Int) (hn : n ≤ 60) : (qkP n R C l t).length ≤ 3600 := by
  unfold qkP
  split
  · have h1 := qp_len l n t n
    have h2 := Nat.mul_le_mul hn hn
    omega
  · exact Nat.zero_le _
set_option maxRecDepth 100000 in
set_option maxHeartbeats 8000000 in
theorem l_quick (oa : Option Addr) (n c : Nat) (l : List Int) (R C t : Int) (hl : l.length = n * 4) (hc : n ≤ c) (B : Nat) (w0 : Wd) (hs : HS) (hL : Sl B w0 hs oa l) : Fn Try.prog 7 #[.agg #[.slice oa n c, iv R, iv C], iv t] B w0 hs (fun v _ => v = .bool true) := by
  have m1 := k_long n c R C oa B w0
  by_cases h1 : 60 < n
  · rw [decide_eq_true h1] at m1
    refine fn_enter Try.func7 rfl Try.ntmps7 (by simp) ?_
    repeat' (first | ((with_reducible apply kF 19); refine sC 19 (m1 _) ?_) | ((with_reducible apply kF 20); refine sC 20 (k_known B w0 _) ?_) | (with_reducible first | refine c_seq ?_ | refine c_reg ?_ | refine c_region ?_ | refine c_block ?_ | refine c_skip ?_ | refine c_exit ?_ | refine c_ret ?_ | refine s_nil ?_ | refine x_then ?_ | refine x_then_exit ?_ | refine x_then_ret ?_ | refine x_block ?_ | refine x_block_ret ?_ | refine x_block_same ?_ | refine x_block_other (by rfl) ?_ | refine q_nil ?_ | refine k_nil ?_) | ((with_reducible apply kP (.makeFunc _ _ _)); refine sMF ?_) | ((with_reducible apply kG); first | refine gY1 ?_ | refine gN1 ?_ | refine gU1 ?_ | (refine gD1 (fun h => ?_) (fun h => ?_) <;> (try (exfalso; omega))) | refine gB1 (fun h => ?_) (fun h => ?_)) | ((with_reducible apply kN); first | refine stP ?_ | refine stI ?_ | refine st1 ?_ | refine stW ?_) | ((with_reducible apply kP (.alloc _)); refine sA (fun b => ?_)) | ((with_reducible apply kP (.box _ _)); first | refine sBA (fun b => ?_) | refine sB (fun b => ?_)) | ((with_reducible apply kP (.buildSlice _ 1 _)); first | refine sl1A (fun b => ?_) | refine sl1 (fun b => ?_)) | ((with_reducible apply kP (.buildSlice _ 2 _)); refine sl2 (fun b => ?_)) | ((with_reducible apply kP (.buildSlice _ 3 _)); refine sl3 (fun b => ?_)) | ((with_reducible apply kP (.buildSlice _ 4 _)); refine sl4 (fun b => ?_)) | ((with_reducible apply kP (.buildSlice _ 0 _)); refine s_bs0 (scTOf rfl) (zsTOf rfl) (by decide) (fun b => ?_)) | ((with_reducible apply kP (.makeSlice _ _ _)); refine sMk (fun b => ?_)) | ((with_reducible apply kP (.call ⟨.builtin .append, _, _⟩)); refine sAp (fun oa2 c2 blk2 hrow2 => ?_)) | ((with_reducible apply kP _); refine sP ?_) | ((with_reducible apply kP _); refine sX ?_) | ((with_reducible apply kQG); first | refine qY1 ?_ | refine qN1 ?_ | refine qU1 ?_ | (refine qD1 (fun h => ?_) (fun h => ?_) <;> (try (exfalso; omega))) | refine qB1 (fun h => ?_) (fun h => ?_)) | ((with_reducible apply kQP); refine qP ?_) | ((with_reducible apply kQP); refine qX ?_) | ((with_reducible apply kC); first | refine cT ?_ | refine cF ?_ | (refine cI (fun h => ?_) (fun h => ?_) <;> (try (exfalso; omega))) | refine cB (fun h => ?_) (fun h => ?_)) | ((with_reducible apply kR); refine cQ ?_))
    all_goals first
      | exact e_ret1 rfl rfl rfl SCt
      | trace_state
  · rw [decide_eq_false h1] at m1
    have k1 := fun hs hL => k_Quick n c R C t l oa hl (by omega) hc B w0 hs hL
    have k2 := fun hs hL => r_Quick n c R C t l oa hl (by omega) hc B w0 hs hL
    have hlen := qkP_len n R C l t (by omega)
    have hpl := prI_len (qkP n R C l t)
    generalize qkE n R C l t = e at *
    generalize qkP n R C l t = ps at *
    generalize prI ps = q at *
    generalize ps.length = K at *
    refine fn_enter Try.func7 rfl Try.ntmps7 (by simp) ?_
    repeat' (first | ((with_reducible apply kF 19); refine sC 19 (m1 _) ?_) | ((with_reducible apply kF 37); refine sN 37 (k1 _ (hL.sub SBt)) ?_; rintro u blkA ⟨oA, cA, rfl, hrA⟩) | ((with_reducible apply kF 38); refine sN 38 (k2 _ (hL.sub SBt)) ?_; rintro u blkB ⟨oB, cB, rfl, hrB⟩) | (with_reducible first | refine c_seq ?_ | refine c_reg ?_ | refine c_region ?_ | refine c_block ?_ | refine c_skip ?_ | refine c_exit ?_ | refine c_ret ?_ | refine s_nil ?_ | refine x_then ?_ | refine x_then_exit ?_ | refine x_then_ret ?_ | refine x_block ?_ | refine x_block_ret ?_ | refine x_block_same ?_ | refine x_block_other (by rfl) ?_ | refine q_nil ?_ | refine k_nil ?_) | ((with_reducible apply kP (.makeFunc _ _ _)); refine sMF ?_) | ((with_reducible apply kG); first | refine gY1 ?_ | refine gN1 ?_ | refine gU1 ?_ | (refine gD1 (fun h => ?_) (fun h => ?_) <;> (try (exfalso; omega))) | refine gB1 (fun h => ?_) (fun h => ?_)) | ((with_reducible apply kN); first | refine stP ?_ | refine stI ?_ | refine st1 ?_ | refine stW ?_) | ((with_reducible apply kP (.alloc _)); refine sA (fun b => ?_)) | ((with_reducible apply kP (.box _ _)); first | refine sBA (fun b => ?_) | refine sB (fun b => ?_)) | ((with_reducible apply kP (.buildSlice _ 1 _)); first | refine sl1A (fun b => ?_) | refine sl1 (fun b => ?_)) | ((with_reducible apply kP (.buildSlice _ 2 _)); refine sl2 (fun b => ?_)) | ((with_reducible apply kP (.buildSlice _ 3 _)); refine sl3 (fun b => ?_)) | ((with_reducible apply kP (.buildSlice _ 4 _)); refine sl4 (fun b => ?_)) | ((with_reducible apply kP (.buildSlice _ 0 _)); refine s_bs0 (scTOf rfl) (zsTOf rfl) (by decide) (fun b => ?_)) | ((with_reducible apply kP (.makeSlice _ _ _)); refine sMk (fun b => ?_)) | ((with_reducible apply kP (.call ⟨.builtin .append, _, _⟩)); refine sAp (fun oa2 c2 blk2 hrow2 => ?_)) | ((with_reducible apply kP _); refine sP ?_) | ((with_reducible apply kP _); refine sX ?_) | ((with_reducible apply kQG); first | refine qY1 ?_ | refine qN1 ?_ | refine qU1 ?_ | (refine qD1 (fun h => ?_) (fun h => ?_) <;> (try (exfalso; omega))) | refine qB1 (fun h => ?_) (fun h => ?_)) | ((with_reducible apply kQP); refine qP ?_) | ((with_reducible apply kQP); refine qX ?_) | ((with_reducible apply kC); first | refine cT ?_ | refine cF ?_ | (refine cI (fun h => ?_) (fun h => ?_) <;> (try (exfalso; omega))) | refine cB (fun h => ?_) (fun h => ?_)) | ((with_reducible apply kR); refine cQ ?_))
    all_goals try (exfalso; first | omega | exact absurd rfl ‹¬ _ = _› | exact absurd rfl ‹_ ≠ _›)
    have hSA := Sl.rowK (B := B) (w0 := w0) hrA
    have hSB := Sl.rowK (B := B) (w0 := w0) hrB
    refine c_loop (fun i : Nat => [(5, .slice oA K cA), (7, .slice oB K cB), (9, iv i)]) (fun _ => blkB ++ (blkA ++ hs)) (fun i => i ≤ K) (fun i => K - i) 0 (Nat.zero_le _) (by repeat' first | trivial | rfl | apply And.intro) SCt ?_
    intro i hi
    by_cases hi' : i < K
    · have hoA : oA.isSome = true := hSA.any (i := i * 2) (by omega)
      have hoB : oB.isSome = true := hSB.any (i := i * 2) (by omega)
      repeat' (first | ((with_reducible apply kP (.load 54 _)); refine sP ?_ (o_load rfl (ld_2S (shTOf rfl) (by assumption) SBt (by omega)))) | ((with_reducible apply kDP (.load 54 _)); refine dP ?_ (hX := rfl) (hv := o_load rfl (ld_2S (shTOf rfl) (by assumption) SBt (by omega)))) | ((with_reducible apply kQO (.load 54 _)); refine qP ?_ (o_load rfl (ld_2S (shTOf rfl) (by assumption) SBt (by omega)))) | ((with_reducible apply kP (.binOp .neq _ _ _ _)); refine sP ?_ (o_neqA2 (eqTOf rfl) rfl rfl)) | ((with_reducible apply kDP (.binOp .neq _ _ _ _)); refine dP ?_ (hX := rfl) (hv := o_neqA2 (eqTOf rfl) rfl rfl)) | ((with_reducible apply kQO (.binOp .neq _ _ _ _)); refine qP ?_ (o_neqA2 (eqTOf rfl) rfl rfl)) | (with_reducible first | refine c_seq ?_ | refine c_reg ?_ | refine c_region ?_ | refine c_block ?_ | refine c_skip ?_ | refine c_exit ?_ | refine c_ret ?_ | refine s_nil ?_ | refine x_then ?_ | refine x_then_exit ?_ | refine x_then_ret ?_ | refine x_block ?_ | refine x_block_ret ?_ | refine x_block_same ?_ | refine x_block_other (by rfl) ?_ | refine q_nil ?_ | refine k_nil ?_) | ((with_reducible apply kP (.makeFunc _ _ _)); refine sMF ?_) | ((with_reducible apply kG); first | refine gY1 ?_ | refine gN1 ?_ | refine gU1 ?_ | (refine gD1 (fun h => ?_) (fun h => ?_) <;> (try (exfalso; omega))) | refine gB1 (fun h => ?_) (fun h => ?_)) | ((with_reducible apply kN); first | refine stP ?_ | refine stI ?_ | refine st1 ?_ | refine stW ?_) | ((with_reducible apply kP (.alloc _)); refine sA (fun b => ?_)) | ((with_reducible apply kP (.box _ _)); first | refine sBA (fun b => ?_) | refine sB (fun b => ?_)) | ((with_reducible apply kP (.buildSlice _ 1 _)); first | refine sl1A (fun b => ?_) | refine sl1 (fun b => ?_)) | ((with_reducible apply kP (.buildSlice _ 2 _)); refine sl2 (fun b => ?_)) | ((with_reducible apply kP (.buildSlice _ 3 _)); refine sl3 (fun b => ?_)) | ((with_reducible apply kP (.buildSlice _ 4 _)); refine sl4 (fun b => ?_)) | ((with_reducible apply kP (.buildSlice _ 0 _)); refine s_bs0 (scTOf rfl) (zsTOf rfl) (by decide) (fun b => ?_)) | ((with_reducible apply kP (.makeSlice _ _ _)); refine sMk (fun b => ?_)) | ((with_reducible apply kP (.call ⟨.builtin .append, _, _⟩)); refine sAp (fun oa2 c2 blk2 hrow2 => ?_)) | ((with_reducible apply kP _); refine sP ?_) | ((with_reducible apply kP _); refine sX ?_) | ((with_reducible apply kQG); first | refine qY1 ?_ | refine qN1 ?_ | refine qU1 ?_ | (refine qD1 (fun h => ?_) (fun h => ?_) <;> (try (exfalso; omega))) | refine qB1 (fun h => ?_) (fun h => ?_)) | ((with_reducible apply kQP); refine qP ?_) | ((with_reducible apply kQP); refine qX ?_) | ((with_reducible apply kC); first | refine cT ?_ | refine cF ?_ | (refine cI (fun h => ?_) (fun h => ?_) <;> (try (exfalso; omega))) | refine cB (fun h => ?_) (fun h => ?_)) | ((with_reducible apply kR); refine cQ ?_))
      all_goals first
        | exact r_end (i + 1) hi' (by show K - (i + 1) < K - i; omega) (by repeat' first | trivial | rfl | apply And.intro) SCt
        | (exfalso; omega)
        | trace_state
    · obtain rfl : i = K := by omega
      repeat' (first | ((with_reducible apply kF 20); refine sC 20 (k_known B w0 _) ?_) | (with_reducible first | refine c_seq ?_ | refine c_reg ?_ | refine c_region ?_ | refine c_block ?_ | refine c_skip ?_ | refine c_exit ?_ | refine c_ret ?_ | refine s_nil ?_ | refine x_then ?_ | refine x_then_exit ?_ | refine x_then_ret ?_ | refine x_block ?_ | refine x_block_ret ?_ | refine x_block_same ?_ | refine x_block_other (by rfl) ?_ | refine q_nil ?_ | refine k_nil ?_) | ((with_reducible apply kP (.makeFunc _ _ _)); refine sMF ?_) | ((with_reducible apply kG); first | refine gY1 ?_ | refine gN1 ?_ | refine gU1 ?_ | (refine gD1 (fun h => ?_) (fun h => ?_) <;> (try (exfalso; omega))) | refine gB1 (fun h => ?_) (fun h => ?_)) | ((with_reducible apply kN); first | refine stP ?_ | refine stI ?_ | refine st1 ?_ | refine stW ?_) | ((with_reducible apply kP (.alloc _)); refine sA (fun b => ?_)) | ((with_reducible apply kP (.box _ _)); first | refine sBA (fun b => ?_) | refine sB (fun b => ?_)) | ((with_reducible apply kP (.buildSlice _ 1 _)); first | refine sl1A (fun b => ?_) | refine sl1 (fun b => ?_)) | ((with_reducible apply kP (.buildSlice _ 2 _)); refine sl2 (fun b => ?_)) | ((with_reducible apply kP (.buildSlice _ 3 _)); refine sl3 (fun b => ?_)) | ((with_reducible apply kP (.buildSlice _ 4 _)); refine sl4 (fun b => ?_)) | ((with_reducible apply kP (.buildSlice _ 0 _)); refine s_bs0 (scTOf rfl) (zsTOf rfl) (by decide) (fun b => ?_)) | ((with_reducible apply kP (.makeSlice _ _ _)); refine sMk (fun b => ?_)) | ((with_reducible apply kP (.call ⟨.builtin .append, _, _⟩)); refine sAp (fun oa2 c2 blk2 hrow2 => ?_)) | ((with_reducible apply kP _); refine sP ?_) | ((with_reducible apply kP _); refine sX ?_) | ((with_reducible apply kQG); first | refine qY1 ?_ | refine qN1 ?_ | refine qU1 ?_ | (refine qD1 (fun h => ?_) (fun h => ?_) <;> (try (exfalso; omega))) | refine qB1 (fun h => ?_) (fun h => ?_)) | ((with_reducible apply kQP); refine qP ?_) | ((with_reducible apply kQP); refine qX ?_) | ((with_reducible apply kC); first | refine cT ?_ | refine cF ?_ | (refine cI (fun h => ?_) (fun h => ?_) <;> (try (exfalso; omega))) | refine cB (fun h => ?_) (fun h => ?_)) | ((with_reducible apply kR); refine cQ ?_))
      exact e_ret1 rfl rfl rfl SCt
set_option maxRecDepth 100000 in
theorem quick_holds_lifted (os : Os) (started : os.Started) (H : Type) (enc : TypeId × Value → H) :
    ReturnsInHanded {} Try.checked os 7 .any (Rows.plotQuickSpec.pre6 enc Try.prog Try.f7 Rows.plotQuickRow.domain false) (Rows.plotQuickSpec.post enc Try.prog Try.f7 false true false false) := by
  refine returnsInHanded_of_change (C := Try.checked) ownK started (by kernel_rfl) Try.func7
    (ChangeSpec.witness6 (enc := enc) (C := Try.checked) false ⟨#[], #[.agg #[.slice none 0 0, .int .i64 0, .int .i64 0], .int .i64 0], []⟩ 8 (by kernel_rfl) (by kernel_rfl) (by kernel_rfl) (by kernel_rfl)) ?_
  intro W base args ds gs before hval0 hW hcnd _
  have hval : ∀ (j : Nat) t v, Try.f7.params[j]? = some t → args[j]? = some v → Value.okWide Try.prog W .any base t v := hval0
  have hW' := hW
  obtain ⟨p, q, hA0, hV, rfl, hfz, hnd⟩ := hW
  have hA : DataW.TrodAll enc Try.prog W 0 (fun _ => true) true Try.f7.params.toList args.toList ds p := hA0
  rw [Try.params7] at hA hval
  obtain ⟨v0, v1, d_0, d_1, p_0, p_1, rfl, rfl, rfl, h0, h1⟩ := trodAll_two hA
  obtain ⟨oa0, n0, c0, l0, x0, y0, rfl, e0, g0, I0, J0, s0⟩ := arg_play (k := 4) (by kernel_rfl) (hval 0 _ v0 rfl rfl) h0
  obtain ⟨z1, rfl, I1⟩ := arg_int (by kernel_rfl) (hval 1 _ v1 rfl rfl) h1
  refine (law_calls (l_quick _ _ _ _ _ _ z1 e0 g0 _ ⟨W, []⟩ [] s0)).mono fun e W' ⟨he, hb⟩ => ⟨.bool true, he, ?_⟩
  exact law_post rfl ⟨⟨by kernel_rfl, of_decide_eq_true (by kernel_rfl)⟩, ⟨by kernel_rfl, of_decide_eq_true (by kernel_rfl)⟩, trivial⟩ rfl hW' ⟨rfl, rfl, rfl⟩ hb
theorem quick_holds_q1 : (Rows.plotQuickRow.inPlace == Try.pinned.checked.prog.inPlace 7) = true := by kernel_rfl
theorem quick_holds_q2 : (Rows.plotQuickRow.unfollowed == Try.pinned.checked.prog.unfollowed 7) = true := by kernel_rfl
theorem quick_holds_q3 : (Rows.plotQuickRow.recurses == Try.pinned.checked.prog.recurses 7) = true := by kernel_rfl
theorem quick_holds_q4 : (Rows.plotQuickRow.named == Try.pinned.checked.prog.varsNamed 7) = true := by kernel_rfl
theorem quick_holds_q5 : laidOutB Try.pinned.checked.prog = true := by kernel_rfl
theorem quick_holds_q6 : mapsRowed Try.pinned.checked.prog = true := by kernel_rfl
theorem quick_holds_q7 : Try.pinned.checked.prog.funcNamed Rows.plotQuickRow.func = some 7 := by kernel_rfl
theorem quick_holds_q8 : joinedFacts Try.pinned.checked.prog 7 Try.f7 Rows.plotQuickSpec Rows.plotQuickRow = true := by
  unfold joinedFacts
  rw [quick_holds_q1, quick_holds_q2, quick_holds_q3, quick_holds_q4, quick_holds_q5, quick_holds_q6]
  kernel_rfl
theorem quick_holds : Rows.PlotQuickSaid :=
  OpenClaim.holds_of_wide 7 Try.f7 rfl rfl rfl rfl rfl rfl rfl ⟨rfl, rfl, rfl, rfl, rfl⟩ rfl rfl rfl rfl rfl quick_holds_q7 Try.func7 quick_holds_q8
    (of_decide_eq_true (by kernel_rfl)) (by unfold Func.isWrapper; first | (rw [if_pos (by decide +kernel)]; kernel_rfl) | (rw [if_neg (by decide +kernel)]; exact ⟨rfl, rfl⟩))
    (fun os started H enc _ => quick_holds_lifted os started H enc)
#print axioms quick_holds
end Go.Proofs.Ytgcjddlcgpjlcaa
