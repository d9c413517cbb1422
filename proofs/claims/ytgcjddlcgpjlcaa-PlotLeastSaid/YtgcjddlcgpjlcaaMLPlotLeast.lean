/- PlotLeast holds: the smallest number of wigs, and an assignment with it, for all plays. -/
import Derived.Test.YtgcjddlcgpjlcaaMP30
import Derived.Test.YtgcjddlcgpjlcaaMP29
import Derived.Test.YtgcjddlcgpjlcaaMCloseP
namespace Go.Proofs.Ytgcjddlcgpjlcaa
open Go.RowKit Go.ChangeShapes Go.WideShapes Go.ChangeAt

set_option maxRecDepth 100000 in
set_option maxHeartbeats 8000000 in
theorem l_least (oa : Option Addr) (n c : Nat) (l : List Int) (R C : Int) (hl : l.length = n * 4) (hc : n ≤ c) (B : Nat) (w0 : Wd) (hs : HS) (hL : Sl B w0 hs oa l) : Fn Try.prog 4 #[.agg #[.slice oa n c, iv R, iv C]] B w0 hs (fun v _ => v = .bool true) := by
  have m1 := k_long n c R C oa B w0
  by_cases h1 : 60 < n
  · rw [decide_eq_true h1] at m1
    refine fn_enter Try.func4 rfl Try.ntmps4 (by simp) ?_
    repeat' (first | ((with_reducible apply kF 19); refine sC 19 (m1 _) ?_) | ((with_reducible apply kF 20); refine sC 20 (k_known B w0 _) ?_) | (with_reducible first | refine c_seq ?_ | refine c_reg ?_ | refine c_region ?_ | refine c_block ?_ | refine c_skip ?_ | refine c_exit ?_ | refine c_ret ?_ | refine s_nil ?_ | refine x_then ?_ | refine x_then_exit ?_ | refine x_then_ret ?_ | refine x_block ?_ | refine x_block_ret ?_ | refine x_block_same ?_ | refine x_block_other (by rfl) ?_ | refine q_nil ?_ | refine k_nil ?_) | ((with_reducible apply kP (.makeFunc _ _ _)); refine sMF ?_) | ((with_reducible apply kG); first | refine gY1 ?_ | refine gN1 ?_ | refine gU1 ?_ | (refine gD1 (fun h => ?_) (fun h => ?_) <;> (try (exfalso; omega))) | refine gB1 (fun h => ?_) (fun h => ?_)) | ((with_reducible apply kN); first | refine stP ?_ | refine stI ?_ | refine st1 ?_ | refine stW ?_) | ((with_reducible apply kP (.alloc _)); refine sA (fun b => ?_)) | ((with_reducible apply kP (.box _ _)); first | refine sBA (fun b => ?_) | refine sB (fun b => ?_)) | ((with_reducible apply kP (.buildSlice _ 1 _)); first | refine sl1A (fun b => ?_) | refine sl1 (fun b => ?_)) | ((with_reducible apply kP (.buildSlice _ 2 _)); refine sl2 (fun b => ?_)) | ((with_reducible apply kP (.buildSlice _ 3 _)); refine sl3 (fun b => ?_)) | ((with_reducible apply kP (.buildSlice _ 4 _)); refine sl4 (fun b => ?_)) | ((with_reducible apply kP (.buildSlice _ 0 _)); refine s_bs0 (scTOf rfl) (zsTOf rfl) (by decide) (fun b => ?_)) | ((with_reducible apply kP (.makeSlice _ _ _)); refine sMk (fun b => ?_)) | ((with_reducible apply kP (.call ⟨.builtin .append, _, _⟩)); refine sAp (fun oa2 c2 blk2 hrow2 => ?_)) | ((with_reducible apply kP _); refine sP ?_) | ((with_reducible apply kP _); refine sX ?_) | ((with_reducible apply kQG); first | refine qY1 ?_ | refine qN1 ?_ | refine qU1 ?_ | (refine qD1 (fun h => ?_) (fun h => ?_) <;> (try (exfalso; omega))) | refine qB1 (fun h => ?_) (fun h => ?_)) | ((with_reducible apply kQP); refine qP ?_) | ((with_reducible apply kQP); refine qX ?_) | ((with_reducible apply kC); first | refine cT ?_ | refine cF ?_ | (refine cI (fun h => ?_) (fun h => ?_) <;> (try (exfalso; omega))) | refine cB (fun h => ?_) (fun h => ?_)) | ((with_reducible apply kR); refine cQ ?_))
    all_goals first
      | exact e_ret1 rfl rfl rfl SCt
      | trace_state
  · rw [decide_eq_false h1] at m1
    have k1 := fun hs hL => k_Least n c R C l oa hl (by omega) hc B w0 hs hL
    have k2 := fun hs hL => r_Least n c R C l oa hl (by omega) hc B w0 hs hL
    have k3 := fun hs hL => k_Assign n c R C l oa hl (by omega) hc B w0 hs hL
    by_cases hv : vpE n R C l = 0
    · have e1 : lsV n R C l = (msum l R n 100 : Nat) := if_pos hv
      have hn6 := (vp_to hv).le
      have h100 : ∀ i, i < n → wZ l i < (100 : Nat) := fun i hi => by have := (vp_to hv).w i hi; unfold okw at this; omega
      rw [e1, hv] at k1 k2
      generalize hM : msum l R n 100 = M at *
      have kU := fun (bo : Nat) (o : List Int) (hA : As l R n 100 o) F hL hQ => r_Used n c n n R C l o oa (some ⟨bo, 0, none⟩) hl hA.len (by omega) (by omega) hc B w0 F hL hQ
      have kU : ∀ (bo : Nat) (o : List Int), As l R n 100 o → ∀ F, Sl B w0 F oa l → Sl B w0 F (some ⟨bo, 0, none⟩) o → Fn Try.prog 25 #[.agg #[.slice oa n c, iv R, iv C], .slice (some ⟨bo, 0, none⟩) n n] B w0 F (fun v h => v = .tuple #[iv M, iv 0] ∧ h = F) := fun bo o hA F hL hQ => by
        have := kU bo o hA F hL hQ
        rw [show usV n R C l n o = (M : Int) from by unfold usV; rw [if_pos (as_ck hv hA), as_us hv hA, hM], as_ck hv hA] at this
        exact this
      refine fn_enter Try.func4 rfl Try.ntmps4 (by simp) ?_
      repeat' (first | ((with_reducible apply kF 19); refine sC 19 (m1 _) ?_) | ((with_reducible apply kF 21); refine sC 21 (k1 _ (hL.sub SBt)) ?_) | ((with_reducible apply kF 23); refine sC 23 (k2 _ (hL.sub SBt)) ?_) | ((with_reducible apply kF 24); refine sN 24 (k3 _ (hL.sub SBt)) ?_; rintro u blk (⟨_, bo, o, rfl, rfl, hA⟩ | ⟨h9, _, _⟩); rotate_left; exact absurd hv h9; simp only [List.cons_append, List.nil_append]) | ((with_reducible apply kF 25); refine sC 25 (kU bo o hA _ (hL.sub SBt) (Sl.own (l := o) MDt)) ?_) | (with_reducible first | refine c_seq ?_ | refine c_reg ?_ | refine c_region ?_ | refine c_block ?_ | refine c_skip ?_ | refine c_exit ?_ | refine c_ret ?_ | refine s_nil ?_ | refine x_then ?_ | refine x_then_exit ?_ | refine x_then_ret ?_ | refine x_block ?_ | refine x_block_ret ?_ | refine x_block_same ?_ | refine x_block_other (by rfl) ?_ | refine q_nil ?_ | refine k_nil ?_) | ((with_reducible apply kP (.makeFunc _ _ _)); refine sMF ?_) | ((with_reducible apply kG); first | refine gY1 ?_ | refine gN1 ?_ | refine gU1 ?_ | (refine gD1 (fun h => ?_) (fun h => ?_) <;> (try (exfalso; omega))) | refine gB1 (fun h => ?_) (fun h => ?_)) | ((with_reducible apply kN); first | refine stP ?_ | refine stI ?_ | refine st1 ?_ | refine stW ?_) | ((with_reducible apply kP (.alloc _)); refine sA (fun b => ?_)) | ((with_reducible apply kP (.box _ _)); first | refine sBA (fun b => ?_) | refine sB (fun b => ?_)) | ((with_reducible apply kP (.buildSlice _ 1 _)); first | refine sl1A (fun b => ?_) | refine sl1 (fun b => ?_)) | ((with_reducible apply kP (.buildSlice _ 2 _)); refine sl2 (fun b => ?_)) | ((with_reducible apply kP (.buildSlice _ 3 _)); refine sl3 (fun b => ?_)) | ((with_reducible apply kP (.buildSlice _ 4 _)); refine sl4 (fun b => ?_)) | ((with_reducible apply kP (.buildSlice _ 0 _)); refine s_bs0 (scTOf rfl) (zsTOf rfl) (by decide) (fun b => ?_)) | ((with_reducible apply kP (.makeSlice _ _ _)); refine sMk (fun b => ?_)) | ((with_reducible apply kP (.call ⟨.builtin .append, _, _⟩)); refine sAp (fun oa2 c2 blk2 hrow2 => ?_)) | ((with_reducible apply kP _); refine sP ?_) | ((with_reducible apply kP _); refine sX ?_) | ((with_reducible apply kQG); first | refine qY1 ?_ | refine qN1 ?_ | refine qU1 ?_ | (refine qD1 (fun h => ?_) (fun h => ?_) <;> (try (exfalso; omega))) | refine qB1 (fun h => ?_) (fun h => ?_)) | ((with_reducible apply kQP); refine qP ?_) | ((with_reducible apply kQP); refine qX ?_) | ((with_reducible apply kC); first | refine cT ?_ | refine cF ?_ | (refine cI (fun h => ?_) (fun h => ?_) <;> (try (exfalso; omega))) | refine cB (fun h => ?_) (fun h => ?_)) | ((with_reducible apply kR); refine cQ ?_))
      all_goals try (exfalso; first | omega | exact absurd rfl ‹¬ _ = _›)
      have hol := hA.len
      refine c_loop (fun i : Nat => [(3, iv M), (7, .slice (some ⟨bo, 0, none⟩) n n), (9, iv M), (10, iv 0), (11, iv i)]) (fun _ => (bo, ivs o) :: hs) (fun i => i ≤ n) (fun i => n - i) 0 (Nat.zero_le _) (by repeat' first | trivial | rfl | apply And.intro) (.cons_cons _ (.cons _ (.refl _))) ?_
      intro i hi
      by_cases hi' : i < n
      · have hto := hA.to i hi' (h100 i hi')
        rw [hM] at hto
        repeat' (first | (with_reducible first | refine c_seq ?_ | refine c_reg ?_ | refine c_region ?_ | refine c_block ?_ | refine c_skip ?_ | refine c_exit ?_ | refine c_ret ?_ | refine s_nil ?_ | refine x_then ?_ | refine x_then_exit ?_ | refine x_then_ret ?_ | refine x_block ?_ | refine x_block_ret ?_ | refine x_block_same ?_ | refine x_block_other (by rfl) ?_ | refine q_nil ?_ | refine k_nil ?_) | ((with_reducible apply kP (.makeFunc _ _ _)); refine sMF ?_) | ((with_reducible apply kG); first | refine gY1 ?_ | refine gN1 ?_ | refine gU1 ?_ | (refine gD1 (fun h => ?_) (fun h => ?_) <;> (try (exfalso; omega))) | refine gB1 (fun h => ?_) (fun h => ?_)) | ((with_reducible apply kN); first | refine stP ?_ | refine stI ?_ | refine st1 ?_ | refine stW ?_) | ((with_reducible apply kP (.alloc _)); refine sA (fun b => ?_)) | ((with_reducible apply kP (.box _ _)); first | refine sBA (fun b => ?_) | refine sB (fun b => ?_)) | ((with_reducible apply kP (.buildSlice _ 1 _)); first | refine sl1A (fun b => ?_) | refine sl1 (fun b => ?_)) | ((with_reducible apply kP (.buildSlice _ 2 _)); refine sl2 (fun b => ?_)) | ((with_reducible apply kP (.buildSlice _ 3 _)); refine sl3 (fun b => ?_)) | ((with_reducible apply kP (.buildSlice _ 4 _)); refine sl4 (fun b => ?_)) | ((with_reducible apply kP (.buildSlice _ 0 _)); refine s_bs0 (scTOf rfl) (zsTOf rfl) (by decide) (fun b => ?_)) | ((with_reducible apply kP (.makeSlice _ _ _)); refine sMk (fun b => ?_)) | ((with_reducible apply kP (.call ⟨.builtin .append, _, _⟩)); refine sAp (fun oa2 c2 blk2 hrow2 => ?_)) | ((with_reducible apply kP _); refine sP ?_) | ((with_reducible apply kP _); refine sX ?_) | ((with_reducible apply kQG); first | refine qY1 ?_ | refine qN1 ?_ | refine qU1 ?_ | (refine qD1 (fun h => ?_) (fun h => ?_) <;> (try (exfalso; omega))) | refine qB1 (fun h => ?_) (fun h => ?_)) | ((with_reducible apply kQP); refine qP ?_) | ((with_reducible apply kQP); refine qX ?_) | ((with_reducible apply kC); first | refine cT ?_ | refine cF ?_ | (refine cI (fun h => ?_) (fun h => ?_) <;> (try (exfalso; omega))) | refine cB (fun h => ?_) (fun h => ?_)) | ((with_reducible apply kR); refine cQ ?_))
        all_goals first
          | exact r_end (i + 1) hi' (by show n - (i + 1) < n - i; omega) (by repeat' first | trivial | rfl | apply And.intro) SCt
          | (exfalso; omega)
          | trace_state
      · obtain rfl : i = n := by omega
        repeat' (first | ((with_reducible apply kF 20); refine sC 20 (k_known B w0 _) ?_) | (with_reducible first | refine c_seq ?_ | refine c_reg ?_ | refine c_region ?_ | refine c_block ?_ | refine c_skip ?_ | refine c_exit ?_ | refine c_ret ?_ | refine s_nil ?_ | refine x_then ?_ | refine x_then_exit ?_ | refine x_then_ret ?_ | refine x_block ?_ | refine x_block_ret ?_ | refine x_block_same ?_ | refine x_block_other (by rfl) ?_ | refine q_nil ?_ | refine k_nil ?_) | ((with_reducible apply kP (.makeFunc _ _ _)); refine sMF ?_) | ((with_reducible apply kG); first | refine gY1 ?_ | refine gN1 ?_ | refine gU1 ?_ | (refine gD1 (fun h => ?_) (fun h => ?_) <;> (try (exfalso; omega))) | refine gB1 (fun h => ?_) (fun h => ?_)) | ((with_reducible apply kN); first | refine stP ?_ | refine stI ?_ | refine st1 ?_ | refine stW ?_) | ((with_reducible apply kP (.alloc _)); refine sA (fun b => ?_)) | ((with_reducible apply kP (.box _ _)); first | refine sBA (fun b => ?_) | refine sB (fun b => ?_)) | ((with_reducible apply kP (.buildSlice _ 1 _)); first | refine sl1A (fun b => ?_) | refine sl1 (fun b => ?_)) | ((with_reducible apply kP (.buildSlice _ 2 _)); refine sl2 (fun b => ?_)) | ((with_reducible apply kP (.buildSlice _ 3 _)); refine sl3 (fun b => ?_)) | ((with_reducible apply kP (.buildSlice _ 4 _)); refine sl4 (fun b => ?_)) | ((with_reducible apply kP (.buildSlice _ 0 _)); refine s_bs0 (scTOf rfl) (zsTOf rfl) (by decide) (fun b => ?_)) | ((with_reducible apply kP (.makeSlice _ _ _)); refine sMk (fun b => ?_)) | ((with_reducible apply kP (.call ⟨.builtin .append, _, _⟩)); refine sAp (fun oa2 c2 blk2 hrow2 => ?_)) | ((with_reducible apply kP _); refine sP ?_) | ((with_reducible apply kP _); refine sX ?_) | ((with_reducible apply kQG); first | refine qY1 ?_ | refine qN1 ?_ | refine qU1 ?_ | (refine qD1 (fun h => ?_) (fun h => ?_) <;> (try (exfalso; omega))) | refine qB1 (fun h => ?_) (fun h => ?_)) | ((with_reducible apply kQP); refine qP ?_) | ((with_reducible apply kQP); refine qX ?_) | ((with_reducible apply kC); first | refine cT ?_ | refine cF ?_ | (refine cI (fun h => ?_) (fun h => ?_) <;> (try (exfalso; omega))) | refine cB (fun h => ?_) (fun h => ?_)) | ((with_reducible apply kR); refine cQ ?_))
        all_goals first
          | exact e_ret1 rfl rfl rfl SCt
          | exact absurd rfl ‹¬ _ = _›
          | (exfalso; omega)
          | trace_state
    · have e1 : lsV n R C l = 0 := if_neg hv
      rw [e1] at k1 k2
      generalize vpE n R C l = e at *
      refine fn_enter Try.func4 rfl Try.ntmps4 (by simp) ?_
      repeat' (first | ((with_reducible apply kF 19); refine sC 19 (m1 _) ?_) | ((with_reducible apply kF 21); refine sC 21 (k1 _ (hL.sub SBt)) ?_) | ((with_reducible apply kF 23); refine sC 23 (k2 _ (hL.sub SBt)) ?_) | ((with_reducible apply kF 24); refine sN 24 (k3 _ (hL.sub SBt)) ?_; rintro u blk (⟨h9, _⟩ | ⟨_, rfl, rfl⟩); exact absurd h9 hv) | ((with_reducible apply kF 20); refine sC 20 (k_known B w0 _) ?_) | (with_reducible first | refine c_seq ?_ | refine c_reg ?_ | refine c_region ?_ | refine c_block ?_ | refine c_skip ?_ | refine c_exit ?_ | refine c_ret ?_ | refine s_nil ?_ | refine x_then ?_ | refine x_then_exit ?_ | refine x_then_ret ?_ | refine x_block ?_ | refine x_block_ret ?_ | refine x_block_same ?_ | refine x_block_other (by rfl) ?_ | refine q_nil ?_ | refine k_nil ?_) | ((with_reducible apply kP (.makeFunc _ _ _)); refine sMF ?_) | ((with_reducible apply kG); first | refine gY1 ?_ | refine gN1 ?_ | refine gU1 ?_ | (refine gD1 (fun h => ?_) (fun h => ?_) <;> (try (exfalso; omega))) | refine gB1 (fun h => ?_) (fun h => ?_)) | ((with_reducible apply kN); first | refine stP ?_ | refine stI ?_ | refine st1 ?_ | refine stW ?_) | ((with_reducible apply kP (.alloc _)); refine sA (fun b => ?_)) | ((with_reducible apply kP (.box _ _)); first | refine sBA (fun b => ?_) | refine sB (fun b => ?_)) | ((with_reducible apply kP (.buildSlice _ 1 _)); first | refine sl1A (fun b => ?_) | refine sl1 (fun b => ?_)) | ((with_reducible apply kP (.buildSlice _ 2 _)); refine sl2 (fun b => ?_)) | ((with_reducible apply kP (.buildSlice _ 3 _)); refine sl3 (fun b => ?_)) | ((with_reducible apply kP (.buildSlice _ 4 _)); refine sl4 (fun b => ?_)) | ((with_reducible apply kP (.buildSlice _ 0 _)); refine s_bs0 (scTOf rfl) (zsTOf rfl) (by decide) (fun b => ?_)) | ((with_reducible apply kP (.makeSlice _ _ _)); refine sMk (fun b => ?_)) | ((with_reducible apply kP (.call ⟨.builtin .append, _, _⟩)); refine sAp (fun oa2 c2 blk2 hrow2 => ?_)) | ((with_reducible apply kP _); refine sP ?_) | ((with_reducible apply kP _); refine sX ?_) | ((with_reducible apply kQG); first | refine qY1 ?_ | refine qN1 ?_ | refine qU1 ?_ | (refine qD1 (fun h => ?_) (fun h => ?_) <;> (try (exfalso; omega))) | refine qB1 (fun h => ?_) (fun h => ?_)) | ((with_reducible apply kQP); refine qP ?_) | ((with_reducible apply kQP); refine qX ?_) | ((with_reducible apply kC); first | refine cT ?_ | refine cF ?_ | (refine cI (fun h => ?_) (fun h => ?_) <;> (try (exfalso; omega))) | refine cB (fun h => ?_) (fun h => ?_)) | ((with_reducible apply kR); refine cQ ?_))
      all_goals first
        | exact e_ret1 rfl rfl rfl SCt
        | exact absurd rfl ‹¬ _ = _›
        | (exfalso; omega)
        | trace_state
set_option maxRecDepth 100000 in
theorem least_holds_lifted (os : Os) (started : os.Started) (H : Type) (enc : TypeId × Value → H) :
    ReturnsInHanded {} Try.checked os 4 .any (Rows.plotLeastSpec.pre6 enc Try.prog Try.f4 Rows.plotLeastRow.domain false) (Rows.plotLeastSpec.post enc Try.prog Try.f4 false true false false) := by
  refine returnsInHanded_of_change (C := Try.checked) ownK started (by kernel_rfl) Try.func4
    (ChangeSpec.witness6 (enc := enc) (C := Try.checked) false ⟨#[], #[.agg #[.slice none 0 0, .int .i64 0, .int .i64 0]], []⟩ 8 (by kernel_rfl) (by kernel_rfl) (by kernel_rfl) (by kernel_rfl)) ?_
  intro W base args ds gs before hval0 hW hcnd _
  have hval : ∀ (j : Nat) t v, Try.f4.params[j]? = some t → args[j]? = some v → Value.okWide Try.prog W .any base t v := hval0
  have hW' := hW
  obtain ⟨p, q, hA0, hV, rfl, hfz, hnd⟩ := hW
  have hA : DataW.TrodAll enc Try.prog W 0 (fun _ => true) true Try.f4.params.toList args.toList ds p := hA0
  rw [Try.params4] at hA hval
  obtain ⟨v0, d_0, rfl, rfl, h0⟩ := trodAll_one hA
  obtain ⟨oa0, n0, c0, l0, x0, y0, rfl, e0, g0, I0, J0, s0⟩ := arg_play (k := 4) (by kernel_rfl) (hval 0 _ v0 rfl rfl) h0
  refine (law_calls (l_least _ _ _ _ _ _ e0 g0 _ ⟨W, []⟩ [] s0)).mono fun e W' ⟨he, hb⟩ => ⟨.bool true, he, ?_⟩
  exact law_post rfl ⟨⟨by kernel_rfl, of_decide_eq_true (by kernel_rfl)⟩, trivial⟩ rfl hW' ⟨rfl, rfl, rfl⟩ hb
theorem least_holds_q1 : (Rows.plotLeastRow.inPlace == Try.pinned.checked.prog.inPlace 4) = true := by kernel_rfl
theorem least_holds_q2 : (Rows.plotLeastRow.unfollowed == Try.pinned.checked.prog.unfollowed 4) = true := by kernel_rfl
theorem least_holds_q3 : (Rows.plotLeastRow.recurses == Try.pinned.checked.prog.recurses 4) = true := by kernel_rfl
theorem least_holds_q4 : (Rows.plotLeastRow.named == Try.pinned.checked.prog.varsNamed 4) = true := by kernel_rfl
theorem least_holds_q5 : laidOutB Try.pinned.checked.prog = true := by kernel_rfl
theorem least_holds_q6 : mapsRowed Try.pinned.checked.prog = true := by kernel_rfl
theorem least_holds_q7 : Try.pinned.checked.prog.funcNamed Rows.plotLeastRow.func = some 4 := by kernel_rfl
theorem least_holds_q8 : joinedFacts Try.pinned.checked.prog 4 Try.f4 Rows.plotLeastSpec Rows.plotLeastRow = true := by
  unfold joinedFacts
  rw [least_holds_q1, least_holds_q2, least_holds_q3, least_holds_q4, least_holds_q5, least_holds_q6]
  kernel_rfl
theorem least_holds : Rows.PlotLeastSaid :=
  OpenClaim.holds_of_wide 4 Try.f4 rfl rfl rfl rfl rfl rfl rfl ⟨rfl, rfl, rfl, rfl, rfl⟩ rfl rfl rfl rfl rfl least_holds_q7 Try.func4 least_holds_q8
    (of_decide_eq_true (by kernel_rfl)) (by unfold Func.isWrapper; first | (rw [if_pos (by decide +kernel)]; kernel_rfl) | (rw [if_neg (by decide +kernel)]; exact ⟨rfl, rfl⟩))
    (fun os started H enc _ => least_holds_lifted os started H enc)
#print axioms least_holds
end Go.Proofs.Ytgcjddlcgpjlcaa
