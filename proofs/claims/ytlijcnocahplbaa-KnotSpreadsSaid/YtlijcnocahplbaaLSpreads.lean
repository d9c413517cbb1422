/- KnotSpreads holds: a spread row is one. -/
import Derived.Test.YtlijcnocahplbaaK14
import Derived.Test.YtlijcnocahplbaaClose2
namespace Go.Proofs.Ytlijcnocahplbaa
open Go.RowKit Go.ChangeShapes Go.WideShapes Go.ChangeAt

theorem fb_zero (bad : Nat → Bool) : ∀ m k, (∀ i, k ≤ i → i < k + m → bad i = false) → fb bad m k = 0
  | 0, _, _ => rfl
  | m + 1, k, h => by
    unfold fb
    rw [h k (by omega) (by omega)]
    exact fb_zero bad m (k + 1) (fun i h1 h2 => h i (by omega) (by omega))
theorem ct_spr (w : List Int) (N : Nat) (c : Nat) : ∀ k, k ≤ N → ct (tab N (sprF w)) k c = sHv (wv w) (sumL w) w.length k c
  | 0, _ => rfl
  | k + 1, h => by
    rw [ct_succ, ct_spr w N c k (by omega), tab_getD _ (by omega)]
    show _ + (if (sCh (wv w) (sumL w) w.length k : Int) = (c : Int) then 1 else 0) = sHv (wv w) (sumL w) w.length k c + if c = sCh (wv w) (sumL w) w.length k then 1 else 0
    by_cases hc : c = sCh (wv w) (sumL w) w.length k
    · rw [if_pos hc, if_pos (by omega)]
    · rw [if_neg hc, if_neg (by omega)]
theorem spr_ok {n : Int} {w : List Int} (h : qB n w = true) : spV w (sprL n w) = .tuple #[iv 0, .bool true, iv 0] ∧ ((sprL n w).length : Int) = n := by
  obtain ⟨hv, h0, h6⟩ := of_decide_eq_true h
  obtain ⟨e1, e2, e3, e4, e5, e6⟩ := vw_to hv
  have w1 : ∀ c, c < w.length → 0 ≤ wv w c := fun c hc => by have := (e1 c hc).1; rwa [wv_at] at this
  obtain ⟨N, rfl⟩ := Int.eq_ofNat_of_zero_le h0
  have el : sprL N w = tab N (sprF w) := by unfold sprL; rw [if_pos h, Int.toNat_natCast]
  have stp := fun k => s_step (w := wv w) (S := sumL w) (m := w.length) (wv_sum w) e4 k (s_sum (wv_sum w) e4 k)
  have hc : cok w (tab N (sprF w)) = true := by
    unfold cok
    refine decide_eq_true fun i hi => ?_
    rw [tab_length] at hi
    rw [tab_getD _ hi]
    have := (stp i).1
    unfold sprF
    omega
  have hb : fb (badk w (tab N (sprF w))) (tab N (sprF w)).length 1 = 0 := fb_zero _ _ _ fun k h1 h2 => by
    rw [tab_length] at h2
    unfold badk
    rw [Bool.not_eq_false']
    refine decide_eq_true fun c hc => ?_
    rw [ct_spr w N c k (by omega), wv_at]
    exact s_spread w1 (wv_sum w) e4 k c hc
  rw [el]
  refine ⟨?_, by rw [tab_length]⟩
  unfold spV
  rw [if_pos hv, if_neg (by rw [tab_length]; omega), if_pos hc, hb]
  rfl
set_option maxRecDepth 100000 in
set_option maxHeartbeats 8000000 in
theorem l_spreads (oa : Option Addr) (c : Nat) (w : List Int) (n : Int) (B : Nat) (w0 : World) (hs : HS) (h1 : Sl B w0 hs oa w) :
    Fn Try.prog 10 #[.slice oa w.length c, iv n] B w0 hs (fun v _ => v = .bool true) := by
  by_cases hb : 100 < w.length
  · refine fn_enter Try.func10 rfl Try.ntmps10 (by simp) ?_
    repeat' (first | ((with_reducible apply kF 22); refine sC 22 (l_known B w0 _) ?_) | (with_reducible first | refine c_seq ?_ | refine c_reg ?_ | refine c_region ?_ | refine c_block ?_ | refine c_skip ?_ | refine c_exit ?_ | refine c_ret ?_ | refine s_nil ?_ | refine x_then ?_ | refine x_then_exit ?_ | refine x_then_ret ?_ | refine x_block ?_ | refine x_block_ret ?_ | refine x_block_same ?_ | refine x_block_other (by rfl) ?_ | refine q_nil ?_ | refine k_nil ?_) | ((with_reducible apply kP (.makeFunc _ _ _)); refine sMF ?_) | ((with_reducible apply kG); first | refine gY1 ?_ | refine gN1 ?_ | refine gU1 ?_ | (refine gD1 (fun h => ?_) (fun h => ?_) <;> (try (exfalso; omega))) | refine gB1 (fun h => ?_) (fun h => ?_)) | ((with_reducible apply kN); first | refine stP ?_ | refine stI ?_ | refine st1 ?_ | refine stW ?_) | ((with_reducible apply kP (.alloc _)); refine sA (fun b => ?_)) | ((with_reducible apply kP (.box _ _)); first | refine sBA (fun b => ?_) | refine sB (fun b => ?_)) | ((with_reducible apply kP (.buildSlice _ 1 _)); first | refine sl1A (fun b => ?_) | refine sl1 (fun b => ?_)) | ((with_reducible apply kP (.buildSlice _ 2 _)); refine sl2 (fun b => ?_)) | ((with_reducible apply kP (.buildSlice _ 3 _)); refine sl3 (fun b => ?_)) | ((with_reducible apply kP (.buildSlice _ 4 _)); refine sl4 (fun b => ?_)) | ((with_reducible apply kP (.buildSlice _ 0 _)); refine s_bs0 (scTOf rfl) (zsTOf rfl) (by decide) (fun b => ?_)) | ((with_reducible apply kP (.makeSlice _ _ _)); refine sMk (fun b => ?_)) | ((with_reducible apply kP (.call ⟨.builtin .append, _, _⟩)); refine sAp (fun oa2 c2 blk2 hrow2 => ?_)) | ((with_reducible apply kP _); refine sP ?_) | ((with_reducible apply kP _); refine sX ?_) | ((with_reducible apply kQG); first | refine qY1 ?_ | refine qN1 ?_ | refine qU1 ?_ | (refine qD1 (fun h => ?_) (fun h => ?_) <;> (try (exfalso; omega))) | refine qB1 (fun h => ?_) (fun h => ?_)) | ((with_reducible apply kQP); refine qP ?_) | ((with_reducible apply kQP); refine qX ?_) | ((with_reducible apply kC); first | refine cT ?_ | refine cF ?_ | (refine cI (fun h => ?_) (fun h => ?_) <;> (try (exfalso; omega))) | refine cB (fun h => ?_) (fun h => ?_)) | ((with_reducible apply kR); refine cQ ?_))
    exact e_ret1 rfl rfl rfl sb0
  have f1 := fun hs hS => k_Spread oa c w n (by omega) B w0 hs hS
  have f2 := fun hs hS => r_spreadError oa c w n (by omega) B w0 hs hS
  by_cases hq : qB n w = true
  · obtain ⟨x1, x2⟩ := spr_ok hq
    obtain ⟨hv, h0, h6⟩ := of_decide_eq_true hq
    have hE : quE n w = 0 := if_pos hq
    rw [hE] at f1 f2
    have f3 := fun ob d hs hS1 hS2 => r_isSpread oa ob c d w (sprL n w) (by omega) (by omega) B w0 hs hS1 hS2
    rw [x1] at f3
    refine fn_enter Try.func10 rfl Try.ntmps10 (by simp) ?_
    repeat' (first | ((with_reducible apply kF 36); refine sN 36 (f1 _ (h1.sub SBt)) ?_; rintro u ka ⟨ob, d, rfl, ha⟩) | ((with_reducible apply kF 37); refine sC 37 (f2 _ (h1.sub SBt)) ?_) | ((with_reducible apply kF 24); refine sC 24 (f3 ob d _ (h1.sub SBt) ((Sl.row ha).sub SBt)) ?_) | ((with_reducible apply kF 22); refine sC 22 (l_known B w0 _) ?_) | (with_reducible first | refine c_seq ?_ | refine c_reg ?_ | refine c_region ?_ | refine c_block ?_ | refine c_skip ?_ | refine c_exit ?_ | refine c_ret ?_ | refine s_nil ?_ | refine x_then ?_ | refine x_then_exit ?_ | refine x_then_ret ?_ | refine x_block ?_ | refine x_block_ret ?_ | refine x_block_same ?_ | refine x_block_other (by rfl) ?_ | refine q_nil ?_ | refine k_nil ?_) | ((with_reducible apply kP (.makeFunc _ _ _)); refine sMF ?_) | ((with_reducible apply kG); first | refine gY1 ?_ | refine gN1 ?_ | refine gU1 ?_ | (refine gD1 (fun h => ?_) (fun h => ?_) <;> (try (exfalso; omega))) | refine gB1 (fun h => ?_) (fun h => ?_)) | ((with_reducible apply kN); first | refine stP ?_ | refine stI ?_ | refine st1 ?_ | refine stW ?_) | ((with_reducible apply kP (.alloc _)); refine sA (fun b => ?_)) | ((with_reducible apply kP (.box _ _)); first | refine sBA (fun b => ?_) | refine sB (fun b => ?_)) | ((with_reducible apply kP (.buildSlice _ 1 _)); first | refine sl1A (fun b => ?_) | refine sl1 (fun b => ?_)) | ((with_reducible apply kP (.buildSlice _ 2 _)); refine sl2 (fun b => ?_)) | ((with_reducible apply kP (.buildSlice _ 3 _)); refine sl3 (fun b => ?_)) | ((with_reducible apply kP (.buildSlice _ 4 _)); refine sl4 (fun b => ?_)) | ((with_reducible apply kP (.buildSlice _ 0 _)); refine s_bs0 (scTOf rfl) (zsTOf rfl) (by decide) (fun b => ?_)) | ((with_reducible apply kP (.makeSlice _ _ _)); refine sMk (fun b => ?_)) | ((with_reducible apply kP (.call ⟨.builtin .append, _, _⟩)); refine sAp (fun oa2 c2 blk2 hrow2 => ?_)) | ((with_reducible apply kP _); refine sP ?_) | ((with_reducible apply kP _); refine sX ?_) | ((with_reducible apply kQG); first | refine qY1 ?_ | refine qN1 ?_ | refine qU1 ?_ | (refine qD1 (fun h => ?_) (fun h => ?_) <;> (try (exfalso; omega))) | refine qB1 (fun h => ?_) (fun h => ?_)) | ((with_reducible apply kQP); refine qP ?_) | ((with_reducible apply kQP); refine qX ?_) | ((with_reducible apply kC); first | refine cT ?_ | refine cF ?_ | (refine cI (fun h => ?_) (fun h => ?_) <;> (try (exfalso; omega))) | refine cB (fun h => ?_) (fun h => ?_)) | ((with_reducible apply kR); refine cQ ?_))
    all_goals first
      | exact e_ret1 rfl rfl rfl SCt
      | exact absurd rfl ‹¬ _ = _›
      | exact absurd rfl ‹_ ≠ _›
      | (exfalso; omega)
  · have hE : quE n w = 1 := if_neg hq
    have hL : sprL n w = [] := if_neg hq
    rw [hE, hL] at f1
    rw [hE] at f2
    refine fn_enter Try.func10 rfl Try.ntmps10 (by simp) ?_
    repeat' (first | ((with_reducible apply kF 36); refine sN 36 (f1 _ (h1.sub SBt)) ?_; rintro u ka ⟨ob, d, rfl, ha⟩) | ((with_reducible apply kF 37); refine sC 37 (f2 _ (h1.sub SBt)) ?_) | ((with_reducible apply kF 22); refine sC 22 (l_known B w0 _) ?_) | (with_reducible first | refine c_seq ?_ | refine c_reg ?_ | refine c_region ?_ | refine c_block ?_ | refine c_skip ?_ | refine c_exit ?_ | refine c_ret ?_ | refine s_nil ?_ | refine x_then ?_ | refine x_then_exit ?_ | refine x_then_ret ?_ | refine x_block ?_ | refine x_block_ret ?_ | refine x_block_same ?_ | refine x_block_other (by rfl) ?_ | refine q_nil ?_ | refine k_nil ?_) | ((with_reducible apply kP (.makeFunc _ _ _)); refine sMF ?_) | ((with_reducible apply kG); first | refine gY1 ?_ | refine gN1 ?_ | refine gU1 ?_ | (refine gD1 (fun h => ?_) (fun h => ?_) <;> (try (exfalso; omega))) | refine gB1 (fun h => ?_) (fun h => ?_)) | ((with_reducible apply kN); first | refine stP ?_ | refine stI ?_ | refine st1 ?_ | refine stW ?_) | ((with_reducible apply kP (.alloc _)); refine sA (fun b => ?_)) | ((with_reducible apply kP (.box _ _)); first | refine sBA (fun b => ?_) | refine sB (fun b => ?_)) | ((with_reducible apply kP (.buildSlice _ 1 _)); first | refine sl1A (fun b => ?_) | refine sl1 (fun b => ?_)) | ((with_reducible apply kP (.buildSlice _ 2 _)); refine sl2 (fun b => ?_)) | ((with_reducible apply kP (.buildSlice _ 3 _)); refine sl3 (fun b => ?_)) | ((with_reducible apply kP (.buildSlice _ 4 _)); refine sl4 (fun b => ?_)) | ((with_reducible apply kP (.buildSlice _ 0 _)); refine s_bs0 (scTOf rfl) (zsTOf rfl) (by decide) (fun b => ?_)) | ((with_reducible apply kP (.makeSlice _ _ _)); refine sMk (fun b => ?_)) | ((with_reducible apply kP (.call ⟨.builtin .append, _, _⟩)); refine sAp (fun oa2 c2 blk2 hrow2 => ?_)) | ((with_reducible apply kP _); refine sP ?_) | ((with_reducible apply kP _); refine sX ?_) | ((with_reducible apply kQG); first | refine qY1 ?_ | refine qN1 ?_ | refine qU1 ?_ | (refine qD1 (fun h => ?_) (fun h => ?_) <;> (try (exfalso; omega))) | refine qB1 (fun h => ?_) (fun h => ?_)) | ((with_reducible apply kQP); refine qP ?_) | ((with_reducible apply kQP); refine qX ?_) | ((with_reducible apply kC); first | refine cT ?_ | refine cF ?_ | (refine cI (fun h => ?_) (fun h => ?_) <;> (try (exfalso; omega))) | refine cB (fun h => ?_) (fun h => ?_)) | ((with_reducible apply kR); refine cQ ?_))
    all_goals first
      | exact e_ret1 rfl rfl rfl SCt
      | exact absurd rfl ‹¬ _ = _›
      | exact absurd rfl ‹_ ≠ _›
      | (exfalso; omega)
set_option maxRecDepth 100000 in
theorem spreads_holds_lifted (os : Os) (started : os.Started) (H : Type) (enc : TypeId × Value → H) :
    ReturnsInHanded {} Try.checked os 10 .any (Rows.knotSpreadsSpec.pre6 enc Try.prog Try.f10 Rows.knotSpreadsRow.domain false) (Rows.knotSpreadsSpec.post enc Try.prog Try.f10 false true false false) := by
  refine returnsInHanded_of_change (C := Try.checked) ownK started (by kernel_rfl) Try.func10
    (ChangeSpec.witness6 (enc := enc) (C := Try.checked) false ⟨#[], #[.slice none 0 0, .int .i64 0], []⟩ 8 (by kernel_rfl) (by kernel_rfl) (by kernel_rfl) (by kernel_rfl)) ?_
  intro W base args ds gs before hval0 hW hcnd _
  have hval : ∀ (j : Nat) t v, Try.f10.params[j]? = some t → args[j]? = some v → Value.okWide Try.prog W .any base t v := hval0
  have hW' := hW
  obtain ⟨p, q, hA0, hV, rfl, hfz, hnd⟩ := hW
  have hA : DataW.TrodAll enc Try.prog W 0 (fun _ => true) true Try.f10.params.toList args.toList ds p := hA0
  rw [Try.params10] at hA hval
  obtain ⟨v0, v1, d_0, d_1, p_0, p_1, rfl, rfl, rfl, h0, h1⟩ := trodAll_two hA
  obtain ⟨oa0, n0, c0, l0, rfl, e0, m0, g0, I0, s0⟩ := arg_sl (m := 5) (k := 1) (by kernel_rfl) (hval 0 _ v0 rfl rfl) h0
  obtain ⟨z1, rfl, I1⟩ := arg_int (by kernel_rfl) (hval 1 _ v1 rfl rfl) h1
  refine (law_calls (by rw [Nat.mul_one] at e0; subst e0; exact l_spreads oa0 c0 l0 z1 _ W [] s0)).mono fun e W' ⟨he, hb⟩ => ⟨.bool true, he, ?_⟩
  exact law_post rfl ⟨⟨by kernel_rfl, of_decide_eq_true (by kernel_rfl)⟩, ⟨by kernel_rfl, of_decide_eq_true (by kernel_rfl)⟩, trivial⟩ rfl hW' ⟨rfl, rfl, rfl⟩ hb
theorem spreads_holds : Rows.KnotSpreadsSaid :=
  OpenClaim.holds_of_wide 10 Try.f10 rfl rfl rfl rfl rfl rfl rfl ⟨rfl, rfl, rfl, rfl, rfl⟩ rfl rfl rfl rfl rfl (by kernel_rfl) Try.func10 (by kernel_rfl)
    (of_decide_eq_true (by kernel_rfl)) (by unfold Func.isWrapper; first | (rw [if_pos (by decide +kernel)]; kernel_rfl) | (rw [if_neg (by decide +kernel)]; exact ⟨rfl, rfl⟩))
    (fun os started H enc _ => spreads_holds_lifted os started H enc)
#print axioms spreads_holds
end Go.Proofs.Ytlijcnocahplbaa
