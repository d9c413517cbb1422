/- DyeServes holds: the greatest sum of gifts, and gifts that have it. -/
import Derived.Test.YtbplmoidgobcpaaD19
import Derived.Test.YtbplmoidgobcpaaCloseT
namespace Go.Proofs.Ytbplmoidgobcpaa
open Go.RowKit Go.ChangeShapes Go.WideShapes Go.ChangeAt

set_option maxRecDepth 100000 in
set_option maxHeartbeats 8000000 in
theorem l_serves (oa ob : Option Addr) (n m c d : Nat) (r g : List Int) (hr : r.length = n * 4) (hg : g.length = m * 5) (B : Nat) (w0 : World) (hs : HS) (hL : Sl B w0 hs oa r) (hW : Sl B w0 hs ob g) : Fn Try.prog 7 #[trd oa ob n m c d] B w0 hs (fun v _ => v = .bool true) := by
  have kw := k_wide oa ob n m c d B w0
  have k1 := fun hn hm => k_Best n m r g c d oa ob hn hm hr hg B w0
  have k2 := fun hn hm => r_Most n m r g c d oa ob hn hm hr hg B w0
  rw [← bs_mo] at k2
  have k3 := fun og G cG hn hm hG hz => r_Check n m G r g (bsL n m r g) c d cG oa ob og hn hm hG hr hg hz B w0
  have hbad : vlE n m r g ≠ 0 → bsL n m r g = [] := fun h => if_neg h
  have hok : vlE n m r g = 0 → ∀ G, (bsL n m r g).length = G * 3 → ckE n m G r g (bsL n m r g) = 0 ∧ ckV n m G r g (bsL n m r g) = bsS n m r g := fun h G hG => best_right h hG
  by_cases hv : vlE n m r g = 0
  · rw [hv] at k2
    refine fn_enter Try.func7 rfl Try.ntmps7 (by simp) ?_
    repeat' (first | ((with_reducible apply kF 25); refine sC 25 (kw _) ?_) | ((with_reducible apply kF 20); refine sC 20 (k_known B w0 _) ?_) | ((with_reducible apply kF 30); refine sR 30 (k1 (by omega) (by omega) _ (hL.sub SBt) (hW.sub SBt)) ?_; rintro u h' ⟨og, G, cG, blk, rfl, hrow, hlen, hG, rfl⟩; have hS := (Sv.row (B := B) (w0 := w0) hrow).ints; obtain ⟨q1, q2⟩ := hok hv G hlen; have k4 := fun hn hm => k3 og G cG hn hm (by omega) hlen; rw [q1, q2] at k4; rw [hv]) | ((with_reducible apply kF 31); refine sC 31 (k2 (by omega) (by omega) _ (hL.sub SBt) (hW.sub SBt)) ?_) | ((with_reducible apply kF 32); refine sC 32 (k4 (by omega) (by omega) _ (hL.sub SBt) (hW.sub SBt) (hS.sub SBt)) ?_) | (with_reducible first | refine c_seq ?_ | refine c_reg ?_ | refine c_region ?_ | refine c_block ?_ | refine c_skip ?_ | refine c_exit ?_ | refine c_ret ?_ | refine s_nil ?_ | refine x_then ?_ | refine x_then_exit ?_ | refine x_then_ret ?_ | refine x_block ?_ | refine x_block_ret ?_ | refine x_block_same ?_ | refine x_block_other (by rfl) ?_ | refine q_nil ?_ | refine k_nil ?_) | ((with_reducible apply kP (.makeFunc _ _ _)); refine sMF ?_) | ((with_reducible apply kG); first | refine gY1 ?_ | refine gN1 ?_ | refine gU1 ?_ | (refine gD1 (fun h => ?_) (fun h => ?_) <;> (try (exfalso; omega))) | refine gB1 (fun h => ?_) (fun h => ?_)) | ((with_reducible apply kN); first | refine stP ?_ | refine stI ?_ | refine st1 ?_ | refine stW ?_) | ((with_reducible apply kP (.alloc _)); refine sA (fun b => ?_)) | ((with_reducible apply kP (.box _ _)); first | refine sBA (fun b => ?_) | refine sB (fun b => ?_)) | ((with_reducible apply kP (.buildSlice _ 1 _)); first | refine sl1A (fun b => ?_) | refine sl1 (fun b => ?_)) | ((with_reducible apply kP (.buildSlice _ 2 _)); refine sl2 (fun b => ?_)) | ((with_reducible apply kP (.buildSlice _ 3 _)); refine sl3 (fun b => ?_)) | ((with_reducible apply kP (.buildSlice _ 4 _)); refine sl4 (fun b => ?_)) | ((with_reducible apply kP (.buildSlice _ 0 _)); refine s_bs0 (scTOf rfl) (zsTOf rfl) (by decide) (fun b => ?_)) | ((with_reducible apply kP (.makeSlice _ _ _)); refine sMk (fun b => ?_)) | ((with_reducible apply kP (.call ⟨.builtin .append, _, _⟩)); refine sAp (fun oa2 c2 blk2 hrow2 => ?_)) | ((with_reducible apply kP _); refine sP ?_) | ((with_reducible apply kP _); refine sX ?_) | ((with_reducible apply kQG); first | refine qY1 ?_ | refine qN1 ?_ | refine qU1 ?_ | (refine qD1 (fun h => ?_) (fun h => ?_) <;> (try (exfalso; omega))) | refine qB1 (fun h => ?_) (fun h => ?_)) | ((with_reducible apply kQP); refine qP ?_) | ((with_reducible apply kQP); refine qX ?_) | ((with_reducible apply kC); first | refine cT ?_ | refine cF ?_ | (refine cI (fun h => ?_) (fun h => ?_) <;> (try (exfalso; omega))) | refine cB (fun h => ?_) (fun h => ?_)) | ((with_reducible apply kR); refine cQ ?_))
    all_goals first
      | exact e_ret1 rfl rfl rfl SCt
      | exact absurd rfl ‹¬ _ = _›
      | exact absurd rfl ‹_ ≠ _›
      | trace_state
  · rw [hbad hv] at k3
    refine fn_enter Try.func7 rfl Try.ntmps7 (by simp) ?_
    repeat' (first | ((with_reducible apply kF 25); refine sC 25 (kw _) ?_) | ((with_reducible apply kF 20); refine sC 20 (k_known B w0 _) ?_) | ((with_reducible apply kF 30); refine sR 30 (k1 (by omega) (by omega) _ (hL.sub SBt) (hW.sub SBt)) ?_; rintro u h' ⟨og, G, cG, blk, rfl, hrow, hlen, hG, rfl⟩; rw [hbad hv] at hlen; obtain rfl : G = 0 := by simp at hlen; omega) | ((with_reducible apply kF 31); refine sC 31 (k2 (by omega) (by omega) _ (hL.sub SBt) (hW.sub SBt)) ?_) | (with_reducible first | refine c_seq ?_ | refine c_reg ?_ | refine c_region ?_ | refine c_block ?_ | refine c_skip ?_ | refine c_exit ?_ | refine c_ret ?_ | refine s_nil ?_ | refine x_then ?_ | refine x_then_exit ?_ | refine x_then_ret ?_ | refine x_block ?_ | refine x_block_ret ?_ | refine x_block_same ?_ | refine x_block_other (by rfl) ?_ | refine q_nil ?_ | refine k_nil ?_) | ((with_reducible apply kP (.makeFunc _ _ _)); refine sMF ?_) | ((with_reducible apply kG); first | refine gY1 ?_ | refine gN1 ?_ | refine gU1 ?_ | (refine gD1 (fun h => ?_) (fun h => ?_) <;> (try (exfalso; omega))) | refine gB1 (fun h => ?_) (fun h => ?_)) | ((with_reducible apply kN); first | refine stP ?_ | refine stI ?_ | refine st1 ?_ | refine stW ?_) | ((with_reducible apply kP (.alloc _)); refine sA (fun b => ?_)) | ((with_reducible apply kP (.box _ _)); first | refine sBA (fun b => ?_) | refine sB (fun b => ?_)) | ((with_reducible apply kP (.buildSlice _ 1 _)); first | refine sl1A (fun b => ?_) | refine sl1 (fun b => ?_)) | ((with_reducible apply kP (.buildSlice _ 2 _)); refine sl2 (fun b => ?_)) | ((with_reducible apply kP (.buildSlice _ 3 _)); refine sl3 (fun b => ?_)) | ((with_reducible apply kP (.buildSlice _ 4 _)); refine sl4 (fun b => ?_)) | ((with_reducible apply kP (.buildSlice _ 0 _)); refine s_bs0 (scTOf rfl) (zsTOf rfl) (by decide) (fun b => ?_)) | ((with_reducible apply kP (.makeSlice _ _ _)); refine sMk (fun b => ?_)) | ((with_reducible apply kP (.call ⟨.builtin .append, _, _⟩)); refine sAp (fun oa2 c2 blk2 hrow2 => ?_)) | ((with_reducible apply kP _); refine sP ?_) | ((with_reducible apply kP _); refine sX ?_) | ((with_reducible apply kQG); first | refine qY1 ?_ | refine qN1 ?_ | refine qU1 ?_ | (refine qD1 (fun h => ?_) (fun h => ?_) <;> (try (exfalso; omega))) | refine qB1 (fun h => ?_) (fun h => ?_)) | ((with_reducible apply kQP); refine qP ?_) | ((with_reducible apply kQP); refine qX ?_) | ((with_reducible apply kC); first | refine cT ?_ | refine cF ?_ | (refine cI (fun h => ?_) (fun h => ?_) <;> (try (exfalso; omega))) | refine cB (fun h => ?_) (fun h => ?_)) | ((with_reducible apply kR); refine cQ ?_))
    all_goals first
      | exact e_ret1 rfl rfl rfl SCt
      | exact absurd rfl ‹¬ _ = _›
      | exact absurd rfl ‹_ ≠ _›
      | (exfalso; omega)
      | trace_state
set_option maxRecDepth 100000 in
theorem serves_holds_lifted (os : Os) (started : os.Started) (H : Type) (enc : TypeId × Value → H) :
    ReturnsInHanded {} Try.checked os 7 .any (Rows.dyeServesSpec.pre6 enc Try.prog Try.f7 Rows.dyeServesRow.domain false) (Rows.dyeServesSpec.post enc Try.prog Try.f7 false true false false) := by
  refine returnsInHanded_of_change (C := Try.checked) ownK started (by kernel_rfl) Try.func7
    (ChangeSpec.witness6 (enc := enc) (C := Try.checked) false ⟨#[], #[.agg #[.slice none 0 0, .slice none 0 0]], []⟩ 8 (by kernel_rfl) (by kernel_rfl) (by kernel_rfl) (by kernel_rfl)) ?_
  intro W base args ds gs before hval0 hW hcnd _
  have hval : ∀ (j : Nat) t v, Try.f7.params[j]? = some t → args[j]? = some v → Value.okWide Try.prog W .any base t v := hval0
  have hW' := hW
  obtain ⟨p, q, hA0, hV, rfl, hfz, hnd⟩ := hW
  have hA : DataW.TrodAll enc Try.prog W 0 (fun _ => true) true Try.f7.params.toList args.toList ds p := hA0
  rw [Try.params7] at hA hval
  obtain ⟨v0, d_0, rfl, rfl, h0⟩ := trodAll_one hA
  obtain ⟨oa0, ob0, n0, m0, c0, d0, r0, g0, rfl, e0, f0, I0, J0, s0, t0⟩ := arg_trade (k := 4) (j := 5) (by kernel_rfl) (hval 0 _ v0 rfl rfl) h0
  refine (law_calls (l_serves _ _ _ _ _ _ _ _ e0 f0 _ W [] s0 t0)).mono fun e W' ⟨he, hb⟩ => ⟨.bool true, he, ?_⟩
  exact law_post rfl ⟨⟨by kernel_rfl, of_decide_eq_true (by kernel_rfl)⟩, trivial⟩ rfl hW' ⟨rfl, rfl, rfl⟩ hb
theorem serves_holds : Rows.DyeServesSaid :=
  OpenClaim.holds_of_wide 7 Try.f7 rfl rfl rfl rfl rfl rfl rfl ⟨rfl, rfl, rfl, rfl, rfl⟩ rfl rfl rfl rfl rfl (by kernel_rfl) Try.func7 (by kernel_rfl)
    (of_decide_eq_true (by kernel_rfl)) (by unfold Func.isWrapper; first | (rw [if_pos (by decide +kernel)]; kernel_rfl) | (rw [if_neg (by decide +kernel)]; exact ⟨rfl, rfl⟩))
    (fun os started H enc _ => serves_holds_lifted os started H enc)
#print axioms serves_holds
end Go.Proofs.Ytbplmoidgobcpaa
