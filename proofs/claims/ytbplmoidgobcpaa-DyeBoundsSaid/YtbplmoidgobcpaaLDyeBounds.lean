/- DyeBounds holds: the bound of a set of wants, and a set with the least one. -/
import Derived.Test.YtbplmoidgobcpaaD23
import Derived.Test.YtbplmoidgobcpaaCloseT
namespace Go.Proofs.Ytbplmoidgobcpaa
open Go.RowKit Go.ChangeShapes Go.WideShapes Go.ChangeAt

set_option maxRecDepth 100000 in
set_option maxHeartbeats 8000000 in
theorem l_bounds (oa ob og : Option Addr) (n m c d G cG : Nat) (r g sz : List Int) (hr : r.length = n * 4) (hg : g.length = m * 5) (hsz : sz.length = G) (B : Nat) (w0 : World) (hs : HS) (hL : Sl B w0 hs oa r) (hW : Sl B w0 hs ob g) (hS : Sl B w0 hs og sz) : Fn Try.prog 11 #[trd oa ob n m c d, .slice og G cG] B w0 hs (fun v _ => v = .bool true) := by
  have kw := k_wide oa ob n m c d B w0
  have k1 := fun hn hm hG => k_Bound n m G r g sz c d cG oa ob og hn hm hG hr hg hsz B w0
  have k2 := fun hn hm hG => r_Bound n m G r g sz c d cG oa ob og hn hm hG hr hg hsz B w0
  generalize boV n m G r g sz = e1 at k1 k2
  generalize boE n m G r g sz = e2 at k1 k2
  have k3 := fun hn hm => k_Lack n m r g c d oa ob hn hm hr hg B w0
  have k4 := fun hn hm => r_Most n m r g c d oa ob hn hm hr hg B w0
  rw [← bs_mo] at k4
  have k5 := fun o3 c3 l n3 hn hm hG hz => r_Bound n m n3 r g l c d c3 oa ob o3 hn hm hG hr hg hz B w0
  by_cases hv : vlE n m r g = 0
  · rw [hv] at k4
    refine fn_enter Try.func11 rfl Try.ntmps11 (by simp) ?_
    repeat' (first | ((with_reducible apply kF 25); refine sC 25 (kw _) ?_) | ((with_reducible apply kF 20); refine sC 20 (k_known B w0 _) ?_) | ((with_reducible apply kF 36); refine sC 36 (k1 (by omega) (by omega) (by omega) _ (hL.sub SBt) (hW.sub SBt) (hS.sub SBt)) ?_) | ((with_reducible apply kF 37); refine sC 37 (k2 (by omega) (by omega) (by omega) _ (hL.sub SBt) (hW.sub SBt) (hS.sub SBt)) ?_) | ((with_reducible apply kF 38); refine sR 38 (k3 (by omega) (by omega) _ (hL.sub SBt) (hW.sub SBt)) ?_; rintro u h' ⟨o3, n3, c3, blk, l, rfl, hlen, hn3, hSl, rfl, hok, _⟩; obtain ⟨q1, q2⟩ := hok hv; have k6 := fun hn hm => k5 o3 c3 l n3 hn hm (by omega) hlen; rw [q1, q2] at k6; rw [hv]) | ((with_reducible apply kF 31); refine sC 31 (k4 (by omega) (by omega) _ (hL.sub SBt) (hW.sub SBt)) ?_) | ((with_reducible apply kF 37); refine sC 37 (k6 (by omega) (by omega) _ (hL.sub SBt) (hW.sub SBt) (hSl.sub SBt)) ?_) | (with_reducible first | refine c_seq ?_ | refine c_reg ?_ | refine c_region ?_ | refine c_block ?_ | refine c_skip ?_ | refine c_exit ?_ | refine c_ret ?_ | refine s_nil ?_ | refine x_then ?_ | refine x_then_exit ?_ | refine x_then_ret ?_ | refine x_block ?_ | refine x_block_ret ?_ | refine x_block_same ?_ | refine x_block_other (by rfl) ?_ | refine q_nil ?_ | refine k_nil ?_) | ((with_reducible apply kP (.makeFunc _ _ _)); refine sMF ?_) | ((with_reducible apply kG); first | refine gY1 ?_ | refine gN1 ?_ | refine gU1 ?_ | (refine gD1 (fun h => ?_) (fun h => ?_) <;> (try (exfalso; omega))) | refine gB1 (fun h => ?_) (fun h => ?_)) | ((with_reducible apply kN); first | refine stP ?_ | refine stI ?_ | refine st1 ?_ | refine stW ?_) | ((with_reducible apply kP (.alloc _)); refine sA (fun b => ?_)) | ((with_reducible apply kP (.box _ _)); first | refine sBA (fun b => ?_) | refine sB (fun b => ?_)) | ((with_reducible apply kP (.buildSlice _ 1 _)); first | refine sl1A (fun b => ?_) | refine sl1 (fun b => ?_)) | ((with_reducible apply kP (.buildSlice _ 2 _)); refine sl2 (fun b => ?_)) | ((with_reducible apply kP (.buildSlice _ 3 _)); refine sl3 (fun b => ?_)) | ((with_reducible apply kP (.buildSlice _ 4 _)); refine sl4 (fun b => ?_)) | ((with_reducible apply kP (.buildSlice _ 0 _)); refine s_bs0 (scTOf rfl) (zsTOf rfl) (by decide) (fun b => ?_)) | ((with_reducible apply kP (.makeSlice _ _ _)); refine sMk (fun b => ?_)) | ((with_reducible apply kP (.call ⟨.builtin .append, _, _⟩)); refine sAp (fun oa2 c2 blk2 hrow2 => ?_)) | ((with_reducible apply kP _); refine sP ?_) | ((with_reducible apply kP _); refine sX ?_) | ((with_reducible apply kQG); first | refine qY1 ?_ | refine qN1 ?_ | refine qU1 ?_ | (refine qD1 (fun h => ?_) (fun h => ?_) <;> (try (exfalso; omega))) | refine qB1 (fun h => ?_) (fun h => ?_)) | ((with_reducible apply kQP); refine qP ?_) | ((with_reducible apply kQP); refine qX ?_) | ((with_reducible apply kC); first | refine cT ?_ | refine cF ?_ | (refine cI (fun h => ?_) (fun h => ?_) <;> (try (exfalso; omega))) | refine cB (fun h => ?_) (fun h => ?_)) | ((with_reducible apply kR); refine cQ ?_))
    all_goals first
      | exact e_ret1 rfl rfl rfl SCt
      | exact absurd rfl ‹¬ _ = _›
      | exact absurd rfl ‹_ ≠ _›
      | trace_state
  · refine fn_enter Try.func11 rfl Try.ntmps11 (by simp) ?_
    repeat' (first | ((with_reducible apply kF 25); refine sC 25 (kw _) ?_) | ((with_reducible apply kF 20); refine sC 20 (k_known B w0 _) ?_) | ((with_reducible apply kF 36); refine sC 36 (k1 (by omega) (by omega) (by omega) _ (hL.sub SBt) (hW.sub SBt) (hS.sub SBt)) ?_) | ((with_reducible apply kF 37); refine sC 37 (k2 (by omega) (by omega) (by omega) _ (hL.sub SBt) (hW.sub SBt) (hS.sub SBt)) ?_) | ((with_reducible apply kF 38); refine sR 38 (k3 (by omega) (by omega) _ (hL.sub SBt) (hW.sub SBt)) ?_; rintro u h' ⟨o3, n3, c3, blk, l, rfl, hlen, hn3, hSl, rfl, _, hno⟩; obtain rfl := hno hv) | ((with_reducible apply kF 31); refine sC 31 (k4 (by omega) (by omega) _ (hL.sub SBt) (hW.sub SBt)) ?_) | (with_reducible first | refine c_seq ?_ | refine c_reg ?_ | refine c_region ?_ | refine c_block ?_ | refine c_skip ?_ | refine c_exit ?_ | refine c_ret ?_ | refine s_nil ?_ | refine x_then ?_ | refine x_then_exit ?_ | refine x_then_ret ?_ | refine x_block ?_ | refine x_block_ret ?_ | refine x_block_same ?_ | refine x_block_other (by rfl) ?_ | refine q_nil ?_ | refine k_nil ?_) | ((with_reducible apply kP (.makeFunc _ _ _)); refine sMF ?_) | ((with_reducible apply kG); first | refine gY1 ?_ | refine gN1 ?_ | refine gU1 ?_ | (refine gD1 (fun h => ?_) (fun h => ?_) <;> (try (exfalso; omega))) | refine gB1 (fun h => ?_) (fun h => ?_)) | ((with_reducible apply kN); first | refine stP ?_ | refine stI ?_ | refine st1 ?_ | refine stW ?_) | ((with_reducible apply kP (.alloc _)); refine sA (fun b => ?_)) | ((with_reducible apply kP (.box _ _)); first | refine sBA (fun b => ?_) | refine sB (fun b => ?_)) | ((with_reducible apply kP (.buildSlice _ 1 _)); first | refine sl1A (fun b => ?_) | refine sl1 (fun b => ?_)) | ((with_reducible apply kP (.buildSlice _ 2 _)); refine sl2 (fun b => ?_)) | ((with_reducible apply kP (.buildSlice _ 3 _)); refine sl3 (fun b => ?_)) | ((with_reducible apply kP (.buildSlice _ 4 _)); refine sl4 (fun b => ?_)) | ((with_reducible apply kP (.buildSlice _ 0 _)); refine s_bs0 (scTOf rfl) (zsTOf rfl) (by decide) (fun b => ?_)) | ((with_reducible apply kP (.makeSlice _ _ _)); refine sMk (fun b => ?_)) | ((with_reducible apply kP (.call ⟨.builtin .append, _, _⟩)); refine sAp (fun oa2 c2 blk2 hrow2 => ?_)) | ((with_reducible apply kP _); refine sP ?_) | ((with_reducible apply kP _); refine sX ?_) | ((with_reducible apply kQG); first | refine qY1 ?_ | refine qN1 ?_ | refine qU1 ?_ | (refine qD1 (fun h => ?_) (fun h => ?_) <;> (try (exfalso; omega))) | refine qB1 (fun h => ?_) (fun h => ?_)) | ((with_reducible apply kQP); refine qP ?_) | ((with_reducible apply kQP); refine qX ?_) | ((with_reducible apply kC); first | refine cT ?_ | refine cF ?_ | (refine cI (fun h => ?_) (fun h => ?_) <;> (try (exfalso; omega))) | refine cB (fun h => ?_) (fun h => ?_)) | ((with_reducible apply kR); refine cQ ?_))
    all_goals first
      | exact e_ret1 rfl rfl rfl SCt
      | exact absurd rfl ‹¬ _ = _›
      | exact absurd rfl ‹_ ≠ _›
      | (exfalso; omega)
      | trace_state
set_option maxRecDepth 100000 in
theorem bounds_holds_lifted (os : Os) (started : os.Started) (H : Type) (enc : TypeId × Value → H) :
    ReturnsInHanded {} Try.checked os 11 .any (Rows.dyeBoundsSpec.pre6 enc Try.prog Try.f11 Rows.dyeBoundsRow.domain false) (Rows.dyeBoundsSpec.post enc Try.prog Try.f11 false true false false) := by
  refine returnsInHanded_of_change (C := Try.checked) ownK started (by kernel_rfl) Try.func11
    (ChangeSpec.witness6 (enc := enc) (C := Try.checked) false ⟨#[], #[.agg #[.slice none 0 0, .slice none 0 0], .slice none 0 0], []⟩ 8 (by kernel_rfl) (by kernel_rfl) (by kernel_rfl) (by kernel_rfl)) ?_
  intro W base args ds gs before hval0 hW hcnd _
  have hval : ∀ (j : Nat) t v, Try.f11.params[j]? = some t → args[j]? = some v → Value.okWide Try.prog W .any base t v := hval0
  have hW' := hW
  obtain ⟨p, q, hA0, hV, rfl, hfz, hnd⟩ := hW
  have hA : DataW.TrodAll enc Try.prog W 0 (fun _ => true) true Try.f11.params.toList args.toList ds p := hA0
  rw [Try.params11] at hA hval
  obtain ⟨v0, v1, d_0, d_1, p_0, p_1, rfl, rfl, rfl, h0, h1⟩ := trodAll_two hA
  obtain ⟨oa0, ob0, n0, m0, c0, d0, r0, g0, rfl, e0, f0, I0, J0, s0, t0⟩ := arg_trade (k := 4) (j := 5) (by kernel_rfl) (hval 0 _ v0 rfl rfl) h0
  obtain ⟨oa1, n1, c1, l1, rfl, e1, m1, g1, I1, s1⟩ := arg_sl (m := 5) (k := 1) (by kernel_rfl) (hval 1 _ v1 rfl rfl) h1
  refine (law_calls (by rw [Nat.mul_one] at e1; exact l_bounds _ _ _ _ _ _ _ _ _ _ _ _ e0 f0 e1 _ W [] s0 t0 s1)).mono fun e W' ⟨he, hb⟩ => ⟨.bool true, he, ?_⟩
  exact law_post rfl ⟨⟨by kernel_rfl, of_decide_eq_true (by kernel_rfl)⟩, ⟨by kernel_rfl, of_decide_eq_true (by kernel_rfl)⟩, trivial⟩ rfl hW' ⟨rfl, rfl, rfl⟩ hb
theorem bounds_holds : Rows.DyeBoundsSaid :=
  OpenClaim.holds_of_wide 11 Try.f11 rfl rfl rfl rfl rfl rfl rfl ⟨rfl, rfl, rfl, rfl, rfl⟩ rfl rfl rfl rfl rfl (by kernel_rfl) Try.func11 (by kernel_rfl)
    (of_decide_eq_true (by kernel_rfl)) (by unfold Func.isWrapper; first | (rw [if_pos (by decide +kernel)]; kernel_rfl) | (rw [if_neg (by decide +kernel)]; exact ⟨rfl, rfl⟩))
    (fun os started H enc _ => bounds_holds_lifted os started H enc)
#print axioms bounds_holds
end Go.Proofs.Ytbplmoidgobcpaa
