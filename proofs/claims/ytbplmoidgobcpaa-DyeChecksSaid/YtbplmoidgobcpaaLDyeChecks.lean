/- DyeChecks holds: which gifts are right, and their sum. -/
import Derived.Test.YtbplmoidgobcpaaD18
import Derived.Test.YtbplmoidgobcpaaCloseT
namespace Go.Proofs.Ytbplmoidgobcpaa
open Go.RowKit Go.ChangeShapes Go.WideShapes Go.ChangeAt

set_option maxRecDepth 100000 in
set_option maxHeartbeats 8000000 in
theorem l_checks (oa ob og : Option Addr) (n m c d G cG : Nat) (r g gz : List Int) (hr : r.length = n * 4) (hg : g.length = m * 5) (hgz : gz.length = G * 3) (B : Nat) (w0 : World) (hs : HS) (hL : Sl B w0 hs oa r) (hW : Sl B w0 hs ob g) (hS : Sl B w0 hs og gz) : Fn Try.prog 10 #[trd oa ob n m c d, .slice og G cG] B w0 hs (fun v _ => v = .bool true) := by
  have kw := k_wide oa ob n m c d B w0
  have k1 := fun hn hm hG => k_Check n m G r g gz c d cG oa ob og hn hm hG hr hg hgz B w0
  have k2 := fun hn hm hG => r_Check n m G r g gz c d cG oa ob og hn hm hG hr hg hgz B w0
  generalize ckV n m G r g gz = e1 at k1 k2
  generalize ckE n m G r g gz = e2 at k1 k2
  refine fn_enter Try.func10 rfl Try.ntmps10 (by simp) ?_
  repeat' (first | ((with_reducible apply kF 25); refine sC 25 (kw _) ?_) | ((with_reducible apply kF 20); refine sC 20 (k_known B w0 _) ?_) | ((with_reducible apply kF 35); refine sC 35 (k1 (by omega) (by omega) (by omega) _ (hL.sub SBt) (hW.sub SBt) (hS.sub SBt)) ?_) | ((with_reducible apply kF 32); refine sC 32 (k2 (by omega) (by omega) (by omega) _ (hL.sub SBt) (hW.sub SBt) (hS.sub SBt)) ?_) | (with_reducible first | refine c_seq ?_ | refine c_reg ?_ | refine c_region ?_ | refine c_block ?_ | refine c_skip ?_ | refine c_exit ?_ | refine c_ret ?_ | refine s_nil ?_ | refine x_then ?_ | refine x_then_exit ?_ | refine x_then_ret ?_ | refine x_block ?_ | refine x_block_ret ?_ | refine x_block_same ?_ | refine x_block_other (by rfl) ?_ | refine q_nil ?_ | refine k_nil ?_) | ((with_reducible apply kP (.makeFunc _ _ _)); refine sMF ?_) | ((with_reducible apply kG); first | refine gY1 ?_ | refine gN1 ?_ | refine gU1 ?_ | (refine gD1 (fun h => ?_) (fun h => ?_) <;> (try (exfalso; omega))) | refine gB1 (fun h => ?_) (fun h => ?_)) | ((with_reducible apply kN); first | refine stP ?_ | refine stI ?_ | refine st1 ?_ | refine stW ?_) | ((with_reducible apply kP (.alloc _)); refine sA (fun b => ?_)) | ((with_reducible apply kP (.box _ _)); first | refine sBA (fun b => ?_) | refine sB (fun b => ?_)) | ((with_reducible apply kP (.buildSlice _ 1 _)); first | refine sl1A (fun b => ?_) | refine sl1 (fun b => ?_)) | ((with_reducible apply kP (.buildSlice _ 2 _)); refine sl2 (fun b => ?_)) | ((with_reducible apply kP (.buildSlice _ 3 _)); refine sl3 (fun b => ?_)) | ((with_reducible apply kP (.buildSlice _ 4 _)); refine sl4 (fun b => ?_)) | ((with_reducible apply kP (.buildSlice _ 0 _)); refine s_bs0 (scTOf rfl) (zsTOf rfl) (by decide) (fun b => ?_)) | ((with_reducible apply kP (.makeSlice _ _ _)); refine sMk (fun b => ?_)) | ((with_reducible apply kP (.call ⟨.builtin .append, _, _⟩)); refine sAp (fun oa2 c2 blk2 hrow2 => ?_)) | ((with_reducible apply kP _); refine sP ?_) | ((with_reducible apply kP _); refine sX ?_) | ((with_reducible apply kQG); first | refine qY1 ?_ | refine qN1 ?_ | refine qU1 ?_ | (refine qD1 (fun h => ?_) (fun h => ?_) <;> (try (exfalso; omega))) | refine qB1 (fun h => ?_) (fun h => ?_)) | ((with_reducible apply kQP); refine qP ?_) | ((with_reducible apply kQP); refine qX ?_) | ((with_reducible apply kC); first | refine cT ?_ | refine cF ?_ | (refine cI (fun h => ?_) (fun h => ?_) <;> (try (exfalso; omega))) | refine cB (fun h => ?_) (fun h => ?_)) | ((with_reducible apply kR); refine cQ ?_))
  all_goals first
    | exact e_ret1 rfl rfl rfl (.refl _)
    | exact absurd rfl ‹¬ _ = _›
    | trace_state
set_option maxRecDepth 100000 in
theorem checks_holds_lifted (os : Os) (started : os.Started) (H : Type) (enc : TypeId × Value → H) :
    ReturnsInHanded {} Try.checked os 10 .any (Rows.dyeChecksSpec.pre6 enc Try.prog Try.f10 Rows.dyeChecksRow.domain false) (Rows.dyeChecksSpec.post enc Try.prog Try.f10 false true false false) := by
  refine returnsInHanded_of_change (C := Try.checked) ownK started (by kernel_rfl) Try.func10
    (ChangeSpec.witness6 (enc := enc) (C := Try.checked) false ⟨#[], #[.agg #[.slice none 0 0, .slice none 0 0], .slice none 0 0], []⟩ 8 (by kernel_rfl) (by kernel_rfl) (by kernel_rfl) (by kernel_rfl)) ?_
  intro W base args ds gs before hval0 hW hcnd _
  have hval : ∀ (j : Nat) t v, Try.f10.params[j]? = some t → args[j]? = some v → Value.okWide Try.prog W .any base t v := hval0
  have hW' := hW
  obtain ⟨p, q, hA0, hV, rfl, hfz, hnd⟩ := hW
  have hA : DataW.TrodAll enc Try.prog W 0 (fun _ => true) true Try.f10.params.toList args.toList ds p := hA0
  rw [Try.params10] at hA hval
  obtain ⟨v0, v1, d_0, d_1, p_0, p_1, rfl, rfl, rfl, h0, h1⟩ := trodAll_two hA
  obtain ⟨oa0, ob0, n0, m0, c0, d0, r0, g0, rfl, e0, f0, I0, J0, s0, t0⟩ := arg_trade (k := 4) (j := 5) (by kernel_rfl) (hval 0 _ v0 rfl rfl) h0
  obtain ⟨oa1, n1, c1, l1, rfl, e1, m1, g1, I1, s1⟩ := arg_sl (m := 5) (k := 3) (by kernel_rfl) (hval 1 _ v1 rfl rfl) h1
  refine (law_calls (l_checks _ _ _ _ _ _ _ _ _ _ _ _ e0 f0 e1 _ W [] s0 t0 s1)).mono fun e W' ⟨he, hb⟩ => ⟨.bool true, he, ?_⟩
  exact law_post rfl ⟨⟨by kernel_rfl, of_decide_eq_true (by kernel_rfl)⟩, ⟨by kernel_rfl, of_decide_eq_true (by kernel_rfl)⟩, trivial⟩ rfl hW' ⟨rfl, rfl, rfl⟩ hb
theorem checks_holds : Rows.DyeChecksSaid :=
  OpenClaim.holds_of_wide 10 Try.f10 rfl rfl rfl rfl rfl rfl rfl ⟨rfl, rfl, rfl, rfl, rfl⟩ rfl rfl rfl rfl rfl (by kernel_rfl) Try.func10 (by kernel_rfl)
    (of_decide_eq_true (by kernel_rfl)) (by unfold Func.isWrapper; first | (rw [if_pos (by decide +kernel)]; kernel_rfl) | (rw [if_neg (by decide +kernel)]; exact ⟨rfl, rfl⟩))
    (fun os started H enc _ => checks_holds_lifted os started H enc)
#print axioms checks_holds
end Go.Proofs.Ytbplmoidgobcpaa
