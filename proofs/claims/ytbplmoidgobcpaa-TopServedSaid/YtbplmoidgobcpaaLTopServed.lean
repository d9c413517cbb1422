/- TopServed holds: no gifts serve more than any bound, the best ones meet one, and baths are shortest. -/
import Derived.Test.YtbplmoidgobcpaaD25
import Derived.Test.YtbplmoidgobcpaaD26
import Derived.Test.YtbplmoidgobcpaaD18
import Derived.Test.YtbplmoidgobcpaaCloseT
namespace Go.Proofs.Ytbplmoidgobcpaa
open Go.RowKit Go.ChangeShapes Go.WideShapes Go.ChangeAt

set_option maxRecDepth 100000 in
set_option maxHeartbeats 8000000 in
theorem l_served (oa ob og os op : Option Addr) (n m c d G cG Z cZ Q cap3 : Nat) (r g gz sz bz : List Int) (hr : r.length = n * 4) (hg : g.length = m * 5) (hgz : gz.length = G * 3) (hsz : sz.length = Z) (hbz : bz.length = Q * 2) (B : Nat) (w0 : World) (hs : HS) (hL : Sl B w0 hs oa r) (hW : Sl B w0 hs ob g) (hG : Sl B w0 hs og gz) (hZ : Sl B w0 hs os sz) (hQ : Sl B w0 hs op bz) :
    Fn Try.prog 13 #[trd oa ob n m c d, .agg #[.slice og G cG, .slice os Z cZ], .slice op Q cap3] B w0 hs (fun v _ => v = .bool true) := by
  have ka := k_bleach 5 0 0 B w0
  have e0 : blV 5 0 0 = .agg #[iv 7, iv 0, iv 1] := by rfl
  have e1 : blE 5 0 0 = 0 := by decide
  rw [e0, e1] at ka
  have ksh := k_shortest 5 0 0 bz op Q cap3 hbz (by decide) B w0
  unfold shd at ka ksh
  have k1 := fun hn hm => k_Best n m r g c d oa ob hn hm hr hg B w0
  have k2 := fun hn hm hG => k_Check n m G r g gz c d cG oa ob og hn hm hG hr hg hgz B w0
  have k3 := fun hn hm => k_Lack n m r g c d oa ob hn hm hr hg B w0
  have k4 := fun hn hm hG => k_Bound n m Z r g sz c d cZ oa ob os hn hm hG hr hg hsz B w0
  have k5 := fun o3 c3 l n3 hn hm hG hz => k_Bound n m n3 r g l c d c3 oa ob o3 hn hm hG hr hg hz B w0
  have q3 := gifts_best (N := n) (M := m) (G := G) (lz := r) (wz := g) (gz := gz)
  have q4 := best_bound (N := n) (M := m) (G := Z) (lz := r) (wz := g) (sz := sz)
  by_cases hv : vlE n m r g = 0
  · generalize ckV n m G r g gz = x1 at k2 q3
    generalize ckE n m G r g gz = x2 at k2 q3
    generalize boV n m Z r g sz = x3 at k4 q4
    generalize boE n m Z r g sz = x4 at k4 q4
    refine fn_enter Try.func13 rfl Try.ntmps13 (by simp) ?_
    repeat' (first | ((with_reducible apply kP (.build 23 #[(0, _)])); refine sP ?_ (o_bldI0 (a := _) rfl (zcTOf rfl) (plTOf rfl))) | ((with_reducible apply kF 14); refine sC 14 (ka _) ?_) | ((with_reducible apply kF 42); refine sC 42 (ksh _ (hQ.sub SBt)) ?_) | ((with_reducible apply kF 30); refine sR 30 (k1 (by omega) (by omega) _ (hL.sub SBt) (hW.sub SBt)) ?_; rintro u h' ⟨o2, n2, c2, blk2, rfl, _, _, _, rfl⟩; rw [hv]) | ((with_reducible apply kF 38); refine sR 38 (k3 (by omega) (by omega) _ (hL.sub SBt) (hW.sub SBt)) ?_; rintro u h' ⟨o3, n3, c3, blk, l, rfl, hlen, hn3, hSl, rfl, hok, _⟩; obtain ⟨q1, q2⟩ := hok hv; have k6 := fun hn hm => k5 o3 c3 l n3 hn hm (by omega) hlen; rw [q1, q2] at k6; rw [hv]) | ((with_reducible apply kF 36); refine sC 36 (k6 (by omega) (by omega) _ (hL.sub SBt) (hW.sub SBt) (hSl.sub SBt)) ?_) | ((with_reducible apply kF 36); refine sC 36 (k4 (by omega) (by omega) (by omega) _ (hL.sub SBt) (hW.sub SBt) (hZ.sub SBt)) ?_) | ((with_reducible apply kF 35); refine sC 35 (k2 (by omega) (by omega) (by omega) _ (hL.sub SBt) (hW.sub SBt) (hG.sub SBt)) ?_) | (with_reducible first | refine c_seq ?_ | refine c_reg ?_ | refine c_region ?_ | refine c_block ?_ | refine c_skip ?_ | refine c_exit ?_ | refine c_ret ?_ | refine s_nil ?_ | refine x_then ?_ | refine x_then_exit ?_ | refine x_then_ret ?_ | refine x_block ?_ | refine x_block_ret ?_ | refine x_block_same ?_ | refine x_block_other (by rfl) ?_ | refine q_nil ?_ | refine k_nil ?_) | ((with_reducible apply kP (.makeFunc _ _ _)); refine sMF ?_) | ((with_reducible apply kG); first | refine gY1 ?_ | refine gN1 ?_ | refine gU1 ?_ | (refine gD1 (fun h => ?_) (fun h => ?_) <;> (try (exfalso; omega))) | refine gB1 (fun h => ?_) (fun h => ?_)) | ((with_reducible apply kN); first | refine stP ?_ | refine stI ?_ | refine st1 ?_ | refine stW ?_) | ((with_reducible apply kP (.alloc _)); refine sA (fun b => ?_)) | ((with_reducible apply kP (.box _ _)); first | refine sBA (fun b => ?_) | refine sB (fun b => ?_)) | ((with_reducible apply kP (.buildSlice _ 1 _)); first | refine sl1A (fun b => ?_) | refine sl1 (fun b => ?_)) | ((with_reducible apply kP (.buildSlice _ 2 _)); refine sl2 (fun b => ?_)) | ((with_reducible apply kP (.buildSlice _ 3 _)); refine sl3 (fun b => ?_)) | ((with_reducible apply kP (.buildSlice _ 4 _)); refine sl4 (fun b => ?_)) | ((with_reducible apply kP (.buildSlice _ 0 _)); refine s_bs0 (scTOf rfl) (zsTOf rfl) (by decide) (fun b => ?_)) | ((with_reducible apply kP (.makeSlice _ _ _)); refine sMk (fun b => ?_)) | ((with_reducible apply kP (.call ⟨.builtin .append, _, _⟩)); refine sAp (fun oa2 c2 blk2 hrow2 => ?_)) | ((with_reducible apply kP _); refine sP ?_) | ((with_reducible apply kP _); refine sX ?_) | ((with_reducible apply kQG); first | refine qY1 ?_ | refine qN1 ?_ | refine qU1 ?_ | (refine qD1 (fun h => ?_) (fun h => ?_) <;> (try (exfalso; omega))) | refine qB1 (fun h => ?_) (fun h => ?_)) | ((with_reducible apply kQP); refine qP ?_) | ((with_reducible apply kQP); refine qX ?_) | ((with_reducible apply kC); first | refine cT ?_ | refine cF ?_ | (refine cI (fun h => ?_) (fun h => ?_) <;> (try (exfalso; omega))) | refine cB (fun h => ?_) (fun h => ?_)) | ((with_reducible apply kR); refine cQ ?_))
    all_goals first
      | exact e_ret1 rfl rfl rfl SCt
      | exact e_ret1 rfl rfl (congrArg Value.bool (decide_eq_true (q3 (by omega)))) SCt
      | exact absurd rfl ‹¬ _ = _›
      | exact absurd rfl ‹_ ≠ _›
      | (exfalso; omega)
      | (exfalso; have := q4 (by omega); omega)
      | trace_state
  · obtain ⟨b1, b2⟩ := ck_bad (G := G) (gz := gz) hv
    rw [b1, b2] at k2
    refine fn_enter Try.func13 rfl Try.ntmps13 (by simp) ?_
    repeat' (first | ((with_reducible apply kP (.build 23 #[(0, _)])); refine sP ?_ (o_bldI0 (a := _) rfl (zcTOf rfl) (plTOf rfl))) | ((with_reducible apply kF 14); refine sC 14 (ka _) ?_) | ((with_reducible apply kF 42); refine sC 42 (ksh _ (hQ.sub SBt)) ?_) | ((with_reducible apply kF 30); refine sR 30 (k1 (by omega) (by omega) _ (hL.sub SBt) (hW.sub SBt)) ?_; rintro u h' ⟨o2, n2, c2, blk2, rfl, _, _, _, rfl⟩) | ((with_reducible apply kF 35); refine sC 35 (k2 (by omega) (by omega) (by omega) _ (hL.sub SBt) (hW.sub SBt) (hG.sub SBt)) ?_) | (with_reducible first | refine c_seq ?_ | refine c_reg ?_ | refine c_region ?_ | refine c_block ?_ | refine c_skip ?_ | refine c_exit ?_ | refine c_ret ?_ | refine s_nil ?_ | refine x_then ?_ | refine x_then_exit ?_ | refine x_then_ret ?_ | refine x_block ?_ | refine x_block_ret ?_ | refine x_block_same ?_ | refine x_block_other (by rfl) ?_ | refine q_nil ?_ | refine k_nil ?_) | ((with_reducible apply kP (.makeFunc _ _ _)); refine sMF ?_) | ((with_reducible apply kG); first | refine gY1 ?_ | refine gN1 ?_ | refine gU1 ?_ | (refine gD1 (fun h => ?_) (fun h => ?_) <;> (try (exfalso; omega))) | refine gB1 (fun h => ?_) (fun h => ?_)) | ((with_reducible apply kN); first | refine stP ?_ | refine stI ?_ | refine st1 ?_ | refine stW ?_) | ((with_reducible apply kP (.alloc _)); refine sA (fun b => ?_)) | ((with_reducible apply kP (.box _ _)); first | refine sBA (fun b => ?_) | refine sB (fun b => ?_)) | ((with_reducible apply kP (.buildSlice _ 1 _)); first | refine sl1A (fun b => ?_) | refine sl1 (fun b => ?_)) | ((with_reducible apply kP (.buildSlice _ 2 _)); refine sl2 (fun b => ?_)) | ((with_reducible apply kP (.buildSlice _ 3 _)); refine sl3 (fun b => ?_)) | ((with_reducible apply kP (.buildSlice _ 4 _)); refine sl4 (fun b => ?_)) | ((with_reducible apply kP (.buildSlice _ 0 _)); refine s_bs0 (scTOf rfl) (zsTOf rfl) (by decide) (fun b => ?_)) | ((with_reducible apply kP (.makeSlice _ _ _)); refine sMk (fun b => ?_)) | ((with_reducible apply kP (.call ⟨.builtin .append, _, _⟩)); refine sAp (fun oa2 c2 blk2 hrow2 => ?_)) | ((with_reducible apply kP _); refine sP ?_) | ((with_reducible apply kP _); refine sX ?_) | ((with_reducible apply kQG); first | refine qY1 ?_ | refine qN1 ?_ | refine qU1 ?_ | (refine qD1 (fun h => ?_) (fun h => ?_) <;> (try (exfalso; omega))) | refine qB1 (fun h => ?_) (fun h => ?_)) | ((with_reducible apply kQP); refine qP ?_) | ((with_reducible apply kQP); refine qX ?_) | ((with_reducible apply kC); first | refine cT ?_ | refine cF ?_ | (refine cI (fun h => ?_) (fun h => ?_) <;> (try (exfalso; omega))) | refine cB (fun h => ?_) (fun h => ?_)) | ((with_reducible apply kR); refine cQ ?_))
    all_goals first
      | exact e_ret1 rfl rfl rfl SCt
      | exact e_ret1 rfl rfl (congrArg Value.bool (decide_eq_true rfl)) SCt
      | exact absurd rfl ‹¬ _ = _›
      | exact absurd rfl ‹_ ≠ _›
      | (exfalso; omega)
      | trace_state
set_option maxRecDepth 100000 in
theorem served_holds_lifted (os : Os) (started : os.Started) (H : Type) (enc : TypeId × Value → H) :
    ReturnsInHanded {} Try.checked os 13 .any (Rows.topServedSpec.pre6 enc Try.prog Try.f13 Rows.topServedRow.domain false) (Rows.topServedSpec.post enc Try.prog Try.f13 false true false false) := by
  refine returnsInHanded_of_change (C := Try.checked) ownK started (by kernel_rfl) Try.func13
    (ChangeSpec.witness6 (enc := enc) (C := Try.checked) false ⟨#[], #[.agg #[.slice none 0 0, .slice none 0 0], .agg #[.slice none 0 0, .slice none 0 0], .slice none 0 0], []⟩ 8 (by kernel_rfl) (by kernel_rfl) (by kernel_rfl) (by kernel_rfl)) ?_
  intro W base args ds gs before hval0 hW hcnd _
  have hval : ∀ (j : Nat) t v, Try.f13.params[j]? = some t → args[j]? = some v → Value.okWide Try.prog W .any base t v := hval0
  have hW' := hW
  obtain ⟨p, q, hA0, hV, rfl, hfz, hnd⟩ := hW
  have hA : DataW.TrodAll enc Try.prog W 0 (fun _ => true) true Try.f13.params.toList args.toList ds p := hA0
  rw [Try.params13] at hA hval
  obtain ⟨v0, v1, v2, d_0, d_1, d_2, p_0, p_1, p_2, rfl, rfl, rfl, h0, h1, h2⟩ := trodAll_three hA
  obtain ⟨oa0, ob0, n0, m0, c0, d0, r0, g0, rfl, e0, f0, I0, J0, s0, t0⟩ := arg_trade (k := 4) (j := 5) (by kernel_rfl) (hval 0 _ v0 rfl rfl) h0
  obtain ⟨oa1, ob1, n1, m1, c1, d1, r1, g1, rfl, e1, f1, I1, J1, s1, t1⟩ := arg_trade (k := 3) (j := 1) (by kernel_rfl) (hval 1 _ v1 rfl rfl) h1
  obtain ⟨oa2, n2, c2, l2, rfl, e2, m2, g2, I2, s2⟩ := arg_sl (m := 5) (k := 2) (by kernel_rfl) (hval 2 _ v2 rfl rfl) h2
  refine (law_calls (by rw [Nat.mul_one] at f1; exact l_served _ _ _ _ _ _ _ _ _ _ _ _ _ _ _ _ _ _ _ _ e0 f0 e1 f1 e2 _ W [] s0 t0 s1 t1 s2)).mono fun e W' ⟨he, hb⟩ => ⟨.bool true, he, ?_⟩
  exact law_post rfl ⟨⟨by kernel_rfl, of_decide_eq_true (by kernel_rfl)⟩, ⟨by kernel_rfl, of_decide_eq_true (by kernel_rfl)⟩, ⟨by kernel_rfl, of_decide_eq_true (by kernel_rfl)⟩, trivial⟩ rfl hW' ⟨rfl, rfl, rfl⟩ hb
theorem served_holds : Rows.TopServedSaid :=
  OpenClaim.holds_of_wide 13 Try.f13 rfl rfl rfl rfl rfl rfl rfl ⟨rfl, rfl, rfl, rfl, rfl⟩ rfl rfl rfl rfl rfl (by kernel_rfl) Try.func13 (by kernel_rfl)
    (of_decide_eq_true (by kernel_rfl)) (by unfold Func.isWrapper; first | (rw [if_pos (by decide +kernel)]; kernel_rfl) | (rw [if_neg (by decide +kernel)]; exact ⟨rfl, rfl⟩))
    (fun os started H enc _ => served_holds_lifted os started H enc)
#print axioms served_holds
end Go.Proofs.Ytbplmoidgobcpaa
