/- HairDraws holds: which hairs are drawn and which are left. -/
import Derived.Test.YtiopaodiaokfdaaH16
import Derived.Test.YtiopaodiaokfdaaClose2
namespace Go.Proofs.Ytiopaodiaokfdaa
open Go.RowKit Go.ChangeShapes Go.WideShapes Go.ChangeAt

theorem lif_len (e : Int) (f : Nat → Int) : (lif e (trm f)).length ≤ 24 := by unfold lif; split; exact trm_length _; simp
set_option maxRecDepth 100000 in
set_option maxHeartbeats 8000000 in
theorem l_draws (o1 o2 : Option Addr) (c1 c2 : Nat) (r g : List Int) (n : Int) (B : Nat) (w0 : World) (hs : HS) (h1 : Sl B w0 hs o1 r) (h2 : Sl B w0 hs o2 g) :
    Fn Try.prog 10 #[bv o1 o2 r.length g.length c1 c2, iv n] B w0 hs (fun v _ => v = .bool true) := by
  have t1 := lif_len (drE r g n) (drF r g n); have t2 := lif_len (drE r g n) (drG r g n); have t3 := lif_len (drE r g n) (leF r g n); have t4 := lif_len (drE r g n) (leG r g n)
  refine fn_enter Try.func10 rfl Try.ntmps10 (by simp) ?_
  repeat' (first | ((with_reducible apply kF 17); refine sC 17 (l_long o1 o2 _ _ c1 c2 B w0 _) ?_) | ((with_reducible apply kF 18); refine sC 18 (l_known B w0 _) ?_) | (with_reducible first | refine c_seq ?_ | refine c_reg ?_ | refine c_region ?_ | refine c_block ?_ | refine c_skip ?_ | refine c_exit ?_ | refine c_ret ?_ | refine s_nil ?_ | refine x_then ?_ | refine x_then_exit ?_ | refine x_then_ret ?_ | refine x_block ?_ | refine x_block_ret ?_ | refine x_block_same ?_ | refine x_block_other (by rfl) ?_ | refine q_nil ?_ | refine k_nil ?_) | ((with_reducible apply kP (.makeFunc _ _ _)); refine sMF ?_) | ((with_reducible apply kG); first | refine gY1 ?_ | refine gN1 ?_ | refine gU1 ?_ | (refine gD1 (fun h => ?_) (fun h => ?_) <;> (try (exfalso; omega))) | refine gB1 (fun h => ?_) (fun h => ?_)) | ((with_reducible apply kN); first | refine stP ?_ | refine stI ?_ | refine st1 ?_ | refine stW ?_) | ((with_reducible apply kP (.alloc _)); refine sA (fun b => ?_)) | ((with_reducible apply kP (.box _ _)); first | refine sBA (fun b => ?_) | refine sB (fun b => ?_)) | ((with_reducible apply kP (.buildSlice _ 1 _)); first | refine sl1A (fun b => ?_) | refine sl1 (fun b => ?_)) | ((with_reducible apply kP (.buildSlice _ 2 _)); refine sl2 (fun b => ?_)) | ((with_reducible apply kP (.buildSlice _ 3 _)); refine sl3 (fun b => ?_)) | ((with_reducible apply kP (.buildSlice _ 4 _)); refine sl4 (fun b => ?_)) | ((with_reducible apply kP (.buildSlice _ 0 _)); refine s_bs0 (scTOf rfl) (zsTOf rfl) (by decide) (fun b => ?_)) | ((with_reducible apply kP (.makeSlice _ _ _)); refine sMk (fun b => ?_)) | ((with_reducible apply kP (.call ⟨.builtin .append, _, _⟩)); refine sAp (fun oa2 c2 blk2 hrow2 => ?_)) | ((with_reducible apply kP _); refine sP ?_) | ((with_reducible apply kP _); refine sX ?_) | ((with_reducible apply kQG); first | refine qY1 ?_ | refine qN1 ?_ | refine qU1 ?_ | (refine qD1 (fun h => ?_) (fun h => ?_) <;> (try (exfalso; omega))) | refine qB1 (fun h => ?_) (fun h => ?_)) | ((with_reducible apply kQP); refine qP ?_) | ((with_reducible apply kQP); refine qX ?_) | ((with_reducible apply kC); first | refine cT ?_ | refine cF ?_ | (refine cI (fun h => ?_) (fun h => ?_) <;> (try (exfalso; omega))) | refine cB (fun h => ?_) (fun h => ?_)) | ((with_reducible apply kR); refine cQ ?_))
  · exact e_ret1 rfl rfl rfl SCt
  have hr : r.length ≤ 100 := by omega
  have hg : g.length ≤ 100 := by omega
  have f1 := fun p1 p2 d1 d2 hs q1 q2 => h_Draw p1 p2 d1 d2 r g n B w0 hs q1 q2
  have f2 := fun hs q1 q2 => r_Draw o1 o2 c1 c2 r g n B w0 hs q1 q2
  generalize lif (drE r g n) (trm (drF r g n)) = L1 at t1 f1 f2
  generalize lif (drE r g n) (trm (drG r g n)) = L2 at t2 f1 f2
  generalize lif (drE r g n) (trm (leF r g n)) = L3 at t3 f1 f2
  generalize lif (drE r g n) (trm (leG r g n)) = L4 at t4 f1 f2
  repeat' (first | ((with_reducible apply kF 27); refine sN 27 (r_copy o1 o2 c1 c2 r g hr hg B w0 _ (h1.sub SBt) (h2.sub SBt)) ?_; rintro u ko hN; obtain ⟨p1, p2, d1, d2, rfl, ho1, ho2, ho3⟩ := hN.use) | ((with_reducible apply kF 50); refine sN 50 (f1 p1 p2 d1 d2 _ ((ho1 B w0).sub SBt) ((ho2 B w0).sub SBt)) ?_; rintro u ka hN; obtain ⟨a1, a2, ca1, ca2, a3, a4, ca3, ca4, k1, k2, rfl, ha1, ha2, ha3, hb1, hb2, hb3, rfl⟩ := hN.use; rw [List.append_assoc]) | ((with_reducible apply kF 51); refine sN 51 (f2 _ (h1.sub SBt) (h2.sub SBt)) ?_; rintro u kt hN; obtain ⟨e1, e2, ce1, ce2, e3, e4, ce3, ce4, m1, m2, rfl, hd1, hd2, hd3, he1, he2, he3, rfl⟩ := hN.use; rw [List.append_assoc]) | ((with_reducible apply kF 34); refine sC 34 (r_equal a1 a2 e1 e2 ca1 ca2 ce1 ce2 L1 L2 L1 L2 (by omega) (by omega) B w0 _ ((ha1 B w0).sub SBt) ((ha2 B w0).sub SBt) ((hd1 B w0).sub SBt) ((hd2 B w0).sub SBt)) ?_) | ((with_reducible apply kF 34); refine sC 34 (r_equal a3 a4 e3 e4 ca3 ca4 ce3 ce4 L3 L4 L3 L4 (by omega) (by omega) B w0 _ ((hb1 B w0).sub SBt) ((hb2 B w0).sub SBt) ((he1 B w0).sub SBt) ((he2 B w0).sub SBt)) ?_) | ((with_reducible apply kF 35); refine s_take (goTOf rfl) rfl (by with_reducible ((repeat (first | exact Take.head | exact Take.one | apply Take.tail | apply Take.app)); done)) (l_spoil' ha3 (by omega) (by omega) _ B w0) (by decide) ?_) | ((with_reducible apply kF 35); refine s_take (goTOf rfl) rfl (by with_reducible ((repeat (first | exact Take.head | exact Take.one | apply Take.tail | apply Take.app)); done)) (l_spoil' hb3 (by omega) (by omega) _ B w0) (by decide) ?_) | ((with_reducible apply kF 34); refine sC 34 (r_equal p1 p2 o1 o2 d1 d2 c1 c2 r g r g (by omega) (by omega) B w0 _ ((ho1 B w0).sub SBt) ((ho2 B w0).sub SBt) (h1.sub SBt) (h2.sub SBt)) ?_) | ((with_reducible apply kF 18); refine sC 18 (l_known B w0 _) ?_) | (with_reducible first | refine c_seq ?_ | refine c_reg ?_ | refine c_region ?_ | refine c_block ?_ | refine c_skip ?_ | refine c_exit ?_ | refine c_ret ?_ | refine s_nil ?_ | refine x_then ?_ | refine x_then_exit ?_ | refine x_then_ret ?_ | refine x_block ?_ | refine x_block_ret ?_ | refine x_block_same ?_ | refine x_block_other (by rfl) ?_ | refine q_nil ?_ | refine k_nil ?_) | ((with_reducible apply kP (.makeFunc _ _ _)); refine sMF ?_) | ((with_reducible apply kG); first | refine gY1 ?_ | refine gN1 ?_ | refine gU1 ?_ | (refine gD1 (fun h => ?_) (fun h => ?_) <;> (try (exfalso; omega))) | refine gB1 (fun h => ?_) (fun h => ?_)) | ((with_reducible apply kN); first | refine stP ?_ | refine stI ?_ | refine st1 ?_ | refine stW ?_) | ((with_reducible apply kP (.alloc _)); refine sA (fun b => ?_)) | ((with_reducible apply kP (.box _ _)); first | refine sBA (fun b => ?_) | refine sB (fun b => ?_)) | ((with_reducible apply kP (.buildSlice _ 1 _)); first | refine sl1A (fun b => ?_) | refine sl1 (fun b => ?_)) | ((with_reducible apply kP (.buildSlice _ 2 _)); refine sl2 (fun b => ?_)) | ((with_reducible apply kP (.buildSlice _ 3 _)); refine sl3 (fun b => ?_)) | ((with_reducible apply kP (.buildSlice _ 4 _)); refine sl4 (fun b => ?_)) | ((with_reducible apply kP (.buildSlice _ 0 _)); refine s_bs0 (scTOf rfl) (zsTOf rfl) (by decide) (fun b => ?_)) | ((with_reducible apply kP (.makeSlice _ _ _)); refine sMk (fun b => ?_)) | ((with_reducible apply kP (.call ⟨.builtin .append, _, _⟩)); refine sAp (fun oa2 c2 blk2 hrow2 => ?_)) | ((with_reducible apply kP _); refine sP ?_) | ((with_reducible apply kP _); refine sX ?_) | ((with_reducible apply kQG); first | refine qY1 ?_ | refine qN1 ?_ | refine qU1 ?_ | (refine qD1 (fun h => ?_) (fun h => ?_) <;> (try (exfalso; omega))) | refine qB1 (fun h => ?_) (fun h => ?_)) | ((with_reducible apply kQP); refine qP ?_) | ((with_reducible apply kQP); refine qX ?_) | ((with_reducible apply kC); first | refine cT ?_ | refine cF ?_ | (refine cI (fun h => ?_) (fun h => ?_) <;> (try (exfalso; omega))) | refine cB (fun h => ?_) (fun h => ?_)) | ((with_reducible apply kR); refine cQ ?_))
  all_goals first
    | exact e_ret1 rfl rfl rfl SCt
    | exact absurd rfl ‹¬ _ = _›
    | exact absurd ⟨rfl, rfl⟩ ‹¬ (_ ∧ _)›
set_option maxRecDepth 100000 in
theorem draws_holds_lifted (os : Os) (started : os.Started) (H : Type) (enc : TypeId × Value → H) :
    ReturnsInHanded {} Try.checked os 10 .any (Rows.hairDrawsSpec.pre6 enc Try.prog Try.f10 Rows.hairDrawsRow.domain false) (Rows.hairDrawsSpec.post enc Try.prog Try.f10 false true false false) := by
  refine returnsInHanded_of_change (C := Try.checked) ownK started (by kernel_rfl) Try.func10
    (ChangeSpec.witness6 (enc := enc) (C := Try.checked) false ⟨#[], #[.agg #[.slice none 0 0, .slice none 0 0], .int .i64 0], []⟩ 8 (by kernel_rfl) (by kernel_rfl) (by kernel_rfl) (by kernel_rfl)) ?_
  intro W base args ds gs before hval0 hW hcnd _
  have hval : ∀ (j : Nat) t v, Try.f10.params[j]? = some t → args[j]? = some v → Value.okWide Try.prog W .any base t v := hval0
  have hW' := hW
  obtain ⟨p, q, hA0, hV, rfl, hfz, hnd⟩ := hW
  have hA : DataW.TrodAll enc Try.prog W 0 (fun _ => true) true Try.f10.params.toList args.toList ds p := hA0
  rw [Try.params10] at hA hval
  obtain ⟨v0, v1, d_0, d_1, p_0, p_1, rfl, rfl, rfl, h0, h1⟩ := trodAll_two hA
  obtain ⟨oa0, ob0, c0, d0, r0, g0, rfl, m0, q0, _, _, I0, J0, s0, t0⟩ := arg_bundle (by kernel_rfl) (hval 0 _ v0 rfl rfl) h0
  obtain ⟨z1, rfl, I1⟩ := arg_int (by kernel_rfl) (hval 1 _ v1 rfl rfl) h1
  refine (law_calls (by exact l_draws oa0 ob0 c0 d0 r0 g0 z1 _ W [] s0 t0)).mono fun e W' ⟨he, hb⟩ => ⟨.bool true, he, ?_⟩
  exact law_post rfl ⟨⟨by kernel_rfl, of_decide_eq_true (by kernel_rfl)⟩, ⟨by kernel_rfl, of_decide_eq_true (by kernel_rfl)⟩, trivial⟩ rfl hW' ⟨rfl, rfl, rfl⟩ hb
theorem draws_holds : Rows.HairDrawsSaid :=
  OpenClaim.holds_of_wide 10 Try.f10 rfl rfl rfl rfl rfl rfl rfl ⟨rfl, rfl, rfl, rfl, rfl⟩ rfl rfl rfl rfl rfl (by kernel_rfl) Try.func10 (by kernel_rfl)
    (of_decide_eq_true (by kernel_rfl)) (by unfold Func.isWrapper; first | (rw [if_pos (by decide +kernel)]; kernel_rfl) | (rw [if_neg (by decide +kernel)]; exact ⟨rfl, rfl⟩))
    (fun os started H enc _ => draws_holds_lifted os started H enc)
#print axioms draws_holds
end Go.Proofs.Ytiopaodiaokfdaa
