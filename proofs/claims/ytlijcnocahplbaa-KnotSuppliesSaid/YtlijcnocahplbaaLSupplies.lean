/- KnotSupplies holds: whether a bundle has the hairs that zones need. -/
import Derived.Test.YtlijcnocahplbaaK26
import Derived.Test.YtlijcnocahplbaaCloseW
namespace Go.Proofs.Ytlijcnocahplbaa
open Go.RowKit Go.ChangeShapes Go.WideShapes Go.ChangeAt

theorem supV_tup (n : Nat) (zs : Nat → Zn) (r g : List Int) (len : Int) : ∃ a b, supV n zs r g len = .tuple #[.bool a, iv b] := by
  unfold supV; split
  · split
    · exact ⟨_, _, rfl⟩
    · exact ⟨_, _, rfl⟩
  · exact ⟨_, _, rfl⟩
set_option maxRecDepth 100000 in
set_option maxHeartbeats 8000000 in
theorem l_supplies (oa : Option Addr) (n c : Nat) (zs : Nat → Zn) (o1 o2 : Option Addr) (c1 c2 : Nat) (r g : List Int) (len : Int) (hp : ∀ i, i < n → (zs i).p ≤ 9223372036854775807) (B : Nat) (w0 : World) (hs : HS) (h1 : ZL B w0 hs oa n zs) (h2 : Sl B w0 hs o1 r) (h3 : Sl B w0 hs o2 g) :
    Fn Try.prog 17 #[.slice oa n c, bv o1 o2 r.length g.length c1 c2, iv len] B w0 hs (fun v _ => v = .bool true) := by
  by_cases hy : n ≤ 50 ∧ r.length ≤ 100 ∧ g.length ≤ 100
  · obtain ⟨y0, y1, y2⟩ := hy
    have f1 := fun q1 q2 d1 d2 hs s0 s1 s2 => k_Supply oa n c zs q1 q2 d1 d2 r g len (by omega) hp B w0 hs s0 s1 s2
    have f2 := fun hs s0 s1 s2 => r_Supply oa n c zs o1 o2 c1 c2 r g len (by omega) hp B w0 hs s0 s1 s2
    obtain ⟨a1, a2, e1⟩ := supV_tup n zs r g len
    rw [e1] at f1 f2
    refine fn_enter Try.func17 rfl Try.ntmps17 (by simp) ?_
    repeat' (first | ((with_reducible apply kF 54); refine sN 54 (r_copy o1 o2 c1 c2 r g y1 y2 B w0 _ (h2.sub SBt) (h3.sub SBt)) ?_; rintro u ko hN; obtain ⟨q1, q2, d1, d2, rfl, ho1, ho2⟩ := hN.use2) | ((with_reducible apply kF 55); refine sC 55 (f1 q1 q2 d1 d2 _ (h1.sub SBt) ((ho1 B w0).sub SBt) ((ho2 B w0).sub SBt)) ?_) | ((with_reducible apply kF 56); refine sC 56 (f2 _ (h1.sub SBt) (h2.sub SBt) (h3.sub SBt)) ?_) | ((with_reducible apply kF 57); refine sC 57 (r_equal q1 q2 o1 o2 d1 d2 c1 c2 r g r g (by omega) (by omega) B w0 _ ((ho1 B w0).sub SBt) ((ho2 B w0).sub SBt) (h2.sub SBt) (h3.sub SBt)) ?_) | ((with_reducible apply kF 22); refine sC 22 (l_known B w0 _) ?_) | (with_reducible first | refine c_seq ?_ | refine c_reg ?_ | refine c_region ?_ | refine c_block ?_ | refine c_skip ?_ | refine c_exit ?_ | refine c_ret ?_ | refine s_nil ?_ | refine x_then ?_ | refine x_then_exit ?_ | refine x_then_ret ?_ | refine x_block ?_ | refine x_block_ret ?_ | refine x_block_same ?_ | refine x_block_other (by rfl) ?_ | refine q_nil ?_ | refine k_nil ?_) | ((with_reducible apply kP (.makeFunc _ _ _)); refine sMF ?_) | ((with_reducible apply kG); first | refine gY1 ?_ | refine gN1 ?_ | refine gU1 ?_ | (refine gD1 (fun h => ?_) (fun h => ?_) <;> (try (exfalso; omega))) | refine gB1 (fun h => ?_) (fun h => ?_)) | ((with_reducible apply kN); first | refine stP ?_ | refine stI ?_ | refine st1 ?_ | refine stW ?_) | ((with_reducible apply kP (.alloc _)); refine sA (fun b => ?_)) | ((with_reducible apply kP (.box _ _)); first | refine sBA (fun b => ?_) | refine sB (fun b => ?_)) | ((with_reducible apply kP (.buildSlice _ 1 _)); first | refine sl1A (fun b => ?_) | refine sl1 (fun b => ?_)) | ((with_reducible apply kP (.buildSlice _ 2 _)); refine sl2 (fun b => ?_)) | ((with_reducible apply kP (.buildSlice _ 3 _)); refine sl3 (fun b => ?_)) | ((with_reducible apply kP (.buildSlice _ 4 _)); refine sl4 (fun b => ?_)) | ((with_reducible apply kP (.buildSlice _ 0 _)); refine s_bs0 (scTOf rfl) (zsTOf rfl) (by decide) (fun b => ?_)) | ((with_reducible apply kP (.makeSlice _ _ _)); refine sMk (fun b => ?_)) | ((with_reducible apply kP (.call ⟨.builtin .append, _, _⟩)); refine sAp (fun oa2 c2 blk2 hrow2 => ?_)) | ((with_reducible apply kP _); refine sP ?_) | ((with_reducible apply kP _); refine sX ?_) | ((with_reducible apply kQG); first | refine qY1 ?_ | refine qN1 ?_ | refine qU1 ?_ | (refine qD1 (fun h => ?_) (fun h => ?_) <;> (try (exfalso; omega))) | refine qB1 (fun h => ?_) (fun h => ?_)) | ((with_reducible apply kQP); refine qP ?_) | ((with_reducible apply kQP); refine qX ?_) | ((with_reducible apply kC); first | refine cT ?_ | refine cF ?_ | (refine cI (fun h => ?_) (fun h => ?_) <;> (try (exfalso; omega))) | refine cB (fun h => ?_) (fun h => ?_)) | ((with_reducible apply kR); refine cQ ?_))
    all_goals first
      | exact e_ret1 rfl rfl rfl SCt
      | exact absurd rfl ‹¬ _ = _›
      | exact absurd ⟨rfl, rfl⟩ ‹¬ (_ ∧ _)›
      | (exfalso; omega)
  · refine fn_enter Try.func17 rfl Try.ntmps17 (by simp) ?_
    repeat' (first | ((with_reducible apply kF 22); refine sC 22 (l_known B w0 _) ?_) | (with_reducible first | refine c_seq ?_ | refine c_reg ?_ | refine c_region ?_ | refine c_block ?_ | refine c_skip ?_ | refine c_exit ?_ | refine c_ret ?_ | refine s_nil ?_ | refine x_then ?_ | refine x_then_exit ?_ | refine x_then_ret ?_ | refine x_block ?_ | refine x_block_ret ?_ | refine x_block_same ?_ | refine x_block_other (by rfl) ?_ | refine q_nil ?_ | refine k_nil ?_) | ((with_reducible apply kP (.makeFunc _ _ _)); refine sMF ?_) | ((with_reducible apply kG); first | refine gY1 ?_ | refine gN1 ?_ | refine gU1 ?_ | (refine gD1 (fun h => ?_) (fun h => ?_) <;> (try (exfalso; omega))) | refine gB1 (fun h => ?_) (fun h => ?_)) | ((with_reducible apply kN); first | refine stP ?_ | refine stI ?_ | refine st1 ?_ | refine stW ?_) | ((with_reducible apply kP (.alloc _)); refine sA (fun b => ?_)) | ((with_reducible apply kP (.box _ _)); first | refine sBA (fun b => ?_) | refine sB (fun b => ?_)) | ((with_reducible apply kP (.buildSlice _ 1 _)); first | refine sl1A (fun b => ?_) | refine sl1 (fun b => ?_)) | ((with_reducible apply kP (.buildSlice _ 2 _)); refine sl2 (fun b => ?_)) | ((with_reducible apply kP (.buildSlice _ 3 _)); refine sl3 (fun b => ?_)) | ((with_reducible apply kP (.buildSlice _ 4 _)); refine sl4 (fun b => ?_)) | ((with_reducible apply kP (.buildSlice _ 0 _)); refine s_bs0 (scTOf rfl) (zsTOf rfl) (by decide) (fun b => ?_)) | ((with_reducible apply kP (.makeSlice _ _ _)); refine sMk (fun b => ?_)) | ((with_reducible apply kP (.call ⟨.builtin .append, _, _⟩)); refine sAp (fun oa2 c2 blk2 hrow2 => ?_)) | ((with_reducible apply kP _); refine sP ?_) | ((with_reducible apply kP _); refine sX ?_) | ((with_reducible apply kQG); first | refine qY1 ?_ | refine qN1 ?_ | refine qU1 ?_ | (refine qD1 (fun h => ?_) (fun h => ?_) <;> (try (exfalso; omega))) | refine qB1 (fun h => ?_) (fun h => ?_)) | ((with_reducible apply kQP); refine qP ?_) | ((with_reducible apply kQP); refine qX ?_) | ((with_reducible apply kC); first | refine cT ?_ | refine cF ?_ | (refine cI (fun h => ?_) (fun h => ?_) <;> (try (exfalso; omega))) | refine cB (fun h => ?_) (fun h => ?_)) | ((with_reducible apply kR); refine cQ ?_))
    all_goals first
      | exact e_ret1 rfl rfl rfl SCt
      | (exfalso; omega)
set_option maxRecDepth 100000 in
theorem supplies_holds_lifted (os : Os) (started : os.Started) (H : Type) (enc : TypeId × Value → H) :
    ReturnsInHanded {} Try.checked os 17 .any (Rows.knotSuppliesSpec.pre6 enc Try.prog Try.f17 Rows.knotSuppliesRow.domain false) (Rows.knotSuppliesSpec.post enc Try.prog Try.f17 false true false false) := by
  refine returnsInHanded_of_change (C := Try.checked) ownK started (by kernel_rfl) Try.func17
    (ChangeSpec.witness6 (enc := enc) (C := Try.checked) false ⟨#[], #[.slice none 0 0, .agg #[.slice none 0 0, .slice none 0 0], .int .i64 0], []⟩ 8 (by kernel_rfl) (by kernel_rfl) (by kernel_rfl) (by kernel_rfl)) ?_
  intro W base args ds gs before hval0 hW hcnd _
  have hval : ∀ (j : Nat) t v, Try.f17.params[j]? = some t → args[j]? = some v → Value.okWide Try.prog W .any base t v := hval0
  have hW' := hW
  obtain ⟨p, q, hA0, hV, rfl, hfz, hnd⟩ := hW
  have hA : DataW.TrodAll enc Try.prog W 0 (fun _ => true) true Try.f17.params.toList args.toList ds p := hA0
  rw [Try.params17] at hA hval
  obtain ⟨v0, v1, v2, d_0, d_1, d_2, p_0, p_1, p_2, rfl, rfl, rfl, h0, h1, h2⟩ := trodAll_three hA
  obtain ⟨oa0, n0, c0, zs0, rfl, m0, _, K0, s0⟩ := arg_zones (by kernel_rfl) (hval 0 _ v0 rfl rfl) h0
  obtain ⟨oa1, ob1, c1, d1, r1, g1, rfl, m1, q1, _, _, I1, J1, s1, t1⟩ := arg_bundle (by kernel_rfl) (hval 1 _ v1 rfl rfl) h1
  obtain ⟨z2, rfl, I2⟩ := arg_int (by kernel_rfl) (hval 2 _ v2 rfl rfl) h2
  refine (law_calls (by exact l_supplies _ _ _ _ _ _ _ _ _ _ _ K0 _ W [] s0 s1 t1)).mono fun e W' ⟨he, hb⟩ => ⟨.bool true, he, ?_⟩
  exact law_post rfl ⟨⟨by kernel_rfl, of_decide_eq_true (by kernel_rfl)⟩, ⟨by kernel_rfl, of_decide_eq_true (by kernel_rfl)⟩, ⟨by kernel_rfl, of_decide_eq_true (by kernel_rfl)⟩, trivial⟩ rfl hW' ⟨rfl, rfl, rfl⟩ hb
theorem supplies_holds : Rows.KnotSuppliesSaid :=
  OpenClaim.holds_of_wide 17 Try.f17 rfl rfl rfl rfl rfl rfl rfl ⟨rfl, rfl, rfl, rfl, rfl⟩ rfl rfl rfl rfl rfl (by kernel_rfl) Try.func17 (by kernel_rfl)
    (of_decide_eq_true (by kernel_rfl)) (by unfold Func.isWrapper; first | (rw [if_pos (by decide +kernel)]; kernel_rfl) | (rw [if_neg (by decide +kernel)]; exact ⟨rfl, rfl⟩))
    (fun os started H enc _ => supplies_holds_lifted os started H enc)
#print axioms supplies_holds
end Go.Proofs.Ytlijcnocahplbaa
