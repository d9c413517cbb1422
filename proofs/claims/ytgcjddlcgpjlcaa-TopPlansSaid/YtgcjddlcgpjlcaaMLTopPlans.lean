/- TopPlans holds: a plan exists exactly if no window excludes it. -/
import Derived.Test.YtgcjddlcgpjlcaaMP47
import Derived.Test.YtgcjddlcgpjlcaaMCloseP
namespace Go.Proofs.Ytgcjddlcgpjlcaa
open Go.RowKit Go.ChangeShapes Go.WideShapes Go.ChangeAt

set_option maxRecDepth 100000 in
theorem topPlans_holds_lifted (os : Os) (started : os.Started) (H : Type) (enc : TypeId × Value → H) :
    ReturnsInHanded {} Try.checked os 17 .any (Rows.topPlansSpec.pre6 enc Try.prog Try.f17 Rows.topPlansRow.domain false) (Rows.topPlansSpec.post enc Try.prog Try.f17 false true false false) := by
  refine returnsInHanded_of_change (C := Try.checked) ownK started (by kernel_rfl) Try.func17
    (ChangeSpec.witness6 (enc := enc) (C := Try.checked) false ⟨#[], #[.agg #[.slice none 0 0, .slice none 0 0], .slice none 0 0, .agg #[.int .i64 0, .int .i64 0]], []⟩ 8 (by kernel_rfl) (by kernel_rfl) (by kernel_rfl) (by kernel_rfl)) ?_
  intro W base args ds gs before hval0 hW hcnd _
  have hval : ∀ (j : Nat) t v, Try.f17.params[j]? = some t → args[j]? = some v → Value.okWide Try.prog W .any base t v := hval0
  have hW' := hW
  obtain ⟨p, q, hA0, hV, rfl, hfz, hnd⟩ := hW
  have hA : DataW.TrodAll enc Try.prog W 0 (fun _ => true) true Try.f17.params.toList args.toList ds p := hA0
  rw [Try.params17] at hA hval
  obtain ⟨v0, v1, v2, d_0, d_1, d_2, p_0, p_1, p_2, rfl, rfl, rfl, h0, h1, h2⟩ := trodAll_three hA
  obtain ⟨oa0, ob0, n0, m0, c0, d0, r0, q0, rfl, e0, f0, g0, i0, s0, t0⟩ := arg_shop (k := 1) (j := 3) (by kernel_rfl) (hval 0 _ v0 rfl rfl) h0
  obtain ⟨oa1, n1, c1, l1, rfl, e1, m1, g1, I1, s1⟩ := arg_sl (m := 5) (k := 3) (by kernel_rfl) (hval 1 _ v1 rfl rfl) h1
  obtain ⟨x2, rfl, n2, I2⟩ := arg_flat (m := 5) (k := 2) (by kernel_rfl) (by kernel_rfl) (hval 2 _ v2 rfl rfl) h2
  obtain ⟨x2_0, x2_1, rfl⟩ := len_2 n2
  refine (law_calls (l_tplans _ _ _ _ _ _ _ _ _ _ _ _ x2_0 x2_1 e0 f0 g0 e1 I1 _ ⟨W, []⟩ [] s0 t0 s1)).mono fun e W' ⟨he, hb⟩ => ⟨.bool true, he, ?_⟩
  exact law_post rfl ⟨⟨by kernel_rfl, of_decide_eq_true (by kernel_rfl)⟩, ⟨by kernel_rfl, of_decide_eq_true (by kernel_rfl)⟩, ⟨by kernel_rfl, of_decide_eq_true (by kernel_rfl)⟩, trivial⟩ rfl hW' ⟨rfl, rfl, rfl⟩ hb
theorem topPlans_holds_q1 : (Rows.topPlansRow.inPlace == Try.pinned.checked.prog.inPlace 17) = true := by kernel_rfl
theorem topPlans_holds_q2 : (Rows.topPlansRow.unfollowed == Try.pinned.checked.prog.unfollowed 17) = true := by kernel_rfl
theorem topPlans_holds_q3 : (Rows.topPlansRow.recurses == Try.pinned.checked.prog.recurses 17) = true := by kernel_rfl
theorem topPlans_holds_q4 : (Rows.topPlansRow.named == Try.pinned.checked.prog.varsNamed 17) = true := by kernel_rfl
theorem topPlans_holds_q5 : laidOutB Try.pinned.checked.prog = true := by kernel_rfl
theorem topPlans_holds_q6 : mapsRowed Try.pinned.checked.prog = true := by kernel_rfl
theorem topPlans_holds_q7 : Try.pinned.checked.prog.funcNamed Rows.topPlansRow.func = some 17 := by kernel_rfl
theorem topPlans_holds_q8 : joinedFacts Try.pinned.checked.prog 17 Try.f17 Rows.topPlansSpec Rows.topPlansRow = true := by
  unfold joinedFacts
  rw [topPlans_holds_q1, topPlans_holds_q2, topPlans_holds_q3, topPlans_holds_q4, topPlans_holds_q5, topPlans_holds_q6]
  kernel_rfl
theorem topPlans_holds : Rows.TopPlansSaid :=
  OpenClaim.holds_of_wide 17 Try.f17 rfl rfl rfl rfl rfl rfl rfl ⟨rfl, rfl, rfl, rfl, rfl⟩ rfl rfl rfl rfl rfl topPlans_holds_q7 Try.func17 topPlans_holds_q8
    (of_decide_eq_true (by kernel_rfl)) (by unfold Func.isWrapper; first | (rw [if_pos (by decide +kernel)]; kernel_rfl) | (rw [if_neg (by decide +kernel)]; exact ⟨rfl, rfl⟩))
    (fun os started H enc _ => topPlans_holds_lifted os started H enc)
#print axioms topPlans_holds
end Go.Proofs.Ytgcjddlcgpjlcaa
