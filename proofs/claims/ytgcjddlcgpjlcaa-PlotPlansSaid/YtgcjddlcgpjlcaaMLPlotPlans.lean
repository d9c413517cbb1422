/- PlotPlans holds: there is a plan exactly if no window excludes it; the one that is returned is right and ascends. -/
import Derived.Test.YtgcjddlcgpjlcaaMP45
import Derived.Test.YtgcjddlcgpjlcaaMCloseP
namespace Go.Proofs.Ytgcjddlcgpjlcaa
open Go.RowKit Go.ChangeShapes Go.WideShapes Go.ChangeAt

set_option maxRecDepth 100000 in
theorem plans_holds_lifted (os : Os) (started : os.Started) (H : Type) (enc : TypeId × Value → H) :
    ReturnsInHanded {} Try.checked os 14 .any (Rows.plotPlansSpec.pre6 enc Try.prog Try.f14 Rows.plotPlansRow.domain false) (Rows.plotPlansSpec.post enc Try.prog Try.f14 false true false false) := by
  refine returnsInHanded_of_change (C := Try.checked) ownK started (by kernel_rfl) Try.func14
    (ChangeSpec.witness6 (enc := enc) (C := Try.checked) false ⟨#[], #[.agg #[.slice none 0 0, .slice none 0 0]], []⟩ 8 (by kernel_rfl) (by kernel_rfl) (by kernel_rfl) (by kernel_rfl)) ?_
  intro W base args ds gs before hval0 hW hcnd _
  have hval : ∀ (j : Nat) t v, Try.f14.params[j]? = some t → args[j]? = some v → Value.okWide Try.prog W .any base t v := hval0
  have hW' := hW
  obtain ⟨p, q, hA0, hV, rfl, hfz, hnd⟩ := hW
  have hA : DataW.TrodAll enc Try.prog W 0 (fun _ => true) true Try.f14.params.toList args.toList ds p := hA0
  rw [Try.params14] at hA hval
  obtain ⟨v0, d_0, rfl, rfl, h0⟩ := trodAll_one hA
  obtain ⟨oa0, ob0, n0, m0, c0, d0, r0, q0, rfl, e0, f0, g0, i0, s0, t0⟩ := arg_shop (k := 1) (j := 3) (by kernel_rfl) (hval 0 _ v0 rfl rfl) h0
  refine (law_calls (l_plans _ _ _ _ _ _ _ _ e0 f0 _ ⟨W, []⟩ [] s0 t0)).mono fun e W' ⟨he, hb⟩ => ⟨.bool true, he, ?_⟩
  exact law_post rfl ⟨⟨by kernel_rfl, of_decide_eq_true (by kernel_rfl)⟩, trivial⟩ rfl hW' ⟨rfl, rfl, rfl⟩ hb
theorem plans_holds_q1 : (Rows.plotPlansRow.inPlace == Try.pinned.checked.prog.inPlace 14) = true := by kernel_rfl
theorem plans_holds_q2 : (Rows.plotPlansRow.unfollowed == Try.pinned.checked.prog.unfollowed 14) = true := by kernel_rfl
theorem plans_holds_q3 : (Rows.plotPlansRow.recurses == Try.pinned.checked.prog.recurses 14) = true := by kernel_rfl
theorem plans_holds_q4 : (Rows.plotPlansRow.named == Try.pinned.checked.prog.varsNamed 14) = true := by kernel_rfl
theorem plans_holds_q5 : laidOutB Try.pinned.checked.prog = true := by kernel_rfl
theorem plans_holds_q6 : mapsRowed Try.pinned.checked.prog = true := by kernel_rfl
theorem plans_holds_q7 : Try.pinned.checked.prog.funcNamed Rows.plotPlansRow.func = some 14 := by kernel_rfl
theorem plans_holds_q8 : joinedFacts Try.pinned.checked.prog 14 Try.f14 Rows.plotPlansSpec Rows.plotPlansRow = true := by
  unfold joinedFacts
  rw [plans_holds_q1, plans_holds_q2, plans_holds_q3, plans_holds_q4, plans_holds_q5, plans_holds_q6]
  kernel_rfl
theorem plans_holds : Rows.PlotPlansSaid :=
  OpenClaim.holds_of_wide 14 Try.f14 rfl rfl rfl rfl rfl rfl rfl ⟨rfl, rfl, rfl, rfl, rfl⟩ rfl rfl rfl rfl rfl plans_holds_q7 Try.func14 plans_holds_q8
    (of_decide_eq_true (by kernel_rfl)) (by unfold Func.isWrapper; first | (rw [if_pos (by decide +kernel)]; kernel_rfl) | (rw [if_neg (by decide +kernel)]; exact ⟨rfl, rfl⟩))
    (fun os started H enc _ => plans_holds_lifted os started H enc)
#print axioms plans_holds
end Go.Proofs.Ytgcjddlcgpjlcaa
