/- PlotLonger holds: a longer shift or a later due day never makes a plan impossible. -/
import Derived.Test.YtgcjddlcgpjlcaaMP49
import Derived.Test.YtgcjddlcgpjlcaaMCloseP
namespace Go.Proofs.Ytgcjddlcgpjlcaa
open Go.RowKit Go.ChangeShapes Go.WideShapes Go.ChangeAt

set_option maxRecDepth 100000 in
theorem longer_holds_lifted (os : Os) (started : os.Started) (H : Type) (enc : TypeId × Value → H) :
    ReturnsInHanded {} Try.checked os 15 .any (Rows.plotLongerSpec.pre6 enc Try.prog Try.f15 Rows.plotLongerRow.domain false) (Rows.plotLongerSpec.post enc Try.prog Try.f15 false true false false) := by
  refine returnsInHanded_of_change (C := Try.checked) ownK started (by kernel_rfl) Try.func15
    (ChangeSpec.witness6 (enc := enc) (C := Try.checked) false ⟨#[], #[.agg #[.slice none 0 0, .slice none 0 0], .int .i64 0, .int .i64 0], []⟩ 8 (by kernel_rfl) (by kernel_rfl) (by kernel_rfl) (by kernel_rfl)) ?_
  intro W base args ds gs before hval0 hW hcnd _
  have hval : ∀ (j : Nat) t v, Try.f15.params[j]? = some t → args[j]? = some v → Value.okWide Try.prog W .any base t v := hval0
  have hW' := hW
  obtain ⟨p, q, hA0, hV, rfl, hfz, hnd⟩ := hW
  have hA : DataW.TrodAll enc Try.prog W 0 (fun _ => true) true Try.f15.params.toList args.toList ds p := hA0
  rw [Try.params15] at hA hval
  obtain ⟨v0, v1, v2, d_0, d_1, d_2, p_0, p_1, p_2, rfl, rfl, rfl, h0, h1, h2⟩ := trodAll_three hA
  obtain ⟨oa0, ob0, n0, m0, c0, d0, r0, q0, rfl, e0, f0, g0, i0, s0, t0⟩ := arg_shop (k := 1) (j := 3) (by kernel_rfl) (hval 0 _ v0 rfl rfl) h0
  obtain ⟨z1, rfl, I1⟩ := arg_int (by kernel_rfl) (hval 1 _ v1 rfl rfl) h1
  obtain ⟨z2, rfl, I2⟩ := arg_int (by kernel_rfl) (hval 2 _ v2 rfl rfl) h2
  refine (law_calls (l_longer _ _ _ _ _ _ _ _ z1 z2 e0 f0 g0 _ ⟨W, []⟩ [] s0 t0)).mono fun e W' ⟨he, hb⟩ => ⟨.bool true, he, ?_⟩
  exact law_post rfl ⟨⟨by kernel_rfl, of_decide_eq_true (by kernel_rfl)⟩, ⟨by kernel_rfl, of_decide_eq_true (by kernel_rfl)⟩, ⟨by kernel_rfl, of_decide_eq_true (by kernel_rfl)⟩, trivial⟩ rfl hW' ⟨rfl, rfl, rfl⟩ hb
theorem longer_holds_q1 : (Rows.plotLongerRow.inPlace == Try.pinned.checked.prog.inPlace 15) = true := by kernel_rfl
theorem longer_holds_q2 : (Rows.plotLongerRow.unfollowed == Try.pinned.checked.prog.unfollowed 15) = true := by kernel_rfl
theorem longer_holds_q3 : (Rows.plotLongerRow.recurses == Try.pinned.checked.prog.recurses 15) = true := by kernel_rfl
theorem longer_holds_q4 : (Rows.plotLongerRow.named == Try.pinned.checked.prog.varsNamed 15) = true := by kernel_rfl
theorem longer_holds_q5 : laidOutB Try.pinned.checked.prog = true := by kernel_rfl
theorem longer_holds_q6 : mapsRowed Try.pinned.checked.prog = true := by kernel_rfl
theorem longer_holds_q7 : Try.pinned.checked.prog.funcNamed Rows.plotLongerRow.func = some 15 := by kernel_rfl
theorem longer_holds_q8 : joinedFacts Try.pinned.checked.prog 15 Try.f15 Rows.plotLongerSpec Rows.plotLongerRow = true := by
  unfold joinedFacts
  rw [longer_holds_q1, longer_holds_q2, longer_holds_q3, longer_holds_q4, longer_holds_q5, longer_holds_q6]
  kernel_rfl
theorem longer_holds : Rows.PlotLongerSaid :=
  OpenClaim.holds_of_wide 15 Try.f15 rfl rfl rfl rfl rfl rfl rfl ⟨rfl, rfl, rfl, rfl, rfl⟩ rfl rfl rfl rfl rfl longer_holds_q7 Try.func15 longer_holds_q8
    (of_decide_eq_true (by kernel_rfl)) (by unfold Func.isWrapper; first | (rw [if_pos (by decide +kernel)]; kernel_rfl) | (rw [if_neg (by decide +kernel)]; exact ⟨rfl, rfl⟩))
    (fun os started H enc _ => longer_holds_lifted os started H enc)
#print axioms longer_holds
end Go.Proofs.Ytgcjddlcgpjlcaa
