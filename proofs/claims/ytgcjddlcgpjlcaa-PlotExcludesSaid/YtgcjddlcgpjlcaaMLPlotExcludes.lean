/- PlotExcludes holds: no plan is right where some window is a proof. -/
import Derived.Test.YtgcjddlcgpjlcaaMP46
import Derived.Test.YtgcjddlcgpjlcaaMCloseP
namespace Go.Proofs.Ytgcjddlcgpjlcaa
open Go.RowKit Go.ChangeShapes Go.WideShapes Go.ChangeAt

set_option maxRecDepth 100000 in
theorem excludes_holds_lifted (os : Os) (started : os.Started) (H : Type) (enc : TypeId × Value → H) :
    ReturnsInHanded {} Try.checked os 16 .any (Rows.plotExcludesSpec.pre6 enc Try.prog Try.f16 Rows.plotExcludesRow.domain false) (Rows.plotExcludesSpec.post enc Try.prog Try.f16 false true false false) := by
  refine returnsInHanded_of_change (C := Try.checked) ownK started (by kernel_rfl) Try.func16
    (ChangeSpec.witness6 (enc := enc) (C := Try.checked) false ⟨#[], #[.agg #[.slice none 0 0, .slice none 0 0], .agg #[.int .i64 0, .int .i64 0], .slice none 0 0], []⟩ 8 (by kernel_rfl) (by kernel_rfl) (by kernel_rfl) (by kernel_rfl)) ?_
  intro W base args ds gs before hval0 hW hcnd _
  have hval : ∀ (j : Nat) t v, Try.f16.params[j]? = some t → args[j]? = some v → Value.okWide Try.prog W .any base t v := hval0
  have hW' := hW
  obtain ⟨p, q, hA0, hV, rfl, hfz, hnd⟩ := hW
  have hA : DataW.TrodAll enc Try.prog W 0 (fun _ => true) true Try.f16.params.toList args.toList ds p := hA0
  rw [Try.params16] at hA hval
  obtain ⟨v0, v1, v2, d_0, d_1, d_2, p_0, p_1, p_2, rfl, rfl, rfl, h0, h1, h2⟩ := trodAll_three hA
  obtain ⟨oa0, ob0, n0, m0, c0, d0, r0, q0, rfl, e0, f0, g0, i0, s0, t0⟩ := arg_shop (k := 1) (j := 3) (by kernel_rfl) (hval 0 _ v0 rfl rfl) h0
  obtain ⟨x1, rfl, n1, I1⟩ := arg_flat (m := 5) (k := 2) (by kernel_rfl) (by kernel_rfl) (hval 1 _ v1 rfl rfl) h1
  obtain ⟨x1_0, x1_1, rfl⟩ := len_2 n1
  obtain ⟨oa2, n2, c2, l2, rfl, e2, m2, g2, I2, s2⟩ := arg_sl (m := 5) (k := 3) (by kernel_rfl) (hval 2 _ v2 rfl rfl) h2
  refine (law_calls (l_excludes _ _ _ _ _ _ _ _ _ _ _ _ x1_0 x1_1 e0 f0 g0 e2 I2 _ ⟨W, []⟩ [] s0 t0 s2)).mono fun e W' ⟨he, hb⟩ => ⟨.bool true, he, ?_⟩
  exact law_post rfl ⟨⟨by kernel_rfl, of_decide_eq_true (by kernel_rfl)⟩, ⟨by kernel_rfl, of_decide_eq_true (by kernel_rfl)⟩, ⟨by kernel_rfl, of_decide_eq_true (by kernel_rfl)⟩, trivial⟩ rfl hW' ⟨rfl, rfl, rfl⟩ hb
theorem excludes_holds_q1 : (Rows.plotExcludesRow.inPlace == Try.pinned.checked.prog.inPlace 16) = true := by kernel_rfl
theorem excludes_holds_q2 : (Rows.plotExcludesRow.unfollowed == Try.pinned.checked.prog.unfollowed 16) = true := by kernel_rfl
theorem excludes_holds_q3 : (Rows.plotExcludesRow.recurses == Try.pinned.checked.prog.recurses 16) = true := by kernel_rfl
theorem excludes_holds_q4 : (Rows.plotExcludesRow.named == Try.pinned.checked.prog.varsNamed 16) = true := by kernel_rfl
theorem excludes_holds_q5 : laidOutB Try.pinned.checked.prog = true := by kernel_rfl
theorem excludes_holds_q6 : mapsRowed Try.pinned.checked.prog = true := by kernel_rfl
theorem excludes_holds_q7 : Try.pinned.checked.prog.funcNamed Rows.plotExcludesRow.func = some 16 := by kernel_rfl
theorem excludes_holds_q8 : joinedFacts Try.pinned.checked.prog 16 Try.f16 Rows.plotExcludesSpec Rows.plotExcludesRow = true := by
  unfold joinedFacts
  rw [excludes_holds_q1, excludes_holds_q2, excludes_holds_q3, excludes_holds_q4, excludes_holds_q5, excludes_holds_q6]
  kernel_rfl
theorem excludes_holds : Rows.PlotExcludesSaid :=
  OpenClaim.holds_of_wide 16 Try.f16 rfl rfl rfl rfl rfl rfl rfl ⟨rfl, rfl, rfl, rfl, rfl⟩ rfl rfl rfl rfl rfl excludes_holds_q7 Try.func16 excludes_holds_q8
    (of_decide_eq_true (by kernel_rfl)) (by unfold Func.isWrapper; first | (rw [if_pos (by decide +kernel)]; kernel_rfl) | (rw [if_neg (by decide +kernel)]; exact ⟨rfl, rfl⟩))
    (fun os started H enc _ => excludes_holds_lifted os started H enc)
#print axioms excludes_holds
end Go.Proofs.Ytgcjddlcgpjlcaa
