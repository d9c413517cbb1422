/- CapDarts holds: Dart answers as the reference says, in memory of its own, and leaves the measures and the hairline as they were. -/
import Derived.Test.YtnbickholedckaaMC60
import Derived.Test.YtnbickholedckaaMB8
namespace Go.Proofs.Ytnbickholedckaa
open Go.RowKit Go.ChangeShapes Go.WideShapes Go.ChangeAt

set_option maxRecDepth 100000 in
theorem darts_holds_lifted (os : Os) (started : os.Started) (H : Type) (enc : TypeId × Value → H) :
    ReturnsInHanded {} Try.checked os 13 .any (Rows.capDartsSpec.pre6 enc Try.prog Try.f13 Rows.capDartsRow.domain false) (Rows.capDartsSpec.post enc Try.prog Try.f13 false true false false) := by
  refine returnsInHanded_of_change (C := Try.checked) ownK started (by kernel_rfl) Try.func13
    (ChangeSpec.witness6 (enc := enc) (C := Try.checked) false ⟨#[], #[.agg #[.slice none 0 0, .slice none 0 0, .int .i64 0], .int .i64 0, .int .i64 0], []⟩ 8 (by kernel_rfl) (by kernel_rfl) (by kernel_rfl) (by kernel_rfl)) ?_
  intro W base args ds gs before hval0 hW hcnd _
  have hval : ∀ (j : Nat) t v, Try.f13.params[j]? = some t → args[j]? = some v → Value.okWide Try.prog W .any base t v := hval0
  have hW' := hW
  obtain ⟨p, q, hA0, hV, rfl, hfz, hnd⟩ := hW
  have hA : DataW.TrodAll enc Try.prog W 0 (fun _ => true) true Try.f13.params.toList args.toList ds p := hA0
  rw [Try.params13] at hA hval
  obtain ⟨v0, v1, v2, d_0, d_1, d_2, p_0, p_1, p_2, rfl, rfl, rfl, h0, h1, h2⟩ := trodAll_three hA
  obtain ⟨oa0, ob0, c0, m0, d0, ps0, sm0, z0, rfl, e0, I0, C0⟩ := arg_cap (by kernel_rfl) (hval 0 _ v0 rfl rfl) h0
  obtain ⟨z1, rfl, I1⟩ := arg_int (by kernel_rfl) (hval 1 _ v1 rfl rfl) h1
  obtain ⟨z2, rfl, I2⟩ := arg_int (by kernel_rfl) (hval 2 _ v2 rfl rfl) h2
  refine (law_calls ((k_CapDarts ps0 oa0 ob0 c0 m0 d0 sm0 z0 z1 z2 I1 e0 _ ⟨W, []⟩ [] C0).mono fun _ _ h => h.1)).mono fun e W' ⟨he, hb⟩ => ⟨.bool true, he, ?_⟩
  exact law_post rfl ⟨⟨by kernel_rfl, of_decide_eq_true (by kernel_rfl)⟩, ⟨by kernel_rfl, of_decide_eq_true (by kernel_rfl)⟩, ⟨by kernel_rfl, of_decide_eq_true (by kernel_rfl)⟩, trivial⟩ rfl hW' ⟨rfl, rfl, rfl⟩ hb
theorem darts_holds_q1 : (Rows.capDartsRow.inPlace == Try.pinned.checked.prog.inPlace 13) = true := by kernel_rfl
theorem darts_holds_q2 : (Rows.capDartsRow.unfollowed == Try.pinned.checked.prog.unfollowed 13) = true := by kernel_rfl
theorem darts_holds_q3 : (Rows.capDartsRow.recurses == Try.pinned.checked.prog.recurses 13) = true := by kernel_rfl
theorem darts_holds_q4 : (Rows.capDartsRow.named == Try.pinned.checked.prog.varsNamed 13) = true := by kernel_rfl
theorem darts_holds_q5 : laidOutB Try.pinned.checked.prog = true := by kernel_rfl
theorem darts_holds_q6 : mapsRowed Try.pinned.checked.prog = true := by kernel_rfl
theorem darts_holds_q7 : Try.pinned.checked.prog.funcNamed Rows.capDartsRow.func = some 13 := by kernel_rfl
theorem darts_holds_q8 : joinedFacts Try.pinned.checked.prog 13 Try.f13 Rows.capDartsSpec Rows.capDartsRow = true := by
  unfold joinedFacts
  rw [darts_holds_q1, darts_holds_q2, darts_holds_q3, darts_holds_q4, darts_holds_q5, darts_holds_q6]
  kernel_rfl
theorem darts_holds : Rows.CapDartsSaid :=
  OpenClaim.holds_of_wide 13 Try.f13 rfl rfl rfl rfl rfl rfl rfl ⟨rfl, rfl, rfl, rfl, rfl⟩ rfl rfl rfl rfl rfl darts_holds_q7 Try.func13 darts_holds_q8
    (of_decide_eq_true (by kernel_rfl)) (by unfold Func.isWrapper; first | (rw [if_pos (by decide +kernel)]; kernel_rfl) | (rw [if_neg (by decide +kernel)]; exact ⟨rfl, rfl⟩))
    (fun os started H enc _ => darts_holds_lifted os started H enc)
#print axioms darts_holds
end Go.Proofs.Ytnbickholedckaa
