/- CapSplits holds: Split answers as the reference says, in memory of its own, and leaves what it is given as it was. -/
import Derived.Test.YtnbickholedckaaMC76
import Derived.Test.YtnbickholedckaaMB8
namespace Go.Proofs.Ytnbickholedckaa
open Go.RowKit Go.ChangeShapes Go.WideShapes Go.ChangeAt

set_option maxRecDepth 100000 in
theorem splits_holds_lifted (os : Os) (started : os.Started) (H : Type) (enc : TypeId × Value → H) :
    ReturnsInHanded {} Try.checked os 10 .any (Rows.capSplitsSpec.pre6 enc Try.prog Try.f10 Rows.capSplitsRow.domain false) (Rows.capSplitsSpec.post enc Try.prog Try.f10 false true false false) := by
  refine returnsInHanded_of_change (C := Try.checked) ownK started (by kernel_rfl) Try.func10
    (ChangeSpec.witness6 (enc := enc) (C := Try.checked) false ⟨#[], #[.agg #[.slice none 0 0, .slice none 0 0, .int .i64 0], .agg #[.int .i64 0, .int .i64 0, .int .i64 0, .int .i64 0, .int .i64 0]], []⟩ 8 (by kernel_rfl) (by kernel_rfl) (by kernel_rfl) (by kernel_rfl)) ?_
  intro W base args ds gs before hval0 hW hcnd _
  have hval : ∀ (j : Nat) t v, Try.f10.params[j]? = some t → args[j]? = some v → Value.okWide Try.prog W .any base t v := hval0
  have hW' := hW
  obtain ⟨p, q, hA0, hV, rfl, hfz, hnd⟩ := hW
  have hA : DataW.TrodAll enc Try.prog W 0 (fun _ => true) true Try.f10.params.toList args.toList ds p := hA0
  rw [Try.params10] at hA hval
  obtain ⟨v0, v1, d_0, d_1, p_0, p_1, rfl, rfl, rfl, h0, h1⟩ := trodAll_two hA
  obtain ⟨oa0, ob0, c0, m0, d0, ps0, sm0, z0, rfl, e0, I0, C0⟩ := arg_cap (by kernel_rfl) (hval 0 _ v0 rfl rfl) h0
  obtain ⟨x1, rfl, n1, I1⟩ := arg_flat (m := 5) (k := 5) (by kernel_rfl) (by kernel_rfl) (hval 1 _ v1 rfl rfl) h1
  obtain ⟨x1_0, x1_1, x1_2, x1_3, x1_4, rfl⟩ := len_5 n1
  refine (law_calls ((k_CapSplits ps0 oa0 ob0 c0 m0 d0 sm0 z0 x1_0 x1_1 x1_2 x1_3 x1_4 e0 _ ⟨W, []⟩ [] C0).mono fun _ _ h => h.1)).mono fun e W' ⟨he, hb⟩ => ⟨.bool true, he, ?_⟩
  exact law_post rfl ⟨⟨by kernel_rfl, of_decide_eq_true (by kernel_rfl)⟩, ⟨by kernel_rfl, of_decide_eq_true (by kernel_rfl)⟩, trivial⟩ rfl hW' ⟨rfl, rfl, rfl⟩ hb
theorem splits_holds_q1 : (Rows.capSplitsRow.inPlace == Try.pinned.checked.prog.inPlace 10) = true := by kernel_rfl
theorem splits_holds_q2 : (Rows.capSplitsRow.unfollowed == Try.pinned.checked.prog.unfollowed 10) = true := by kernel_rfl
theorem splits_holds_q3 : (Rows.capSplitsRow.recurses == Try.pinned.checked.prog.recurses 10) = true := by kernel_rfl
theorem splits_holds_q4 : (Rows.capSplitsRow.named == Try.pinned.checked.prog.varsNamed 10) = true := by kernel_rfl
theorem splits_holds_q5 : laidOutB Try.pinned.checked.prog = true := by kernel_rfl
theorem splits_holds_q6 : mapsRowed Try.pinned.checked.prog = true := by kernel_rfl
theorem splits_holds_q7 : Try.pinned.checked.prog.funcNamed Rows.capSplitsRow.func = some 10 := by kernel_rfl
theorem splits_holds_q8 : joinedFacts Try.pinned.checked.prog 10 Try.f10 Rows.capSplitsSpec Rows.capSplitsRow = true := by
  unfold joinedFacts
  rw [splits_holds_q1, splits_holds_q2, splits_holds_q3, splits_holds_q4, splits_holds_q5, splits_holds_q6]
  kernel_rfl
theorem splits_holds : Rows.CapSplitsSaid :=
  OpenClaim.holds_of_wide 10 Try.f10 rfl rfl rfl rfl rfl rfl rfl ⟨rfl, rfl, rfl, rfl, rfl⟩ rfl rfl rfl rfl rfl splits_holds_q7 Try.func10 splits_holds_q8
    (of_decide_eq_true (by kernel_rfl)) (by unfold Func.isWrapper; first | (rw [if_pos (by decide +kernel)]; kernel_rfl) | (rw [if_neg (by decide +kernel)]; exact ⟨rfl, rfl⟩))
    (fun os started H enc _ => splits_holds_lifted os started H enc)
#print axioms splits_holds
end Go.Proofs.Ytnbickholedckaa
