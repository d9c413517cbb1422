/- CapHeads holds: the program and the reference say of each head whether its measures contradict each other, and take the same block. -/
import Derived.Test.YtnbickholedckaaMC36
import Derived.Test.YtnbickholedckaaMClose2
import Derived.Test.YtnbickholedckaaMClose
namespace Go.Proofs.Ytnbickholedckaa
open Go.RowKit Go.ChangeShapes Go.WideShapes Go.ChangeAt

set_option maxRecDepth 100000 in
theorem heads_holds_lifted (os : Os) (started : os.Started) (H : Type) (enc : TypeId × Value → H) :
    ReturnsInHanded {} Try.checked os 7 .any (Rows.capHeadsSpec.pre6 enc Try.prog Try.f7 Rows.capHeadsRow.domain false) (Rows.capHeadsSpec.post enc Try.prog Try.f7 false true false false) := by
  refine returnsInHanded_of_change (C := Try.checked) ownK started (by kernel_rfl) Try.func7
    (ChangeSpec.witness6 (enc := enc) (C := Try.checked) false ⟨#[], #[.agg #[.int .i64 0, .int .i64 0, .int .i64 0, .int .i64 0, .int .i64 0, .int .i64 0], .slice none 0 0], []⟩ 8 (by kernel_rfl) (by kernel_rfl) (by kernel_rfl) (by kernel_rfl)) ?_
  intro W base args ds gs before hval0 hW hcnd _
  have hval : ∀ (j : Nat) t v, Try.f7.params[j]? = some t → args[j]? = some v → Value.okWide Try.prog W .any base t v := hval0
  have hW' := hW
  obtain ⟨p, q, hA0, hV, rfl, hfz, hnd⟩ := hW
  have hA : DataW.TrodAll enc Try.prog W 0 (fun _ => true) true Try.f7.params.toList args.toList ds p := hA0
  rw [Try.params7] at hA hval
  obtain ⟨v0, v1, d_0, d_1, p_0, p_1, rfl, rfl, rfl, h0, h1⟩ := trodAll_two hA
  obtain ⟨x0, rfl, n0, I0⟩ := arg_flat (m := 5) (k := 6) (by kernel_rfl) (by kernel_rfl) (hval 0 _ v0 rfl rfl) h0
  obtain ⟨x0_0, x0_1, x0_2, x0_3, x0_4, x0_5, rfl⟩ := len_6 n0
  obtain ⟨oa1, n1, c1, l1, rfl, e1, m1, g1, I1, s1⟩ := arg_sl (m := 5) (k := 1) (by kernel_rfl) (hval 1 _ v1 rfl rfl) h1
  refine (law_calls ((k_CapHeads x0_0 x0_1 x0_2 x0_3 x0_4 x0_5 l1 oa1 n1 c1 e1 _ ⟨W, []⟩ [] s1).mono fun _ _ h => h.1)).mono fun e W' ⟨he, hb⟩ => ⟨.bool true, he, ?_⟩
  exact law_post rfl ⟨⟨by kernel_rfl, of_decide_eq_true (by kernel_rfl)⟩, ⟨by kernel_rfl, of_decide_eq_true (by kernel_rfl)⟩, trivial⟩ rfl hW' ⟨rfl, rfl, rfl⟩ hb
theorem heads_holds_q1 : (Rows.capHeadsRow.inPlace == Try.pinned.checked.prog.inPlace 7) = true := by kernel_rfl
theorem heads_holds_q2 : (Rows.capHeadsRow.unfollowed == Try.pinned.checked.prog.unfollowed 7) = true := by kernel_rfl
theorem heads_holds_q3 : (Rows.capHeadsRow.recurses == Try.pinned.checked.prog.recurses 7) = true := by kernel_rfl
theorem heads_holds_q4 : (Rows.capHeadsRow.named == Try.pinned.checked.prog.varsNamed 7) = true := by kernel_rfl
theorem heads_holds_q5 : laidOutB Try.pinned.checked.prog = true := by kernel_rfl
theorem heads_holds_q6 : mapsRowed Try.pinned.checked.prog = true := by kernel_rfl
theorem heads_holds_q7 : Try.pinned.checked.prog.funcNamed Rows.capHeadsRow.func = some 7 := by kernel_rfl
theorem heads_holds_q8 : joinedFacts Try.pinned.checked.prog 7 Try.f7 Rows.capHeadsSpec Rows.capHeadsRow = true := by
  unfold joinedFacts
  rw [heads_holds_q1, heads_holds_q2, heads_holds_q3, heads_holds_q4, heads_holds_q5, heads_holds_q6]
  kernel_rfl
theorem heads_holds : Rows.CapHeadsSaid :=
  OpenClaim.holds_of_wide 7 Try.f7 rfl rfl rfl rfl rfl rfl rfl ⟨rfl, rfl, rfl, rfl, rfl⟩ rfl rfl rfl rfl rfl heads_holds_q7 Try.func7 heads_holds_q8
    (of_decide_eq_true (by kernel_rfl)) (by unfold Func.isWrapper; first | (rw [if_pos (by decide +kernel)]; kernel_rfl) | (rw [if_neg (by decide +kernel)]; exact ⟨rfl, rfl⟩))
    (fun os started H enc _ => heads_holds_lifted os started H enc)
#print axioms heads_holds
end Go.Proofs.Ytnbickholedckaa
