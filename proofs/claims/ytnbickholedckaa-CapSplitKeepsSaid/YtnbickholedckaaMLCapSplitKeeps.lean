/- CapSplitKeeps holds: a split leaves the parts, the Euler number, the handles, what is missing, and the lengths of the loops. -/
import Derived.Test.YtnbickholedckaaMC78
import Derived.Test.YtnbickholedckaaMB8
namespace Go.Proofs.Ytnbickholedckaa
open Go.RowKit Go.ChangeShapes Go.WideShapes Go.ChangeAt

set_option maxRecDepth 100000 in
theorem splitKeeps_holds_lifted (os : Os) (started : os.Started) (H : Type) (enc : TypeId × Value → H) :
    ReturnsInHanded {} Try.checked os 14 .any (Rows.capSplitKeepsSpec.pre6 enc Try.prog Try.f14 Rows.capSplitKeepsRow.domain false) (Rows.capSplitKeepsSpec.post enc Try.prog Try.f14 false true false false) := by
  refine returnsInHanded_of_change (C := Try.checked) ownK started (by kernel_rfl) Try.func14
    (ChangeSpec.witness6 (enc := enc) (C := Try.checked) false ⟨#[], #[.agg #[.slice none 0 0, .slice none 0 0, .int .i64 0], .agg #[.int .i64 0, .int .i64 0, .int .i64 0, .int .i64 0, .int .i64 0]], []⟩ 8 (by kernel_rfl) (by kernel_rfl) (by kernel_rfl) (by kernel_rfl)) ?_
  intro W base args ds gs before hval0 hW hcnd _
  have hval : ∀ (j : Nat) t v, Try.f14.params[j]? = some t → args[j]? = some v → Value.okWide Try.prog W .any base t v := hval0
  have hW' := hW
  obtain ⟨p, q, hA0, hV, rfl, hfz, hnd⟩ := hW
  have hA : DataW.TrodAll enc Try.prog W 0 (fun _ => true) true Try.f14.params.toList args.toList ds p := hA0
  rw [Try.params14] at hA hval
  obtain ⟨v0, v1, d_0, d_1, p_0, p_1, rfl, rfl, rfl, h0, h1⟩ := trodAll_two hA
  obtain ⟨oa0, ob0, c0, m0, d0, ps0, sm0, z0, rfl, e0, I0, C0⟩ := arg_cap (by kernel_rfl) (hval 0 _ v0 rfl rfl) h0
  obtain ⟨x1, rfl, n1, I1⟩ := arg_flat (m := 5) (k := 5) (by kernel_rfl) (by kernel_rfl) (hval 1 _ v1 rfl rfl) h1
  obtain ⟨x1_0, x1_1, x1_2, x1_3, x1_4, rfl⟩ := len_5 n1
  refine (law_calls ((k_CapSplitKeeps ps0 oa0 ob0 c0 m0 d0 sm0 z0 x1_0 x1_1 x1_2 x1_3 x1_4 e0 _ ⟨W, []⟩ [] C0).mono fun _ _ h => h.1)).mono fun e W' ⟨he, hb⟩ => ⟨.bool true, he, ?_⟩
  exact law_post rfl ⟨⟨by kernel_rfl, of_decide_eq_true (by kernel_rfl)⟩, ⟨by kernel_rfl, of_decide_eq_true (by kernel_rfl)⟩, trivial⟩ rfl hW' ⟨rfl, rfl, rfl⟩ hb
theorem splitKeeps_holds_q1 : (Rows.capSplitKeepsRow.inPlace == Try.pinned.checked.prog.inPlace 14) = true := by kernel_rfl
theorem splitKeeps_holds_q2 : (Rows.capSplitKeepsRow.unfollowed == Try.pinned.checked.prog.unfollowed 14) = true := by kernel_rfl
theorem splitKeeps_holds_q3 : (Rows.capSplitKeepsRow.recurses == Try.pinned.checked.prog.recurses 14) = true := by kernel_rfl
theorem splitKeeps_holds_q4 : (Rows.capSplitKeepsRow.named == Try.pinned.checked.prog.varsNamed 14) = true := by kernel_rfl
theorem splitKeeps_holds_q5 : laidOutB Try.pinned.checked.prog = true := by kernel_rfl
theorem splitKeeps_holds_q6 : mapsRowed Try.pinned.checked.prog = true := by kernel_rfl
theorem splitKeeps_holds_q7 : Try.pinned.checked.prog.funcNamed Rows.capSplitKeepsRow.func = some 14 := by kernel_rfl
theorem splitKeeps_holds_q8 : joinedFacts Try.pinned.checked.prog 14 Try.f14 Rows.capSplitKeepsSpec Rows.capSplitKeepsRow = true := by
  unfold joinedFacts
  rw [splitKeeps_holds_q1, splitKeeps_holds_q2, splitKeeps_holds_q3, splitKeeps_holds_q4, splitKeeps_holds_q5, splitKeeps_holds_q6]
  kernel_rfl
theorem splitKeeps_holds : Rows.CapSplitKeepsSaid :=
  OpenClaim.holds_of_wide 14 Try.f14 rfl rfl rfl rfl rfl rfl rfl ⟨rfl, rfl, rfl, rfl, rfl⟩ rfl rfl rfl rfl rfl splitKeeps_holds_q7 Try.func14 splitKeeps_holds_q8
    (of_decide_eq_true (by kernel_rfl)) (by unfold Func.isWrapper; first | (rw [if_pos (by decide +kernel)]; kernel_rfl) | (rw [if_neg (by decide +kernel)]; exact ⟨rfl, rfl⟩))
    (fun os started H enc _ => splitKeeps_holds_lifted os started H enc)
#print axioms splitKeeps_holds
end Go.Proofs.Ytnbickholedckaa
