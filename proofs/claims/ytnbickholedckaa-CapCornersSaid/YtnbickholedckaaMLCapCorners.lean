/- CapCorners holds: each corner is in exactly one point, and a point is inside exactly if no loop of the edge comes by. -/
import Derived.Test.YtnbickholedckaaMC45
import Derived.Test.YtnbickholedckaaMB8
namespace Go.Proofs.Ytnbickholedckaa
open Go.RowKit Go.ChangeShapes Go.WideShapes Go.ChangeAt

set_option maxRecDepth 100000 in
theorem corners_holds_lifted (os : Os) (started : os.Started) (H : Type) (enc : TypeId × Value → H) :
    ReturnsInHanded {} Try.checked os 5 .any (Rows.capCornersSpec.pre6 enc Try.prog Try.f5 Rows.capCornersRow.domain false) (Rows.capCornersSpec.post enc Try.prog Try.f5 false true false false) := by
  refine returnsInHanded_of_change (C := Try.checked) ownK started (by kernel_rfl) Try.func5
    (ChangeSpec.witness6 (enc := enc) (C := Try.checked) false ⟨#[], #[.agg #[.slice none 0 0, .slice none 0 0, .int .i64 0]], []⟩ 8 (by kernel_rfl) (by kernel_rfl) (by kernel_rfl) (by kernel_rfl)) ?_
  intro W base args ds gs before hval0 hW hcnd _
  have hval : ∀ (j : Nat) t v, Try.f5.params[j]? = some t → args[j]? = some v → Value.okWide Try.prog W .any base t v := hval0
  have hW' := hW
  obtain ⟨p, q, hA0, hV, rfl, hfz, hnd⟩ := hW
  have hA : DataW.TrodAll enc Try.prog W 0 (fun _ => true) true Try.f5.params.toList args.toList ds p := hA0
  rw [Try.params5] at hA hval
  obtain ⟨v0, d_0, rfl, rfl, h0⟩ := trodAll_one hA
  obtain ⟨oa0, ob0, c0, m0, d0, ps0, sm0, z0, rfl, e0, I0, C0⟩ := arg_cap (by kernel_rfl) (hval 0 _ v0 rfl rfl) h0
  refine (law_calls ((k_CapCorners ps0 oa0 ob0 c0 m0 d0 sm0 z0 e0 _ ⟨W, []⟩ [] C0).mono fun _ _ h => h.1)).mono fun e W' ⟨he, hb⟩ => ⟨.bool true, he, ?_⟩
  exact law_post rfl ⟨⟨by kernel_rfl, of_decide_eq_true (by kernel_rfl)⟩, trivial⟩ rfl hW' ⟨rfl, rfl, rfl⟩ hb
theorem corners_holds_q1 : (Rows.capCornersRow.inPlace == Try.pinned.checked.prog.inPlace 5) = true := by kernel_rfl
theorem corners_holds_q2 : (Rows.capCornersRow.unfollowed == Try.pinned.checked.prog.unfollowed 5) = true := by kernel_rfl
theorem corners_holds_q3 : (Rows.capCornersRow.recurses == Try.pinned.checked.prog.recurses 5) = true := by kernel_rfl
theorem corners_holds_q4 : (Rows.capCornersRow.named == Try.pinned.checked.prog.varsNamed 5) = true := by kernel_rfl
theorem corners_holds_q5 : laidOutB Try.pinned.checked.prog = true := by kernel_rfl
theorem corners_holds_q6 : mapsRowed Try.pinned.checked.prog = true := by kernel_rfl
theorem corners_holds_q7 : Try.pinned.checked.prog.funcNamed Rows.capCornersRow.func = some 5 := by kernel_rfl
theorem corners_holds_q8 : joinedFacts Try.pinned.checked.prog 5 Try.f5 Rows.capCornersSpec Rows.capCornersRow = true := by
  unfold joinedFacts
  rw [corners_holds_q1, corners_holds_q2, corners_holds_q3, corners_holds_q4, corners_holds_q5, corners_holds_q6]
  kernel_rfl
theorem corners_holds : Rows.CapCornersSaid :=
  OpenClaim.holds_of_wide 5 Try.f5 rfl rfl rfl rfl rfl rfl rfl ⟨rfl, rfl, rfl, rfl, rfl⟩ rfl rfl rfl rfl rfl corners_holds_q7 Try.func5 corners_holds_q8
    (of_decide_eq_true (by kernel_rfl)) (by unfold Func.isWrapper; first | (rw [if_pos (by decide +kernel)]; kernel_rfl) | (rw [if_neg (by decide +kernel)]; exact ⟨rfl, rfl⟩))
    (fun os started H enc _ => corners_holds_lifted os started H enc)
#print axioms corners_holds
end Go.Proofs.Ytnbickholedckaa
