/- CapWears holds: Wears answers as the reference says, and a cap that is worn misses 360 times two less its loops. -/
import Derived.Test.YtnbickholedckaaMC56
import Derived.Test.YtnbickholedckaaMB8
namespace Go.Proofs.Ytnbickholedckaa
open Go.RowKit Go.ChangeShapes Go.WideShapes Go.ChangeAt

set_option maxRecDepth 100000 in
theorem wears_holds_lifted (os : Os) (started : os.Started) (H : Type) (enc : TypeId × Value → H) :
    ReturnsInHanded {} Try.checked os 12 .any (Rows.capWearsSpec.pre6 enc Try.prog Try.f12 Rows.capWearsRow.domain false) (Rows.capWearsSpec.post enc Try.prog Try.f12 false true false false) := by
  refine returnsInHanded_of_change (C := Try.checked) ownK started (by kernel_rfl) Try.func12
    (ChangeSpec.witness6 (enc := enc) (C := Try.checked) false ⟨#[], #[.agg #[.slice none 0 0, .slice none 0 0, .int .i64 0], .agg #[.int .i64 0, .int .i64 0, .int .i64 0, .int .i64 0, .int .i64 0, .int .i64 0]], []⟩ 8 (by kernel_rfl) (by kernel_rfl) (by kernel_rfl) (by kernel_rfl)) ?_
  intro W base args ds gs before hval0 hW hcnd _
  have hval : ∀ (j : Nat) t v, Try.f12.params[j]? = some t → args[j]? = some v → Value.okWide Try.prog W .any base t v := hval0
  have hW' := hW
  obtain ⟨p, q, hA0, hV, rfl, hfz, hnd⟩ := hW
  have hA : DataW.TrodAll enc Try.prog W 0 (fun _ => true) true Try.f12.params.toList args.toList ds p := hA0
  rw [Try.params12] at hA hval
  obtain ⟨v0, v1, d_0, d_1, p_0, p_1, rfl, rfl, rfl, h0, h1⟩ := trodAll_two hA
  obtain ⟨oa0, ob0, c0, m0, d0, ps0, sm0, z0, rfl, e0, I0, C0⟩ := arg_cap (by kernel_rfl) (hval 0 _ v0 rfl rfl) h0
  obtain ⟨x1, rfl, n1, I1⟩ := arg_flat (m := 5) (k := 6) (by kernel_rfl) (by kernel_rfl) (hval 1 _ v1 rfl rfl) h1
  obtain ⟨x1_0, x1_1, x1_2, x1_3, x1_4, x1_5, rfl⟩ := len_6 n1
  refine (law_calls ((k_CapWears ps0 oa0 ob0 c0 m0 d0 sm0 z0 x1_0 x1_1 x1_2 x1_3 x1_4 x1_5 e0 _ ⟨W, []⟩ [] C0).mono fun _ _ h => h.1)).mono fun e W' ⟨he, hb⟩ => ⟨.bool true, he, ?_⟩
  exact law_post rfl ⟨⟨by kernel_rfl, of_decide_eq_true (by kernel_rfl)⟩, ⟨by kernel_rfl, of_decide_eq_true (by kernel_rfl)⟩, trivial⟩ rfl hW' ⟨rfl, rfl, rfl⟩ hb
theorem wears_holds_q1 : (Rows.capWearsRow.inPlace == Try.pinned.checked.prog.inPlace 12) = true := by kernel_rfl
theorem wears_holds_q2 : (Rows.capWearsRow.unfollowed == Try.pinned.checked.prog.unfollowed 12) = true := by kernel_rfl
theorem wears_holds_q3 : (Rows.capWearsRow.recurses == Try.pinned.checked.prog.recurses 12) = true := by kernel_rfl
theorem wears_holds_q4 : (Rows.capWearsRow.named == Try.pinned.checked.prog.varsNamed 12) = true := by kernel_rfl
theorem wears_holds_q5 : laidOutB Try.pinned.checked.prog = true := by kernel_rfl
theorem wears_holds_q6 : mapsRowed Try.pinned.checked.prog = true := by kernel_rfl
theorem wears_holds_q7 : Try.pinned.checked.prog.funcNamed Rows.capWearsRow.func = some 12 := by kernel_rfl
theorem wears_holds_q8 : joinedFacts Try.pinned.checked.prog 12 Try.f12 Rows.capWearsSpec Rows.capWearsRow = true := by
  unfold joinedFacts
  rw [wears_holds_q1, wears_holds_q2, wears_holds_q3, wears_holds_q4, wears_holds_q5, wears_holds_q6]
  kernel_rfl
theorem wears_holds : Rows.CapWearsSaid :=
  OpenClaim.holds_of_wide 12 Try.f12 rfl rfl rfl rfl rfl rfl rfl ⟨rfl, rfl, rfl, rfl, rfl⟩ rfl rfl rfl rfl rfl wears_holds_q7 Try.func12 wears_holds_q8
    (of_decide_eq_true (by kernel_rfl)) (by unfold Func.isWrapper; first | (rw [if_pos (by decide +kernel)]; kernel_rfl) | (rw [if_neg (by decide +kernel)]; exact ⟨rfl, rfl⟩))
    (fun os started H enc _ => wears_holds_lifted os started H enc)
#print axioms wears_holds
end Go.Proofs.Ytnbickholedckaa
