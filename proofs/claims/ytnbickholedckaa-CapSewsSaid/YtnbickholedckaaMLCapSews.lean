/- CapSews holds: Sew and Unsew answer as the reference's, and what they return shares no memory with what they are given. -/
import Derived.Test.YtnbickholedckaaMC53
import Derived.Test.YtnbickholedckaaMB8
namespace Go.Proofs.Ytnbickholedckaa
open Go.RowKit Go.ChangeShapes Go.WideShapes Go.ChangeAt

set_option maxRecDepth 100000 in
theorem sews_holds_lifted (os : Os) (started : os.Started) (H : Type) (enc : TypeId × Value → H) :
    ReturnsInHanded {} Try.checked os 8 .any (Rows.capSewsSpec.pre6 enc Try.prog Try.f8 Rows.capSewsRow.domain false) (Rows.capSewsSpec.post enc Try.prog Try.f8 false true false false) := by
  refine returnsInHanded_of_change (C := Try.checked) ownK started (by kernel_rfl) Try.func8
    (ChangeSpec.witness6 (enc := enc) (C := Try.checked) false ⟨#[], #[.agg #[.slice none 0 0, .slice none 0 0, .int .i64 0], .agg #[.int .i64 0, .int .i64 0, .int .i64 0, .int .i64 0], .int .i64 0], []⟩ 8 (by kernel_rfl) (by kernel_rfl) (by kernel_rfl) (by kernel_rfl)) ?_
  intro W base args ds gs before hval0 hW hcnd _
  have hval : ∀ (j : Nat) t v, Try.f8.params[j]? = some t → args[j]? = some v → Value.okWide Try.prog W .any base t v := hval0
  have hW' := hW
  obtain ⟨p, q, hA0, hV, rfl, hfz, hnd⟩ := hW
  have hA : DataW.TrodAll enc Try.prog W 0 (fun _ => true) true Try.f8.params.toList args.toList ds p := hA0
  rw [Try.params8] at hA hval
  obtain ⟨v0, v1, v2, d_0, d_1, d_2, p_0, p_1, p_2, rfl, rfl, rfl, h0, h1, h2⟩ := trodAll_three hA
  obtain ⟨oa0, ob0, c0, m0, d0, ps0, sm0, z0, rfl, e0, I0, C0⟩ := arg_cap (by kernel_rfl) (hval 0 _ v0 rfl rfl) h0
  obtain ⟨x1, rfl, n1, I1⟩ := arg_flat (m := 5) (k := 4) (by kernel_rfl) (by kernel_rfl) (hval 1 _ v1 rfl rfl) h1
  obtain ⟨x1_0, x1_1, x1_2, x1_3, rfl⟩ := len_4 n1
  obtain ⟨z2, rfl, I2⟩ := arg_int (by kernel_rfl) (hval 2 _ v2 rfl rfl) h2
  refine (law_calls ((k_CapSews ps0 oa0 ob0 c0 m0 d0 sm0 z0 x1_0 x1_1 x1_2 x1_3 z2 e0 _ ⟨W, []⟩ [] C0).mono fun _ _ h => h.1)).mono fun e W' ⟨he, hb⟩ => ⟨.bool true, he, ?_⟩
  exact law_post rfl ⟨⟨by kernel_rfl, of_decide_eq_true (by kernel_rfl)⟩, ⟨by kernel_rfl, of_decide_eq_true (by kernel_rfl)⟩, ⟨by kernel_rfl, of_decide_eq_true (by kernel_rfl)⟩, trivial⟩ rfl hW' ⟨rfl, rfl, rfl⟩ hb
theorem sews_holds_q1 : (Rows.capSewsRow.inPlace == Try.pinned.checked.prog.inPlace 8) = true := by kernel_rfl
theorem sews_holds_q2 : (Rows.capSewsRow.unfollowed == Try.pinned.checked.prog.unfollowed 8) = true := by kernel_rfl
theorem sews_holds_q3 : (Rows.capSewsRow.recurses == Try.pinned.checked.prog.recurses 8) = true := by kernel_rfl
theorem sews_holds_q4 : (Rows.capSewsRow.named == Try.pinned.checked.prog.varsNamed 8) = true := by kernel_rfl
theorem sews_holds_q5 : laidOutB Try.pinned.checked.prog = true := by kernel_rfl
theorem sews_holds_q6 : mapsRowed Try.pinned.checked.prog = true := by kernel_rfl
theorem sews_holds_q7 : Try.pinned.checked.prog.funcNamed Rows.capSewsRow.func = some 8 := by kernel_rfl
theorem sews_holds_q8 : joinedFacts Try.pinned.checked.prog 8 Try.f8 Rows.capSewsSpec Rows.capSewsRow = true := by
  unfold joinedFacts
  rw [sews_holds_q1, sews_holds_q2, sews_holds_q3, sews_holds_q4, sews_holds_q5, sews_holds_q6]
  kernel_rfl
theorem sews_holds : Rows.CapSewsSaid :=
  OpenClaim.holds_of_wide 8 Try.f8 rfl rfl rfl rfl rfl rfl rfl ⟨rfl, rfl, rfl, rfl, rfl⟩ rfl rfl rfl rfl rfl sews_holds_q7 Try.func8 sews_holds_q8
    (of_decide_eq_true (by kernel_rfl)) (by unfold Func.isWrapper; first | (rw [if_pos (by decide +kernel)]; kernel_rfl) | (rw [if_neg (by decide +kernel)]; exact ⟨rfl, rfl⟩))
    (fun os started H enc _ => sews_holds_lifted os started H enc)
#print axioms sews_holds
end Go.Proofs.Ytnbickholedckaa
