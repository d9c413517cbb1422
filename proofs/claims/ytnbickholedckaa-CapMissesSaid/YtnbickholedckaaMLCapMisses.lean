/- CapMisses holds: parts, Euler number, handles and what is missing in all, which is 360 times the Euler number. -/
import Derived.Test.YtnbickholedckaaMC48
import Derived.Test.YtnbickholedckaaMB8
namespace Go.Proofs.Ytnbickholedckaa
open Go.RowKit Go.ChangeShapes Go.WideShapes Go.ChangeAt

set_option maxRecDepth 100000 in
theorem misses_holds_lifted (os : Os) (started : os.Started) (H : Type) (enc : TypeId × Value → H) :
    ReturnsInHanded {} Try.checked os 9 .any (Rows.capMissesSpec.pre6 enc Try.prog Try.f9 Rows.capMissesRow.domain false) (Rows.capMissesSpec.post enc Try.prog Try.f9 false true false false) := by
  refine returnsInHanded_of_change (C := Try.checked) ownK started (by kernel_rfl) Try.func9
    (ChangeSpec.witness6 (enc := enc) (C := Try.checked) false ⟨#[], #[.agg #[.slice none 0 0, .slice none 0 0, .int .i64 0]], []⟩ 8 (by kernel_rfl) (by kernel_rfl) (by kernel_rfl) (by kernel_rfl)) ?_
  intro W base args ds gs before hval0 hW hcnd _
  have hval : ∀ (j : Nat) t v, Try.f9.params[j]? = some t → args[j]? = some v → Value.okWide Try.prog W .any base t v := hval0
  have hW' := hW
  obtain ⟨p, q, hA0, hV, rfl, hfz, hnd⟩ := hW
  have hA : DataW.TrodAll enc Try.prog W 0 (fun _ => true) true Try.f9.params.toList args.toList ds p := hA0
  rw [Try.params9] at hA hval
  obtain ⟨v0, d_0, rfl, rfl, h0⟩ := trodAll_one hA
  obtain ⟨oa0, ob0, c0, m0, d0, ps0, sm0, z0, rfl, e0, I0, C0⟩ := arg_cap (by kernel_rfl) (hval 0 _ v0 rfl rfl) h0
  refine (law_calls ((k_CapMisses ps0 oa0 ob0 c0 m0 d0 sm0 z0 e0 _ ⟨W, []⟩ [] C0).mono fun _ _ h => h.1)).mono fun e W' ⟨he, hb⟩ => ⟨.bool true, he, ?_⟩
  exact law_post rfl ⟨⟨by kernel_rfl, of_decide_eq_true (by kernel_rfl)⟩, trivial⟩ rfl hW' ⟨rfl, rfl, rfl⟩ hb
theorem misses_holds_q1 : (Rows.capMissesRow.inPlace == Try.pinned.checked.prog.inPlace 9) = true := by kernel_rfl
theorem misses_holds_q2 : (Rows.capMissesRow.unfollowed == Try.pinned.checked.prog.unfollowed 9) = true := by kernel_rfl
theorem misses_holds_q3 : (Rows.capMissesRow.recurses == Try.pinned.checked.prog.recurses 9) = true := by kernel_rfl
theorem misses_holds_q4 : (Rows.capMissesRow.named == Try.pinned.checked.prog.varsNamed 9) = true := by kernel_rfl
theorem misses_holds_q5 : laidOutB Try.pinned.checked.prog = true := by kernel_rfl
theorem misses_holds_q6 : mapsRowed Try.pinned.checked.prog = true := by kernel_rfl
theorem misses_holds_q7 : Try.pinned.checked.prog.funcNamed Rows.capMissesRow.func = some 9 := by kernel_rfl
theorem misses_holds_q8 : joinedFacts Try.pinned.checked.prog 9 Try.f9 Rows.capMissesSpec Rows.capMissesRow = true := by
  unfold joinedFacts
  rw [misses_holds_q1, misses_holds_q2, misses_holds_q3, misses_holds_q4, misses_holds_q5, misses_holds_q6]
  kernel_rfl
theorem misses_holds : Rows.CapMissesSaid :=
  OpenClaim.holds_of_wide 9 Try.f9 rfl rfl rfl rfl rfl rfl rfl ⟨rfl, rfl, rfl, rfl, rfl⟩ rfl rfl rfl rfl rfl misses_holds_q7 Try.func9 misses_holds_q8
    (of_decide_eq_true (by kernel_rfl)) (by unfold Func.isWrapper; first | (rw [if_pos (by decide +kernel)]; kernel_rfl) | (rw [if_neg (by decide +kernel)]; exact ⟨rfl, rfl⟩))
    (fun os started H enc _ => misses_holds_lifted os started H enc)
#print axioms misses_holds
end Go.Proofs.Ytnbickholedckaa
