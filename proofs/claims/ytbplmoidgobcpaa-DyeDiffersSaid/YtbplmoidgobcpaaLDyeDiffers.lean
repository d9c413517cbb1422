/- DyeDiffers holds: how far two shades are apart; it is a distance. -/
import Derived.Test.YtbplmoidgobcpaaD13
import Derived.Test.YtbplmoidgobcpaaClose2
namespace Go.Proofs.Ytbplmoidgobcpaa
open Go.RowKit Go.ChangeShapes Go.WideShapes Go.ChangeAt

theorem diV_sym (L T C l t c : Int) : diV l t c L T C = diV L T C l t c := by
  unfold diV
  by_cases h : sdB L T C = true ∧ sdB l t c = true
  · rw [if_pos h, if_pos ⟨h.2, h.1⟩]; unfold dif; omega
  · rw [if_neg h, if_neg (fun hh => h ⟨hh.2, hh.1⟩)]
theorem diE_sym (L T C l t c : Int) : diE l t c L T C = diE L T C l t c := by
  unfold diE
  by_cases h : sdB L T C = true ∧ sdB l t c = true
  · rw [if_pos h, if_pos ⟨h.2, h.1⟩]
  · rw [if_neg h, if_neg (fun hh => h ⟨hh.2, hh.1⟩)]
theorem diV_to (L T C l t c : Int) : 0 ≤ diV L T C l t c ∧ diV L T C l t c ≤ 100 := by
  unfold diV
  split
  · rename_i h
    have h1 := sdB_to.1 h.1
    have h2 := sdB_to.1 h.2
    unfold dif; omega
  · omega
theorem dif_tri (L T l t x y : Int) (h1 : 0 ≤ T ∧ T ≤ 5) (h2 : 0 ≤ t ∧ t ≤ 5) (h3 : 0 ≤ y ∧ y ≤ 5) : dif L T l t ≤ dif L T x y + dif x y l t := by
  have a : max (L - l) (-(L - l)) ≤ max (L - x) (-(L - x)) + max (x - l) (-(x - l)) := by omega
  have b : min (max (T - t) (-(T - t))) (6 - max (T - t) (-(T - t))) ≤ min (max (T - y) (-(T - y))) (6 - max (T - y) (-(T - y))) + min (max (y - t) (-(y - t))) (6 - max (y - t) (-(y - t))) := by omega
  unfold dif
  omega
theorem diV_tri (L T C l t c x y z : Int) (h1 : diE L T C l t c = 0) (h2 : diE L T C x y z = 0) (h3 : diE x y z l t c = 0) : diV L T C l t c ≤ diV L T C x y z + diV x y z l t c := by
  have key : ∀ {L T C l t c : Int}, diE L T C l t c = 0 → sdB L T C = true ∧ sdB l t c = true := fun {L T C l t c} h => by
    unfold diE at h
    by_cases e : sdB L T C = true ∧ sdB l t c = true
    · exact e
    · rw [if_neg e] at h; cases h
  have a := key h1
  have b := key h2
  have c' := key h3
  unfold diV
  rw [if_pos a, if_pos b, if_pos c']
  have v1 := sdB_to.1 a.1
  have v2 := sdB_to.1 a.2
  have v3 := sdB_to.1 b.2
  exact dif_tri _ _ _ _ _ _ (by omega) (by omega) (by omega)
set_option maxRecDepth 100000 in
set_option maxHeartbeats 8000000 in
theorem l_differs (L T C l t c x y z : Int) (B : Nat) (w0 : World) (hs : HS) : Fn Try.prog 9 #[.agg #[iv L, iv T, iv C], .agg #[iv l, iv t, iv c], .agg #[iv x, iv y, iv z]] B w0 hs (fun v _ => v = .bool true) := by
  have k1 := k_Differ L T C l t c B w0
  have k2 := r_Differ L T C l t c B w0
  have k3 := k_Differ l t c L T C B w0
  rw [diV_sym, diE_sym] at k3
  have k4 := k_Differ L T C x y z B w0
  have k5 := k_Differ x y z l t c B w0
  have b1 := diV_to L T C l t c
  have b2 := diV_to L T C x y z
  have b3 := diV_to x y z l t c
  have tri := diV_tri L T C l t c x y z
  unfold shd at k1 k2 k3 k4 k5
  generalize diV L T C l t c = p at *
  generalize diE L T C l t c = e at *
  generalize diV L T C x y z = p2 at *
  generalize diE L T C x y z = e2 at *
  generalize diV x y z l t c = p3 at *
  generalize diE x y z l t c = e3 at *
  refine fn_enter Try.func9 rfl Try.ntmps9 (by simp) ?_
  repeat' (first | ((with_reducible apply kF 33); refine sC 33 (k1 _) ?_) | ((with_reducible apply kF 34); refine sC 34 (k2 _) ?_) | ((with_reducible apply kF 33); refine sC 33 (k3 _) ?_) | ((with_reducible apply kF 33); refine sC 33 (k4 _) ?_) | ((with_reducible apply kF 33); refine sC 33 (k5 _) ?_) | ((with_reducible apply kF 20); refine sC 20 (k_known B w0 _) ?_) | (with_reducible first | refine c_seq ?_ | refine c_reg ?_ | refine c_region ?_ | refine c_block ?_ | refine c_skip ?_ | refine c_exit ?_ | refine c_ret ?_ | refine s_nil ?_ | refine x_then ?_ | refine x_then_exit ?_ | refine x_then_ret ?_ | refine x_block ?_ | refine x_block_ret ?_ | refine x_block_same ?_ | refine x_block_other (by rfl) ?_ | refine q_nil ?_ | refine k_nil ?_) | ((with_reducible apply kP (.makeFunc _ _ _)); refine sMF ?_) | ((with_reducible apply kG); first | refine gY1 ?_ | refine gN1 ?_ | refine gU1 ?_ | (refine gD1 (fun h => ?_) (fun h => ?_) <;> (try (exfalso; omega))) | refine gB1 (fun h => ?_) (fun h => ?_)) | ((with_reducible apply kN); first | refine stP ?_ | refine stI ?_ | refine st1 ?_ | refine stW ?_) | ((with_reducible apply kP (.alloc _)); refine sA (fun b => ?_)) | ((with_reducible apply kP (.box _ _)); first | refine sBA (fun b => ?_) | refine sB (fun b => ?_)) | ((with_reducible apply kP (.buildSlice _ 1 _)); first | refine sl1A (fun b => ?_) | refine sl1 (fun b => ?_)) | ((with_reducible apply kP (.buildSlice _ 2 _)); refine sl2 (fun b => ?_)) | ((with_reducible apply kP (.buildSlice _ 3 _)); refine sl3 (fun b => ?_)) | ((with_reducible apply kP (.buildSlice _ 4 _)); refine sl4 (fun b => ?_)) | ((with_reducible apply kP (.buildSlice _ 0 _)); refine s_bs0 (scTOf rfl) (zsTOf rfl) (by decide) (fun b => ?_)) | ((with_reducible apply kP (.makeSlice _ _ _)); refine sMk (fun b => ?_)) | ((with_reducible apply kP (.call ⟨.builtin .append, _, _⟩)); refine sAp (fun oa2 c2 blk2 hrow2 => ?_)) | ((with_reducible apply kP _); refine sP ?_) | ((with_reducible apply kP _); refine sX ?_) | ((with_reducible apply kQG); first | refine qY1 ?_ | refine qN1 ?_ | refine qU1 ?_ | (refine qD1 (fun h => ?_) (fun h => ?_) <;> (try (exfalso; omega))) | refine qB1 (fun h => ?_) (fun h => ?_)) | ((with_reducible apply kQP); refine qP ?_) | ((with_reducible apply kQP); refine qX ?_) | ((with_reducible apply kC); first | refine cT ?_ | refine cF ?_ | (refine cI (fun h => ?_) (fun h => ?_) <;> (try (exfalso; omega))) | refine cB (fun h => ?_) (fun h => ?_)) | ((with_reducible apply kR); refine cQ ?_))
  all_goals first
    | exact e_ret1 rfl rfl rfl (.refl _)
    | exact absurd rfl ‹¬ _ = _›
    | exact absurd rfl ‹_ ≠ _›
    | (exfalso; have := tri (by omega) (by omega) (by omega); omega)
    | trace_state
set_option maxRecDepth 100000 in
theorem differs_holds_lifted (os : Os) (started : os.Started) (H : Type) (enc : TypeId × Value → H) :
    ReturnsInHanded {} Try.checked os 9 .any (Rows.dyeDiffersSpec.pre6 enc Try.prog Try.f9 Rows.dyeDiffersRow.domain false) (Rows.dyeDiffersSpec.post enc Try.prog Try.f9 false true false false) := by
  refine returnsInHanded_of_change (C := Try.checked) ownK started (by kernel_rfl) Try.func9
    (ChangeSpec.witness6 (enc := enc) (C := Try.checked) false ⟨#[], #[.agg #[.int .i64 0, .int .i64 0, .int .i64 0], .agg #[.int .i64 0, .int .i64 0, .int .i64 0], .agg #[.int .i64 0, .int .i64 0, .int .i64 0]], []⟩ 8 (by kernel_rfl) (by kernel_rfl) (by kernel_rfl) (by kernel_rfl)) ?_
  intro W base args ds gs before hval0 hW hcnd _
  have hval : ∀ (j : Nat) t v, Try.f9.params[j]? = some t → args[j]? = some v → Value.okWide Try.prog W .any base t v := hval0
  have hW' := hW
  obtain ⟨p, q, hA0, hV, rfl, hfz, hnd⟩ := hW
  have hA : DataW.TrodAll enc Try.prog W 0 (fun _ => true) true Try.f9.params.toList args.toList ds p := hA0
  rw [Try.params9] at hA hval
  obtain ⟨v0, v1, v2, d_0, d_1, d_2, p_0, p_1, p_2, rfl, rfl, rfl, h0, h1, h2⟩ := trodAll_three hA
  obtain ⟨x0, rfl, n0, I0⟩ := arg_flat (m := 5) (k := 3) (by kernel_rfl) (by kernel_rfl) (hval 0 _ v0 rfl rfl) h0
  obtain ⟨x0_0, x0_1, x0_2, rfl⟩ := len_3 n0
  obtain ⟨x1, rfl, n1, I1⟩ := arg_flat (m := 5) (k := 3) (by kernel_rfl) (by kernel_rfl) (hval 1 _ v1 rfl rfl) h1
  obtain ⟨x1_0, x1_1, x1_2, rfl⟩ := len_3 n1
  obtain ⟨x2, rfl, n2, I2⟩ := arg_flat (m := 5) (k := 3) (by kernel_rfl) (by kernel_rfl) (hval 2 _ v2 rfl rfl) h2
  obtain ⟨x2_0, x2_1, x2_2, rfl⟩ := len_3 n2
  refine (law_calls (l_differs x0_0 x0_1 x0_2 x1_0 x1_1 x1_2 x2_0 x2_1 x2_2 _ W [])).mono fun e W' ⟨he, hb⟩ => ⟨.bool true, he, ?_⟩
  exact law_post rfl ⟨⟨by kernel_rfl, of_decide_eq_true (by kernel_rfl)⟩, ⟨by kernel_rfl, of_decide_eq_true (by kernel_rfl)⟩, ⟨by kernel_rfl, of_decide_eq_true (by kernel_rfl)⟩, trivial⟩ rfl hW' ⟨rfl, rfl, rfl⟩ hb
theorem differs_holds : Rows.DyeDiffersSaid :=
  OpenClaim.holds_of_wide 9 Try.f9 rfl rfl rfl rfl rfl rfl rfl ⟨rfl, rfl, rfl, rfl, rfl⟩ rfl rfl rfl rfl rfl (by kernel_rfl) Try.func9 (by kernel_rfl)
    (of_decide_eq_true (by kernel_rfl)) (by unfold Func.isWrapper; first | (rw [if_pos (by decide +kernel)]; kernel_rfl) | (rw [if_neg (by decide +kernel)]; exact ⟨rfl, rfl⟩))
    (fun os started H enc _ => differs_holds_lifted os started H enc)
#print axioms differs_holds
end Go.Proofs.Ytbplmoidgobcpaa
