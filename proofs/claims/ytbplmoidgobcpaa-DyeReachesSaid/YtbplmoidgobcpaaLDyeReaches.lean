/- DyeReaches holds: what is reached from a reached shade is reached. -/
import Derived.Test.YtbplmoidgobcpaaD15
import Derived.Test.YtbplmoidgobcpaaClose2
namespace Go.Proofs.Ytbplmoidgobcpaa
open Go.RowKit Go.ChangeShapes Go.WideShapes Go.ChangeAt

theorem pth_len : ∀ f L T C l t, (pth f L T C l t).1.length ≤ 3 * f
  | 0, _, _, _, _, _ => by simp [pth]
  | f + 1, L, T, C, l, t => by
    have := pth_len f (min (L + 2) 10) 0 (C + 1) l t
    unfold pth
    by_cases a : L = l ∧ T = t
    · rw [if_pos a]; simp
    · rw [if_neg a]
      by_cases b : l ≤ L
      · rw [if_pos b]
        split <;> simp <;> omega
      · rw [if_neg b]
        by_cases c : C = 3
        · rw [if_pos c]; simp
        · rw [if_neg c]
          split
          · simp; omega
          · simp
theorem paN_to (L T C l t : Int) : 0 ≤ paN L T C l t ∧ paN L T C l t ≤ 4 := by
  unfold paN paL
  have := pth_len 4 L T C l t
  split
  · omega
  · simp
set_option maxRecDepth 100000 in
set_option maxHeartbeats 8000000 in
theorem l_reaches (L T C x y l t : Int) (B : Nat) (w0 : World) (hs : HS) : Fn Try.prog 5 #[.agg #[iv L, iv T, iv C], .agg #[iv x, iv y], .agg #[iv l, iv t]] B w0 hs (fun v _ => v = .bool true) := by
  have kp := k_Path L T C x y B w0
  have kn := k_Baths L T C l t B w0
  unfold shd at kp kn
  refine fn_enter Try.func5 rfl Try.ntmps5 (by simp) ?_
  repeat' (first | ((with_reducible apply kF 23); refine sR 23 (kp _) ?_; rintro u h' ⟨oa, n, c, blk, rfl, hrow, hlen, hn, rfl⟩; have hS := (Sv.row (B := B) (w0 := w0) hrow).ints; generalize hpo : paO L T C x y = po; generalize hpe : paE L T C x y = pe) | ((with_reducible apply kF 20); refine sC 20 (k_known B w0 _) ?_) | ((with_reducible apply kRg 7); refine cD [1, 0, 0, 0, 0, 2, 2, 3, 4] ?_) | (with_reducible first | refine c_seq ?_ | refine c_reg ?_ | refine c_region ?_ | refine c_block ?_ | refine c_skip ?_ | refine c_exit ?_ | refine c_ret ?_ | refine s_nil ?_ | refine x_then ?_ | refine x_then_exit ?_ | refine x_then_ret ?_ | refine x_block ?_ | refine x_block_ret ?_ | refine x_block_same ?_ | refine x_block_other (by rfl) ?_ | refine q_nil ?_ | refine k_nil ?_) | ((with_reducible apply kP (.makeFunc _ _ _)); refine sMF ?_) | ((with_reducible apply kG); first | refine gY1 ?_ | refine gN1 ?_ | refine gU1 ?_ | (refine gD1 (fun h => ?_) (fun h => ?_) <;> (try (exfalso; omega))) | refine gB1 (fun h => ?_) (fun h => ?_)) | ((with_reducible apply kN); first | refine stP ?_ | refine stI ?_ | refine st1 ?_ | refine stW ?_) | ((with_reducible apply kP (.alloc _)); refine sA (fun b => ?_)) | ((with_reducible apply kP (.box _ _)); first | refine sBA (fun b => ?_) | refine sB (fun b => ?_)) | ((with_reducible apply kP (.buildSlice _ 1 _)); first | refine sl1A (fun b => ?_) | refine sl1 (fun b => ?_)) | ((with_reducible apply kP (.buildSlice _ 2 _)); refine sl2 (fun b => ?_)) | ((with_reducible apply kP (.buildSlice _ 3 _)); refine sl3 (fun b => ?_)) | ((with_reducible apply kP (.buildSlice _ 4 _)); refine sl4 (fun b => ?_)) | ((with_reducible apply kP (.buildSlice _ 0 _)); refine s_bs0 (scTOf rfl) (zsTOf rfl) (by decide) (fun b => ?_)) | ((with_reducible apply kP (.makeSlice _ _ _)); refine sMk (fun b => ?_)) | ((with_reducible apply kP (.call ⟨.builtin .append, _, _⟩)); refine sAp (fun oa2 c2 blk2 hrow2 => ?_)) | ((with_reducible apply kP _); refine sP ?_) | ((with_reducible apply kP _); refine sX ?_) | ((with_reducible apply kQG); first | refine qY1 ?_ | refine qN1 ?_ | refine qU1 ?_ | (refine qD1 (fun h => ?_) (fun h => ?_) <;> (try (exfalso; omega))) | refine qB1 (fun h => ?_) (fun h => ?_)) | ((with_reducible apply kQP); refine qP ?_) | ((with_reducible apply kQP); refine qX ?_) | ((with_reducible apply kC); first | refine cT ?_ | refine cF ?_ | (refine cI (fun h => ?_) (fun h => ?_) <;> (try (exfalso; omega))) | refine cB (fun h => ?_) (fun h => ?_)) | ((with_reducible apply kR); refine cQ ?_) | ((with_reducible apply kDG); first | refine dY1 ?_ | refine dNo1 ?_ | refine dU1 ?_ | (refine dD1 (fun h => ?_) (fun h => ?_) <;> (try (exfalso; omega))) | refine dB1 (fun h => ?_) (fun h => ?_)) | ((with_reducible apply kDN); first | refine dtI ?_ | refine dt1 ?_ | refine dtW ?_) | ((with_reducible apply kDP (.alloc _)); refine dA (fun b => ?_)) | ((with_reducible apply kDP (.box _ _)); first | refine dBA (fun b => ?_) | refine dB (fun b => ?_)) | ((with_reducible apply kDP (.buildSlice _ 1 _)); first | refine dl1A (fun b => ?_) | refine dl1 (fun b => ?_)) | ((with_reducible apply kDP (.call ⟨.builtin .append, _, _⟩)); first | refine dAp3 (fun oa2 c2 blk2 hrow2 => ?_) (hS := SCt) | refine dAp4 (fun oa2 c2 blk2 hrow2 => ?_)) | ((with_reducible apply kDP _); refine dP ?_) | ((with_reducible apply kDP _); refine dX ?_))
  · exact e_ret1 rfl rfl rfl (List.sublist_append_of_sublist_right (.cons _ (.cons _ (.cons _ (.refl _)))))
  · exact e_ret1 rfl rfl rfl (List.sublist_append_of_sublist_right (.cons _ (.cons _ (.cons _ (.refl _)))))
  rename_i b0 b1 h1
  have hpe0 : pe = 0 := by omega
  have hpB : paB L T C x y = true := by
    unfold paE at hpe
    by_cases h : paB L T C x y = true
    · exact h
    · rw [if_neg h] at hpe; omega
  have hne := paN_to L T C l t
  refine c_loop (fun i : Nat => [(3, .pointer (some ⟨b0, 0, none⟩)), (5, .pointer (some ⟨b, 0, none⟩)), (7, .slice oa n c), (10, iv i)])
    (fun _ => blk ++ ((b, [iv l, iv t]) :: (b0, [iv L, iv T, iv C]) :: hs)) (fun i => i ≤ n) (fun i => n - i) 0 (Nat.zero_le _) (by repeat' first | trivial | rfl | apply And.intro) SCt ?_
  intro i hi
  by_cases hi' : i < n
  · have hoa : oa.isSome = true := hS.any (i := i * 3) (by omega)
    obtain ⟨r1, r2⟩ := pa_reach (l := l) (t := t) hpB (i := i) (by omega)
    have hn2 := paN_to ((paL L T C x y).getD (i * 3) 0) ((paL L T C x y).getD (i * 3 + 1) 0) ((paL L T C x y).getD (i * 3 + 2) 0) l t
    have kn2 := k_Baths ((paL L T C x y).getD (i * 3) 0) ((paL L T C x y).getD (i * 3 + 1) 0) ((paL L T C x y).getD (i * 3 + 2) 0) l t B w0
    unfold shd at kn2
    rw [r1] at kn2
    generalize paO ((paL L T C x y).getD (i * 3) 0) ((paL L T C x y).getD (i * 3 + 1) 0) ((paL L T C x y).getD (i * 3 + 2) 0) l t = o2 at kn2 r2
    generalize paN ((paL L T C x y).getD (i * 3) 0) ((paL L T C x y).getD (i * 3 + 1) 0) ((paL L T C x y).getD (i * 3 + 2) 0) l t = n2 at kn2 r2 hn2
    generalize paE L T C l t = e1 at kn2 r2 kn
    generalize paO L T C l t = o1 at r2 kn
    generalize paN L T C l t = n1 at r2 kn hne
    clear r1 kp hrow
    repeat' (first | ((with_reducible apply kP (.load 23 _)); refine sP ?_ (o_load rfl (ld_3S (shTOf rfl) (by assumption) SBt (by omega)))) | ((with_reducible apply kDP (.load 23 _)); refine dP ?_ (hX := rfl) (hv := o_load rfl (ld_3S (shTOf rfl) (by assumption) SBt (by omega)))) | ((with_reducible apply kF 21); refine sC 21 (kn2 _) ?_) | ((with_reducible apply kF 21); refine sC 21 (kn _) ?_) | ((with_reducible apply kRg 7); refine cD [1, 0, 0, 0, 0, 2, 2, 3, 4] ?_) | (with_reducible first | refine c_seq ?_ | refine c_reg ?_ | refine c_region ?_ | refine c_block ?_ | refine c_skip ?_ | refine c_exit ?_ | refine c_ret ?_ | refine s_nil ?_ | refine x_then ?_ | refine x_then_exit ?_ | refine x_then_ret ?_ | refine x_block ?_ | refine x_block_ret ?_ | refine x_block_same ?_ | refine x_block_other (by rfl) ?_ | refine q_nil ?_ | refine k_nil ?_) | ((with_reducible apply kP (.makeFunc _ _ _)); refine sMF ?_) | ((with_reducible apply kG); first | refine gY1 ?_ | refine gN1 ?_ | refine gU1 ?_ | (refine gD1 (fun h => ?_) (fun h => ?_) <;> (try (exfalso; omega))) | refine gB1 (fun h => ?_) (fun h => ?_)) | ((with_reducible apply kN); first | refine stP ?_ | refine stI ?_ | refine st1 ?_ | refine stW ?_) | ((with_reducible apply kP (.alloc _)); refine sA (fun b => ?_)) | ((with_reducible apply kP (.box _ _)); first | refine sBA (fun b => ?_) | refine sB (fun b => ?_)) | ((with_reducible apply kP (.buildSlice _ 1 _)); first | refine sl1A (fun b => ?_) | refine sl1 (fun b => ?_)) | ((with_reducible apply kP (.buildSlice _ 2 _)); refine sl2 (fun b => ?_)) | ((with_reducible apply kP (.buildSlice _ 3 _)); refine sl3 (fun b => ?_)) | ((with_reducible apply kP (.buildSlice _ 4 _)); refine sl4 (fun b => ?_)) | ((with_reducible apply kP (.buildSlice _ 0 _)); refine s_bs0 (scTOf rfl) (zsTOf rfl) (by decide) (fun b => ?_)) | ((with_reducible apply kP (.makeSlice _ _ _)); refine sMk (fun b => ?_)) | ((with_reducible apply kP (.call ⟨.builtin .append, _, _⟩)); refine sAp (fun oa2 c2 blk2 hrow2 => ?_)) | ((with_reducible apply kP _); refine sP ?_) | ((with_reducible apply kP _); refine sX ?_) | ((with_reducible apply kQG); first | refine qY1 ?_ | refine qN1 ?_ | refine qU1 ?_ | (refine qD1 (fun h => ?_) (fun h => ?_) <;> (try (exfalso; omega))) | refine qB1 (fun h => ?_) (fun h => ?_)) | ((with_reducible apply kQP); refine qP ?_) | ((with_reducible apply kQP); refine qX ?_) | ((with_reducible apply kC); first | refine cT ?_ | refine cF ?_ | (refine cI (fun h => ?_) (fun h => ?_) <;> (try (exfalso; omega))) | refine cB (fun h => ?_) (fun h => ?_)) | ((with_reducible apply kR); refine cQ ?_) | ((with_reducible apply kDG); first | refine dY1 ?_ | refine dNo1 ?_ | refine dU1 ?_ | (refine dD1 (fun h => ?_) (fun h => ?_) <;> (try (exfalso; omega))) | refine dB1 (fun h => ?_) (fun h => ?_)) | ((with_reducible apply kDN); first | refine dtI ?_ | refine dt1 ?_ | refine dtW ?_) | ((with_reducible apply kDP (.alloc _)); refine dA (fun b => ?_)) | ((with_reducible apply kDP (.box _ _)); first | refine dBA (fun b => ?_) | refine dB (fun b => ?_)) | ((with_reducible apply kDP (.buildSlice _ 1 _)); first | refine dl1A (fun b => ?_) | refine dl1 (fun b => ?_)) | ((with_reducible apply kDP (.call ⟨.builtin .append, _, _⟩)); first | refine dAp3 (fun oa2 c2 blk2 hrow2 => ?_) (hS := SCt) | refine dAp4 (fun oa2 c2 blk2 hrow2 => ?_)) | ((with_reducible apply kDP _); refine dP ?_) | ((with_reducible apply kDP _); refine dX ?_))
    all_goals first
      | exact r_end (i + 1) (by omega) (by omega) (by repeat' first | trivial | rfl | apply And.intro) SCt
      | exact absurd rfl ‹¬ _ = _›
      | (exfalso; simp_all; done)
      | (exfalso; simp_all; omega)
      | trace_state
  · obtain rfl : n = i := by omega
    repeat' (first | ((with_reducible apply kF 20); refine sC 20 (k_known B w0 _) ?_) | ((with_reducible apply kRg 7); refine cD [1, 0, 0, 0, 0, 2, 2, 3, 4] ?_) | (with_reducible first | refine c_seq ?_ | refine c_reg ?_ | refine c_region ?_ | refine c_block ?_ | refine c_skip ?_ | refine c_exit ?_ | refine c_ret ?_ | refine s_nil ?_ | refine x_then ?_ | refine x_then_exit ?_ | refine x_then_ret ?_ | refine x_block ?_ | refine x_block_ret ?_ | refine x_block_same ?_ | refine x_block_other (by rfl) ?_ | refine q_nil ?_ | refine k_nil ?_) | ((with_reducible apply kP (.makeFunc _ _ _)); refine sMF ?_) | ((with_reducible apply kG); first | refine gY1 ?_ | refine gN1 ?_ | refine gU1 ?_ | (refine gD1 (fun h => ?_) (fun h => ?_) <;> (try (exfalso; omega))) | refine gB1 (fun h => ?_) (fun h => ?_)) | ((with_reducible apply kN); first | refine stP ?_ | refine stI ?_ | refine st1 ?_ | refine stW ?_) | ((with_reducible apply kP (.alloc _)); refine sA (fun b => ?_)) | ((with_reducible apply kP (.box _ _)); first | refine sBA (fun b => ?_) | refine sB (fun b => ?_)) | ((with_reducible apply kP (.buildSlice _ 1 _)); first | refine sl1A (fun b => ?_) | refine sl1 (fun b => ?_)) | ((with_reducible apply kP (.buildSlice _ 2 _)); refine sl2 (fun b => ?_)) | ((with_reducible apply kP (.buildSlice _ 3 _)); refine sl3 (fun b => ?_)) | ((with_reducible apply kP (.buildSlice _ 4 _)); refine sl4 (fun b => ?_)) | ((with_reducible apply kP (.buildSlice _ 0 _)); refine s_bs0 (scTOf rfl) (zsTOf rfl) (by decide) (fun b => ?_)) | ((with_reducible apply kP (.makeSlice _ _ _)); refine sMk (fun b => ?_)) | ((with_reducible apply kP (.call ⟨.builtin .append, _, _⟩)); refine sAp (fun oa2 c2 blk2 hrow2 => ?_)) | ((with_reducible apply kP _); refine sP ?_) | ((with_reducible apply kP _); refine sX ?_) | ((with_reducible apply kQG); first | refine qY1 ?_ | refine qN1 ?_ | refine qU1 ?_ | (refine qD1 (fun h => ?_) (fun h => ?_) <;> (try (exfalso; omega))) | refine qB1 (fun h => ?_) (fun h => ?_)) | ((with_reducible apply kQP); refine qP ?_) | ((with_reducible apply kQP); refine qX ?_) | ((with_reducible apply kC); first | refine cT ?_ | refine cF ?_ | (refine cI (fun h => ?_) (fun h => ?_) <;> (try (exfalso; omega))) | refine cB (fun h => ?_) (fun h => ?_)) | ((with_reducible apply kR); refine cQ ?_) | ((with_reducible apply kDG); first | refine dY1 ?_ | refine dNo1 ?_ | refine dU1 ?_ | (refine dD1 (fun h => ?_) (fun h => ?_) <;> (try (exfalso; omega))) | refine dB1 (fun h => ?_) (fun h => ?_)) | ((with_reducible apply kDN); first | refine dtI ?_ | refine dt1 ?_ | refine dtW ?_) | ((with_reducible apply kDP (.alloc _)); refine dA (fun b => ?_)) | ((with_reducible apply kDP (.box _ _)); first | refine dBA (fun b => ?_) | refine dB (fun b => ?_)) | ((with_reducible apply kDP (.buildSlice _ 1 _)); first | refine dl1A (fun b => ?_) | refine dl1 (fun b => ?_)) | ((with_reducible apply kDP (.call ⟨.builtin .append, _, _⟩)); first | refine dAp3 (fun oa2 c2 blk2 hrow2 => ?_) (hS := SCt) | refine dAp4 (fun oa2 c2 blk2 hrow2 => ?_)) | ((with_reducible apply kDP _); refine dP ?_) | ((with_reducible apply kDP _); refine dX ?_))
    exact e_ret1 rfl rfl rfl (List.sublist_append_of_sublist_right (.cons _ (.cons _ (.refl _))))
set_option maxRecDepth 100000 in
theorem reaches_holds_lifted (os : Os) (started : os.Started) (H : Type) (enc : TypeId × Value → H) :
    ReturnsInHanded {} Try.checked os 5 .any (Rows.dyeReachesSpec.pre6 enc Try.prog Try.f5 Rows.dyeReachesRow.domain false) (Rows.dyeReachesSpec.post enc Try.prog Try.f5 false true false false) := by
  refine returnsInHanded_of_change (C := Try.checked) ownK started (by kernel_rfl) Try.func5
    (ChangeSpec.witness6 (enc := enc) (C := Try.checked) false ⟨#[], #[.agg #[.int .i64 0, .int .i64 0, .int .i64 0], .agg #[.int .i64 0, .int .i64 0], .agg #[.int .i64 0, .int .i64 0]], []⟩ 8 (by kernel_rfl) (by kernel_rfl) (by kernel_rfl) (by kernel_rfl)) ?_
  intro W base args ds gs before hval0 hW hcnd _
  have hval : ∀ (j : Nat) t v, Try.f5.params[j]? = some t → args[j]? = some v → Value.okWide Try.prog W .any base t v := hval0
  have hW' := hW
  obtain ⟨p, q, hA0, hV, rfl, hfz, hnd⟩ := hW
  have hA : DataW.TrodAll enc Try.prog W 0 (fun _ => true) true Try.f5.params.toList args.toList ds p := hA0
  rw [Try.params5] at hA hval
  obtain ⟨v0, v1, v2, d_0, d_1, d_2, p_0, p_1, p_2, rfl, rfl, rfl, h0, h1, h2⟩ := trodAll_three hA
  obtain ⟨x0, rfl, n0, I0⟩ := arg_flat (m := 5) (k := 3) (by kernel_rfl) (by kernel_rfl) (hval 0 _ v0 rfl rfl) h0
  obtain ⟨x0_0, x0_1, x0_2, rfl⟩ := len_3 n0
  obtain ⟨x1, rfl, n1, I1⟩ := arg_flat (m := 5) (k := 2) (by kernel_rfl) (by kernel_rfl) (hval 1 _ v1 rfl rfl) h1
  obtain ⟨x1_0, x1_1, rfl⟩ := len_2 n1
  obtain ⟨x2, rfl, n2, I2⟩ := arg_flat (m := 5) (k := 2) (by kernel_rfl) (by kernel_rfl) (hval 2 _ v2 rfl rfl) h2
  obtain ⟨x2_0, x2_1, rfl⟩ := len_2 n2
  refine (law_calls (l_reaches x0_0 x0_1 x0_2 x1_0 x1_1 x2_0 x2_1 _ W [])).mono fun e W' ⟨he, hb⟩ => ⟨.bool true, he, ?_⟩
  exact law_post rfl ⟨⟨by kernel_rfl, of_decide_eq_true (by kernel_rfl)⟩, ⟨by kernel_rfl, of_decide_eq_true (by kernel_rfl)⟩, ⟨by kernel_rfl, of_decide_eq_true (by kernel_rfl)⟩, trivial⟩ rfl hW' ⟨rfl, rfl, rfl⟩ hb
theorem reaches_holds : Rows.DyeReachesSaid :=
  OpenClaim.holds_of_wide 5 Try.f5 rfl rfl rfl rfl rfl rfl rfl ⟨rfl, rfl, rfl, rfl, rfl⟩ rfl rfl rfl rfl rfl (by kernel_rfl) Try.func5 (by kernel_rfl)
    (of_decide_eq_true (by kernel_rfl)) (by unfold Func.isWrapper; first | (rw [if_pos (by decide +kernel)]; kernel_rfl) | (rw [if_neg (by decide +kernel)]; exact ⟨rfl, rfl⟩))
    (fun os started H enc _ => reaches_holds_lifted os started H enc)
#print axioms reaches_holds
end Go.Proofs.Ytbplmoidgobcpaa
