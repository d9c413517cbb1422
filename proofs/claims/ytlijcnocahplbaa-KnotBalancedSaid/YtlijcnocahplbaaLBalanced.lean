/- KnotBalanced holds: each row of a density is balanced. -/
import Derived.Test.YtlijcnocahplbaaK16
import Derived.Test.YtlijcnocahplbaaClose2
namespace Go.Proofs.Ytlijcnocahplbaa
open Go.RowKit Go.ChangeShapes Go.WideShapes Go.ChangeAt

theorem pfx_row (p q s t : Int) (n : Nat) {k : Nat} (hk : k ≤ n) : pfx (tab n (hr p q s t)) k = bef p q s t k - bef p q s t 0 := by
  have := sum_hr p q s t n 0 k (by omega)
  rw [List.drop_zero, Nat.zero_add] at this
  exact this
theorem ws_row (p q s t : Int) (n : Nat) {w i : Nat} (h : i + w ≤ n) : ws (tab n (hr p q s t)) w i = bef p q s t (i + w : Nat) - bef p q s t i := by
  unfold ws
  rw [pfx_row p q s t n h, pfx_row p q s t n (by omega)]; omega
theorem bal_row {p q s t : Int} (hW : 0 < q * t) (n : Nat) : balB (tab n (hr p q s t)) = true := by
  rw [bal_iff]
  intro w i j h1 h2 h3
  rw [tab_length] at h2 h3
  rw [ws_row p q s t n h2, ws_row p q s t n h3]
  have key : ∀ i : Nat, bef p q s t (i + w : Nat) = ((i : Int) * p * t + s * q + w * p * t) / (q * t) := fun i => by
    unfold bef; congr 1
    rw [show ((i + w : Nat) : Int) = (i : Int) + w by omega, Int.add_mul, Int.add_mul]; omega
  rw [key, key]
  unfold bef
  have a := div_two ((i : Int) * p * t + s * q) (w * p * t) hW
  have b := div_two ((j : Int) * p * t + s * q) (w * p * t) hW
  omega
theorem hr_to {p q s t : Int} (h1 : densB p q = true) (h2 : phasB s t = true) {k : Nat} (hk : k ≤ 10000) : 0 ≤ hr p q s t k ∧ hr p q s t k ≤ 1000000 := by
  obtain ⟨a1, a2, a3, a4⟩ := dens_to h1
  obtain ⟨b1, b2, b3, b4⟩ := phas_to h2
  have hW : 0 < q * t := Int.mul_pos (by omega) (by omega)
  obtain ⟨e1, _⟩ := hr_eq (p := p) (s := s) (k := k) hW
  have m1 := Int.emod_nonneg (num p q s t k) (show q * t ≠ 0 by omega)
  have m2 := Int.emod_lt_of_pos (num p q s t k) hW
  have m3 := Int.mul_nonneg a3 (show 0 ≤ t by omega)
  have m4 := Int.mul_le_mul_of_nonneg_right a4 (show 0 ≤ t by omega)
  rw [Int.mul_assoc] at m4
  rw [e1]
  refine ⟨Int.ediv_nonneg (by omega) (by omega), ?_⟩
  have : (num p q s t k % (q * t) + p * t) / (q * t) < 1000000 := (Int.ediv_lt_iff_lt_mul hW).2 (by omega)
  omega
theorem rowErr_row {p q s t : Int} (h1 : densB p q = true) (h2 : phasB s t = true) {n : Nat} (hn : n ≤ 200) : rErr (tab n (hr p q s t)) = 0 := by
  rw [rErr_short (by rw [tab_length]; exact hn)]
  rw [if_pos]
  unfold rng
  refine decide_eq_true fun i hi => ?_
  rw [tab_length] at hi
  rw [tab_getD _ hi]
  exact hr_to h1 h2 (by omega)
set_option maxRecDepth 100000 in
set_option maxHeartbeats 8000000 in
theorem l_balanced (p q s t a z : Int) (hp : p ≤ 9223372036854775807) (hs2 : s ≤ 9223372036854775807) (B : Nat) (w0 : World) (hs : HS) :
    Fn Try.prog 15 #[.agg #[iv p, iv q, iv s, iv t, iv a, iv z]] B w0 hs (fun v _ => v = .bool true) := by
  have kR := k_Row p q s t z hp hs2 B w0
  refine fn_enter Try.func15 rfl Try.ntmps15 (by simp) ?_
  by_cases hr : rightB p q s t 0 z = true
  · obtain ⟨g1, g2, g3, g4, g5⟩ := right_to hr
    obtain ⟨n, rfl⟩ := Int.eq_ofNat_of_zero_le g4
    obtain ⟨a1, a2, a3, a4⟩ := dens_to g1
    obtain ⟨b1, b2, b3, b4⟩ := phas_to g2
    have hW : 0 < q * t := Int.mul_pos (by omega) (by omega)
    rw [show rowL p q s t n = tab n (Ytlijcnocahplbaa.hr p q s t) by unfold rowL; rw [if_pos hr, Int.toNat_natCast], show rowErr p q s t n = 0 from if_pos hr] at kR
    have hl := tab_length n (Ytlijcnocahplbaa.hr p q s t)
    have hb := bal_row (p := p) (s := s) hW n
    by_cases hn : n ≤ 200
    · have hE := rowErr_row g1 g2 hn
      have hV : blV (tab n (Ytlijcnocahplbaa.hr p q s t)) = .tuple #[.bool true, iv 0] := by unfold blV; rw [if_pos hE, hb]
      have kB := fun oa c hs q2 => k_Balanced oa c (tab n (Ytlijcnocahplbaa.hr p q s t)) (by omega) B w0 hs q2
      rw [hV] at kB
      repeat' (first | ((with_reducible apply kF 19); refine sN 19 (kR _) ?_; rintro u blk ⟨oa, c, rfl, hrow⟩; have hS := Sl.row (B := B) (w0 := w0) hrow) | ((with_reducible apply kF 48); refine sC 48 (kB _ _ _ (hS.sub SBt)) ?_) | ((with_reducible apply kF 22); refine sC 22 (l_known B w0 _) ?_) | (with_reducible first | refine c_seq ?_ | refine c_reg ?_ | refine c_region ?_ | refine c_block ?_ | refine c_skip ?_ | refine c_exit ?_ | refine c_ret ?_ | refine s_nil ?_ | refine x_then ?_ | refine x_then_exit ?_ | refine x_then_ret ?_ | refine x_block ?_ | refine x_block_ret ?_ | refine x_block_same ?_ | refine x_block_other (by rfl) ?_ | refine q_nil ?_ | refine k_nil ?_) | ((with_reducible apply kP (.makeFunc _ _ _)); refine sMF ?_) | ((with_reducible apply kG); first | refine gY1 ?_ | refine gN1 ?_ | refine gU1 ?_ | (refine gD1 (fun h => ?_) (fun h => ?_) <;> (try (exfalso; omega))) | refine gB1 (fun h => ?_) (fun h => ?_)) | ((with_reducible apply kN); first | refine stP ?_ | refine stI ?_ | refine st1 ?_ | refine stW ?_) | ((with_reducible apply kP (.alloc _)); refine sA (fun b => ?_)) | ((with_reducible apply kP (.box _ _)); first | refine sBA (fun b => ?_) | refine sB (fun b => ?_)) | ((with_reducible apply kP (.buildSlice _ 1 _)); first | refine sl1A (fun b => ?_) | refine sl1 (fun b => ?_)) | ((with_reducible apply kP (.buildSlice _ 2 _)); refine sl2 (fun b => ?_)) | ((with_reducible apply kP (.buildSlice _ 3 _)); refine sl3 (fun b => ?_)) | ((with_reducible apply kP (.buildSlice _ 4 _)); refine sl4 (fun b => ?_)) | ((with_reducible apply kP (.buildSlice _ 0 _)); refine s_bs0 (scTOf rfl) (zsTOf rfl) (by decide) (fun b => ?_)) | ((with_reducible apply kP (.makeSlice _ _ _)); refine sMk (fun b => ?_)) | ((with_reducible apply kP (.call ⟨.builtin .append, _, _⟩)); refine sAp (fun oa2 c2 blk2 hrow2 => ?_)) | ((with_reducible apply kP _); refine sP ?_) | ((with_reducible apply kP _); refine sX ?_) | ((with_reducible apply kQG); first | refine qY1 ?_ | refine qN1 ?_ | refine qU1 ?_ | (refine qD1 (fun h => ?_) (fun h => ?_) <;> (try (exfalso; omega))) | refine qB1 (fun h => ?_) (fun h => ?_)) | ((with_reducible apply kQP); refine qP ?_) | ((with_reducible apply kQP); refine qX ?_) | ((with_reducible apply kC); first | refine cT ?_ | refine cF ?_ | (refine cI (fun h => ?_) (fun h => ?_) <;> (try (exfalso; omega))) | refine cB (fun h => ?_) (fun h => ?_)) | ((with_reducible apply kR); refine cQ ?_))
      all_goals first
        | exact e_ret1 rfl rfl rfl SCt
        | exact absurd rfl ‹¬ _ = _›
        | (exfalso; omega)
    · repeat' (first | ((with_reducible apply kF 19); refine sN 19 (kR _) ?_; rintro u blk ⟨oa, c, rfl, hrow⟩) | ((with_reducible apply kF 22); refine sC 22 (l_known B w0 _) ?_) | (with_reducible first | refine c_seq ?_ | refine c_reg ?_ | refine c_region ?_ | refine c_block ?_ | refine c_skip ?_ | refine c_exit ?_ | refine c_ret ?_ | refine s_nil ?_ | refine x_then ?_ | refine x_then_exit ?_ | refine x_then_ret ?_ | refine x_block ?_ | refine x_block_ret ?_ | refine x_block_same ?_ | refine x_block_other (by rfl) ?_ | refine q_nil ?_ | refine k_nil ?_) | ((with_reducible apply kP (.makeFunc _ _ _)); refine sMF ?_) | ((with_reducible apply kG); first | refine gY1 ?_ | refine gN1 ?_ | refine gU1 ?_ | (refine gD1 (fun h => ?_) (fun h => ?_) <;> (try (exfalso; omega))) | refine gB1 (fun h => ?_) (fun h => ?_)) | ((with_reducible apply kN); first | refine stP ?_ | refine stI ?_ | refine st1 ?_ | refine stW ?_) | ((with_reducible apply kP (.alloc _)); refine sA (fun b => ?_)) | ((with_reducible apply kP (.box _ _)); first | refine sBA (fun b => ?_) | refine sB (fun b => ?_)) | ((with_reducible apply kP (.buildSlice _ 1 _)); first | refine sl1A (fun b => ?_) | refine sl1 (fun b => ?_)) | ((with_reducible apply kP (.buildSlice _ 2 _)); refine sl2 (fun b => ?_)) | ((with_reducible apply kP (.buildSlice _ 3 _)); refine sl3 (fun b => ?_)) | ((with_reducible apply kP (.buildSlice _ 4 _)); refine sl4 (fun b => ?_)) | ((with_reducible apply kP (.buildSlice _ 0 _)); refine s_bs0 (scTOf rfl) (zsTOf rfl) (by decide) (fun b => ?_)) | ((with_reducible apply kP (.makeSlice _ _ _)); refine sMk (fun b => ?_)) | ((with_reducible apply kP (.call ⟨.builtin .append, _, _⟩)); refine sAp (fun oa2 c2 blk2 hrow2 => ?_)) | ((with_reducible apply kP _); refine sP ?_) | ((with_reducible apply kP _); refine sX ?_) | ((with_reducible apply kQG); first | refine qY1 ?_ | refine qN1 ?_ | refine qU1 ?_ | (refine qD1 (fun h => ?_) (fun h => ?_) <;> (try (exfalso; omega))) | refine qB1 (fun h => ?_) (fun h => ?_)) | ((with_reducible apply kQP); refine qP ?_) | ((with_reducible apply kQP); refine qX ?_) | ((with_reducible apply kC); first | refine cT ?_ | refine cF ?_ | (refine cI (fun h => ?_) (fun h => ?_) <;> (try (exfalso; omega))) | refine cB (fun h => ?_) (fun h => ?_)) | ((with_reducible apply kR); refine cQ ?_))
      all_goals first
        | exact e_ret1 rfl rfl rfl SCt
        | exact absurd rfl ‹¬ _ = _›
        | (exfalso; omega)
  · rw [show rowL p q s t z = [] from if_neg hr, show rowErr p q s t z = 1 from if_neg hr] at kR
    repeat' (first | ((with_reducible apply kF 19); refine sN 19 (kR _) ?_; rintro u blk ⟨oa, c, rfl, hrow⟩) | ((with_reducible apply kF 22); refine sC 22 (l_known B w0 _) ?_) | (with_reducible first | refine c_seq ?_ | refine c_reg ?_ | refine c_region ?_ | refine c_block ?_ | refine c_skip ?_ | refine c_exit ?_ | refine c_ret ?_ | refine s_nil ?_ | refine x_then ?_ | refine x_then_exit ?_ | refine x_then_ret ?_ | refine x_block ?_ | refine x_block_ret ?_ | refine x_block_same ?_ | refine x_block_other (by rfl) ?_ | refine q_nil ?_ | refine k_nil ?_) | ((with_reducible apply kP (.makeFunc _ _ _)); refine sMF ?_) | ((with_reducible apply kG); first | refine gY1 ?_ | refine gN1 ?_ | refine gU1 ?_ | (refine gD1 (fun h => ?_) (fun h => ?_) <;> (try (exfalso; omega))) | refine gB1 (fun h => ?_) (fun h => ?_)) | ((with_reducible apply kN); first | refine stP ?_ | refine stI ?_ | refine st1 ?_ | refine stW ?_) | ((with_reducible apply kP (.alloc _)); refine sA (fun b => ?_)) | ((with_reducible apply kP (.box _ _)); first | refine sBA (fun b => ?_) | refine sB (fun b => ?_)) | ((with_reducible apply kP (.buildSlice _ 1 _)); first | refine sl1A (fun b => ?_) | refine sl1 (fun b => ?_)) | ((with_reducible apply kP (.buildSlice _ 2 _)); refine sl2 (fun b => ?_)) | ((with_reducible apply kP (.buildSlice _ 3 _)); refine sl3 (fun b => ?_)) | ((with_reducible apply kP (.buildSlice _ 4 _)); refine sl4 (fun b => ?_)) | ((with_reducible apply kP (.buildSlice _ 0 _)); refine s_bs0 (scTOf rfl) (zsTOf rfl) (by decide) (fun b => ?_)) | ((with_reducible apply kP (.makeSlice _ _ _)); refine sMk (fun b => ?_)) | ((with_reducible apply kP (.call ⟨.builtin .append, _, _⟩)); refine sAp (fun oa2 c2 blk2 hrow2 => ?_)) | ((with_reducible apply kP _); refine sP ?_) | ((with_reducible apply kP _); refine sX ?_) | ((with_reducible apply kQG); first | refine qY1 ?_ | refine qN1 ?_ | refine qU1 ?_ | (refine qD1 (fun h => ?_) (fun h => ?_) <;> (try (exfalso; omega))) | refine qB1 (fun h => ?_) (fun h => ?_)) | ((with_reducible apply kQP); refine qP ?_) | ((with_reducible apply kQP); refine qX ?_) | ((with_reducible apply kC); first | refine cT ?_ | refine cF ?_ | (refine cI (fun h => ?_) (fun h => ?_) <;> (try (exfalso; omega))) | refine cB (fun h => ?_) (fun h => ?_)) | ((with_reducible apply kR); refine cQ ?_))
    all_goals first
      | exact e_ret1 rfl rfl rfl SCt
      | exact absurd rfl ‹¬ _ = _›
      | (exfalso; omega)
set_option maxRecDepth 100000 in
theorem balanced_holds_lifted (os : Os) (started : os.Started) (H : Type) (enc : TypeId × Value → H) :
    ReturnsInHanded {} Try.checked os 15 .any (Rows.knotBalancedSpec.pre6 enc Try.prog Try.f15 Rows.knotBalancedRow.domain false) (Rows.knotBalancedSpec.post enc Try.prog Try.f15 false true false false) := by
  refine returnsInHanded_of_change (C := Try.checked) ownK started (by kernel_rfl) Try.func15
    (ChangeSpec.witness6 (enc := enc) (C := Try.checked) false ⟨#[], #[.agg #[.int .i64 0, .int .i64 0, .int .i64 0, .int .i64 0, .int .i64 0, .int .i64 0]], []⟩ 8 (by kernel_rfl) (by kernel_rfl) (by kernel_rfl) (by kernel_rfl)) ?_
  intro W base args ds gs before hval0 hW hcnd _
  have hval : ∀ (j : Nat) t v, Try.f15.params[j]? = some t → args[j]? = some v → Value.okWide Try.prog W .any base t v := hval0
  have hW' := hW
  obtain ⟨p, q, hA0, hV, rfl, hfz, hnd⟩ := hW
  have hA : DataW.TrodAll enc Try.prog W 0 (fun _ => true) true Try.f15.params.toList args.toList ds p := hA0
  rw [Try.params15] at hA hval
  obtain ⟨v0, d_0, rfl, rfl, h0⟩ := trodAll_one hA
  obtain ⟨x0, rfl, n0, I0⟩ := arg_flat (m := 5) (k := 6) (by kernel_rfl) (by kernel_rfl) (hval 0 _ v0 rfl rfl) h0
  obtain ⟨x0_0, x0_1, x0_2, x0_3, x0_4, x0_5, rfl⟩ := len_6 n0
  refine (law_calls (by exact l_balanced x0_0 x0_1 x0_2 x0_3 x0_4 x0_5 (I0 x0_0 (by simp)).2 (I0 x0_2 (by simp)).2 _ W [])).mono fun e W' ⟨he, hb⟩ => ⟨.bool true, he, ?_⟩
  exact law_post rfl ⟨⟨by kernel_rfl, of_decide_eq_true (by kernel_rfl)⟩, trivial⟩ rfl hW' ⟨rfl, rfl, rfl⟩ hb
theorem balanced_holds : Rows.KnotBalancedSaid :=
  OpenClaim.holds_of_wide 15 Try.f15 rfl rfl rfl rfl rfl rfl rfl ⟨rfl, rfl, rfl, rfl, rfl⟩ rfl rfl rfl rfl rfl (by kernel_rfl) Try.func15 (by kernel_rfl)
    (of_decide_eq_true (by kernel_rfl)) (by unfold Func.isWrapper; first | (rw [if_pos (by decide +kernel)]; kernel_rfl) | (rw [if_neg (by decide +kernel)]; exact ⟨rfl, rfl⟩))
    (fun os started H enc _ => balanced_holds_lifted os started H enc)
#print axioms balanced_holds
end Go.Proofs.Ytlijcnocahplbaa
