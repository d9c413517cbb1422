/- HairCompares holds: which of two bundles is better drawn. -/
import Derived.Test.YtiopaodiaokfdaaH17
import Derived.Test.YtiopaodiaokfdaaH18
import Derived.Test.YtiopaodiaokfdaaClose2
namespace Go.Proofs.Ytiopaodiaokfdaa
open Go.RowKit Go.ChangeShapes Go.WideShapes Go.ChangeAt

theorem gz_dvd {p q : Int} (hp : 0 ≤ p) (hq : 1 ≤ q) : gz p q ∣ p ∧ gz p q ∣ q := by
  obtain ⟨a, rfl⟩ := Int.eq_ofNat_of_zero_le hp
  obtain ⟨m, rfl⟩ := Int.eq_ofNat_of_zero_le (show 0 ≤ q by omega)
  unfold gz
  rw [Int.toNat_natCast, Int.toNat_natCast]
  exact ⟨Int.natCast_dvd_natCast.2 (Nat.gcd_dvd_left _ _), Int.natCast_dvd_natCast.2 (Nat.gcd_dvd_right _ _)⟩
theorem sign_mul {k d s : Int} (hk : 0 < k) (h : s = k * d) : (0 < s → 0 < d) ∧ (s < 0 → d < 0) ∧ (s = 0 → d = 0) := by
  subst h
  refine ⟨fun h => ?_, fun h => ?_, fun h => ?_⟩
  · by_cases hd : 0 < d
    · exact hd
    · have := Int.mul_nonneg (show 0 ≤ k by omega) (show 0 ≤ -d by omega); rw [Int.mul_neg] at this; omega
  · by_cases hd : d < 0
    · exact hd
    · have := Int.mul_nonneg (show 0 ≤ k by omega) (show 0 ≤ d by omega); omega
  · rcases Int.mul_eq_zero.1 h with h | h
    · omega
    · exact h
theorem cmp_cases (d : Nat → Int) : cmpN d = 0 ∨ cmpN d = 1 ∨ cmpN d = 2 ∨ cmpN d = 3 := by
  unfold cmpN; split <;> split <;> omega
set_option maxRecDepth 100000 in
set_option maxHeartbeats 8000000 in
theorem l_compares (o1 o2 p1 p2 : Option Addr) (c1 c2 d1 d2 : Nat) (r g r' g' : List Int) (B : Nat) (w0 : World) (hs : HS) (h1 : Sl B w0 hs o1 r) (h2 : Sl B w0 hs o2 g) (h3 : Sl B w0 hs p1 r') (h4 : Sl B w0 hs p2 g') :
    Fn Try.prog 9 #[bv o1 o2 r.length g.length c1 c2, bv p1 p2 r'.length g'.length d1 d2] B w0 hs (fun v _ => v = .bool true) := by
  have f1 := fun hs q1 q2 q3 q4 => h_Compare o1 o2 p1 p2 c1 c2 d1 d2 r g r' g' B w0 hs q1 q2 q3 q4
  have f2 := fun hs q1 q2 q3 q4 => r_Compare o1 o2 p1 p2 c1 c2 d1 d2 r g r' g' B w0 hs q1 q2 q3 q4
  by_cases hE : pErr r g r' g' = 0
  · obtain ⟨z1, z2⟩ := pErr_zero hE
    have hE2 : pErr r' g' r g = 0 := by rw [pErr_two z2, z1]
    by_cases h0 : cnt (cn r) (cn g) 1 = 0 ∨ cnt (cn r') (cn g') 1 = 0
    · rw [show cmpV r g r' g' = .tuple #[iv 0, iv 5] by unfold cmpV; rw [if_pos hE, if_pos h0]] at f1 f2
      refine fn_enter Try.func9 rfl Try.ntmps9 (by simp) ?_
      repeat' (first | ((with_reducible apply kF 17); refine sC 17 (l_long o1 o2 _ _ c1 c2 B w0 _) ?_) | ((with_reducible apply kF 17); refine sC 17 (l_long p1 p2 _ _ d1 d2 B w0 _) ?_) | ((with_reducible apply kF 18); refine sC 18 (l_known B w0 _) ?_) | ((with_reducible apply kF 48); refine sC 48 (f1 _ (h1.sub SBt) (h2.sub SBt) (h3.sub SBt) (h4.sub SBt)) ?_) | ((with_reducible apply kF 49); refine sC 49 (f2 _ (h1.sub SBt) (h2.sub SBt) (h3.sub SBt) (h4.sub SBt)) ?_) | (with_reducible first | refine c_seq ?_ | refine c_reg ?_ | refine c_region ?_ | refine c_block ?_ | refine c_skip ?_ | refine c_exit ?_ | refine c_ret ?_ | refine s_nil ?_ | refine x_then ?_ | refine x_then_exit ?_ | refine x_then_ret ?_ | refine x_block ?_ | refine x_block_ret ?_ | refine x_block_same ?_ | refine x_block_other (by rfl) ?_ | refine q_nil ?_ | refine k_nil ?_) | ((with_reducible apply kP (.makeFunc _ _ _)); refine sMF ?_) | ((with_reducible apply kG); first | refine gY1 ?_ | refine gN1 ?_ | refine gU1 ?_ | (refine gD1 (fun h => ?_) (fun h => ?_) <;> (try (exfalso; omega))) | refine gB1 (fun h => ?_) (fun h => ?_)) | ((with_reducible apply kN); first | refine stP ?_ | refine stI ?_ | refine st1 ?_ | refine stW ?_) | ((with_reducible apply kP (.alloc _)); refine sA (fun b => ?_)) | ((with_reducible apply kP (.box _ _)); first | refine sBA (fun b => ?_) | refine sB (fun b => ?_)) | ((with_reducible apply kP (.buildSlice _ 1 _)); first | refine sl1A (fun b => ?_) | refine sl1 (fun b => ?_)) | ((with_reducible apply kP (.buildSlice _ 2 _)); refine sl2 (fun b => ?_)) | ((with_reducible apply kP (.buildSlice _ 3 _)); refine sl3 (fun b => ?_)) | ((with_reducible apply kP (.buildSlice _ 4 _)); refine sl4 (fun b => ?_)) | ((with_reducible apply kP (.buildSlice _ 0 _)); refine s_bs0 (scTOf rfl) (zsTOf rfl) (by decide) (fun b => ?_)) | ((with_reducible apply kP (.makeSlice _ _ _)); refine sMk (fun b => ?_)) | ((with_reducible apply kP (.call ⟨.builtin .append, _, _⟩)); refine sAp (fun oa2 c2 blk2 hrow2 => ?_)) | ((with_reducible apply kP _); refine sP ?_) | ((with_reducible apply kP _); refine sX ?_) | ((with_reducible apply kQG); first | refine qY1 ?_ | refine qN1 ?_ | refine qU1 ?_ | (refine qD1 (fun h => ?_) (fun h => ?_) <;> (try (exfalso; omega))) | refine qB1 (fun h => ?_) (fun h => ?_)) | ((with_reducible apply kQP); refine qP ?_) | ((with_reducible apply kQP); refine qX ?_) | ((with_reducible apply kC); first | refine cT ?_ | refine cF ?_ | (refine cI (fun h => ?_) (fun h => ?_) <;> (try (exfalso; omega))) | refine cB (fun h => ?_) (fun h => ?_)) | ((with_reducible apply kR); refine cQ ?_))
      all_goals first
        | exact e_ret1 rfl rfl rfl SCt
        | exact absurd rfl ‹¬ _ = _›
        | exact absurd ⟨rfl, rfl⟩ ‹¬ (_ ∧ _)›
    · have h0' : ¬ (cnt (cn r') (cn g') 1 = 0 ∨ cnt (cn r) (cn g) 1 = 0) := by omega
      have f3 := fun hs q1 q2 q3 q4 => h_Compare p1 p2 o1 o2 d1 d2 c1 c2 r' g' r g B w0 hs q1 q2 q3 q4
      have f4 := fun hs q1 q2 => h_Mean o1 o2 c1 c2 r g B w0 hs q1 q2
      have f5 := fun hs q1 q2 => h_Mean p1 p2 d1 d2 r' g' B w0 hs q1 q2
      rw [show cmpV r g r' g' = .tuple #[iv (cmpN (cmpD (cn r) (cn g) (cn r') (cn g'))), iv 0] by unfold cmpV; rw [if_pos hE, if_neg h0]] at f1 f2
      rw [show cmpV r' g' r g = .tuple #[iv (cmpN (cmpD (cn r') (cn g') (cn r) (cn g))), iv 0] by unfold cmpV; rw [if_pos hE2, if_neg h0'], cmp_swap] at f3
      obtain ⟨q1, q2, q3, q4, q5, q6⟩ := vErr_zero z1
      obtain ⟨s1, s2, s3, s4, s5, s6⟩ := vErr_zero z2
      have k1 := okf_cn q3 q5; have k2 := okf_cn q4 q6; have k3 := okf_cn s3 s5; have k4 := okf_cn s4 s6
      have m1 := cnt_ok (f := cn r) (g := cn g) 1 k1 k2
      have m2 := cnt_ok (f := cn r') (g := cn g') 1 k3 k4
      have i1 := inc_ok (f := cn r) (g := cn g) k1 k2
      have i2 := inc_ok (f := cn r') (g := cn g') k3 k4
      have hsum := sum_cmpD (cn r) (cn g) (cn r') (cn g')
      obtain ⟨t1, t2, t3⟩ := cmp_sign (cmpD (cn r) (cn g) (cn r') (cn g'))
      have hc := cmp_cases (cmpD (cn r) (cn g) (cn r') (cn g'))
      rw [hsum] at t1 t2 t3
      unfold ptV at f4 f5
      rw [if_pos z1, if_neg (by omega)] at f4
      rw [if_pos z2, if_neg (by omega)] at f5
      generalize cmpN (cmpD (cn r) (cn g) (cn r') (cn g')) = x at *
      generalize cnt (cn r) (cn g) 1 = m at *
      generalize cnt (cn r') (cn g') 1 = n at *
      generalize inc (cn r) (cn g) = a at *
      generalize inc (cn r') (cn g') = b at *
      have ga := gz_pos (p := a) (q := m) (by omega)
      have gb := gz_pos (p := b) (q := n) (by omega)
      obtain ⟨da, dm⟩ := gz_dvd (p := a) (q := m) (by omega) (by omega)
      obtain ⟨db, dn⟩ := gz_dvd (p := b) (q := n) (by omega) (by omega)
      obtain ⟨u1, u2, u3⟩ := sign_mul (Int.mul_pos (show 0 < gz a m by omega) (show 0 < gz b n by omega)) (mean_sign (g := gz a m) (h := gz b n) (by omega) (by omega) dm da db dn)
      have v1 : 0 ≤ a / gz a m ∧ a / gz a m ≤ 12500000000 := ⟨Int.ediv_nonneg (by omega) (by omega), by have := Int.ediv_le_self (a := a) (gz a m) (by omega); omega⟩
      have v2 : 0 ≤ m / gz a m ∧ m / gz a m ≤ 500000000 := ⟨Int.ediv_nonneg (by omega) (by omega), by have := Int.ediv_le_self (a := m) (gz a m) (by omega); omega⟩
      have v3 : 0 ≤ b / gz b n ∧ b / gz b n ≤ 12500000000 := ⟨Int.ediv_nonneg (by omega) (by omega), by have := Int.ediv_le_self (a := b) (gz b n) (by omega); omega⟩
      have v4 : 0 ≤ n / gz b n ∧ n / gz b n ≤ 500000000 := ⟨Int.ediv_nonneg (by omega) (by omega), by have := Int.ediv_le_self (a := n) (gz b n) (by omega); omega⟩
      have w1 := mul_to v1.1 v1.2 v4.1 v4.2
      have w2 := mul_to v3.1 v3.2 v2.1 v2.2
      rcases hc with hc | hc | hc | hc <;> subst hc <;> simp only [reduceIte, show ¬ (0 : Int) = 1 by decide, show ¬ (0 : Int) = 2 by decide, show ¬ (2 : Int) = 1 by decide, show ¬ (3 : Int) = 1 by decide, show ¬ (3 : Int) = 2 by decide] at f3
      all_goals
        refine fn_enter Try.func9 rfl Try.ntmps9 (by simp) ?_
        repeat' (first | ((with_reducible apply kF 17); refine sC 17 (l_long o1 o2 _ _ c1 c2 B w0 _) ?_) | ((with_reducible apply kF 17); refine sC 17 (l_long p1 p2 _ _ d1 d2 B w0 _) ?_) | ((with_reducible apply kF 18); refine sC 18 (l_known B w0 _) ?_) | ((with_reducible apply kF 48); refine sC 48 (f1 _ (h1.sub SBt) (h2.sub SBt) (h3.sub SBt) (h4.sub SBt)) ?_) | ((with_reducible apply kF 49); refine sC 49 (f2 _ (h1.sub SBt) (h2.sub SBt) (h3.sub SBt) (h4.sub SBt)) ?_) | ((with_reducible apply kF 48); refine sC 48 (f3 _ (h3.sub SBt) (h4.sub SBt) (h1.sub SBt) (h2.sub SBt)) ?_) | ((with_reducible apply kF 38); refine sC 38 (f4 _ (h1.sub SBt) (h2.sub SBt)) ?_) | ((with_reducible apply kF 38); refine sC 38 (f5 _ (h3.sub SBt) (h4.sub SBt)) ?_) | (with_reducible first | refine c_seq ?_ | refine c_reg ?_ | refine c_region ?_ | refine c_block ?_ | refine c_skip ?_ | refine c_exit ?_ | refine c_ret ?_ | refine s_nil ?_ | refine x_then ?_ | refine x_then_exit ?_ | refine x_then_ret ?_ | refine x_block ?_ | refine x_block_ret ?_ | refine x_block_same ?_ | refine x_block_other (by rfl) ?_ | refine q_nil ?_ | refine k_nil ?_) | ((with_reducible apply kP (.makeFunc _ _ _)); refine sMF ?_) | ((with_reducible apply kG); first | refine gY1 ?_ | refine gN1 ?_ | refine gU1 ?_ | (refine gD1 (fun h => ?_) (fun h => ?_) <;> (try (exfalso; omega))) | refine gB1 (fun h => ?_) (fun h => ?_)) | ((with_reducible apply kN); first | refine stP ?_ | refine stI ?_ | refine st1 ?_ | refine stW ?_) | ((with_reducible apply kP (.alloc _)); refine sA (fun b => ?_)) | ((with_reducible apply kP (.box _ _)); first | refine sBA (fun b => ?_) | refine sB (fun b => ?_)) | ((with_reducible apply kP (.buildSlice _ 1 _)); first | refine sl1A (fun b => ?_) | refine sl1 (fun b => ?_)) | ((with_reducible apply kP (.buildSlice _ 2 _)); refine sl2 (fun b => ?_)) | ((with_reducible apply kP (.buildSlice _ 3 _)); refine sl3 (fun b => ?_)) | ((with_reducible apply kP (.buildSlice _ 4 _)); refine sl4 (fun b => ?_)) | ((with_reducible apply kP (.buildSlice _ 0 _)); refine s_bs0 (scTOf rfl) (zsTOf rfl) (by decide) (fun b => ?_)) | ((with_reducible apply kP (.makeSlice _ _ _)); refine sMk (fun b => ?_)) | ((with_reducible apply kP (.call ⟨.builtin .append, _, _⟩)); refine sAp (fun oa2 c2 blk2 hrow2 => ?_)) | ((with_reducible apply kP _); refine sP ?_) | ((with_reducible apply kP _); refine sX ?_) | ((with_reducible apply kQG); first | refine qY1 ?_ | refine qN1 ?_ | refine qU1 ?_ | (refine qD1 (fun h => ?_) (fun h => ?_) <;> (try (exfalso; omega))) | refine qB1 (fun h => ?_) (fun h => ?_)) | ((with_reducible apply kQP); refine qP ?_) | ((with_reducible apply kQP); refine qX ?_) | ((with_reducible apply kC); first | refine cT ?_ | refine cF ?_ | (refine cI (fun h => ?_) (fun h => ?_) <;> (try (exfalso; omega))) | refine cB (fun h => ?_) (fun h => ?_)) | ((with_reducible apply kR); refine cQ ?_))
      all_goals first
        | exact e_ret1 rfl rfl rfl SCt
        | exact absurd rfl ‹¬ _ = _›
        | exact absurd ⟨rfl, rfl⟩ ‹¬ (_ ∧ _)›
        | (exfalso; omega)
        | (refine e_ret1 rfl rfl ?_ SCt; congr 1; exact decide_eq_true (by omega))
  · have hx : cmpV r g r' g' = .tuple #[iv 0, iv (pErr r g r' g')] := if_neg hE
    rw [hx] at f1 f2
    refine fn_enter Try.func9 rfl Try.ntmps9 (by simp) ?_
    repeat' (first | ((with_reducible apply kF 17); refine sC 17 (l_long o1 o2 _ _ c1 c2 B w0 _) ?_) | ((with_reducible apply kF 17); refine sC 17 (l_long p1 p2 _ _ d1 d2 B w0 _) ?_) | ((with_reducible apply kF 18); refine sC 18 (l_known B w0 _) ?_) | ((with_reducible apply kF 48); refine sC 48 (f1 _ (h1.sub SBt) (h2.sub SBt) (h3.sub SBt) (h4.sub SBt)) ?_) | ((with_reducible apply kF 49); refine sC 49 (f2 _ (h1.sub SBt) (h2.sub SBt) (h3.sub SBt) (h4.sub SBt)) ?_) | (with_reducible first | refine c_seq ?_ | refine c_reg ?_ | refine c_region ?_ | refine c_block ?_ | refine c_skip ?_ | refine c_exit ?_ | refine c_ret ?_ | refine s_nil ?_ | refine x_then ?_ | refine x_then_exit ?_ | refine x_then_ret ?_ | refine x_block ?_ | refine x_block_ret ?_ | refine x_block_same ?_ | refine x_block_other (by rfl) ?_ | refine q_nil ?_ | refine k_nil ?_) | ((with_reducible apply kP (.makeFunc _ _ _)); refine sMF ?_) | ((with_reducible apply kG); first | refine gY1 ?_ | refine gN1 ?_ | refine gU1 ?_ | (refine gD1 (fun h => ?_) (fun h => ?_) <;> (try (exfalso; omega))) | refine gB1 (fun h => ?_) (fun h => ?_)) | ((with_reducible apply kN); first | refine stP ?_ | refine stI ?_ | refine st1 ?_ | refine stW ?_) | ((with_reducible apply kP (.alloc _)); refine sA (fun b => ?_)) | ((with_reducible apply kP (.box _ _)); first | refine sBA (fun b => ?_) | refine sB (fun b => ?_)) | ((with_reducible apply kP (.buildSlice _ 1 _)); first | refine sl1A (fun b => ?_) | refine sl1 (fun b => ?_)) | ((with_reducible apply kP (.buildSlice _ 2 _)); refine sl2 (fun b => ?_)) | ((with_reducible apply kP (.buildSlice _ 3 _)); refine sl3 (fun b => ?_)) | ((with_reducible apply kP (.buildSlice _ 4 _)); refine sl4 (fun b => ?_)) | ((with_reducible apply kP (.buildSlice _ 0 _)); refine s_bs0 (scTOf rfl) (zsTOf rfl) (by decide) (fun b => ?_)) | ((with_reducible apply kP (.makeSlice _ _ _)); refine sMk (fun b => ?_)) | ((with_reducible apply kP (.call ⟨.builtin .append, _, _⟩)); refine sAp (fun oa2 c2 blk2 hrow2 => ?_)) | ((with_reducible apply kP _); refine sP ?_) | ((with_reducible apply kP _); refine sX ?_) | ((with_reducible apply kQG); first | refine qY1 ?_ | refine qN1 ?_ | refine qU1 ?_ | (refine qD1 (fun h => ?_) (fun h => ?_) <;> (try (exfalso; omega))) | refine qB1 (fun h => ?_) (fun h => ?_)) | ((with_reducible apply kQP); refine qP ?_) | ((with_reducible apply kQP); refine qX ?_) | ((with_reducible apply kC); first | refine cT ?_ | refine cF ?_ | (refine cI (fun h => ?_) (fun h => ?_) <;> (try (exfalso; omega))) | refine cB (fun h => ?_) (fun h => ?_)) | ((with_reducible apply kR); refine cQ ?_))
    all_goals first
      | exact e_ret1 rfl rfl rfl SCt
      | exact absurd rfl ‹¬ _ = _›
      | exact absurd ⟨rfl, rfl⟩ ‹¬ (_ ∧ _)›
      | (exfalso; omega)
set_option maxRecDepth 100000 in
theorem compares_holds_lifted (os : Os) (started : os.Started) (H : Type) (enc : TypeId × Value → H) :
    ReturnsInHanded {} Try.checked os 9 .any (Rows.hairComparesSpec.pre6 enc Try.prog Try.f9 Rows.hairComparesRow.domain false) (Rows.hairComparesSpec.post enc Try.prog Try.f9 false true false false) := by
  refine returnsInHanded_of_change (C := Try.checked) ownK started (by kernel_rfl) Try.func9
    (ChangeSpec.witness6 (enc := enc) (C := Try.checked) false ⟨#[], #[.agg #[.slice none 0 0, .slice none 0 0], .agg #[.slice none 0 0, .slice none 0 0]], []⟩ 8 (by kernel_rfl) (by kernel_rfl) (by kernel_rfl) (by kernel_rfl)) ?_
  intro W base args ds gs before hval0 hW hcnd _
  have hval : ∀ (j : Nat) t v, Try.f9.params[j]? = some t → args[j]? = some v → Value.okWide Try.prog W .any base t v := hval0
  have hW' := hW
  obtain ⟨p, q, hA0, hV, rfl, hfz, hnd⟩ := hW
  have hA : DataW.TrodAll enc Try.prog W 0 (fun _ => true) true Try.f9.params.toList args.toList ds p := hA0
  rw [Try.params9] at hA hval
  obtain ⟨v0, v1, d_0, d_1, p_0, p_1, rfl, rfl, rfl, h0, h1⟩ := trodAll_two hA
  obtain ⟨oa0, ob0, c0, d0, r0, g0, rfl, m0, q0, _, _, I0, J0, s0, t0⟩ := arg_bundle (by kernel_rfl) (hval 0 _ v0 rfl rfl) h0
  obtain ⟨oa1, ob1, c1, d1, r1, g1, rfl, m1, q1, _, _, I1, J1, s1, t1⟩ := arg_bundle (by kernel_rfl) (hval 1 _ v1 rfl rfl) h1
  refine (law_calls (by exact l_compares oa0 ob0 oa1 ob1 c0 d0 c1 d1 r0 g0 r1 g1 _ W [] s0 t0 s1 t1)).mono fun e W' ⟨he, hb⟩ => ⟨.bool true, he, ?_⟩
  exact law_post rfl ⟨⟨by kernel_rfl, of_decide_eq_true (by kernel_rfl)⟩, ⟨by kernel_rfl, of_decide_eq_true (by kernel_rfl)⟩, trivial⟩ rfl hW' ⟨rfl, rfl, rfl⟩ hb
theorem compares_holds : Rows.HairComparesSaid :=
  OpenClaim.holds_of_wide 9 Try.f9 rfl rfl rfl rfl rfl rfl rfl ⟨rfl, rfl, rfl, rfl, rfl⟩ rfl rfl rfl rfl rfl (by kernel_rfl) Try.func9 (by kernel_rfl)
    (of_decide_eq_true (by kernel_rfl)) (by unfold Func.isWrapper; first | (rw [if_pos (by decide +kernel)]; kernel_rfl) | (rw [if_neg (by decide +kernel)]; exact ⟨rfl, rfl⟩))
    (fun os started H enc _ => compares_holds_lifted os started H enc)
#print axioms compares_holds
end Go.Proofs.Ytiopaodiaokfdaa
