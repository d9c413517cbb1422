/- TopEven holds: rows and colors are spread evenly. -/
import Derived.Test.YtlijcnocahplbaaK22
import Derived.Test.YtlijcnocahplbaaClose2
namespace Go.Proofs.Ytlijcnocahplbaa
open Go.RowKit Go.ChangeShapes Go.WideShapes Go.ChangeAt

set_option maxRecDepth 100000 in
set_option maxHeartbeats 8000000 in
theorem l_topEven (p q s t a z n from' to' : Int) (ow : Option Addr) (cw : Nat) (w : List Int) (hp : p ≤ 9223372036854775807) (hs2 : s ≤ 9223372036854775807) (B : Nat) (w0 : World) (hs : HS) (hW : Sl B w0 hs ow w) :
    Fn Try.prog 18 #[.agg #[iv p, iv q, iv s, iv t, iv a, iv z], .slice ow w.length cw, .agg #[iv n, iv from', iv to']] B w0 hs (fun v _ => v = .bool true) := by
  have kb := fun b hs q => k_Balanced (some ⟨b, 0, none⟩) 4 [0, 1, 1, 0] (by decide) B w0 hs q
  rw [bl_0110] at kb
  have f1 := k_Stretch p q s t a z hp hs2 B w0
  have f2 := fun u hs => k_Stretch p q s t 0 u hp hs2 B w0 hs
  have g1 := fun h hs hS => k_Spread ow cw w n h B w0 hs hS
  refine fn_enter Try.func18 rfl Try.ntmps18 (by simp) ?_
  by_cases hr : rightB p q s t a z = true
  · have e2 : stE p q s t a z = 0 := if_pos hr
    have e3 : stN p q s t a z = bef p q s t z - bef p q s t a := if_pos hr
    obtain ⟨r1, r2, r3, r4, r5⟩ := right_to hr
    have hr2 : rightB p q s t 0 (z - a) = true := decide_eq_true ⟨r1, r2, by omega, by omega, by omega⟩
    have e4 : stE p q s t 0 (z - a) = 0 := if_pos hr2
    have e5 : stN p q s t 0 (z - a) = bef p q s t (z - a) - bef p q s t 0 := if_pos hr2
    obtain ⟨a1, a2, a3, a4⟩ := dens_to r1
    obtain ⟨b1, b2, b3, b4⟩ := phas_to r2
    have hQ : 0 < q * t := Int.mul_pos (by omega) (by omega)
    have sd := st_diff (p := p) (s := s) hQ a (z - a)
    rw [show a + (z - a) = z by omega] at sd
    obtain ⟨o1, o2⟩ := bef_offE r1 r2 a z
    obtain ⟨m1, m2⟩ := mul_to (show 0 ≤ z - a by omega) (show z - a ≤ 10000 by omega) a3 (show p ≤ 6000 by omega)
    obtain ⟨v1, v2⟩ := bef_to r1 r2 (h := z) (by omega) (by omega)
    obtain ⟨v3, v4⟩ := bef_to r1 r2 (h := a) (by omega) (by omega)
    obtain ⟨v5, v6⟩ := bef_to r1 r2 (h := z - a) (by omega) (by omega)
    obtain ⟨v7, v8⟩ := bef_to r1 r2 (h := 0) (by omega) (by omega)
    rw [e2, e3] at f1
    have f2 := fun hs => f2 (z - a) hs
    rw [e4, e5] at f2
    have i1 : InI ((bef p q s t z - bef p q s t a) * q) := ⟨by omega, by omega⟩
    have i2 : InI ((z - a) * p) := ⟨by omega, by omega⟩
    have i3 : InI ((bef p q s t z - bef p q s t a) * q - (z - a) * p) := ⟨by omega, by omega⟩
    repeat' (first | ((with_reducible apply kF 48); refine sC 48 (kb _ _ (Sl.own MDt)) ?_) | ((with_reducible apply kF 29); refine sC 29 (f1 _) ?_) | ((with_reducible apply kF 29); refine sC 29 (f2 _) ?_) | (with_reducible first | refine c_seq ?_ | refine c_reg ?_ | refine c_region ?_ | refine c_block ?_ | refine c_skip ?_ | refine c_exit ?_ | refine c_ret ?_ | refine s_nil ?_ | refine x_then ?_ | refine x_then_exit ?_ | refine x_then_ret ?_ | refine x_block ?_ | refine x_block_ret ?_ | refine x_block_same ?_ | refine x_block_other (by rfl) ?_ | refine q_nil ?_ | refine k_nil ?_) | ((with_reducible apply kP (.makeFunc _ _ _)); refine sMF ?_) | ((with_reducible apply kG); first | refine gY1 ?_ | refine gN1 ?_ | refine gU1 ?_ | (refine gD1 (fun h => ?_) (fun h => ?_) <;> (try (exfalso; omega))) | refine gB1 (fun h => ?_) (fun h => ?_)) | ((with_reducible apply kN); first | refine stP ?_ | refine stI ?_ | refine st1 ?_ | refine stW ?_) | ((with_reducible apply kP (.alloc _)); refine sA (fun b => ?_)) | ((with_reducible apply kP (.box _ _)); first | refine sBA (fun b => ?_) | refine sB (fun b => ?_)) | ((with_reducible apply kP (.buildSlice _ 1 _)); first | refine sl1A (fun b => ?_) | refine sl1 (fun b => ?_)) | ((with_reducible apply kP (.buildSlice _ 2 _)); refine sl2 (fun b => ?_)) | ((with_reducible apply kP (.buildSlice _ 3 _)); refine sl3 (fun b => ?_)) | ((with_reducible apply kP (.buildSlice _ 4 _)); refine sl4 (fun b => ?_)) | ((with_reducible apply kP (.buildSlice _ 0 _)); refine s_bs0 (scTOf rfl) (zsTOf rfl) (by decide) (fun b => ?_)) | ((with_reducible apply kP (.makeSlice _ _ _)); refine sMk (fun b => ?_)) | ((with_reducible apply kP (.call ⟨.builtin .append, _, _⟩)); refine sAp (fun oa2 c2 blk2 hrow2 => ?_)) | ((with_reducible apply kP _); refine sP ?_) | ((with_reducible apply kP _); refine sX ?_) | ((with_reducible apply kQG); first | refine qY1 ?_ | refine qN1 ?_ | refine qU1 ?_ | (refine qD1 (fun h => ?_) (fun h => ?_) <;> (try (exfalso; omega))) | refine qB1 (fun h => ?_) (fun h => ?_)) | ((with_reducible apply kQP); refine qP ?_) | ((with_reducible apply kQP); refine qX ?_) | ((with_reducible apply kC); first | refine cT ?_ | refine cF ?_ | (refine cI (fun h => ?_) (fun h => ?_) <;> (try (exfalso; omega))) | refine cB (fun h => ?_) (fun h => ?_)) | ((with_reducible apply kR); refine cQ ?_))
    all_goals try exact e_ret1 rfl rfl rfl SCt
    all_goals try (exfalso; omega)
    clear f1 f2 sd o1 o2 m1 m2 v1 v2 v3 v4 v5 v6 v7 v8 i1 i2 i3 kb e2 e3 e4 e5 r1 r2 r3 r4 r5 a1 a2 a3 a4 b1 b2 b3 b4 hQ hr hr2 hp hs2
    by_cases hq : qB n w = true
    · obtain ⟨hsh, hok, hlen, hv, h0, h6⟩ := spr_shr hq
      have hE : quE n w = 0 := if_pos hq
      rw [hE] at g1
      clear hE hq
      generalize sprL n w = L at *
      subst hlen
      have sp1 := spV_of hv (by omega) hok hsh
      have ur1 := ur_to to'
      have ur2 := ur_to from'
      have wt := fun hs => t_within to' L.length (by omega) (by omega) B w0 hs
      have wf := fun hs => t_within from' L.length (by omega) (by omega) B w0 hs
      obtain ⟨J, hJ⟩ := Int.eq_ofNat_of_zero_le (Int.emod_nonneg (ur to') (show (L.length : Int) + 1 ≠ 0 by omega))
      obtain ⟨I, hI⟩ := Int.eq_ofNat_of_zero_le (Int.emod_nonneg (ur from') (show (L.length : Int) + 1 ≠ 0 by omega))
      have hJ2 := Int.emod_lt_of_pos (ur to') (show 0 < (L.length : Int) + 1 by omega)
      have hI2 := Int.emod_lt_of_pos (ur from') (show 0 < (L.length : Int) + 1 by omega)
      rw [hJ] at wt hJ2
      rw [hI] at wf hI2
      have sp2 := spV_of hv (l := L.take J) (by rw [List.length_take]; omega) (cok_take hok J) (shr_take hsh J)
      have hw6 := (vw_to hv).2.2.1
      have i1 := fun ob d hs q1 q2 => k_isSpread ow ob cw d w L (by omega) (by omega) B w0 hs q1 q2
      have i2 := fun ob hs q1 q2 => k_isSpreadM ow (subA ob J 0 1) cw J J w (L.take J) (by rw [List.length_take]; omega) (by omega) (by omega) B w0 hs q1 q2
      rw [sp1] at i1
      rw [sp2] at i2
      repeat' (first | ((with_reducible apply kF 36); refine sN 36 (g1 (by omega) _ (hW.sub SBt)) ?_; rintro u ka ⟨ob, d, rfl, ha⟩; have hL := Sl.row (B := B) (w0 := w0) ha; have hcap : L.length ≤ d := ha.cap (by rw [ivs_length]; omega) (by omega); have hLt : Sl B w0 ka (subA ob J 0 1) (L.take J) := by (have := Sl.init hL (c := L.length) (hi := J) (by omega) (by omega); rw [subA_zero] at this ⊢; exact this)) | ((with_reducible apply kF 58); refine sC 58 (wt _) ?_) | ((with_reducible apply kF 58); refine sC 58 (wf _) ?_) | ((with_reducible apply kF 23); refine sC 23 (i1 ob d _ (hW.sub SBt) (hL.sub SBt)) ?_) | ((with_reducible apply kF 23); refine sC 23 (i2 ob _ (hW.sub SBt) (hLt.sub SBt)) ?_) | ((with_reducible apply kP (.slice _ _ _ _ _)); refine sP ?_ (o_sliceHM (scTOf rfl) rfl rfl rfl rfl rfl (by omega) (by omega))) | ((with_reducible apply kF 59); refine sC 59 (t_stretched ow ob cw d w L I J hv (by omega) (by omega) (by omega) hsh B w0 _ (hW.sub SBt) (hL.sub SBt)) ?_) | (with_reducible first | refine c_seq ?_ | refine c_reg ?_ | refine c_region ?_ | refine c_block ?_ | refine c_skip ?_ | refine c_exit ?_ | refine c_ret ?_ | refine s_nil ?_ | refine x_then ?_ | refine x_then_exit ?_ | refine x_then_ret ?_ | refine x_block ?_ | refine x_block_ret ?_ | refine x_block_same ?_ | refine x_block_other (by rfl) ?_ | refine q_nil ?_ | refine k_nil ?_) | ((with_reducible apply kP (.makeFunc _ _ _)); refine sMF ?_) | ((with_reducible apply kG); first | refine gY1 ?_ | refine gN1 ?_ | refine gU1 ?_ | (refine gD1 (fun h => ?_) (fun h => ?_) <;> (try (exfalso; omega))) | refine gB1 (fun h => ?_) (fun h => ?_)) | ((with_reducible apply kN); first | refine stP ?_ | refine stI ?_ | refine st1 ?_ | refine stW ?_) | ((with_reducible apply kP (.alloc _)); refine sA (fun b => ?_)) | ((with_reducible apply kP (.box _ _)); first | refine sBA (fun b => ?_) | refine sB (fun b => ?_)) | ((with_reducible apply kP (.buildSlice _ 1 _)); first | refine sl1A (fun b => ?_) | refine sl1 (fun b => ?_)) | ((with_reducible apply kP (.buildSlice _ 2 _)); refine sl2 (fun b => ?_)) | ((with_reducible apply kP (.buildSlice _ 3 _)); refine sl3 (fun b => ?_)) | ((with_reducible apply kP (.buildSlice _ 4 _)); refine sl4 (fun b => ?_)) | ((with_reducible apply kP (.buildSlice _ 0 _)); refine s_bs0 (scTOf rfl) (zsTOf rfl) (by decide) (fun b => ?_)) | ((with_reducible apply kP (.makeSlice _ _ _)); refine sMk (fun b => ?_)) | ((with_reducible apply kP (.call ⟨.builtin .append, _, _⟩)); refine sAp (fun oa2 c2 blk2 hrow2 => ?_)) | ((with_reducible apply kP _); refine sP ?_) | ((with_reducible apply kP _); refine sX ?_) | ((with_reducible apply kQG); first | refine qY1 ?_ | refine qN1 ?_ | refine qU1 ?_ | (refine qD1 (fun h => ?_) (fun h => ?_) <;> (try (exfalso; omega))) | refine qB1 (fun h => ?_) (fun h => ?_)) | ((with_reducible apply kQP); refine qP ?_) | ((with_reducible apply kQP); refine qX ?_) | ((with_reducible apply kC); first | refine cT ?_ | refine cF ?_ | (refine cI (fun h => ?_) (fun h => ?_) <;> (try (exfalso; omega))) | refine cB (fun h => ?_) (fun h => ?_)) | ((with_reducible apply kR); refine cQ ?_))
      all_goals first
        | exact e_ret1 rfl rfl rfl SCt
        | exact absurd rfl ‹¬ _ = _›
        | exact absurd rfl ‹_ ≠ _›
        | (exfalso; omega)
    · have hE : quE n w = 1 := if_neg hq
      have hL : sprL n w = [] := if_neg hq
      rw [hE, hL] at g1
      repeat' (first | ((with_reducible apply kF 36); refine sN 36 (g1 (by omega) _ (hW.sub SBt)) ?_; rintro u ka ⟨ob, d, rfl, ha⟩) | (with_reducible first | refine c_seq ?_ | refine c_reg ?_ | refine c_region ?_ | refine c_block ?_ | refine c_skip ?_ | refine c_exit ?_ | refine c_ret ?_ | refine s_nil ?_ | refine x_then ?_ | refine x_then_exit ?_ | refine x_then_ret ?_ | refine x_block ?_ | refine x_block_ret ?_ | refine x_block_same ?_ | refine x_block_other (by rfl) ?_ | refine q_nil ?_ | refine k_nil ?_) | ((with_reducible apply kP (.makeFunc _ _ _)); refine sMF ?_) | ((with_reducible apply kG); first | refine gY1 ?_ | refine gN1 ?_ | refine gU1 ?_ | (refine gD1 (fun h => ?_) (fun h => ?_) <;> (try (exfalso; omega))) | refine gB1 (fun h => ?_) (fun h => ?_)) | ((with_reducible apply kN); first | refine stP ?_ | refine stI ?_ | refine st1 ?_ | refine stW ?_) | ((with_reducible apply kP (.alloc _)); refine sA (fun b => ?_)) | ((with_reducible apply kP (.box _ _)); first | refine sBA (fun b => ?_) | refine sB (fun b => ?_)) | ((with_reducible apply kP (.buildSlice _ 1 _)); first | refine sl1A (fun b => ?_) | refine sl1 (fun b => ?_)) | ((with_reducible apply kP (.buildSlice _ 2 _)); refine sl2 (fun b => ?_)) | ((with_reducible apply kP (.buildSlice _ 3 _)); refine sl3 (fun b => ?_)) | ((with_reducible apply kP (.buildSlice _ 4 _)); refine sl4 (fun b => ?_)) | ((with_reducible apply kP (.buildSlice _ 0 _)); refine s_bs0 (scTOf rfl) (zsTOf rfl) (by decide) (fun b => ?_)) | ((with_reducible apply kP (.makeSlice _ _ _)); refine sMk (fun b => ?_)) | ((with_reducible apply kP (.call ⟨.builtin .append, _, _⟩)); refine sAp (fun oa2 c2 blk2 hrow2 => ?_)) | ((with_reducible apply kP _); refine sP ?_) | ((with_reducible apply kP _); refine sX ?_) | ((with_reducible apply kQG); first | refine qY1 ?_ | refine qN1 ?_ | refine qU1 ?_ | (refine qD1 (fun h => ?_) (fun h => ?_) <;> (try (exfalso; omega))) | refine qB1 (fun h => ?_) (fun h => ?_)) | ((with_reducible apply kQP); refine qP ?_) | ((with_reducible apply kQP); refine qX ?_) | ((with_reducible apply kC); first | refine cT ?_ | refine cF ?_ | (refine cI (fun h => ?_) (fun h => ?_) <;> (try (exfalso; omega))) | refine cB (fun h => ?_) (fun h => ?_)) | ((with_reducible apply kR); refine cQ ?_))
      all_goals first
        | exact e_ret1 rfl rfl rfl SCt
        | exact absurd rfl ‹¬ _ = _›
        | exact absurd rfl ‹_ ≠ _›
        | (exfalso; omega)
  · have e2 : stE p q s t a z = 1 := if_neg hr
    rw [e2, show stN p q s t a z = 0 from if_neg hr] at f1
    have f2 := fun hs => f2 (wr (z - a)) hs
    generalize stE p q s t 0 (wr (z - a)) = e9 at f2
    generalize stN p q s t 0 (wr (z - a)) = n9 at f2
    repeat' (first | ((with_reducible apply kP (.binOp .sub _ _ _ _)); refine sP ?_ (o_subW rfl rfl)) | ((with_reducible apply kP (.binOp .mul _ _ _ _)); refine sP ?_ (o_mulW rfl rfl)) | ((with_reducible apply kF 48); refine sC 48 (kb _ _ (Sl.own MDt)) ?_) | ((with_reducible apply kF 29); refine sC 29 (f1 _) ?_) | ((with_reducible apply kF 29); refine sC 29 (f2 _) ?_) | (with_reducible first | refine c_seq ?_ | refine c_reg ?_ | refine c_region ?_ | refine c_block ?_ | refine c_skip ?_ | refine c_exit ?_ | refine c_ret ?_ | refine s_nil ?_ | refine x_then ?_ | refine x_then_exit ?_ | refine x_then_ret ?_ | refine x_block ?_ | refine x_block_ret ?_ | refine x_block_same ?_ | refine x_block_other (by rfl) ?_ | refine q_nil ?_ | refine k_nil ?_) | ((with_reducible apply kP (.makeFunc _ _ _)); refine sMF ?_) | ((with_reducible apply kG); first | refine gY1 ?_ | refine gN1 ?_ | refine gU1 ?_ | (refine gD1 (fun h => ?_) (fun h => ?_) <;> (try (exfalso; omega))) | refine gB1 (fun h => ?_) (fun h => ?_)) | ((with_reducible apply kN); first | refine stP ?_ | refine stI ?_ | refine st1 ?_ | refine stW ?_) | ((with_reducible apply kP (.alloc _)); refine sA (fun b => ?_)) | ((with_reducible apply kP (.box _ _)); first | refine sBA (fun b => ?_) | refine sB (fun b => ?_)) | ((with_reducible apply kP (.buildSlice _ 1 _)); first | refine sl1A (fun b => ?_) | refine sl1 (fun b => ?_)) | ((with_reducible apply kP (.buildSlice _ 2 _)); refine sl2 (fun b => ?_)) | ((with_reducible apply kP (.buildSlice _ 3 _)); refine sl3 (fun b => ?_)) | ((with_reducible apply kP (.buildSlice _ 4 _)); refine sl4 (fun b => ?_)) | ((with_reducible apply kP (.buildSlice _ 0 _)); refine s_bs0 (scTOf rfl) (zsTOf rfl) (by decide) (fun b => ?_)) | ((with_reducible apply kP (.makeSlice _ _ _)); refine sMk (fun b => ?_)) | ((with_reducible apply kP (.call ⟨.builtin .append, _, _⟩)); refine sAp (fun oa2 c2 blk2 hrow2 => ?_)) | ((with_reducible apply kP _); refine sP ?_) | ((with_reducible apply kP _); refine sX ?_) | ((with_reducible apply kQG); first | refine qY1 ?_ | refine qN1 ?_ | refine qU1 ?_ | (refine qD1 (fun h => ?_) (fun h => ?_) <;> (try (exfalso; omega))) | refine qB1 (fun h => ?_) (fun h => ?_)) | ((with_reducible apply kQP); refine qP ?_) | ((with_reducible apply kQP); refine qX ?_) | ((with_reducible apply kC); first | refine cT ?_ | refine cF ?_ | (refine cI (fun h => ?_) (fun h => ?_) <;> (try (exfalso; omega))) | refine cB (fun h => ?_) (fun h => ?_)) | ((with_reducible apply kR); refine cQ ?_))
    all_goals try exact e_ret1 rfl rfl rfl SCt
    all_goals try (exfalso; omega)
    clear f1 f2 kb e2 hr hp hs2
    by_cases hq : qB n w = true
    · obtain ⟨hsh, hok, hlen, hv, h0, h6⟩ := spr_shr hq
      have hE : quE n w = 0 := if_pos hq
      rw [hE] at g1
      clear hE hq
      generalize sprL n w = L at *
      subst hlen
      have sp1 := spV_of hv (by omega) hok hsh
      have ur1 := ur_to to'
      have ur2 := ur_to from'
      have wt := fun hs => t_within to' L.length (by omega) (by omega) B w0 hs
      have wf := fun hs => t_within from' L.length (by omega) (by omega) B w0 hs
      obtain ⟨J, hJ⟩ := Int.eq_ofNat_of_zero_le (Int.emod_nonneg (ur to') (show (L.length : Int) + 1 ≠ 0 by omega))
      obtain ⟨I, hI⟩ := Int.eq_ofNat_of_zero_le (Int.emod_nonneg (ur from') (show (L.length : Int) + 1 ≠ 0 by omega))
      have hJ2 := Int.emod_lt_of_pos (ur to') (show 0 < (L.length : Int) + 1 by omega)
      have hI2 := Int.emod_lt_of_pos (ur from') (show 0 < (L.length : Int) + 1 by omega)
      rw [hJ] at wt hJ2
      rw [hI] at wf hI2
      have sp2 := spV_of hv (l := L.take J) (by rw [List.length_take]; omega) (cok_take hok J) (shr_take hsh J)
      have hw6 := (vw_to hv).2.2.1
      have i1 := fun ob d hs q1 q2 => k_isSpread ow ob cw d w L (by omega) (by omega) B w0 hs q1 q2
      have i2 := fun ob hs q1 q2 => k_isSpreadM ow (subA ob J 0 1) cw J J w (L.take J) (by rw [List.length_take]; omega) (by omega) (by omega) B w0 hs q1 q2
      rw [sp1] at i1
      rw [sp2] at i2
      repeat' (first | ((with_reducible apply kF 36); refine sN 36 (g1 (by omega) _ (hW.sub SBt)) ?_; rintro u ka ⟨ob, d, rfl, ha⟩; have hL := Sl.row (B := B) (w0 := w0) ha; have hcap : L.length ≤ d := ha.cap (by rw [ivs_length]; omega) (by omega); have hLt : Sl B w0 ka (subA ob J 0 1) (L.take J) := by (have := Sl.init hL (c := L.length) (hi := J) (by omega) (by omega); rw [subA_zero] at this ⊢; exact this)) | ((with_reducible apply kF 58); refine sC 58 (wt _) ?_) | ((with_reducible apply kF 58); refine sC 58 (wf _) ?_) | ((with_reducible apply kF 23); refine sC 23 (i1 ob d _ (hW.sub SBt) (hL.sub SBt)) ?_) | ((with_reducible apply kF 23); refine sC 23 (i2 ob _ (hW.sub SBt) (hLt.sub SBt)) ?_) | ((with_reducible apply kP (.slice _ _ _ _ _)); refine sP ?_ (o_sliceHM (scTOf rfl) rfl rfl rfl rfl rfl (by omega) (by omega))) | ((with_reducible apply kF 59); refine sC 59 (t_stretched ow ob cw d w L I J hv (by omega) (by omega) (by omega) hsh B w0 _ (hW.sub SBt) (hL.sub SBt)) ?_) | (with_reducible first | refine c_seq ?_ | refine c_reg ?_ | refine c_region ?_ | refine c_block ?_ | refine c_skip ?_ | refine c_exit ?_ | refine c_ret ?_ | refine s_nil ?_ | refine x_then ?_ | refine x_then_exit ?_ | refine x_then_ret ?_ | refine x_block ?_ | refine x_block_ret ?_ | refine x_block_same ?_ | refine x_block_other (by rfl) ?_ | refine q_nil ?_ | refine k_nil ?_) | ((with_reducible apply kP (.makeFunc _ _ _)); refine sMF ?_) | ((with_reducible apply kG); first | refine gY1 ?_ | refine gN1 ?_ | refine gU1 ?_ | (refine gD1 (fun h => ?_) (fun h => ?_) <;> (try (exfalso; omega))) | refine gB1 (fun h => ?_) (fun h => ?_)) | ((with_reducible apply kN); first | refine stP ?_ | refine stI ?_ | refine st1 ?_ | refine stW ?_) | ((with_reducible apply kP (.alloc _)); refine sA (fun b => ?_)) | ((with_reducible apply kP (.box _ _)); first | refine sBA (fun b => ?_) | refine sB (fun b => ?_)) | ((with_reducible apply kP (.buildSlice _ 1 _)); first | refine sl1A (fun b => ?_) | refine sl1 (fun b => ?_)) | ((with_reducible apply kP (.buildSlice _ 2 _)); refine sl2 (fun b => ?_)) | ((with_reducible apply kP (.buildSlice _ 3 _)); refine sl3 (fun b => ?_)) | ((with_reducible apply kP (.buildSlice _ 4 _)); refine sl4 (fun b => ?_)) | ((with_reducible apply kP (.buildSlice _ 0 _)); refine s_bs0 (scTOf rfl) (zsTOf rfl) (by decide) (fun b => ?_)) | ((with_reducible apply kP (.makeSlice _ _ _)); refine sMk (fun b => ?_)) | ((with_reducible apply kP (.call ⟨.builtin .append, _, _⟩)); refine sAp (fun oa2 c2 blk2 hrow2 => ?_)) | ((with_reducible apply kP _); refine sP ?_) | ((with_reducible apply kP _); refine sX ?_) | ((with_reducible apply kQG); first | refine qY1 ?_ | refine qN1 ?_ | refine qU1 ?_ | (refine qD1 (fun h => ?_) (fun h => ?_) <;> (try (exfalso; omega))) | refine qB1 (fun h => ?_) (fun h => ?_)) | ((with_reducible apply kQP); refine qP ?_) | ((with_reducible apply kQP); refine qX ?_) | ((with_reducible apply kC); first | refine cT ?_ | refine cF ?_ | (refine cI (fun h => ?_) (fun h => ?_) <;> (try (exfalso; omega))) | refine cB (fun h => ?_) (fun h => ?_)) | ((with_reducible apply kR); refine cQ ?_))
      all_goals first
        | exact e_ret1 rfl rfl rfl SCt
        | exact absurd rfl ‹¬ _ = _›
        | exact absurd rfl ‹_ ≠ _›
        | (exfalso; omega)
    · have hE : quE n w = 1 := if_neg hq
      have hL : sprL n w = [] := if_neg hq
      rw [hE, hL] at g1
      repeat' (first | ((with_reducible apply kF 36); refine sN 36 (g1 (by omega) _ (hW.sub SBt)) ?_; rintro u ka ⟨ob, d, rfl, ha⟩) | (with_reducible first | refine c_seq ?_ | refine c_reg ?_ | refine c_region ?_ | refine c_block ?_ | refine c_skip ?_ | refine c_exit ?_ | refine c_ret ?_ | refine s_nil ?_ | refine x_then ?_ | refine x_then_exit ?_ | refine x_then_ret ?_ | refine x_block ?_ | refine x_block_ret ?_ | refine x_block_same ?_ | refine x_block_other (by rfl) ?_ | refine q_nil ?_ | refine k_nil ?_) | ((with_reducible apply kP (.makeFunc _ _ _)); refine sMF ?_) | ((with_reducible apply kG); first | refine gY1 ?_ | refine gN1 ?_ | refine gU1 ?_ | (refine gD1 (fun h => ?_) (fun h => ?_) <;> (try (exfalso; omega))) | refine gB1 (fun h => ?_) (fun h => ?_)) | ((with_reducible apply kN); first | refine stP ?_ | refine stI ?_ | refine st1 ?_ | refine stW ?_) | ((with_reducible apply kP (.alloc _)); refine sA (fun b => ?_)) | ((with_reducible apply kP (.box _ _)); first | refine sBA (fun b => ?_) | refine sB (fun b => ?_)) | ((with_reducible apply kP (.buildSlice _ 1 _)); first | refine sl1A (fun b => ?_) | refine sl1 (fun b => ?_)) | ((with_reducible apply kP (.buildSlice _ 2 _)); refine sl2 (fun b => ?_)) | ((with_reducible apply kP (.buildSlice _ 3 _)); refine sl3 (fun b => ?_)) | ((with_reducible apply kP (.buildSlice _ 4 _)); refine sl4 (fun b => ?_)) | ((with_reducible apply kP (.buildSlice _ 0 _)); refine s_bs0 (scTOf rfl) (zsTOf rfl) (by decide) (fun b => ?_)) | ((with_reducible apply kP (.makeSlice _ _ _)); refine sMk (fun b => ?_)) | ((with_reducible apply kP (.call ⟨.builtin .append, _, _⟩)); refine sAp (fun oa2 c2 blk2 hrow2 => ?_)) | ((with_reducible apply kP _); refine sP ?_) | ((with_reducible apply kP _); refine sX ?_) | ((with_reducible apply kQG); first | refine qY1 ?_ | refine qN1 ?_ | refine qU1 ?_ | (refine qD1 (fun h => ?_) (fun h => ?_) <;> (try (exfalso; omega))) | refine qB1 (fun h => ?_) (fun h => ?_)) | ((with_reducible apply kQP); refine qP ?_) | ((with_reducible apply kQP); refine qX ?_) | ((with_reducible apply kC); first | refine cT ?_ | refine cF ?_ | (refine cI (fun h => ?_) (fun h => ?_) <;> (try (exfalso; omega))) | refine cB (fun h => ?_) (fun h => ?_)) | ((with_reducible apply kR); refine cQ ?_))
      all_goals first
        | exact e_ret1 rfl rfl rfl SCt
        | exact absurd rfl ‹¬ _ = _›
        | exact absurd rfl ‹_ ≠ _›
        | (exfalso; omega)
set_option maxRecDepth 100000 in
theorem topEven_holds_lifted (os : Os) (started : os.Started) (H : Type) (enc : TypeId × Value → H) :
    ReturnsInHanded {} Try.checked os 18 .any (Rows.topEvenSpec.pre6 enc Try.prog Try.f18 Rows.topEvenRow.domain false) (Rows.topEvenSpec.post enc Try.prog Try.f18 false true false false) := by
  refine returnsInHanded_of_change (C := Try.checked) ownK started (by kernel_rfl) Try.func18
    (ChangeSpec.witness6 (enc := enc) (C := Try.checked) false ⟨#[], #[.agg #[.int .i64 0, .int .i64 0, .int .i64 0, .int .i64 0, .int .i64 0, .int .i64 0], .slice none 0 0, .agg #[.int .i64 0, .int .i64 0, .int .i64 0]], []⟩ 8 (by kernel_rfl) (by kernel_rfl) (by kernel_rfl) (by kernel_rfl)) ?_
  intro W base args ds gs before hval0 hW hcnd _
  have hval : ∀ (j : Nat) t v, Try.f18.params[j]? = some t → args[j]? = some v → Value.okWide Try.prog W .any base t v := hval0
  have hW' := hW
  obtain ⟨p, q, hA0, hV, rfl, hfz, hnd⟩ := hW
  have hA : DataW.TrodAll enc Try.prog W 0 (fun _ => true) true Try.f18.params.toList args.toList ds p := hA0
  rw [Try.params18] at hA hval
  obtain ⟨v0, v1, v2, d_0, d_1, d_2, p_0, p_1, p_2, rfl, rfl, rfl, h0, h1, h2⟩ := trodAll_three hA
  obtain ⟨x0, rfl, n0, I0⟩ := arg_flat (m := 5) (k := 6) (by kernel_rfl) (by kernel_rfl) (hval 0 _ v0 rfl rfl) h0
  obtain ⟨x0_0, x0_1, x0_2, x0_3, x0_4, x0_5, rfl⟩ := len_6 n0
  obtain ⟨oa1, n1, c1, l1, rfl, e1, m1, g1, I1, s1⟩ := arg_sl (m := 5) (k := 1) (by kernel_rfl) (hval 1 _ v1 rfl rfl) h1
  obtain ⟨x2, rfl, n2, I2⟩ := arg_flat (m := 5) (k := 3) (by kernel_rfl) (by kernel_rfl) (hval 2 _ v2 rfl rfl) h2
  obtain ⟨x2_0, x2_1, x2_2, rfl⟩ := len_3 n2
  refine (law_calls (by rw [Nat.mul_one] at e1; subst e1; exact l_topEven _ _ _ _ _ _ _ _ _ _ _ _ (I0 x0_0 (by simp)).2 (I0 x0_2 (by simp)).2 _ W [] s1)).mono fun e W' ⟨he, hb⟩ => ⟨.bool true, he, ?_⟩
  exact law_post rfl ⟨⟨by kernel_rfl, of_decide_eq_true (by kernel_rfl)⟩, ⟨by kernel_rfl, of_decide_eq_true (by kernel_rfl)⟩, ⟨by kernel_rfl, of_decide_eq_true (by kernel_rfl)⟩, trivial⟩ rfl hW' ⟨rfl, rfl, rfl⟩ hb
theorem topEven_holds : Rows.TopEvenSaid :=
  OpenClaim.holds_of_wide 18 Try.f18 rfl rfl rfl rfl rfl rfl rfl ⟨rfl, rfl, rfl, rfl, rfl⟩ rfl rfl rfl rfl rfl (by kernel_rfl) Try.func18 (by kernel_rfl)
    (of_decide_eq_true (by kernel_rfl)) (by unfold Func.isWrapper; first | (rw [if_pos (by decide +kernel)]; kernel_rfl) | (rw [if_neg (by decide +kernel)]; exact ⟨rfl, rfl⟩))
    (fun os started H enc _ => topEven_holds_lifted os started H enc)
#print axioms topEven_holds
end Go.Proofs.Ytlijcnocahplbaa
