/- CapSplitKeeps: the law's walk. -/
import Derived.Test.YtnbickholedckaaMC75
import Derived.Test.YtnbickholedckaaMC77
import Derived.Test.YtnbickholedckaaMC73
import Derived.Test.YtnbickholedckaaMC62
namespace Go.Proofs.Ytnbickholedckaa
open Go.RowKit
attribute [local irreducible] OpF Ld CellAt Sl Sv pcA usP
set_option maxRecDepth 100000 in
set_option maxHeartbeats 8000000 in
theorem k_CapSplitKeeps (ps : List Pc) (oP oS : Option Addr) (cP m cS : Nat) (sm : List Int) (e p i j z w : Int) (hsm : sm.length = m * 4) (B : Nat) (w0 : Wd) (hs : HS) (hC : CapM B w0 hs oP oS ps sm) :
    Fn Try.prog 14 #[.agg #[.slice oP ps.length cP, .slice oS m cS, iv e], .agg #[iv p, iv i, iv j, iv z, iv w]] B w0 hs (fun v h => v = .bool true ∧ h = hs) := by
  have kL := fun hs' (h : hs.Sublist hs') => k_Long ps oP oS cP m cS sm e B w0 hs' (hC.sub h)
  by_cases hlg : lgC ps m
  · refine fn_enter Try.func14 rfl Try.ntmps14 (by simp) ?_
    repeat' (first | ((with_reducible apply kP (.box 25 _)); refine sBA (fun b1 => ?_)) | ((with_reducible apply kP (.box 67 _)); refine sBA (fun b2 => ?_)) | ((with_reducible apply kF 15); refine sR 15 (kL _ SBt) ?_; rintro v7 h7 ⟨⟨bb, rfl, hb⟩, rfl⟩; obtain rfl : bb = true := hb.2 hlg) | ((with_reducible apply kF 16); refine sC 16 (k_known B w0 _) ?_) | ((with_reducible apply kRg 8); refine cD [1, 4, 1, 1, 1, 3, 0, 4, 1, 1, 1, 1, 1, 1, 1, 1, 1, 1, 1, 1, 3, 0, 4, 4, 1, 1, 4, 1, 1] ?_) | (with_reducible first | refine c_seq ?_ | refine c_reg ?_ | refine c_region ?_ | refine c_block ?_ | refine c_skip ?_ | refine c_exit ?_ | refine c_ret ?_ | refine s_nil ?_ | refine x_then ?_ | refine x_then_exit ?_ | refine x_then_ret ?_ | refine x_block ?_ | refine x_block_ret ?_ | refine x_block_same ?_ | refine x_block_other (by first | rfl | decide) ?_ | refine q_nil ?_ | refine k_nil ?_) | ((with_reducible apply kG); first | refine gY1 ?_ | refine gN1 ?_ | refine gU1 ?_ | (refine gD1 (fun h => ?_) (fun h => ?_) <;> (try (exfalso; omega))) | refine gB1 (fun h => ?_) (fun h => ?_)) | ((with_reducible apply kN); first | refine stP ?_ | refine stI ?_ | refine st1 ?_ | refine stW ?_) | ((with_reducible apply kP (.alloc _)); refine sA (fun b => ?_)) | ((with_reducible apply kP (.box _ _)); first | refine sBA (fun b => ?_) | refine sB (fun b => ?_)) | ((with_reducible apply kP _); refine sP ?_) | ((with_reducible apply kP _); refine sX ?_) | ((with_reducible apply kC); first | refine cT ?_ | refine cF ?_ | (refine cI (fun h => ?_) (fun h => ?_) <;> (try (exfalso; omega))) | refine cB (fun h => ?_) (fun h => ?_)) | ((with_reducible apply kDG); first | refine dY1 ?_ | refine dNo1 ?_ | refine dU1 ?_ | (refine dD1 (fun h => ?_) (fun h => ?_) <;> (try (exfalso; omega))) | refine dB1 (fun h => ?_) (fun h => ?_)) | ((with_reducible apply kDP _); refine dP ?_) | ((with_reducible apply kDP _); refine dX ?_))
    exact e_ret1 (hs' := hs) rfl rfl ⟨rfl, rfl⟩ SCt
  · obtain ⟨hn, hm, hl⟩ := lgC_no hlg
    have hb0 : Bd ps sm m := ⟨by omega, fun i hi => by have := hl i hi; omega, hsm, by omega⟩
    have kD1 := fun hs' (h : hs.Sublist hs') => k_Split ps oP oS cP m cS sm e p i j z w (by omega) hsm (by omega) B w0 hs' (hC.sub h)
    by_cases hE : spE ps sm m e p i j z w = 0
    · obtain ⟨_, s, X⟩ := spE_0 hsm hE
      have hv := vdC_of X.V
      have hw := vdC_of X.vd
      have hms := X.ms
      have hb1 : Bd (spP ps p.toNat i.toNat j.toNat z w) (spM ps sm m p.toNat i.toNat j.toNat) (m + 1) := vdC_bd X.vd (spM_len _ _ _ _ _ _) (by omega)
      have hso := soL_eq X.hair
      have hhl := X.hair.length_eq
      have hrl : (hrC ps sm m).length ≤ 48 := by rw [hrC_len]; exact X.V.lpn
      rw [hE] at kD1
      have kH0 := fun hs' (h : hs.Sublist hs') => (k_Hairline ps oP oS cP m cS sm e (by omega) hsm (by omega) B w0 hs' (hC.sub h)).mono (R' := fun v h => ∃ oa c blk, RowOk oa c 1 (ivs (hrC ps sm m)) blk ∧ v = .tuple #[.slice oa (hrC ps sm m).length c, iv 0] ∧ h = blk ++ hs') (by
        rintro v h (⟨h0, _⟩ | ⟨_, h1⟩)
        · exact absurd hv h0
        · exact h1)
      have kM0 := fun hs' (h : hs.Sublist hs') => k_measure ps oP oS cP m cS sm e (by omega) hsm (by omega) B w0 hs' (hC.sub h)
      have kV1 : ∀ qs oP1 oS1 cP1 cS1 blk, SmP qs (spP ps p.toNat i.toNat j.toNat z w) → CapM B w0 blk oP1 oS1 qs (spM ps sm m p.toNat i.toNat j.toNat) → ∀ hs' (_ : blk.Sublist hs'), Fn Try.prog 18 #[.agg #[.slice oP1 (spP ps p.toNat i.toNat j.toNat z w).length cP1, .slice oS1 (m + 1) cS1, iv e]] B w0 hs' (fun v h => v = iv 0 ∧ h = hs') := fun qs oP1 oS1 cP1 cS1 blk hq hM hs' h => by
        have := k_Validate qs oP1 oS1 cP1 (m + 1) cS1 (spM ps sm m p.toNat i.toNat j.toNat) e (by rw [hq.len]; exact hb1.n) hb1.s hb1.m B w0 hs' (hM.sub h)
        rw [show vdE qs.length (sdF qs) (anF qs) (m + 1) (spM ps sm m p.toNat i.toNat j.toNat) e = 0 from (hq.vd _ _ _).trans hw, hq.len] at this
        exact this
      have kH1 : ∀ qs oP1 oS1 cP1 cS1 blk, SmP qs (spP ps p.toNat i.toNat j.toNat z w) → CapM B w0 blk oP1 oS1 qs (spM ps sm m p.toNat i.toNat j.toNat) → ∀ hs' (_ : blk.Sublist hs'), Fn Try.prog 26 #[.agg #[.slice oP1 (spP ps p.toNat i.toNat j.toNat z w).length cP1, .slice oS1 (m + 1) cS1, iv e]] B w0 hs' (fun v h => ∃ oa c blk, RowOk oa c 1 (ivs (hrC (spP ps p.toNat i.toNat j.toNat z w) (spM ps sm m p.toNat i.toNat j.toNat) (m + 1))) blk ∧ v = .tuple #[.slice oa (hrC (spP ps p.toNat i.toNat j.toNat z w) (spM ps sm m p.toNat i.toNat j.toNat) (m + 1)).length c, iv 0] ∧ h = blk ++ hs') := fun qs oP1 oS1 cP1 cS1 blk hq hM hs' h => by
        have := k_Hairline qs oP1 oS1 cP1 (m + 1) cS1 (spM ps sm m p.toNat i.toNat j.toNat) e (by rw [hq.len]; exact hb1.n) hb1.s hb1.m B w0 hs' (hM.sub h)
        rw [hq.len, hq.vd, hq.hr] at this
        refine this.mono fun v h hc => ?_
        rcases hc with ⟨h0, _⟩ | ⟨_, h1⟩
        · exact absurd hw h0
        · exact h1
      have kM1 : ∀ qs oP1 oS1 cP1 cS1 blk, SmP qs (spP ps p.toNat i.toNat j.toNat z w) → CapM B w0 blk oP1 oS1 qs (spM ps sm m p.toNat i.toNat j.toNat) → ∀ hs' (_ : blk.Sublist hs'), Fn Try.prog 38 #[.agg #[.slice oP1 (spP ps p.toNat i.toNat j.toNat z w).length cP1, .slice oS1 (m + 1) cS1, iv e]] B w0 hs' (fun v h => v = .agg (ivs (msV ps sm m e)).toArray ∧ h = hs') := fun qs oP1 oS1 cP1 cS1 blk hq hM hs' h => by
        have := k_measure qs oP1 oS1 cP1 (m + 1) cS1 (spM ps sm m p.toNat i.toNat j.toNat) e (by rw [hq.len]; exact hb1.n) hb1.s hb1.m B w0 hs' (hM.sub h)
        rw [hq.len, hq.ms, hms] at this
        exact this
      have hl5 : (msV ps sm m e).length = 5 := rfl
      generalize msV ps sm m e = mv at *
      generalize hrC ps sm m = hr at *
      generalize hrC (spP ps p.toNat i.toNat j.toNat z w) (spM ps sm m p.toNat i.toNat j.toNat) (m + 1) = hr1 at *
      generalize spP ps p.toNat i.toNat j.toNat z w = PS at *
      generalize spM ps sm m p.toNat i.toNat j.toNat = SM at *
      clear X hw hv hms
      have ks0 : ∀ oa c hs', Sl B w0 hs' oa hr → Fn Try.prog 50 #[.slice oa hr.length c] B w0 hs' (fun v h => ∃ blk, (∃ oa' c', RowOk oa' c' 1 (ivs (soL hr hr.length)) blk ∧ v = .slice oa' hr.length c') ∧ h = blk ++ hs') := fun oa c hs' h => (k_sorted oa c hr (by omega) B w0 hs' h).mono fun v h ⟨oa', c', blk, h1, h2, h3⟩ => ⟨blk, ⟨oa', c', h1, h2⟩, h3⟩
      have ks1 : ∀ oa c hs', Sl B w0 hs' oa hr1 → Fn Try.prog 50 #[.slice oa hr1.length c] B w0 hs' (fun v h => ∃ blk, (∃ oa' c', RowOk oa' c' 1 (ivs (soL hr hr.length)) blk ∧ v = .slice oa' hr.length c') ∧ h = blk ++ hs') := fun oa c hs' h => (k_sorted oa c hr1 (by omega) B w0 hs' h).mono fun v h ⟨oa', c', blk, h1, h2, h3⟩ => ⟨blk, ⟨oa', c', by rw [hso]; exact h1, by rw [hhl]; exact h2⟩, h3⟩
      have hsol : (soL hr hr.length).length = hr.length := soL_len _ _
      have hsI := fun oa ob c1 c2 hs' h1 h2 => r_same oa ob c1 c2 (soL hr hr.length) (soL hr hr.length) B w0 hs' h1 h2 (by omega)
      rw [decide_eq_true (rfl : soL hr hr.length = soL hr hr.length), hsol] at hsI
      refine fn_enter Try.func14 rfl Try.ntmps14 (by simp) ?_
      repeat' (first | ((with_reducible apply kP (.box 25 _)); refine sBA (fun b3 => ?_)) | ((with_reducible apply kP (.box 67 _)); refine sBA (fun b2 => ?_)) | ((with_reducible apply kF 15); refine sR 15 (kL _ SBt) ?_; rintro v7 h7 ⟨⟨bb, rfl, hb⟩, rfl⟩; obtain rfl : bb = false := by (rw [← Bool.not_eq_true]; exact fun h => hlg (hb.1 h))) | ((with_reducible apply kF 43); refine sR 43 (kD1 _ SBt) ?_; rintro v7 h7 (⟨h0, _⟩ | ⟨_, u1, k1, hcp1, rfl, rfl⟩); (exact absurd rfl h0); obtain ⟨q1, oP1, cP1, oS1, cS1, rfl, hq1, hM1⟩ := hcp1.x B w0) | ((with_reducible apply kP (.alloc 25)); refine sA (fun b5 => ?_)) | ((with_reducible apply kN); refine stW ?_ (hf := flat_cons rfl (flat_cons rfl (flat1 rfl)))) | ((with_reducible apply kF 26); refine sR 26 (kH0 _ SBt) ?_; rintro v7 h7 ⟨o8, c8, k8, hr8, rfl, rfl⟩) | ((with_reducible apply kF 26); refine sR 26 (kH1 _ _ _ _ _ _ hq1 hM1 _ SBt) ?_; rintro v7 h7 ⟨o9, c9, k9, hr9, rfl, rfl⟩) | ((with_reducible apply kDF 18); refine dC 18 (fun F => kV1 _ _ _ _ _ _ hq1 hM1 _ (sbA SBt)) ?_) | ((with_reducible apply kDF 38); refine dC 38 (fun F => kM0 _ (sbA SBt)) ?_) | ((with_reducible apply kDF 38); refine dC 38 (fun F => kM1 _ _ _ _ _ _ hq1 hM1 _ (sbA SBt)) ?_) | ((with_reducible apply kP (.binOp .eql 62 _ _ _)); refine sP ?_ (o_eqS (xs := mv) rfl rfl hl5)) | ((with_reducible apply kDP (.binOp .eql 62 _ _ _)); refine dP ?_ (hX := rfl) (hv := o_eqS (xs := mv) rfl rfl hl5)) | ((with_reducible apply kQO (.binOp .eql 62 _ _ _)); refine qP ?_ (o_eqS (xs := mv) rfl rfl hl5)) | ((with_reducible apply kDF 50); (first | refine dN3 50 (fun F => ks0 _ _ _ ((Sl.row hr8).sub (sbA SBt))) ?_ | refine dN4 50 (fun F => ks0 _ _ _ ((Sl.row hr8).sub (sbA SBt))) ?_); rintro u7 k6 ⟨o6, c6, hr6, rfl⟩) | ((with_reducible apply kDF 50); (first | refine dN3 50 (fun F => ks1 _ _ _ ((Sl.row hr9).sub (sbA SBt))) ?_ | refine dN4 50 (fun F => ks1 _ _ _ ((Sl.row hr9).sub (sbA SBt))) ?_); rintro u7 k5 ⟨o5, c5, hr5, rfl⟩) | ((with_reducible apply kDF 29); refine dC 29 (fun F => hsI _ _ _ _ _ ((Sl.row hr6).sub (sbA SBt)) ((Sl.row hr5).sub (sbA SBt))) ?_) | ((with_reducible apply kF 16); refine sC 16 (k_known B w0 _) ?_) | ((with_reducible apply kDF 16); refine dC 16 (fun F => k_known B w0 _) ?_) | ((with_reducible apply kRg 8); refine cD [1, 4, 1, 1, 1, 3, 0, 4, 1, 1, 1, 1, 1, 1, 1, 1, 1, 1, 1, 1, 3, 0, 4, 4, 1, 1, 4, 1, 1] ?_) | (with_reducible first | refine c_seq ?_ | refine c_reg ?_ | refine c_region ?_ | refine c_block ?_ | refine c_skip ?_ | refine c_exit ?_ | refine c_ret ?_ | refine s_nil ?_ | refine x_then ?_ | refine x_then_exit ?_ | refine x_then_ret ?_ | refine x_block ?_ | refine x_block_ret ?_ | refine x_block_same ?_ | refine x_block_other (by first | rfl | decide) ?_ | refine q_nil ?_ | refine k_nil ?_) | ((with_reducible apply kG); first | refine gY1 ?_ | refine gN1 ?_ | refine gU1 ?_ | (refine gD1 (fun h => ?_) (fun h => ?_) <;> (try (exfalso; omega))) | refine gB1 (fun h => ?_) (fun h => ?_)) | ((with_reducible apply kN); first | refine stP ?_ | refine stI ?_ | refine st1 ?_ | refine stW ?_) | ((with_reducible apply kP (.alloc _)); refine sA (fun b => ?_)) | ((with_reducible apply kP (.box _ _)); first | refine sBA (fun b => ?_) | refine sB (fun b => ?_)) | ((with_reducible apply kP _); refine sP ?_) | ((with_reducible apply kP _); refine sX ?_) | ((with_reducible apply kC); first | refine cT ?_ | refine cF ?_ | (refine cI (fun h => ?_) (fun h => ?_) <;> (try (exfalso; omega))) | refine cB (fun h => ?_) (fun h => ?_)) | ((with_reducible apply kDG); first | refine dY1 ?_ | refine dNo1 ?_ | refine dU1 ?_ | (refine dD1 (fun h => ?_) (fun h => ?_) <;> (try (exfalso; omega))) | refine dB1 (fun h => ?_) (fun h => ?_)) | ((with_reducible apply kDP _); refine dP ?_) | ((with_reducible apply kDP _); refine dX ?_))
      all_goals first
        | exact e_ret1 (hs' := hs) rfl rfl ⟨rfl, rfl⟩ SCt
        | (exfalso; omega)
        | trace_state
    · generalize spE ps sm m e p i j z w = E1 at *
      refine fn_enter Try.func14 rfl Try.ntmps14 (by simp) ?_
      repeat' (first | ((with_reducible apply kP (.box 25 _)); refine sBA (fun b3 => ?_)) | ((with_reducible apply kP (.box 67 _)); refine sBA (fun b2 => ?_)) | ((with_reducible apply kF 15); refine sR 15 (kL _ SBt) ?_; rintro v7 h7 ⟨⟨bb, rfl, hb⟩, rfl⟩; obtain rfl : bb = false := by (rw [← Bool.not_eq_true]; exact fun h => hlg (hb.1 h))) | ((with_reducible apply kF 43); refine sR 43 (kD1 _ SBt) ?_; rintro v7 h7 (⟨_, rfl, rfl⟩ | ⟨h0, _⟩); rotate_left; (exact absurd h0 hE); unfold zcap) | ((with_reducible apply kP (.alloc 25)); refine sA (fun b5 => ?_)) | ((with_reducible apply kN); refine stW ?_ (hf := flat_cons rfl (flat_cons rfl (flat1 rfl)))) | ((with_reducible apply kF 16); refine sC 16 (k_known B w0 _) ?_) | ((with_reducible apply kDF 16); refine dC 16 (fun F => k_known B w0 _) ?_) | ((with_reducible apply kRg 8); refine cD [1, 4, 1, 1, 1, 3, 0, 4, 1, 1, 1, 1, 1, 1, 1, 1, 1, 1, 1, 1, 3, 0, 4, 4, 1, 1, 4, 1, 1] ?_) | (with_reducible first | refine c_seq ?_ | refine c_reg ?_ | refine c_region ?_ | refine c_block ?_ | refine c_skip ?_ | refine c_exit ?_ | refine c_ret ?_ | refine s_nil ?_ | refine x_then ?_ | refine x_then_exit ?_ | refine x_then_ret ?_ | refine x_block ?_ | refine x_block_ret ?_ | refine x_block_same ?_ | refine x_block_other (by first | rfl | decide) ?_ | refine q_nil ?_ | refine k_nil ?_) | ((with_reducible apply kG); first | refine gY1 ?_ | refine gN1 ?_ | refine gU1 ?_ | (refine gD1 (fun h => ?_) (fun h => ?_) <;> (try (exfalso; omega))) | refine gB1 (fun h => ?_) (fun h => ?_)) | ((with_reducible apply kN); first | refine stP ?_ | refine stI ?_ | refine st1 ?_ | refine stW ?_) | ((with_reducible apply kP (.alloc _)); refine sA (fun b => ?_)) | ((with_reducible apply kP (.box _ _)); first | refine sBA (fun b => ?_) | refine sB (fun b => ?_)) | ((with_reducible apply kP _); refine sP ?_) | ((with_reducible apply kP _); refine sX ?_) | ((with_reducible apply kC); first | refine cT ?_ | refine cF ?_ | (refine cI (fun h => ?_) (fun h => ?_) <;> (try (exfalso; omega))) | refine cB (fun h => ?_) (fun h => ?_)) | ((with_reducible apply kDG); first | refine dY1 ?_ | refine dNo1 ?_ | refine dU1 ?_ | (refine dD1 (fun h => ?_) (fun h => ?_) <;> (try (exfalso; omega))) | refine dB1 (fun h => ?_) (fun h => ?_)) | ((with_reducible apply kDP _); refine dP ?_) | ((with_reducible apply kDP _); refine dX ?_))
      all_goals first
        | exact e_ret1 (hs' := hs) rfl rfl ⟨rfl, rfl⟩ SCt
        | (exfalso; omega)
        | trace_state
end Go.Proofs.Ytnbickholedckaa
