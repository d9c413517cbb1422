/- CapDarts: the law's walk. -/
import Derived.Test.YtnbickholedckaaMC59
import Derived.Test.YtnbickholedckaaMC62
import Derived.Test.YtnbickholedckaaMC40
namespace Go.Proofs.Ytnbickholedckaa
open Go.RowKit
theorem SmP.ag {qs ps : List Pc} (h : SmP qs ps) : agF qs = agF ps := funext fun x => by
  have hh : agF ps x = (anF ps (pcG (sdF ps) ps.length x)).getD (x - fsN (sdF ps) (pcG (sdF ps) ps.length x)) 0 := rfl
  have hg : agF qs x = (anF qs (pcG (sdF qs) qs.length x)).getD (x - fsN (sdF qs) (pcG (sdF qs) qs.length x)) 0 := rfl
  rw [hh, hg, h.len, h.sd, h.an]
theorem SmP.de {qs ps : List Pc} (h : SmP qs ps) (sm : List Int) (m : Nat) (e x d : Int) : dtE qs sm m e x d = dtE ps sm m e x d := by
  have e2 : nC qs = nC ps := by unfold nC; rw [h.len, h.sd]
  have e3 : nxC qs = nxC ps := by unfold nxC; rw [h.len, h.sd]
  unfold dtE
  rw [h.vd, h.ag, e2, e3]
theorem SmP.dq {qs ps : List Pc} (h : SmP qs ps) {x : Nat} (hx : x < nC ps) (d : Int) : SmP (dtQ qs x d) (dtQ ps x d) := by
  obtain ⟨_, h1, _, _⟩ := sdx (ps := ps) hx
  unfold dtQ
  rw [h.sd, h.len]
  generalize x - fsN (sdF ps) (pcG (sdF ps) ps.length x) = r
  generalize nxN (sdF ps) ps.length x - fsN (sdF ps) (pcG (sdF ps) ps.length x) = q
  generalize pcG (sdF ps) ps.length x = p at *
  exact ⟨by rw [dtP_len, dtP_len, h.len], by rw [dtP_sd (by rw [h.len]; exact h1), dtP_sd h1, h.sd], funext fun i => by rw [dtP_an (by rw [h.len]; exact h1), dtP_an h1, h.an]⟩
theorem SmP.hr {qs ps : List Pc} (h : SmP qs ps) (sm : List Int) (m : Nat) : hrC qs sm m = hrC ps sm m := by
  have e2 : nC qs = nC ps := by unfold nC; rw [h.len, h.sd]
  have e3 : nxC qs = nxC ps := by unfold nxC; rw [h.len, h.sd]
  have e4 : muC qs sm m = muC ps sm m := by unfold muC; rw [h.sd]
  have e9 : lnF qs = lnF ps := funext fun x => by
    have a1 : ∀ l : List Pc, lnF l x = (sdF l (pcG (sdF l) l.length x)).getD (x - fsN (sdF l) (pcG (sdF l) l.length x)) 0 := fun l => rfl
    rw [a1, a1, h.len, h.sd]
  unfold hrC; rw [e2, e3, e4, e9]
theorem dtQ_bd {ps : List Pc} {sm : List Int} {m : Nat} (h : Bd ps sm m) {x : Nat} (hx : x < nC ps) (d : Int) : Bd (dtQ ps x d) sm m := by
  obtain ⟨_, h1, _, _⟩ := sdx (ps := ps) hx
  unfold dtQ
  refine ⟨by rw [dtP_len]; exact h.n, fun i hi => ?_, h.s, h.m⟩
  rw [dtP_len] at hi
  have hb := h.l i hi
  rw [dtP_at h1]
  split
  · rename_i hh
    rw [hh] at hb
    dsimp only
    rw [dtA_len]
    exact hb
  · exact hb
/-- What a dart that is made leaves as it was. -/
theorem dtE_0 {ps : List Pc} {sm : List Int} {m : Nat} {e x d : Int} (h : dtE ps sm m e x d = 0) : vdC ps sm m e = 0 ∧ 0 ≤ x ∧ x.toNat < nC ps ∧ vdC (dtQ ps x.toNat d) sm m e = 0 ∧ msV (dtQ ps x.toNat d) sm m e = msV ps sm m e ∧ hrC (dtQ ps x.toNat d) sm m = hrC ps sm m := by
  unfold dtE at h
  by_cases hv : vdC ps sm m e = 0
  · rw [if_neg (fun h => h hv)] at h
    by_cases hx : 0 ≤ x ∧ x < (nC ps : Int)
    · rw [if_neg (fun h => h hx)] at h
      have hx2 : x.toNat < nC ps := by omega
      have V := vdC_0 hv
      obtain ⟨p, f, r, q, D, hQ, hA1, hA2⟩ := dtX V hx2
      rw [hA1, hA2] at h
      by_cases hg : d < 1 ∨ (pcA ps p).an.getD r 0 - d < 1 ∨ 359 < (pcA ps p).an.getD q 0 + d
      · rw [if_pos hg] at h; exact absurd h (by decide)
      · have hne : r ≠ q := by have := D.hk; have := D.hr; rw [D.he]; split <;> omega
        have hW := vdC_of (dtP_vd V D.hp D.hr D.hq hne (by omega) (show 1 ≤ (pcA ps p).an.getD r 0 - d by omega) (show (pcA ps p).an.getD q 0 + d ≤ 359 by omega))
        rw [hQ]
        exact ⟨hv, hx.1, hx2, hW, dtP_ms D.hp hv hW⟩
    · rw [if_pos hx] at h; exact absurd h (by decide)
  · rw [if_pos hv] at h; exact absurd h hv
attribute [local irreducible] OpF Ld CellAt Sl Sv pcA usP
set_option maxRecDepth 100000 in
set_option maxHeartbeats 8000000 in
theorem k_CapDarts (ps : List Pc) (oP oS : Option Addr) (cP m cS : Nat) (sm : List Int) (e x d : Int) (hxx : -9223372036854775808 ≤ x ∧ x ≤ 9223372036854775807) (hsm : sm.length = m * 4) (B : Nat) (w0 : Wd) (hs : HS) (hC : CapM B w0 hs oP oS ps sm) :
    Fn Try.prog 13 #[.agg #[.slice oP ps.length cP, .slice oS m cS, iv e], iv x, iv d] B w0 hs (fun v h => v = .bool true ∧ h = hs) := by
  have kL := fun hs' (h : hs.Sublist hs') => k_Long ps oP oS cP m cS sm e B w0 hs' (hC.sub h)
  by_cases hlg : lgC ps m
  · refine fn_enter Try.func13 rfl Try.ntmps13 (by simp) ?_
    repeat' (first | ((with_reducible apply kP (.box 25 _)); refine sBA (fun b1 => ?_)) | ((with_reducible apply kF 15); refine sR 15 (kL _ SBt) ?_; rintro v7 h7 ⟨⟨bb, rfl, hb⟩, rfl⟩; obtain rfl : bb = true := hb.2 hlg) | ((with_reducible apply kF 16); refine sC 16 (k_known B w0 _) ?_) | ((with_reducible apply kRg 12); refine cD [1, 3, 0, 4, 1, 1, 1, 1, 1, 1, 1, 1, 1, 1, 1, 1, 4, 1, 1, 4, 1, 1] ?_) | (with_reducible first | refine c_seq ?_ | refine c_reg ?_ | refine c_region ?_ | refine c_block ?_ | refine c_skip ?_ | refine c_exit ?_ | refine c_ret ?_ | refine s_nil ?_ | refine x_then ?_ | refine x_then_exit ?_ | refine x_then_ret ?_ | refine x_block ?_ | refine x_block_ret ?_ | refine x_block_same ?_ | refine x_block_other (by first | rfl | decide) ?_ | refine q_nil ?_ | refine k_nil ?_) | ((with_reducible apply kG); first | refine gY1 ?_ | refine gN1 ?_ | refine gU1 ?_ | (refine gD1 (fun h => ?_) (fun h => ?_) <;> (try (exfalso; omega))) | refine gB1 (fun h => ?_) (fun h => ?_)) | ((with_reducible apply kN); first | refine stP ?_ | refine stI ?_ | refine st1 ?_ | refine stW ?_) | ((with_reducible apply kP (.alloc _)); refine sA (fun b => ?_)) | ((with_reducible apply kP (.box _ _)); first | refine sBA (fun b => ?_) | refine sB (fun b => ?_)) | ((with_reducible apply kP _); refine sP ?_) | ((with_reducible apply kP _); refine sX ?_) | ((with_reducible apply kC); first | refine cT ?_ | refine cF ?_ | (refine cI (fun h => ?_) (fun h => ?_) <;> (try (exfalso; omega))) | refine cB (fun h => ?_) (fun h => ?_)) | ((with_reducible apply kDG); first | refine dY1 ?_ | refine dNo1 ?_ | refine dU1 ?_ | (refine dD1 (fun h => ?_) (fun h => ?_) <;> (try (exfalso; omega))) | refine dB1 (fun h => ?_) (fun h => ?_)) | ((with_reducible apply kDP _); refine dP ?_) | ((with_reducible apply kDP _); refine dX ?_))
    exact e_ret1 (hs' := hs) rfl rfl ⟨rfl, rfl⟩ SCt
  · obtain ⟨hn, hm, hl⟩ := lgC_no hlg
    have hb0 : Bd ps sm m := ⟨by omega, fun i hi => by have := hl i hi; omega, hsm, by omega⟩
    have kc := fun hs' (h : hs.Sublist hs') => r_CopyC ps oP oS cP m cS sm e (by omega) hb0.l hsm (by omega) B w0 hs' (hC.sub h)
    have kD1 : ∀ qs oP1 oS1 cP1 cS1 blk, SmP qs ps → CapM B w0 blk oP1 oS1 qs sm → ∀ hs' (_ : blk.Sublist hs'), Fn Try.prog 48 #[.agg #[.slice oP1 ps.length cP1, .slice oS1 m cS1, iv e], iv x, iv d] B w0 hs' (CeR (dtE ps sm m e x d) (dtQ ps x.toNat d) sm m e hs') := fun qs oP1 oS1 cP1 cS1 blk hq hM hs' h => by
      have := k_Dart qs oP1 oS1 cP1 m cS1 sm e x d (by rw [hq.len]; omega) hsm (by omega) B w0 hs' (hM.sub h)
      rw [hq.len, hq.de] at this
      refine this.mono fun v h hc => ?_
      rcases hc with hc | hc
      · exact .inl hc
      · obtain ⟨_, h2, h3, _⟩ := dtE_0 hc.1
        exact CeR.of (.inr hc) (hq.dq h3 d)
    have kD2 := fun hs' (h : hs.Sublist hs') => r_Dart ps oP oS cP m cS sm e x d (by omega) hxx hsm (by omega) B w0 hs' (hC.sub h)
    have hCS : SmP ps ps := ⟨rfl, rfl, rfl⟩
    have hs3 := fun (q0 : List Pc) oP0 oS0 k0 cP0 cS0 (hq0 : SmP q0 ps) (hM0 : CapM B w0 k0 oP0 oS0 q0 sm) hs' h h' => same_cp e cP0 cS0 cP cS hb0 hq0 hCS hM0 hC hs' h h'
    by_cases hE : dtE ps sm m e x d = 0
    · obtain ⟨hv, hx0, hx1, hw, hms, hhr⟩ := dtE_0 hE
      have hb1 := dtQ_bd hb0 hx1 d
      rw [hE] at kD1 kD2
      have kH0 := fun hs' (h : hs.Sublist hs') => (k_Hairline ps oP oS cP m cS sm e (by omega) hsm (by omega) B w0 hs' (hC.sub h)).mono (R' := fun v h => ∃ oa c blk, RowOk oa c 1 (ivs (hrC ps sm m)) blk ∧ v = .tuple #[.slice oa (hrC ps sm m).length c, iv 0] ∧ h = blk ++ hs') (by
        rintro v h (⟨h0, _⟩ | ⟨_, h1⟩)
        · exact absurd hv h0
        · exact h1)
      have kM0 := fun hs' (h : hs.Sublist hs') => k_measure ps oP oS cP m cS sm e (by omega) hsm (by omega) B w0 hs' (hC.sub h)
      have kH1 : ∀ qs oP1 oS1 cP1 cS1 blk, SmP qs (dtQ ps x.toNat d) → CapM B w0 blk oP1 oS1 qs sm → ∀ hs' (_ : blk.Sublist hs'), Fn Try.prog 26 #[.agg #[.slice oP1 (dtQ ps x.toNat d).length cP1, .slice oS1 m cS1, iv e]] B w0 hs' (fun v h => ∃ oa c blk, RowOk oa c 1 (ivs (hrC ps sm m)) blk ∧ v = .tuple #[.slice oa (hrC ps sm m).length c, iv 0] ∧ h = blk ++ hs') := fun qs oP1 oS1 cP1 cS1 blk hq hM hs' h => by
        have := k_Hairline qs oP1 oS1 cP1 m cS1 sm e (by rw [hq.len]; exact hb1.n) hsm (by omega) B w0 hs' (hM.sub h)
        rw [hq.len, hq.vd, hq.hr, hhr] at this
        refine this.mono fun v h hc => ?_
        rcases hc with ⟨h0, _⟩ | ⟨_, h1⟩
        · exact absurd hw h0
        · exact h1
      have kM1 : ∀ qs oP1 oS1 cP1 cS1 blk, SmP qs (dtQ ps x.toNat d) → CapM B w0 blk oP1 oS1 qs sm → ∀ hs' (_ : blk.Sublist hs'), Fn Try.prog 38 #[.agg #[.slice oP1 (dtQ ps x.toNat d).length cP1, .slice oS1 m cS1, iv e]] B w0 hs' (fun v h => v = .agg (ivs (msV ps sm m e)).toArray ∧ h = hs') := fun qs oP1 oS1 cP1 cS1 blk hq hM hs' h => by
        have := k_measure qs oP1 oS1 cP1 m cS1 sm e (by rw [hq.len]; exact hb1.n) hsm (by omega) B w0 hs' (hM.sub h)
        rw [hq.len, hq.ms, hms] at this
        exact this
      have hl5 : (msV ps sm m e).length = 5 := rfl
      have hrl : (hrC ps sm m).length ≤ 48 := by rw [hrC_len]; exact (vdC_0 hv).lpn
      generalize msV ps sm m e = mv at *
      generalize hrC ps sm m = hr at *
      generalize dtQ ps x.toNat d = dq at *
      have hsI := fun oa ob c1 c2 hs' h1 h2 => r_same oa ob c1 c2 hr hr B w0 hs' h1 h2 (by omega)
      rw [decide_eq_true (rfl : hr = hr)] at hsI
      refine fn_enter Try.func13 rfl Try.ntmps13 (by simp) ?_
      repeat' (first | ((with_reducible apply kP (.box 25 _)); refine sBA (fun b3 => ?_)) | ((with_reducible apply kF 15); refine sR 15 (kL _ SBt) ?_; rintro v7 h7 ⟨⟨bb, rfl, hb⟩, rfl⟩; obtain rfl : bb = false := by (rw [← Bool.not_eq_true]; exact fun h => hlg (hb.1 h))) | ((with_reducible apply kF 17); refine sR 17 (kc _ SBt) ?_; rintro v7 h7 ⟨k0, hcp0, rfl⟩; obtain ⟨q0, oP0, cP0, oS0, cS0, rfl, hq0, hM0⟩ := hcp0.x B w0) | ((with_reducible apply kF 48); refine sR 48 (kD1 _ _ _ _ _ _ hq0 hM0 _ SBt) ?_; rintro v7 h7 (⟨h0, _⟩ | ⟨_, u1, k1, hcp1, rfl, rfl⟩); (exact absurd rfl h0); obtain ⟨q1, oP1, cP1, oS1, cS1, rfl, hq1, hM1⟩ := hcp1.x B w0) | ((with_reducible apply kF 49); refine sR 49 (kD2 _ SBt) ?_; rintro v7 h7 (⟨h0, _⟩ | ⟨_, u2, k2, hcp2, rfl, rfl⟩); (exact absurd rfl h0); obtain ⟨q2, oP2, cP2, oS2, cS2, rfl, hq2, hM2⟩ := hcp2.x B w0) | ((with_reducible apply kP (.alloc 25)); refine sA (fun b5 => ?_)) | ((with_reducible apply kN); refine stW ?_ (hf := flat_cons rfl (flat_cons rfl (flat1 rfl)))) | ((with_reducible apply kF 20); refine sC 20 (same_cp e cP1 cS1 cP2 cS2 hb1 hq1 hq2 hM1 hM2 _ (.cons _ (sbA (.cons _ sbL))) (.cons _ sbL)) ?_) | ((with_reducible apply kF 20); refine sC 20 (hs3 q0 oP0 oS0 k0 cP0 cS0 hq0 hM0 _ (.cons _ (sbA (.cons _ (sbA (.cons _ sbL))))) SBt) ?_) | ((with_reducible apply kF 26); refine sR 26 (kH0 _ SBt) ?_; rintro v7 h7 ⟨o8, c8, k8, hr8, rfl, rfl⟩) | ((with_reducible apply kF 26); refine sR 26 (kH1 _ _ _ _ _ _ hq1 hM1 _ SBt) ?_; rintro v7 h7 ⟨o9, c9, k9, hr9, rfl, rfl⟩) | ((with_reducible apply kDF 38); refine dC 38 (fun F => kM0 _ (sbA SBt)) ?_) | ((with_reducible apply kDF 38); refine dC 38 (fun F => kM1 _ _ _ _ _ _ hq1 hM1 _ (sbA SBt)) ?_) | ((with_reducible apply kP (.binOp .eql 62 _ _ _)); refine sP ?_ (o_eqS (xs := mv) rfl rfl hl5)) | ((with_reducible apply kDP (.binOp .eql 62 _ _ _)); refine dP ?_ (hX := rfl) (hv := o_eqS (xs := mv) rfl rfl hl5)) | ((with_reducible apply kQO (.binOp .eql 62 _ _ _)); refine qP ?_ (o_eqS (xs := mv) rfl rfl hl5)) | ((with_reducible apply kDF 29); refine dC 29 (fun F => hsI _ _ _ _ _ ((Sl.row hr8).sub (sbA SBt)) ((Sl.row hr9).sub (sbA SBt))) ?_) | ((with_reducible apply kF 16); refine sC 16 (k_known B w0 _) ?_) | ((with_reducible apply kDF 16); refine dC 16 (fun F => k_known B w0 _) ?_) | ((with_reducible apply kRg 12); refine cD [1, 3, 0, 4, 1, 1, 1, 1, 1, 1, 1, 1, 1, 1, 1, 1, 4, 1, 1, 4, 1, 1] ?_) | (with_reducible first | refine c_seq ?_ | refine c_reg ?_ | refine c_region ?_ | refine c_block ?_ | refine c_skip ?_ | refine c_exit ?_ | refine c_ret ?_ | refine s_nil ?_ | refine x_then ?_ | refine x_then_exit ?_ | refine x_then_ret ?_ | refine x_block ?_ | refine x_block_ret ?_ | refine x_block_same ?_ | refine x_block_other (by first | rfl | decide) ?_ | refine q_nil ?_ | refine k_nil ?_) | ((with_reducible apply kG); first | refine gY1 ?_ | refine gN1 ?_ | refine gU1 ?_ | (refine gD1 (fun h => ?_) (fun h => ?_) <;> (try (exfalso; omega))) | refine gB1 (fun h => ?_) (fun h => ?_)) | ((with_reducible apply kN); first | refine stP ?_ | refine stI ?_ | refine st1 ?_ | refine stW ?_) | ((with_reducible apply kP (.alloc _)); refine sA (fun b => ?_)) | ((with_reducible apply kP (.box _ _)); first | refine sBA (fun b => ?_) | refine sB (fun b => ?_)) | ((with_reducible apply kP _); refine sP ?_) | ((with_reducible apply kP _); refine sX ?_) | ((with_reducible apply kC); first | refine cT ?_ | refine cF ?_ | (refine cI (fun h => ?_) (fun h => ?_) <;> (try (exfalso; omega))) | refine cB (fun h => ?_) (fun h => ?_)) | ((with_reducible apply kDG); first | refine dY1 ?_ | refine dNo1 ?_ | refine dU1 ?_ | (refine dD1 (fun h => ?_) (fun h => ?_) <;> (try (exfalso; omega))) | refine dB1 (fun h => ?_) (fun h => ?_)) | ((with_reducible apply kDP _); refine dP ?_) | ((with_reducible apply kDP _); refine dX ?_))
      all_goals first
        | exact e_ret1 (hs' := hs) rfl rfl ⟨rfl, rfl⟩ SCt
        | (exfalso; omega)
        | trace_state
    · obtain ⟨PS, SM, M, e1, hB1, -, -, hX1⟩ := CeR.x (E := dtE ps sm m e x d) (ps := dtQ ps x.toNat d) (sm := sm) (m := m) (e := e) (fun h => absurd h hE)
      generalize dtE ps sm m e x d = E1 at *
      refine fn_enter Try.func13 rfl Try.ntmps13 (by simp) ?_
      repeat' (first | ((with_reducible apply kP (.box 25 _)); refine sBA (fun b3 => ?_)) | ((with_reducible apply kF 15); refine sR 15 (kL _ SBt) ?_; rintro v7 h7 ⟨⟨bb, rfl, hb⟩, rfl⟩; obtain rfl : bb = false := by (rw [← Bool.not_eq_true]; exact fun h => hlg (hb.1 h))) | ((with_reducible apply kF 17); refine sR 17 (kc _ SBt) ?_; rintro v7 h7 ⟨k0, hcp0, rfl⟩; obtain ⟨q0, oP0, cP0, oS0, cS0, rfl, hq0, hM0⟩ := hcp0.x B w0) | ((with_reducible apply kF 48); refine sR 48 (kD1 _ _ _ _ _ _ hq0 hM0 _ SBt) ?_; rintro v7 h7 hce; obtain ⟨u1, k1, hcp1, rfl, rfl⟩ := hX1 _ _ _ hce; obtain ⟨q1, oP1, cP1, oS1, cS1, rfl, hq1, hM1⟩ := hcp1.x B w0) | ((with_reducible apply kF 49); refine sR 49 (kD2 _ SBt) ?_; rintro v7 h7 hce; obtain ⟨u2, k2, hcp2, rfl, rfl⟩ := hX1 _ _ _ hce; obtain ⟨q2, oP2, cP2, oS2, cS2, rfl, hq2, hM2⟩ := hcp2.x B w0) | ((with_reducible apply kP (.alloc 25)); refine sA (fun b5 => ?_)) | ((with_reducible apply kN); refine stW ?_ (hf := flat_cons rfl (flat_cons rfl (flat1 rfl)))) | ((with_reducible apply kF 20); refine sC 20 (same_cp e1 cP1 cS1 cP2 cS2 hB1 hq1 hq2 hM1 hM2 _ (.cons _ (sbA (.cons _ sbL))) (.cons _ sbL)) ?_) | ((with_reducible apply kF 20); refine sC 20 (hs3 q0 oP0 oS0 k0 cP0 cS0 hq0 hM0 _ (.cons _ (sbA (.cons _ (sbA (.cons _ sbL))))) SBt) ?_) | ((with_reducible apply kF 16); refine sC 16 (k_known B w0 _) ?_) | ((with_reducible apply kDF 16); refine dC 16 (fun F => k_known B w0 _) ?_) | ((with_reducible apply kRg 12); refine cD [1, 3, 0, 4, 1, 1, 1, 1, 1, 1, 1, 1, 1, 1, 1, 1, 4, 1, 1, 4, 1, 1] ?_) | (with_reducible first | refine c_seq ?_ | refine c_reg ?_ | refine c_region ?_ | refine c_block ?_ | refine c_skip ?_ | refine c_exit ?_ | refine c_ret ?_ | refine s_nil ?_ | refine x_then ?_ | refine x_then_exit ?_ | refine x_then_ret ?_ | refine x_block ?_ | refine x_block_ret ?_ | refine x_block_same ?_ | refine x_block_other (by first | rfl | decide) ?_ | refine q_nil ?_ | refine k_nil ?_) | ((with_reducible apply kG); first | refine gY1 ?_ | refine gN1 ?_ | refine gU1 ?_ | (refine gD1 (fun h => ?_) (fun h => ?_) <;> (try (exfalso; omega))) | refine gB1 (fun h => ?_) (fun h => ?_)) | ((with_reducible apply kN); first | refine stP ?_ | refine stI ?_ | refine st1 ?_ | refine stW ?_) | ((with_reducible apply kP (.alloc _)); refine sA (fun b => ?_)) | ((with_reducible apply kP (.box _ _)); first | refine sBA (fun b => ?_) | refine sB (fun b => ?_)) | ((with_reducible apply kP _); refine sP ?_) | ((with_reducible apply kP _); refine sX ?_) | ((with_reducible apply kC); first | refine cT ?_ | refine cF ?_ | (refine cI (fun h => ?_) (fun h => ?_) <;> (try (exfalso; omega))) | refine cB (fun h => ?_) (fun h => ?_)) | ((with_reducible apply kDG); first | refine dY1 ?_ | refine dNo1 ?_ | refine dU1 ?_ | (refine dD1 (fun h => ?_) (fun h => ?_) <;> (try (exfalso; omega))) | refine dB1 (fun h => ?_) (fun h => ?_)) | ((with_reducible apply kDP _); refine dP ?_) | ((with_reducible apply kDP _); refine dX ?_))
      all_goals first
        | exact e_ret1 (hs' := hs) rfl rfl ⟨rfl, rfl⟩ SCt
        | (exfalso; omega)
        | trace_state
end Go.Proofs.Ytnbickholedckaa
