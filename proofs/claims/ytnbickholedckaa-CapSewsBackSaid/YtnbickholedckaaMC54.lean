/- CapSewsBack: a cap with one more seam; the law's walk. -/
import Derived.Test.YtnbickholedckaaMC53
import Derived.Test.YtnbickholedckaaMC48
namespace Go.Proofs.Ytnbickholedckaa
open Go.RowKit
theorem OkS.inv {n : Nat} {S : List (Nat × Nat)} {a b : Nat} (h : OkS n (S ++ [(a, b)])) : OkS n S ∧ a < n ∧ b < n ∧ a ≠ b ∧ muS S a = a ∧ muS S b = b := by
  generalize hT : S ++ [(a, b)] = T at h
  cases h with
  | nil => simp at hT
  | snoc h ha hb hne fa fb =>
    obtain ⟨rfl, h2⟩ := List.append_inj' hT rfl
    injection h2 with h3 _
    injection h3 with h4 h5
    subst h4; subst h5
    exact ⟨h, ha, hb, hne, fa, fb⟩
theorem smL_app {sd : Nat → List Int} {sm s : List Int} {m : Nat} (h : m * 4 ≤ sm.length) : smL sd (sm ++ s) m = smL sd sm m := by
  unfold smL
  refine List.map_congr_left fun t ht => ?_
  have ht := List.mem_range.1 ht
  have g : ∀ k, k < 4 → (sm ++ s).getD (t * 4 + k) 0 = sm.getD (t * 4 + k) 0 := fun k hk => by
    rw [List.getD_eq_getElem?_getD, List.getD_eq_getElem?_getD, List.getElem?_append_left (by omega)]
  have g0 := g 0 (by omega)
  simp only [Nat.add_zero] at g0
  unfold smA smI smB smJ
  rw [g0, g 1 (by omega), g 2 (by omega), g 3 (by omega)]
/-- What one more seam does to parts and handles. -/
theorem VdC.sewn {ps : List Pc} {sm s : List Int} {m : Nat} {e : Int} (V : VdC ps sm m e) (W : VdC ps (sm ++ s) (m + 1) e) (h : sm.length = m * 4) : paC ps (sm ++ s) (m + 1) ≤ paC ps sm m ∧ paC ps sm m ≤ paC ps (sm ++ s) (m + 1) + 1 ∧ haC ps sm m ≤ haC ps (sm ++ s) (m + 1) ∧ haC ps (sm ++ s) (m + 1) ≤ haC ps sm m + 1 := by
  have hW := W.okS
  rw [smL_succ] at hW
  obtain ⟨h1, h2, h3, h4, h5, h6⟩ := hW.inv
  obtain ⟨g, hg⟩ := V.hd
  have e1 := smL_app (sd := sdF ps) (s := s) (show m * 4 ≤ sm.length by omega)
  rw [e1] at h1 h5 h6
  obtain ⟨g', hg', k1, k2, k3, k4⟩ := hg.snoc (cap_net (sdF ps) ps.length) (fun i hi => (nx_pc hi).1) (fun i hi => (pcG_spec hi).1) h1 h2 h3 h4 h5 h6
  have e2 : smL (sdF ps) (sm ++ s) (m + 1) = smL (sdF ps) sm m ++ [(adS (sdF ps) (smA (sm ++ s) m) (smI (sm ++ s) m), adS (sdF ps) (smB (sm ++ s) m) (smJ (sm ++ s) m))] := by rw [smL_succ, e1]
  rw [← e2] at hg' k3 k4
  have hh := W.ha hg'
  rw [V.ha hg, hh]
  refine ⟨?_, ?_, by omega, by omega⟩
  · show ccE _ _ ≤ ccE _ _
    exact k3
  · show ccE _ _ ≤ ccE _ _ + 1
    exact k4
theorem rmS_last {sm s : List Int} {m : Nat} (h : sm.length = m * 4) (hs : s.length = 4) : rmS (sm ++ s) m = sm := by
  unfold rmS
  rw [List.take_append_of_le_length (by omega), List.take_of_length_le (by omega), List.drop_of_length_le (by simp; omega), List.append_nil]
theorem SmP.ms {qs ps : List Pc} (h : SmP qs ps) (sm : List Int) (m : Nat) (e : Int) : msV qs sm m e = msV ps sm m e := by
  have e0 : agF qs = agF ps := funext fun x => by
    have hh : agF ps x = (anF ps (pcG (sdF ps) ps.length x)).getD (x - fsN (sdF ps) (pcG (sdF ps) ps.length x)) 0 := rfl
    have hg : agF qs x = (anF qs (pcG (sdF qs) qs.length x)).getD (x - fsN (sdF qs) (pcG (sdF qs) qs.length x)) 0 := rfl
    rw [hh, hg, h.len, h.sd, h.an]
  have e1 : paC qs sm m = paC ps sm m := by unfold paC; rw [h.len, h.sd]
  have e2 : nC qs = nC ps := by unfold nC; rw [h.len, h.sd]
  have e3 : nxC qs = nxC ps := by unfold nxC; rw [h.len, h.sd]
  have e4 : muC qs sm m = muC ps sm m := by unfold muC; rw [h.sd]
  have e5 : ptsC qs sm m = ptsC ps sm m := by unfold ptsC; rw [e0, e2, e3, e4]
  have e6 : lpsC qs sm m = lpsC ps sm m := by unfold lpsC; rw [e2, e3, e4]
  have e7 : euC qs sm m = euC ps sm m := by unfold euC; rw [e5, e2, h.len]
  have e8 : haC qs sm m = haC ps sm m := by unfold haC; rw [e1, e7, e6]
  unfold msV
  rw [e1, e7, e8, h.vd]
attribute [local irreducible] OpF Ld CellAt Sl Sv pcA usP
set_option maxRecDepth 100000 in
set_option maxHeartbeats 8000000 in
theorem k_CapSewsBack (ps : List Pc) (oP oS : Option Addr) (cP m cS : Nat) (sm : List Int) (e A I D J : Int) (hsm : sm.length = m * 4) (B : Nat) (w0 : Wd) (hs : HS) (hC : CapM B w0 hs oP oS ps sm) :
    Fn Try.prog 11 #[.agg #[.slice oP ps.length cP, .slice oS m cS, iv e], .agg #[iv A, iv I, iv D, iv J]] B w0 hs (fun v h => v = .bool true ∧ h = hs) := by
  have kL := fun hs' (h : hs.Sublist hs') => k_Long ps oP oS cP m cS sm e B w0 hs' (hC.sub h)
  by_cases hlg : lgC ps m
  · refine fn_enter Try.func11 rfl Try.ntmps11 (by simp) ?_
    repeat' (first | ((with_reducible apply kP (.box 25 _)); refine sBA (fun b1 => ?_)) | ((with_reducible apply kP (.box 56 _)); refine sBA (fun b2 => ?_)) | ((with_reducible apply kF 15); refine sR 15 (kL _ SBt) ?_; rintro v7 h7 ⟨⟨bb, rfl, hb⟩, rfl⟩; obtain rfl : bb = true := hb.2 hlg) | ((with_reducible apply kF 16); refine sC 16 (k_known B w0 _) ?_) | ((with_reducible apply kRg 7); refine cD [1, 3, 0, 3, 2, 2, 4, 4] ?_) | (with_reducible first | refine c_seq ?_ | refine c_reg ?_ | refine c_region ?_ | refine c_block ?_ | refine c_skip ?_ | refine c_exit ?_ | refine c_ret ?_ | refine s_nil ?_ | refine x_then ?_ | refine x_then_exit ?_ | refine x_then_ret ?_ | refine x_block ?_ | refine x_block_ret ?_ | refine x_block_same ?_ | refine x_block_other (by first | rfl | decide) ?_ | refine q_nil ?_ | refine k_nil ?_) | ((with_reducible apply kG); first | refine gY1 ?_ | refine gN1 ?_ | refine gU1 ?_ | (refine gD1 (fun h => ?_) (fun h => ?_) <;> (try (exfalso; omega))) | refine gB1 (fun h => ?_) (fun h => ?_)) | ((with_reducible apply kN); first | refine stP ?_ | refine stI ?_ | refine st1 ?_ | refine stW ?_) | ((with_reducible apply kP (.alloc _)); refine sA (fun b => ?_)) | ((with_reducible apply kP (.box _ _)); first | refine sBA (fun b => ?_) | refine sB (fun b => ?_)) | ((with_reducible apply kP _); refine sP ?_) | ((with_reducible apply kP _); refine sX ?_) | ((with_reducible apply kC); first | refine cT ?_ | refine cF ?_ | (refine cI (fun h => ?_) (fun h => ?_) <;> (try (exfalso; omega))) | refine cB (fun h => ?_) (fun h => ?_)) | ((with_reducible apply kDN); first | refine dtI ?_ | refine dt1 ?_ | refine dtW ?_) | ((with_reducible apply kDP (.alloc _)); refine dA (fun b => ?_)) | ((with_reducible apply kDP _); refine dP ?_) | ((with_reducible apply kDP _); refine dX ?_))
    exact e_ret1 (hs' := hs) rfl rfl ⟨rfl, rfl⟩ SCt
  · obtain ⟨hn, hm, hl⟩ := lgC_no hlg
    have hb0 : Bd ps sm m := ⟨by omega, fun i hi => by have := hl i hi; omega, hsm, by omega⟩
    have hsm' : (sm ++ [A, I, D, J]).length = (m + 1) * 4 := by simp; omega
    have kS := fun hs' (h : hs.Sublist hs') => k_Sew ps oP oS cP m cS sm e A I D J (by omega) hsm (by omega) B w0 hs' (hC.sub h)
    by_cases hE : swV ps sm m e [A, I, D, J] = 0
    · have hv : vdC ps sm m e = 0 := by
        unfold swV at hE
        split at hE
        · exact absurd hE (by assumption)
        · rename_i h; exact Decidable.not_not.1 h
      have hw : vdC ps (sm ++ [A, I, D, J]) (m + 1) e = 0 := by
        unfold swV at hE
        rw [if_neg (fun h => h hv)] at hE
        exact hE
      have hsw := (vdC_0 hv).sewn (vdC_0 hw) hsm
      have k0 := fun hs' (h : hs.Sublist hs') => k_measure ps oP oS cP m cS sm e (by omega) hsm (by omega) B w0 hs' (hC.sub h)
      have hun : unV ps (sm ++ [A, I, D, J]) (m + 1) e (m : Int) = 0 := by
        unfold unV
        rw [if_neg (fun h => h hw), if_neg (fun h => h ⟨by omega, by omega⟩)]
      have kA : ∀ qs oP1 oS1 cP1 cS1 blk, SmP qs ps → CapM B w0 blk oP1 oS1 qs (sm ++ [A, I, D, J]) → ∀ hs' (_ : blk.Sublist hs'), Fn Try.prog 36 #[.agg #[.slice oP1 ps.length cP1, .slice oS1 (m + 1) cS1, iv e], iv (((m + 1 : Nat) : Int) - 1)] B w0 hs' (CeR 0 ps sm m e hs') := fun qs oP1 oS1 cP1 cS1 blk hq hM hs' h => by
        rw [show ((m + 1 : Nat) : Int) - 1 = (m : Int) by omega]
        have := k_Unsew qs oP1 oS1 cP1 (m + 1) cS1 (sm ++ [A, I, D, J]) e m (by rw [hq.len]; omega) hsm' (by omega) B w0 hs' (hM.sub h)
        have e5 : unV qs (sm ++ [A, I, D, J]) (m + 1) e m = 0 := by rw [← hun]; unfold unV; rw [hq.vd]
        rw [hq.len, e5, show ((m : Nat) : Int).toNat = m by omega, rmS_last hsm rfl, Nat.add_sub_cancel] at this
        exact this.mono fun v h hc => hc.of hq
      have kM : ∀ qs oP1 oS1 cP1 cS1 blk, SmP qs ps → CapM B w0 blk oP1 oS1 qs (sm ++ [A, I, D, J]) → ∀ hs' (_ : blk.Sublist hs'), Fn Try.prog 38 #[.agg #[.slice oP1 ps.length cP1, .slice oS1 (m + 1) cS1, iv e]] B w0 hs' (fun v h => v = .agg (ivs (msV ps (sm ++ [A, I, D, J]) (m + 1) e)).toArray ∧ h = hs') := fun qs oP1 oS1 cP1 cS1 blk hq hM hs' h => by
        have := k_measure qs oP1 oS1 cP1 (m + 1) cS1 (sm ++ [A, I, D, J]) e (by rw [hq.len]; omega) hsm' (by omega) B w0 hs' (hM.sub h)
        rw [hq.ms, hq.len] at this
        exact this
      rw [hE] at kS
      have hCS : SmP ps ps := ⟨rfl, rfl, rfl⟩
      unfold msV at k0 kM
      rw [hv] at k0
      rw [hw] at kM
      simp only [if_true] at k0 kM
      have hh := (vdC_0 hv).ha0.1
      have hp8 := paC_in (vdC_0 hv)
      have hp9 := paC_in (vdC_0 hw)
      have hp1 : haC ps sm m ≤ 200 := by
        have h1 := (vdC_0 hv).ha0.2
        have h2 := euC_in (vdC_0 hv) (by omega)
        omega
      generalize haC ps sm m = ha at *
      generalize haC ps (sm ++ [A, I, D, J]) (m + 1) = ha' at *
      generalize hpa : paC ps sm m = pa at *
      generalize hpb : paC ps (sm ++ [A, I, D, J]) (m + 1) = pa' at *
      generalize euC ps sm m = eu at *
      generalize euC ps (sm ++ [A, I, D, J]) (m + 1) = eu' at *
      refine fn_enter Try.func11 rfl Try.ntmps11 (by simp) ?_
      repeat' (first | ((with_reducible apply kP (.box 25 _)); refine sBA (fun b3 => ?_)) | ((with_reducible apply kP (.box 56 _)); refine sBA (fun b4 => ?_)) | ((with_reducible apply kF 15); refine sR 15 (kL _ SBt) ?_; rintro v7 h7 ⟨⟨bb, rfl, hb⟩, rfl⟩; obtain rfl : bb = false := by (rw [← Bool.not_eq_true]; exact fun h => hlg (hb.1 h))) | ((with_reducible apply kF 34); refine sR 34 (kS _ SBt) ?_; rintro v7 h7 (⟨h0, _⟩ | ⟨_, u1, k1, hcp1, rfl, rfl⟩); (exact absurd rfl h0); obtain ⟨q1, oP1, cP1, oS1, cS1, rfl, hq1, hM1⟩ := hcp1.x B w0) | ((with_reducible apply kF 36); refine sR 36 (kA _ _ _ _ _ _ hq1 hM1 _ SBt) ?_; rintro v7 h7 (⟨h0, _⟩ | ⟨_, u2, k2, hcp2, rfl, rfl⟩); (exact absurd rfl h0); obtain ⟨q2, oP2, cP2, oS2, cS2, rfl, hq2, hM2⟩ := hcp2.x B w0) | ((with_reducible apply kP (.alloc 25)); refine sA (fun b5 => ?_)) | ((with_reducible apply kN); refine stW ?_ (hf := flat_cons rfl (flat_cons rfl (flat1 rfl)))) | ((with_reducible apply kDF 38); refine dC 38 (fun F => k0 _ (sbA SBt)) ?_) | ((with_reducible apply kDF 38); refine dC 38 (fun F => kM _ _ _ _ _ _ hq1 hM1 _ (sbA SBt)) ?_) | ((with_reducible apply kDN); refine dtW ?_ (hf := flat_iv [(pa : Int), eu, 360 * eu, ha, 0])) | ((with_reducible apply kDN); refine dtW ?_ (hf := flat_iv [(pa' : Int), eu', 360 * eu', ha', 0])) | ((with_reducible apply kF 20); refine sC 20 (same_cp e cP2 cS2 cP cS hb0 hq2 hCS hM2 hC _ SBt SBt) ?_) | ((with_reducible apply kF 16); refine sC 16 (k_known B w0 _) ?_) | ((with_reducible apply kRg 7); refine cD [1, 3, 0, 3, 2, 2, 4, 4] ?_) | (with_reducible first | refine c_seq ?_ | refine c_reg ?_ | refine c_region ?_ | refine c_block ?_ | refine c_skip ?_ | refine c_exit ?_ | refine c_ret ?_ | refine s_nil ?_ | refine x_then ?_ | refine x_then_exit ?_ | refine x_then_ret ?_ | refine x_block ?_ | refine x_block_ret ?_ | refine x_block_same ?_ | refine x_block_other (by first | rfl | decide) ?_ | refine q_nil ?_ | refine k_nil ?_) | ((with_reducible apply kG); first | refine gY1 ?_ | refine gN1 ?_ | refine gU1 ?_ | (refine gD1 (fun h => ?_) (fun h => ?_) <;> (try (exfalso; omega))) | refine gB1 (fun h => ?_) (fun h => ?_)) | ((with_reducible apply kN); first | refine stP ?_ | refine stI ?_ | refine st1 ?_ | refine stW ?_) | ((with_reducible apply kP (.alloc _)); refine sA (fun b => ?_)) | ((with_reducible apply kP (.box _ _)); first | refine sBA (fun b => ?_) | refine sB (fun b => ?_)) | ((with_reducible apply kP _); refine sP ?_) | ((with_reducible apply kP _); refine sX ?_) | ((with_reducible apply kC); first | refine cT ?_ | refine cF ?_ | (refine cI (fun h => ?_) (fun h => ?_) <;> (try (exfalso; omega))) | refine cB (fun h => ?_) (fun h => ?_)) | ((with_reducible apply kDN); first | refine dtI ?_ | refine dt1 ?_ | refine dtW ?_) | ((with_reducible apply kDP (.alloc _)); refine dA (fun b => ?_)) | ((with_reducible apply kDP _); refine dP ?_) | ((with_reducible apply kDP _); refine dX ?_))
      all_goals first
        | exact e_ret1 (hs' := hs) rfl rfl ⟨rfl, rfl⟩ SCt
        | (exfalso; omega)
        | trace_state
    · generalize swV ps sm m e [A, I, D, J] = E at *
      refine fn_enter Try.func11 rfl Try.ntmps11 (by simp) ?_
      repeat' (first | ((with_reducible apply kP (.box 25 _)); refine sBA (fun b3 => ?_)) | ((with_reducible apply kP (.box 56 _)); refine sBA (fun b4 => ?_)) | ((with_reducible apply kF 15); refine sR 15 (kL _ SBt) ?_; rintro v7 h7 ⟨⟨bb, rfl, hb⟩, rfl⟩; obtain rfl : bb = false := by (rw [← Bool.not_eq_true]; exact fun h => hlg (hb.1 h))) | ((with_reducible apply kF 34); refine sR 34 (kS _ SBt) ?_; rintro v7 h7 (⟨_, rfl, rfl⟩ | ⟨h0, _⟩); rotate_left; (exact absurd h0 hE)) | ((with_reducible apply kP (.alloc 25)); refine sA (fun b5 => ?_)) | ((with_reducible apply kN); refine stW ?_ (hf := flat_cons rfl (flat_cons rfl (flat1 rfl)))) | ((with_reducible apply kF 16); refine sC 16 (k_known B w0 _) ?_) | ((with_reducible apply kRg 7); refine cD [1, 3, 0, 3, 2, 2, 4, 4] ?_) | (with_reducible first | refine c_seq ?_ | refine c_reg ?_ | refine c_region ?_ | refine c_block ?_ | refine c_skip ?_ | refine c_exit ?_ | refine c_ret ?_ | refine s_nil ?_ | refine x_then ?_ | refine x_then_exit ?_ | refine x_then_ret ?_ | refine x_block ?_ | refine x_block_ret ?_ | refine x_block_same ?_ | refine x_block_other (by first | rfl | decide) ?_ | refine q_nil ?_ | refine k_nil ?_) | ((with_reducible apply kG); first | refine gY1 ?_ | refine gN1 ?_ | refine gU1 ?_ | (refine gD1 (fun h => ?_) (fun h => ?_) <;> (try (exfalso; omega))) | refine gB1 (fun h => ?_) (fun h => ?_)) | ((with_reducible apply kN); first | refine stP ?_ | refine stI ?_ | refine st1 ?_ | refine stW ?_) | ((with_reducible apply kP (.alloc _)); refine sA (fun b => ?_)) | ((with_reducible apply kP (.box _ _)); first | refine sBA (fun b => ?_) | refine sB (fun b => ?_)) | ((with_reducible apply kP _); refine sP ?_) | ((with_reducible apply kP _); refine sX ?_) | ((with_reducible apply kC); first | refine cT ?_ | refine cF ?_ | (refine cI (fun h => ?_) (fun h => ?_) <;> (try (exfalso; omega))) | refine cB (fun h => ?_) (fun h => ?_)) | ((with_reducible apply kDN); first | refine dtI ?_ | refine dt1 ?_ | refine dtW ?_) | ((with_reducible apply kDP (.alloc _)); refine dA (fun b => ?_)) | ((with_reducible apply kDP _); refine dP ?_) | ((with_reducible apply kDP _); refine dX ?_))
      all_goals first
        | exact e_ret1 (hs' := hs) rfl rfl ⟨rfl, rfl⟩ SCt
        | (exfalso; omega)
        | trace_state
end Go.Proofs.Ytnbickholedckaa
