/- CapSplits: the law's walk. -/
import Derived.Test.YtnbickholedckaaMC68
import Derived.Test.YtnbickholedckaaMC75
import Derived.Test.YtnbickholedckaaMC72
namespace Go.Proofs.Ytnbickholedckaa
open Go.RowKit
theorem SmP.put {qs ps : List Pc} (h : SmP qs ps) (p : Nat) (X Y : Pc) : SmP (qs.set p X ++ [Y]) (ps.set p X ++ [Y]) := by
  have e : ∀ (l : List Pc) (r : Nat), pcA (l.set p X ++ [Y]) r = if r < l.length then (if r = p then X else pcA l r) else if r = l.length then Y else default := fun l r => by
    unfold pcA
    rw [List.getD_eq_getElem?_getD]
    split
    · rename_i hr
      rw [List.getElem?_append_left (by rw [List.length_set]; exact hr), List.getElem?_set]
      by_cases hp : p = r
      · subst hp; rw [if_pos rfl, if_pos rfl, if_pos hr]; rfl
      · rw [if_neg hp, if_neg (fun g => hp g.symm), List.getD_eq_getElem?_getD]
    · rename_i hr
      rw [List.getElem?_append_right (by rw [List.length_set]; omega), List.length_set]
      split
      · rename_i h2; subst h2; rw [Nat.sub_self]; rfl
      · rename_i h2
        rw [List.getElem?_eq_none (by simp only [List.length_cons, List.length_nil]; omega)]
        rfl
  refine ⟨by rw [List.length_append, List.length_append, List.length_set, List.length_set, h.len], funext fun r => ?_, funext fun r => ?_⟩
  · unfold sdF
    rw [e, e, h.len]
    have := (h.at r).1
    (repeat' split) <;> first | rfl | exact this
  · unfold anF
    rw [e, e, h.len]
    have := (h.at r).2
    (repeat' split) <;> first | rfl | exact this
theorem SmP.spE {qs ps : List Pc} (h : SmP qs ps) (sm : List Int) (m : Nat) (e p i j z w : Int) : spE qs sm m e p i j z w = spE ps sm m e p i j z w := by
  unfold Ytnbickholedckaa.spE
  rw [h.vd, h.len, h.sd, (h.at p.toNat).1, (h.at p.toNat).2]
theorem SmP.spP {qs ps : List Pc} (h : SmP qs ps) (p i j : Nat) (z w : Int) : SmP (spP qs p i j z w) (spP ps p i j z w) := by
  unfold Ytnbickholedckaa.spP spA spB
  rw [(h.at p).1, (h.at p).2]
  exact h.put _ _ _
theorem SmP.spM {qs ps : List Pc} (h : SmP qs ps) (sm : List Int) (m p i j : Nat) : spM qs sm m p i j = spM ps sm m p i j := by
  unfold Ytnbickholedckaa.spM
  rw [(h.at p).1, h.len]
theorem spE_bd {ps : List Pc} {sm : List Int} {m : Nat} {e p i j z w : Int} (hsm : sm.length = m * 4) (hm : m ≤ 99) (h : spE ps sm m e p i j z w = 0) : Bd (spP ps p.toNat i.toNat j.toNat z w) (spM ps sm m p.toNat i.toNat j.toNat) (m + 1) := by
  obtain ⟨_, s, X⟩ := spE_0 hsm h
  exact vdC_bd X.vd (spM_len _ _ _ _ _ _) (by omega)
attribute [local irreducible] OpF Ld CellAt Sl Sv pcA usP
theorem k_SplitS {ps qs : List Pc} (hq : SmP qs ps) (oP oS : Option Addr) (cP m cS : Nat) (sm : List Int) (e p i j z w : Int) (hn : ps.length ≤ 100) (hsm : sm.length = m * 4) (hm : m < 100) (B : Nat) (w0 : Wd) (hs : HS) (hC : CapM B w0 hs oP oS qs sm) :
    Fn Try.prog 43 #[.agg #[.slice oP ps.length cP, .slice oS m cS, iv e], iv p, iv i, iv j, iv z, iv w] B w0 hs (CeR (spE ps sm m e p i j z w) (spP ps p.toNat i.toNat j.toNat z w) (spM ps sm m p.toNat i.toNat j.toNat) (m + 1) e hs) := by
  have := k_Split qs oP oS cP m cS sm e p i j z w (by rw [hq.len]; exact hn) hsm hm B w0 hs hC
  rw [hq.len, hq.spE, hq.spM] at this
  exact this.mono fun v h hc => hc.of (hq.spP _ _ _ _ _)
set_option maxRecDepth 100000 in
set_option maxHeartbeats 8000000 in
theorem k_CapSplits (ps : List Pc) (oP oS : Option Addr) (cP m cS : Nat) (sm : List Int) (e p i j z w : Int) (hsm : sm.length = m * 4) (B : Nat) (w0 : Wd) (hs : HS) (hC : CapM B w0 hs oP oS ps sm) :
    Fn Try.prog 10 #[.agg #[.slice oP ps.length cP, .slice oS m cS, iv e], .agg #[iv p, iv i, iv j, iv z, iv w]] B w0 hs (fun v h => v = .bool true ∧ h = hs) := by
  have kL := fun hs' (h : hs.Sublist hs') => k_Long ps oP oS cP m cS sm e B w0 hs' (hC.sub h)
  by_cases hlg : lgC ps m
  · refine fn_enter Try.func10 rfl Try.ntmps10 (by simp) ?_
    repeat' (first | ((with_reducible apply kP (.box 25 _)); refine sBA (fun b1 => ?_)) | ((with_reducible apply kP (.box 67 _)); refine sBA (fun b2 => ?_)) | ((with_reducible apply kF 15); refine sR 15 (kL _ SBt) ?_; rintro v7 h7 ⟨⟨bb, rfl, hb⟩, rfl⟩; obtain rfl : bb = true := hb.2 hlg) | ((with_reducible apply kF 16); refine sC 16 (k_known B w0 _) ?_) | (with_reducible first | refine c_seq ?_ | refine c_reg ?_ | refine c_region ?_ | refine c_block ?_ | refine c_skip ?_ | refine c_exit ?_ | refine c_ret ?_ | refine s_nil ?_ | refine x_then ?_ | refine x_then_exit ?_ | refine x_then_ret ?_ | refine x_block ?_ | refine x_block_ret ?_ | refine x_block_same ?_ | refine x_block_other (by first | rfl | decide) ?_ | refine q_nil ?_ | refine k_nil ?_) | ((with_reducible apply kG); first | refine gY1 ?_ | refine gN1 ?_ | refine gU1 ?_ | (refine gD1 (fun h => ?_) (fun h => ?_) <;> (try (exfalso; omega))) | refine gB1 (fun h => ?_) (fun h => ?_)) | ((with_reducible apply kN); first | refine stP ?_ | refine stI ?_ | refine st1 ?_ | refine stW ?_) | ((with_reducible apply kP (.alloc _)); refine sA (fun b => ?_)) | ((with_reducible apply kP (.box _ _)); first | refine sBA (fun b => ?_) | refine sB (fun b => ?_)) | ((with_reducible apply kP _); refine sP ?_) | ((with_reducible apply kP _); refine sX ?_) | ((with_reducible apply kC); first | refine cT ?_ | refine cF ?_ | (refine cI (fun h => ?_) (fun h => ?_) <;> (try (exfalso; omega))) | refine cB (fun h => ?_) (fun h => ?_)))
    exact e_ret1 (hs' := hs) rfl rfl ⟨rfl, rfl⟩ SCt
  · obtain ⟨hn, hm, hl⟩ := lgC_no hlg
    have hb0 : Bd ps sm m := ⟨by omega, fun i hi => by have := hl i hi; omega, hsm, by omega⟩
    have kc := fun hs' (h : hs.Sublist hs') => r_CopyC ps oP oS cP m cS sm e (by omega) hb0.l hsm (by omega) B w0 hs' (hC.sub h)
    have kD1 : ∀ qs oP1 oS1 cP1 cS1 blk, SmP qs ps → CapM B w0 blk oP1 oS1 qs sm → ∀ hs' (_ : blk.Sublist hs'), Fn Try.prog 43 #[.agg #[.slice oP1 ps.length cP1, .slice oS1 m cS1, iv e], iv p, iv i, iv j, iv z, iv w] B w0 hs' (CeR (spE ps sm m e p i j z w) (spP ps p.toNat i.toNat j.toNat z w) (spM ps sm m p.toNat i.toNat j.toNat) (m + 1) e hs') := fun qs oP1 oS1 cP1 cS1 blk hq hM hs' h =>
      k_SplitS hq oP1 oS1 cP1 m cS1 sm e p i j z w (by omega) hsm (by omega) B w0 hs' (hM.sub h)
    have kD2 := fun hs' (h : hs.Sublist hs') => r_Split ps oP oS cP m cS sm e p i j z w (by omega) hsm (by omega) B w0 hs' (hC.sub h)
    have hCS : SmP ps ps := ⟨rfl, rfl, rfl⟩
    have hs3 := fun (q0 : List Pc) oP0 oS0 k0 cP0 cS0 (hq0 : SmP q0 ps) (hM0 : CapM B w0 k0 oP0 oS0 q0 sm) hs' h h' => same_cp e cP0 cS0 cP cS hb0 hq0 hCS hM0 hC hs' h h'
    obtain ⟨PS, SM, M, e1, hB1, -, -, hX1⟩ := CeR.x (E := spE ps sm m e p i j z w) (ps := spP ps p.toNat i.toNat j.toNat z w) (sm := spM ps sm m p.toNat i.toNat j.toNat) (m := m + 1) (e := e) (fun h => spE_bd hsm (by omega) h)
    generalize spE ps sm m e p i j z w = E1 at *
    refine fn_enter Try.func10 rfl Try.ntmps10 (by simp) ?_
    repeat' (first | ((with_reducible apply kP (.box 25 _)); refine sBA (fun b3 => ?_)) | ((with_reducible apply kP (.box 67 _)); refine sBA (fun b2 => ?_)) | ((with_reducible apply kF 15); refine sR 15 (kL _ SBt) ?_; rintro v7 h7 ⟨⟨bb, rfl, hb⟩, rfl⟩; obtain rfl : bb = false := by (rw [← Bool.not_eq_true]; exact fun h => hlg (hb.1 h))) | ((with_reducible apply kF 17); refine sR 17 (kc _ SBt) ?_; rintro v7 h7 ⟨k0, hcp0, rfl⟩; obtain ⟨q0, oP0, cP0, oS0, cS0, rfl, hq0, hM0⟩ := hcp0.x B w0) | ((with_reducible apply kF 43); refine sR 43 (kD1 _ _ _ _ _ _ hq0 hM0 _ SBt) ?_; rintro v7 h7 hce; obtain ⟨u1, k1, hcp1, rfl, rfl⟩ := hX1 _ _ _ hce; obtain ⟨q1, oP1, cP1, oS1, cS1, rfl, hq1, hM1⟩ := hcp1.x B w0) | ((with_reducible apply kF 44); refine sR 44 (kD2 _ SBt) ?_; rintro v7 h7 hce; obtain ⟨u2, k2, hcp2, rfl, rfl⟩ := hX1 _ _ _ hce; obtain ⟨q2, oP2, cP2, oS2, cS2, rfl, hq2, hM2⟩ := hcp2.x B w0) | ((with_reducible apply kP (.alloc 25)); refine sA (fun b5 => ?_)) | ((with_reducible apply kN); refine stW ?_ (hf := flat_cons rfl (flat_cons rfl (flat1 rfl)))) | ((with_reducible apply kF 20); refine sC 20 (same_cp e1 cP1 cS1 cP2 cS2 hB1 hq1 hq2 hM1 hM2 _ (.cons _ (sbA (.cons _ sbL))) (.cons _ sbL)) ?_) | ((with_reducible apply kF 20); refine sC 20 (hs3 q0 oP0 oS0 k0 cP0 cS0 hq0 hM0 _ (.cons _ (sbA (.cons _ (sbA (.cons _ sbL))))) SBt) ?_) | ((with_reducible apply kF 16); refine sC 16 (k_known B w0 _) ?_) | ((with_reducible apply kDF 16); refine dC 16 (fun F => k_known B w0 _) ?_) | (with_reducible first | refine c_seq ?_ | refine c_reg ?_ | refine c_region ?_ | refine c_block ?_ | refine c_skip ?_ | refine c_exit ?_ | refine c_ret ?_ | refine s_nil ?_ | refine x_then ?_ | refine x_then_exit ?_ | refine x_then_ret ?_ | refine x_block ?_ | refine x_block_ret ?_ | refine x_block_same ?_ | refine x_block_other (by first | rfl | decide) ?_ | refine q_nil ?_ | refine k_nil ?_) | ((with_reducible apply kG); first | refine gY1 ?_ | refine gN1 ?_ | refine gU1 ?_ | (refine gD1 (fun h => ?_) (fun h => ?_) <;> (try (exfalso; omega))) | refine gB1 (fun h => ?_) (fun h => ?_)) | ((with_reducible apply kN); first | refine stP ?_ | refine stI ?_ | refine st1 ?_ | refine stW ?_) | ((with_reducible apply kP (.alloc _)); refine sA (fun b => ?_)) | ((with_reducible apply kP (.box _ _)); first | refine sBA (fun b => ?_) | refine sB (fun b => ?_)) | ((with_reducible apply kP _); refine sP ?_) | ((with_reducible apply kP _); refine sX ?_) | ((with_reducible apply kC); first | refine cT ?_ | refine cF ?_ | (refine cI (fun h => ?_) (fun h => ?_) <;> (try (exfalso; omega))) | refine cB (fun h => ?_) (fun h => ?_)))
    all_goals first
      | exact e_ret1 (hs' := hs) rfl rfl ⟨rfl, rfl⟩ SCt
      | (exfalso; omega)
      | trace_state
end Go.Proofs.Ytnbickholedckaa
