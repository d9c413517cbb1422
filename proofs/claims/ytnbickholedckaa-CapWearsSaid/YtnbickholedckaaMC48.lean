/- The law's walk of CapMisses. -/
import Derived.Test.YtnbickholedckaaMC47
namespace Go.Proofs.Ytnbickholedckaa
open Go.RowKit
attribute [local irreducible] OpF Ld CellAt Sl Sv pcA usP
theorem eq62 : eqt Try.prog 62 = some 5 := by kernel_rfl
theorem o_eqS {n : NN} {B : Nat} {w0 : Wd} {fr : FR} {hs : HS} {ty t' : TypeId} {x y : Operand} {xs : List Int} (hx : opv fr x = some (.agg (ivs xs).toArray)) (hy : opv fr y = some (.agg (ivs xs).toArray)) (h : xs.length = 5) : OpF Try.prog n B w0 (.binOp .eql 62 x y t') ty fr hs (.bool true) := by
  have := o_eqlA (n := n) (B := B) (w0 := w0) (hs := hs) (ty := ty) (t' := t') eq62 hx hy h h
  rwa [decide_eq_true rfl] at this
/-- What the measures say. -/
theorem ms_in {ps : List Pc} {sm : List Int} {m : Nat} {e : Int} (hm : m ≤ 100) : ∃ pa eu ha : Int, (if vdC ps sm m e = 0 then (paC ps sm m : Int) else 0) = pa ∧ (if vdC ps sm m e = 0 then euC ps sm m else 0) = eu ∧ (if vdC ps sm m e = 0 then 360 * euC ps sm m else 0) = 360 * eu ∧ (if vdC ps sm m e = 0 then haC ps sm m else 0) = ha ∧ 0 ≤ ha ∧ -100 ≤ eu ∧ eu ≤ 200 := by
  by_cases hv : vdC ps sm m e = 0
  · have V := vdC_0 hv
    have h1 := V.ha0.1
    have h2 := euC_in V hm
    exact ⟨_, _, _, rfl, rfl, by rw [if_pos hv, if_pos hv], rfl, by rw [if_pos hv]; exact h1, by rw [if_pos hv]; omega, by rw [if_pos hv]; omega⟩
  · exact ⟨0, 0, 0, by rw [if_neg hv], by rw [if_neg hv], by rw [if_neg hv]; rfl, by rw [if_neg hv], by omega, by omega, by omega⟩
set_option maxRecDepth 100000 in
set_option maxHeartbeats 8000000 in
theorem k_CapMisses (ps : List Pc) (oP oS : Option Addr) (cP m cS : Nat) (sm : List Int) (e : Int) (hsm : sm.length = m * 4) (B : Nat) (w0 : Wd) (hs : HS) (hC : CapM B w0 hs oP oS ps sm) :
    Fn Try.prog 9 #[.agg #[.slice oP ps.length cP, .slice oS m cS, iv e]] B w0 hs (fun v h => v = .bool true ∧ h = hs) := by
  have kL := fun hs' (h : hs.Sublist hs') => k_Long ps oP oS cP m cS sm e B w0 hs' (hC.sub h)
  by_cases hlg : lgC ps m
  · refine fn_enter Try.func9 rfl Try.ntmps9 (by simp) ?_
    repeat' (first | ((with_reducible apply kP (.box 25 _)); refine sBA (fun b1 => ?_)) | ((with_reducible apply kF 15); refine sR 15 (kL _ SBt) ?_; rintro v7 h7 ⟨⟨bb, rfl, hb⟩, rfl⟩; obtain rfl : bb = true := hb.2 hlg) | ((with_reducible apply kF 16); refine sC 16 (k_known B w0 _) ?_) | (with_reducible first | refine c_seq ?_ | refine c_reg ?_ | refine c_region ?_ | refine c_block ?_ | refine c_skip ?_ | refine c_exit ?_ | refine c_ret ?_ | refine s_nil ?_ | refine x_then ?_ | refine x_then_exit ?_ | refine x_then_ret ?_ | refine x_block ?_ | refine x_block_ret ?_ | refine x_block_same ?_ | refine x_block_other (by first | rfl | decide) ?_ | refine q_nil ?_ | refine k_nil ?_) | ((with_reducible apply kG); first | refine gY1 ?_ | refine gN1 ?_ | refine gU1 ?_ | (refine gD1 (fun h => ?_) (fun h => ?_) <;> (try (exfalso; omega))) | refine gB1 (fun h => ?_) (fun h => ?_)) | ((with_reducible apply kN); first | refine stP ?_ | refine stI ?_ | refine st1 ?_ | refine stW ?_) | ((with_reducible apply kP (.alloc _)); refine sA (fun b => ?_)) | ((with_reducible apply kP (.box _ _)); first | refine sBA (fun b => ?_) | refine sB (fun b => ?_)) | ((with_reducible apply kP _); refine sP ?_) | ((with_reducible apply kP _); refine sX ?_) | ((with_reducible apply kC); first | refine cT ?_ | refine cF ?_ | (refine cI (fun h => ?_) (fun h => ?_) <;> (try (exfalso; omega))) | refine cB (fun h => ?_) (fun h => ?_)))
    exact e_ret1 (hs' := hs) rfl rfl ⟨rfl, rfl⟩ SCt
  · obtain ⟨hn, hm, hl⟩ := lgC_no hlg
    have k0 := fun hs' (h : hs.Sublist hs') => k_measure ps oP oS cP m cS sm e (by omega) hsm (by omega) B w0 hs' (hC.sub h)
    have k1 := fun hs' (h : hs.Sublist hs') => r_Parts ps oP oS cP m cS sm e (by omega) hsm (by omega) B w0 hs' (hC.sub h)
    have k2 := fun hs' (h : hs.Sublist hs') => r_Euler ps oP oS cP m cS sm e (by omega) hsm (by omega) B w0 hs' (hC.sub h)
    have k3 := fun hs' (h : hs.Sublist hs') => r_Missing ps oP oS cP m cS sm e (by omega) hsm (by omega) B w0 hs' (hC.sub h)
    have k4 := fun hs' (h : hs.Sublist hs') => r_Handles ps oP oS cP m cS sm e (by omega) hsm (by omega) B w0 hs' (hC.sub h)
    obtain ⟨pa, eu, ha, e1, e2, e3, e4, ha0, eu0, eu1⟩ := ms_in (ps := ps) (sm := sm) (m := m) (e := e) (by omega)
    unfold msV at k0
    rw [e1, e2, e3, e4] at k0
    rw [e1] at k1
    rw [e2] at k2
    rw [e3] at k3
    rw [e4] at k4
    generalize vdC ps sm m e = z at *
    clear e1 e2 e3 e4
    refine fn_enter Try.func9 rfl Try.ntmps9 (by simp) ?_
    repeat' (first | ((with_reducible apply kP (.box 25 _)); refine sBA (fun b1 => ?_)) | ((with_reducible apply kF 15); refine sR 15 (kL _ SBt) ?_; rintro v7 h7 ⟨⟨bb, rfl, hb⟩, rfl⟩; obtain rfl : bb = false := by (rw [← Bool.not_eq_true]; exact fun h => hlg (hb.1 h))) | ((with_reducible apply kF 38); refine sC 38 (k0 _ SBt) ?_) | ((with_reducible apply kP (.alloc 62)); refine sA (fun b3 => ?_)) | ((with_reducible apply kN); refine stW ?_ (hf := flat_iv [pa, eu, 360 * eu, ha, z])) | ((with_reducible apply kF 39); refine sC 39 (k1 _ SBt) ?_) | ((with_reducible apply kF 40); refine sC 40 (k2 _ SBt) ?_) | ((with_reducible apply kF 41); refine sC 41 (k3 _ SBt) ?_) | ((with_reducible apply kF 42); refine sC 42 (k4 _ SBt) ?_) | ((with_reducible apply kP (.load 62 _)); refine sP ?_ (o_load rfl (ld_own (shTOf rfl) MMt rfl rfl))) | ((with_reducible apply kDP (.load 62 _)); refine dP ?_ (hX := rfl) (hv := o_load rfl (ld_own (shTOf rfl) MMt rfl rfl))) | ((with_reducible apply kQO (.load 62 _)); refine qP ?_ (o_load rfl (ld_own (shTOf rfl) MMt rfl rfl))) | ((with_reducible apply kP (.build 62 _)); refine sP ?_ (o_build (out := ivs [pa, eu, 360 * eu, ha, z]) rfl (zcTOf rfl) (plTOf rfl) rfl)) | ((with_reducible apply kDP (.build 62 _)); refine dP ?_ (hX := rfl) (hv := o_build (out := ivs [pa, eu, 360 * eu, ha, z]) rfl (zcTOf rfl) (plTOf rfl) rfl)) | ((with_reducible apply kQO (.build 62 _)); refine qP ?_ (o_build (out := ivs [pa, eu, 360 * eu, ha, z]) rfl (zcTOf rfl) (plTOf rfl) rfl)) | ((with_reducible apply kP (.binOp .eql 62 _ _ _)); refine sP ?_ (o_eqS (xs := [pa, eu, 360 * eu, ha, z]) rfl rfl rfl)) | ((with_reducible apply kDP (.binOp .eql 62 _ _ _)); refine dP ?_ (hX := rfl) (hv := o_eqS (xs := [pa, eu, 360 * eu, ha, z]) rfl rfl rfl)) | ((with_reducible apply kQO (.binOp .eql 62 _ _ _)); refine qP ?_ (o_eqS (xs := [pa, eu, 360 * eu, ha, z]) rfl rfl rfl)) | ((with_reducible apply kF 16); refine sC 16 (k_known B w0 _) ?_) | (with_reducible first | refine c_seq ?_ | refine c_reg ?_ | refine c_region ?_ | refine c_block ?_ | refine c_skip ?_ | refine c_exit ?_ | refine c_ret ?_ | refine s_nil ?_ | refine x_then ?_ | refine x_then_exit ?_ | refine x_then_ret ?_ | refine x_block ?_ | refine x_block_ret ?_ | refine x_block_same ?_ | refine x_block_other (by first | rfl | decide) ?_ | refine q_nil ?_ | refine k_nil ?_) | ((with_reducible apply kG); first | refine gY1 ?_ | refine gN1 ?_ | refine gU1 ?_ | (refine gD1 (fun h => ?_) (fun h => ?_) <;> (try (exfalso; omega))) | refine gB1 (fun h => ?_) (fun h => ?_)) | ((with_reducible apply kN); first | refine stP ?_ | refine stI ?_ | refine st1 ?_ | refine stW ?_) | ((with_reducible apply kP (.alloc _)); refine sA (fun b => ?_)) | ((with_reducible apply kP (.box _ _)); first | refine sBA (fun b => ?_) | refine sB (fun b => ?_)) | ((with_reducible apply kP _); refine sP ?_) | ((with_reducible apply kP _); refine sX ?_) | ((with_reducible apply kC); first | refine cT ?_ | refine cF ?_ | (refine cI (fun h => ?_) (fun h => ?_) <;> (try (exfalso; omega))) | refine cB (fun h => ?_) (fun h => ?_)))
    all_goals first
      | exact e_ret1 (hs' := hs) rfl rfl ⟨rfl, rfl⟩ SCt
      | (exfalso; omega)
      | trace_state
end Go.Proofs.Ytnbickholedckaa
