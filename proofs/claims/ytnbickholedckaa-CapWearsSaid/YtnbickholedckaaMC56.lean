/- CapWears: the law's walk. -/
import Derived.Test.YtnbickholedckaaMC55
import Derived.Test.YtnbickholedckaaMC40
import Derived.Test.YtnbickholedckaaMB6
namespace Go.Proofs.Ytnbickholedckaa
open Go.RowKit
attribute [local irreducible] OpF Ld CellAt Sl Sv pcA usP
set_option maxRecDepth 100000 in
set_option maxHeartbeats 8000000 in
theorem k_CapWears (ps : List Pc) (oP oS : Option Addr) (cP m cS : Nat) (sm : List Int) (e R F E W K N : Int) (hsm : sm.length = m * 4) (B : Nat) (w0 : Wd) (hs : HS) (hC : CapM B w0 hs oP oS ps sm) :
    Fn Try.prog 12 #[.agg #[.slice oP ps.length cP, .slice oS m cS, iv e], .agg #[iv R, iv F, iv E, iv W, iv K, iv N]] B w0 hs (fun v h => v = .bool true ∧ h = hs) := by
  have kL := fun hs' (h : hs.Sublist hs') => k_Long ps oP oS cP m cS sm e B w0 hs' (hC.sub h)
  by_cases hlg : lgC ps m
  · refine fn_enter Try.func12 rfl Try.ntmps12 (by simp) ?_
    repeat' (first | ((with_reducible apply kP (.box 25 _)); refine sBA (fun b1 => ?_)) | ((with_reducible apply kP (.box 50 _)); refine sBA (fun b2 => ?_)) | ((with_reducible apply kF 15); refine sR 15 (kL _ SBt) ?_; rintro v7 h7 ⟨⟨bb, rfl, hb⟩, rfl⟩; obtain rfl : bb = true := hb.2 hlg) | ((with_reducible apply kF 16); refine sC 16 (k_known B w0 _) ?_) | (with_reducible first | refine c_seq ?_ | refine c_reg ?_ | refine c_region ?_ | refine c_block ?_ | refine c_skip ?_ | refine c_exit ?_ | refine c_ret ?_ | refine s_nil ?_ | refine x_then ?_ | refine x_then_exit ?_ | refine x_then_ret ?_ | refine x_block ?_ | refine x_block_ret ?_ | refine x_block_same ?_ | refine x_block_other (by first | rfl | decide) ?_ | refine q_nil ?_ | refine k_nil ?_) | ((with_reducible apply kG); first | refine gY1 ?_ | refine gN1 ?_ | refine gU1 ?_ | (refine gD1 (fun h => ?_) (fun h => ?_) <;> (try (exfalso; omega))) | refine gB1 (fun h => ?_) (fun h => ?_)) | ((with_reducible apply kP (.box _ _)); first | refine sBA (fun b => ?_) | refine sB (fun b => ?_)) | ((with_reducible apply kP _); refine sP ?_) | ((with_reducible apply kP _); refine sX ?_) | ((with_reducible apply kC); first | refine cT ?_ | refine cF ?_ | (refine cI (fun h => ?_) (fun h => ?_) <;> (try (exfalso; omega))) | refine cB (fun h => ?_) (fun h => ?_)))
    exact e_ret1 (hs' := hs) rfl rfl ⟨rfl, rfl⟩ SCt
  · obtain ⟨hn, hm, hl⟩ := lgC_no hlg
    have k1 := fun hs' (h : hs.Sublist hs') => k_Wears ps oP oS cP m cS sm e R F E W K N (by omega) hsm (by omega) B w0 hs' (hC.sub h)
    have k2 := fun hs' (h : hs.Sublist hs') => r_Wears ps oP oS cP m cS sm e R F E W K N (by omega) hsm (by omega) B w0 hs' (hC.sub h)
    cases hw : wrB ps sm m e R F E W K N with
    | false =>
      rw [hw] at k1 k2
      generalize wrE ps sm m e R F E W K N = z at *
      refine fn_enter Try.func12 rfl Try.ntmps12 (by simp) ?_
      repeat' (first | ((with_reducible apply kP (.box 25 _)); refine sBA (fun b1 => ?_)) | ((with_reducible apply kP (.box 50 _)); refine sBA (fun b2 => ?_)) | ((with_reducible apply kP (.load 50 _)); refine sP ?_ (o_load rfl (ld_own (shTOf rfl) MMt rfl rfl))) | ((with_reducible apply kDP (.load 50 _)); refine dP ?_ (hX := rfl) (hv := o_load rfl (ld_own (shTOf rfl) MMt rfl rfl))) | ((with_reducible apply kQO (.load 50 _)); refine qP ?_ (o_load rfl (ld_own (shTOf rfl) MMt rfl rfl))) | ((with_reducible apply kF 15); refine sR 15 (kL _ SBt) ?_; rintro v7 h7 ⟨⟨bb, rfl, hb⟩, rfl⟩; obtain rfl : bb = false := by (rw [← Bool.not_eq_true]; exact fun h => hlg (hb.1 h))) | ((with_reducible apply kF 45); refine sC 45 (k1 _ SBt) ?_) | ((with_reducible apply kF 46); refine sC 46 (k2 _ SBt) ?_) | ((with_reducible apply kF 16); refine sC 16 (k_known B w0 _) ?_) | (with_reducible first | refine c_seq ?_ | refine c_reg ?_ | refine c_region ?_ | refine c_block ?_ | refine c_skip ?_ | refine c_exit ?_ | refine c_ret ?_ | refine s_nil ?_ | refine x_then ?_ | refine x_then_exit ?_ | refine x_then_ret ?_ | refine x_block ?_ | refine x_block_ret ?_ | refine x_block_same ?_ | refine x_block_other (by first | rfl | decide) ?_ | refine q_nil ?_ | refine k_nil ?_) | ((with_reducible apply kG); first | refine gY1 ?_ | refine gN1 ?_ | refine gU1 ?_ | (refine gD1 (fun h => ?_) (fun h => ?_) <;> (try (exfalso; omega))) | refine gB1 (fun h => ?_) (fun h => ?_)) | ((with_reducible apply kP (.box _ _)); first | refine sBA (fun b => ?_) | refine sB (fun b => ?_)) | ((with_reducible apply kP _); refine sP ?_) | ((with_reducible apply kP _); refine sX ?_) | ((with_reducible apply kC); first | refine cT ?_ | refine cF ?_ | (refine cI (fun h => ?_) (fun h => ?_) <;> (try (exfalso; omega))) | refine cB (fun h => ?_) (fun h => ?_)))
      all_goals first
        | exact e_ret1 (hs' := hs) rfl rfl ⟨rfl, rfl⟩ SCt
        | (exfalso; omega)
        | trace_state
    | true =>
      rw [hw] at k1 k2
      unfold wrB at hw
      obtain ⟨hv, hh, hpa, hha, -⟩ := of_decide_eq_true hw
      have hE : wrE ps sm m e R F E W K N = 0 := by unfold wrE; rw [if_neg (fun h => h hv)]; exact hh
      rw [hE] at k1 k2
      have k3 := fun hs' (h : hs.Sublist hs') => k_Missing ps oP oS cP m cS sm e (by omega) hsm (by omega) B w0 hs' (hC.sub h)
      have k4 := fun hs' (h : hs.Sublist hs') => (k_Loops ps oP oS cP m cS sm e (by omega) hsm (by omega) B w0 hs' (hC.sub h)).mono (R' := fun v h => ∃ oa c blk, v = .tuple #[.slice oa (lpsC ps sm m).length c, iv 0] ∧ h = blk ++ hs') (by
        rintro v h (⟨h0, _⟩ | ⟨_, x, blk, h1, h2, h3⟩)
        · exact absurd hv h0
        · obtain ⟨oa, c, rfl⟩ := LrR.v h1
          rw [List.length_map] at h2
          exact ⟨oa, c, blk, h2, h3⟩)
      rw [if_pos hv, hv] at k3
      have h2 := (vdC_0 hv).ha0.2
      rw [hpa, hha] at h2
      have h3 := euC_in (vdC_0 hv) (show m ≤ 100 by omega)
      have h4 := (vdC_0 hv).lpn
      generalize euC ps sm m = eu at *
      generalize (lpsC ps sm m).length = nl at *
      refine fn_enter Try.func12 rfl Try.ntmps12 (by simp) ?_
      repeat' (first | ((with_reducible apply kP (.box 25 _)); refine sBA (fun b1 => ?_)) | ((with_reducible apply kP (.box 50 _)); refine sBA (fun b2 => ?_)) | ((with_reducible apply kP (.load 50 _)); refine sP ?_ (o_load rfl (ld_own (shTOf rfl) MMt rfl rfl))) | ((with_reducible apply kDP (.load 50 _)); refine dP ?_ (hX := rfl) (hv := o_load rfl (ld_own (shTOf rfl) MMt rfl rfl))) | ((with_reducible apply kQO (.load 50 _)); refine qP ?_ (o_load rfl (ld_own (shTOf rfl) MMt rfl rfl))) | ((with_reducible apply kF 15); refine sR 15 (kL _ SBt) ?_; rintro v7 h7 ⟨⟨bb, rfl, hb⟩, rfl⟩; obtain rfl : bb = false := by (rw [← Bool.not_eq_true]; exact fun h => hlg (hb.1 h))) | ((with_reducible apply kF 45); refine sC 45 (k1 _ SBt) ?_) | ((with_reducible apply kF 46); refine sC 46 (k2 _ SBt) ?_) | ((with_reducible apply kF 47); refine sC 47 (k3 _ SBt) ?_) | ((with_reducible apply kF 24); refine sR 24 (k4 _ SBt) ?_; rintro v7 h7 ⟨oa5, c5, k5, rfl, rfl⟩) | ((with_reducible apply kF 16); refine sC 16 (k_known B w0 _) ?_) | (with_reducible first | refine c_seq ?_ | refine c_reg ?_ | refine c_region ?_ | refine c_block ?_ | refine c_skip ?_ | refine c_exit ?_ | refine c_ret ?_ | refine s_nil ?_ | refine x_then ?_ | refine x_then_exit ?_ | refine x_then_ret ?_ | refine x_block ?_ | refine x_block_ret ?_ | refine x_block_same ?_ | refine x_block_other (by first | rfl | decide) ?_ | refine q_nil ?_ | refine k_nil ?_) | ((with_reducible apply kG); first | refine gY1 ?_ | refine gN1 ?_ | refine gU1 ?_ | (refine gD1 (fun h => ?_) (fun h => ?_) <;> (try (exfalso; omega))) | refine gB1 (fun h => ?_) (fun h => ?_)) | ((with_reducible apply kP (.box _ _)); first | refine sBA (fun b => ?_) | refine sB (fun b => ?_)) | ((with_reducible apply kP _); refine sP ?_) | ((with_reducible apply kP _); refine sX ?_) | ((with_reducible apply kC); first | refine cT ?_ | refine cF ?_ | (refine cI (fun h => ?_) (fun h => ?_) <;> (try (exfalso; omega))) | refine cB (fun h => ?_) (fun h => ?_)))
      all_goals first
        | exact e_ret1 (hs' := hs) rfl rfl ⟨rfl, rfl⟩ SCt
        | (exfalso; omega)
        | trace_state
end Go.Proofs.Ytnbickholedckaa
