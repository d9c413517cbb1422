/- Format of the program. -/
import Derived.Test.YtmblgbcipniecaaGreatDoorMX37
namespace Go.Proofs.YtmblgbcipniecaaGreatDoor
open Go.RowKit
/-- What Format answers. -/
def fcV (ps : List Pc) (sm : List Int) (m : Nat) (e : Int) : Value := .tuple #[sv (if vdC ps sm m e = 0 then capT ps sm m e else []), iv (vdC ps sm m e)]
attribute [local irreducible] OpF Ld CellAt Sl Sv pcA
set_option maxRecDepth 100000 in
set_option maxHeartbeats 8000000 in
theorem k_Format (ps : List Pc) (oP oS : Option Addr) (cP m cS : Nat) (sm : List Int) (e : Int) (hn : ps.length ≤ 10000) (hsm : sm.length = m * 4) (hm : m ≤ 10000) (B : Nat) (w0 : Wd) (hT : TxW B w0) (hs : HS) (hC : CapM B w0 hs oP oS ps sm) :
    Fn Tryz.prog 6 #[.agg #[.slice oP ps.length cP, .slice oS m cS, iv e]] B w0 hs (fun v h => v = fcV ps sm m e ∧ h = hs) := by
  have kv := fun hs' (h : hs.Sublist hs') => k_Validate ps oP oS cP m cS sm e hn hsm hm B w0 hs' (hC.sub h)
  have e0 : vdE ps.length (sdF ps) (anF ps) m sm e = vdC ps sm m e := rfl
  rw [e0] at kv
  unfold fcV
  by_cases hv : vdC ps sm m e = 0
  · have kf := fun hs' (h : hs.Sublist hs') => k_format ps oP oS cP m cS sm e hsm hm (vdC_0 hv).tx B w0 hT hs' (hC.sub h)
    rw [if_pos hv]
    rw [hv] at kv ⊢
    refine fn_enter Tryz.func6 rfl Tryz.ntmps6 (by simp) ?_
    repeat' (first | ((with_reducible apply kP (.box 25 _)); refine sBA (fun b1 => ?_)) | ((with_reducible apply kF 13); refine sC 13 (kv _ SBt) ?_) | ((with_reducible apply kF 14); refine sC 14 (kf _ SBt) ?_) | (with_reducible first | refine c_seq ?_ | refine c_reg ?_ | refine c_region ?_ | refine c_block ?_ | refine c_skip ?_ | refine c_exit ?_ | refine c_ret ?_ | refine s_nil ?_ | refine x_then ?_ | refine x_then_exit ?_ | refine x_then_ret ?_ | refine x_block ?_ | refine x_block_ret ?_ | refine x_block_same ?_ | refine x_block_other (by first | rfl | decide) ?_ | refine q_nil ?_ | refine k_nil ?_) | ((with_reducible apply kP (.box _ _)); first | refine sBA (fun b => ?_) | refine sB (fun b => ?_)) | ((with_reducible apply kP _); refine sP ?_) | ((with_reducible apply kP _); refine sX ?_) | ((with_reducible apply kC); first | refine cT ?_ | refine cF ?_ | (refine cI (fun h => ?_) (fun h => ?_) <;> (try (exfalso; omega))) | refine cB (fun h => ?_) (fun h => ?_)))
    all_goals first
      | (exfalso; omega)
      | exact e_ret2 (hs' := hs) rfl rfl rfl ⟨rfl, rfl⟩ (.cons _ (.refl _))
      | trace_state
  · rw [if_neg hv]
    generalize vdC ps sm m e = E at *
    refine fn_enter Tryz.func6 rfl Tryz.ntmps6 (by simp) ?_
    repeat' (first | ((with_reducible apply kP (.box 25 _)); refine sBA (fun b1 => ?_)) | ((with_reducible apply kF 13); refine sC 13 (kv _ SBt) ?_) | (with_reducible first | refine c_seq ?_ | refine c_reg ?_ | refine c_region ?_ | refine c_block ?_ | refine c_skip ?_ | refine c_exit ?_ | refine c_ret ?_ | refine s_nil ?_ | refine x_then ?_ | refine x_then_exit ?_ | refine x_then_ret ?_ | refine x_block ?_ | refine x_block_ret ?_ | refine x_block_same ?_ | refine x_block_other (by first | rfl | decide) ?_ | refine q_nil ?_ | refine k_nil ?_) | ((with_reducible apply kP (.box _ _)); first | refine sBA (fun b => ?_) | refine sB (fun b => ?_)) | ((with_reducible apply kP _); refine sP ?_) | ((with_reducible apply kP _); refine sX ?_) | ((with_reducible apply kC); first | refine cT ?_ | refine cF ?_ | (refine cI (fun h => ?_) (fun h => ?_) <;> (try (exfalso; omega))) | refine cB (fun h => ?_) (fun h => ?_)))
    all_goals first
      | (exfalso; omega)
      | exact e_ret2 (hs' := hs) rfl rfl rfl ⟨rfl, rfl⟩ (.cons _ (.refl _))
      | trace_state
end Go.Proofs.YtmblgbcipniecaaGreatDoor
