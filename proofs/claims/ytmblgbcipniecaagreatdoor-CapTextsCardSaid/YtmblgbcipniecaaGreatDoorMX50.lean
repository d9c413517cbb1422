/- strings.SplitSeq hands back its iterator. -/
import Derived.Test.YtmblgbcipniecaaGreatDoorMX49
namespace Go.Proofs.YtmblgbcipniecaaGreatDoor
open Go.RowKit
attribute [local irreducible] OpF Ld CellAt Sl Sv pcA
set_option maxRecDepth 100000 in
set_option maxHeartbeats 8000000 in
theorem x_splitSeq (l s : List UInt8) (B : Nat) (w0 : Wd) (hs : HS) :
    Fn Tryz.prog 38 #[sv l, sv s, iv 0] B w0 hs (fun v h => ∃ blk, (∃ b1 b2 b3, v = .func (.func 52) #[] #[.pointer (some ⟨b1, 0, none⟩), .pointer (some ⟨b2, 0, none⟩), .pointer (some ⟨b3, 0, none⟩)] ∧ blk = [(b3, [iv 0]), (b1, [sv s]), (b2, [sv l])]) ∧ h = blk ++ hs) := by
  refine fn_enter Tryz.func38 rfl Tryz.ntmps38 (by simp) ?_
  repeat' (first | ((with_reducible apply kP (.box 9 (.tmp 0))); refine sB (fun b2 => ?_)) | ((with_reducible apply kP (.box 9 (.tmp 1))); refine sB (fun b1 => ?_)) | ((with_reducible apply kP (.box 3 _)); refine sB (fun b3 => ?_)) | (with_reducible first | refine c_seq ?_ | refine c_reg ?_ | refine c_region ?_ | refine c_block ?_ | refine c_skip ?_ | refine c_exit ?_ | refine c_ret ?_ | refine s_nil ?_ | refine x_then ?_ | refine x_then_exit ?_ | refine x_then_ret ?_ | refine x_block ?_ | refine x_block_ret ?_ | refine x_block_same ?_ | refine x_block_other (by first | rfl | decide) ?_ | refine q_nil ?_ | refine k_nil ?_) | ((with_reducible apply kP (.makeFunc _ _ _)); refine sMF ?_) | ((with_reducible apply kP (.box _ _)); first | refine sBA (fun b => ?_) | refine sB (fun b => ?_)) | ((with_reducible apply kP _); refine sP ?_) | ((with_reducible apply kP _); refine sX ?_) | ((with_reducible apply kC); first | refine cT ?_ | refine cF ?_ | (refine cI (fun h => ?_) (fun h => ?_) <;> (try (exfalso; omega))) | refine cB (fun h => ?_) (fun h => ?_)))
  exact e_ret1 (hs' := (b3, [iv 0]) :: (b1, [sv s]) :: (b2, [sv l]) :: hs) rfl rfl ⟨_, ⟨b1, b2, b3, rfl, rfl⟩, rfl⟩ (.refl _)
set_option maxRecDepth 100000 in
set_option maxHeartbeats 8000000 in
theorem x_SplitSeq (l s : List UInt8) (B : Nat) (w0 : Wd) (hs : HS) :
    Fn Tryz.prog 17 #[sv l, sv s] B w0 hs (fun v h => ∃ blk, (∃ b1 b2 b3, v = .func (.func 52) #[] #[.pointer (some ⟨b1, 0, none⟩), .pointer (some ⟨b2, 0, none⟩), .pointer (some ⟨b3, 0, none⟩)] ∧ blk = [(b3, [iv 0]), (b1, [sv s]), (b2, [sv l])]) ∧ h = blk ++ hs) := by
  refine fn_enter Tryz.func17 rfl Tryz.ntmps17 (by simp) ?_
  repeat' (first | ((with_reducible apply kF 38); refine sR 38 (x_splitSeq l s B w0 _) ?_; rintro v1 h1 ⟨blk, ⟨b1, b2, b3, rfl, rfl⟩, rfl⟩) | (with_reducible first | refine c_seq ?_ | refine c_reg ?_ | refine c_region ?_ | refine c_block ?_ | refine c_skip ?_ | refine c_exit ?_ | refine c_ret ?_ | refine s_nil ?_ | refine x_then ?_ | refine x_then_exit ?_ | refine x_then_ret ?_ | refine x_block ?_ | refine x_block_ret ?_ | refine x_block_same ?_ | refine x_block_other (by first | rfl | decide) ?_ | refine q_nil ?_ | refine k_nil ?_) | ((with_reducible apply kP _); refine sP ?_) | ((with_reducible apply kP _); refine sX ?_) | ((with_reducible apply kC); first | refine cT ?_ | refine cF ?_ | (refine cI (fun h => ?_) (fun h => ?_) <;> (try (exfalso; omega))) | refine cB (fun h => ?_) (fun h => ?_)))
  exact e_ret1 (hs' := (b3, [iv 0]) :: (b1, [sv s]) :: (b2, [sv l]) :: hs) rfl rfl ⟨_, ⟨b1, b2, b3, rfl, rfl⟩, rfl⟩ (.refl _)
end Go.Proofs.YtmblgbcipniecaaGreatDoor
