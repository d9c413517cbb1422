/- Format of the reference. -/
import Derived.Test.YtmblgbcipniecaaGreatDoorMX38
import Derived.Test.YtmblgbcipniecaaGreatDoorMX6
import Derived.Test.YtmblgbcipniecaaGreatDoorMB3
namespace Go.Proofs.YtmblgbcipniecaaGreatDoor
open Go.RowKit
theorem x_DigitsI {x : Int} (h : 0 ≤ x ∧ x ≤ 1000000) (B : Nat) (w0 : Wd) (hs : HS) : Fn Tryz.prog 37 #[iv x] B w0 hs (fun v h => v = sv (Go.Lib.itoa x) ∧ h = hs) := by
  obtain ⟨u, rfl⟩ : ∃ u : Nat, x = (u : Int) := ⟨x.toNat, by omega⟩
  rw [itoa_nat]
  exact x_Digits u (by omega) B w0 hs
attribute [local irreducible] OpF Ld CellAt Sl Sv pcA
set_option maxRecDepth 100000 in
set_option maxHeartbeats 8000000 in
theorem r_numbers (oa : Option Addr) (c : Nat) (l : List Int) (hl : l.length ≤ 10000) (hb : ∀ x ∈ l, 0 ≤ x ∧ x ≤ 1000000) (B : Nat) (w0 : Wd) (hs : HS) (hL : Sl B w0 hs oa l) :
    Fn Tryz.prog 16 #[.slice oa l.length c] B w0 hs (fun v h => v = sv (nmT l) ∧ h = hs) := by
  have hn := nmT_len hb
  refine fn_enter Tryz.func16 rfl Tryz.ntmps16 (by simp) ?_
  repeat' (first | (with_reducible first | refine c_seq ?_ | refine c_reg ?_ | refine c_region ?_ | refine c_block ?_ | refine c_skip ?_ | refine c_exit ?_ | refine c_ret ?_ | refine s_nil ?_ | refine x_then ?_ | refine x_then_exit ?_ | refine x_then_ret ?_ | refine x_block ?_ | refine x_block_ret ?_ | refine x_block_same ?_ | refine x_block_other (by first | rfl | decide) ?_ | refine q_nil ?_ | refine k_nil ?_) | ((with_reducible apply kP _); refine sP ?_) | ((with_reducible apply kP _); refine sX ?_) | ((with_reducible apply kC); first | refine cT ?_ | refine cF ?_ | (refine cI (fun h => ?_) (fun h => ?_) <;> (try (exfalso; omega))) | refine cB (fun h => ?_) (fun h => ?_)))
  refine c_loop (fun i : Nat => [(0, .slice oa l.length c), (3, sv (nmT (l.take i))), (4, iv i)]) (fun _ => hs) (fun i => i ≤ l.length) (fun i => l.length - i) 0 (Nat.zero_le _) (by repeat' first | trivial | rfl | apply And.intro) (.refl _) ?_
  intro i hi
  by_cases hi' : i < l.length
  · have hm : l.getD i 0 ∈ l := by
      rw [List.getD_eq_getElem?_getD, List.getElem?_eq_getElem hi']
      exact List.getElem_mem hi'
    have kd := x_DigitsI (hb _ hm) B w0
    have i1 := hL.any hi'
    have hc2 := nmT_cut l (i + 1)
    rw [nmT_take hi', List.length_append, List.length_cons] at hc2
    repeat' (first | ((with_reducible apply kF 37); refine sC 37 (kd _) ?_) | ((with_reducible apply kP (.binOp .add 9 (.const _) _ _)); refine sP ?_ (o_sAdd (a := [32]) rfl rfl (by simp only [List.length_cons, List.length_nil]; omega))) | ((with_reducible apply kDP (.binOp .add 9 (.const _) _ _)); refine dP ?_ (hX := rfl) (hv := o_sAdd (a := [32]) rfl rfl (by simp only [List.length_cons, List.length_nil]; omega))) | ((with_reducible apply kQO (.binOp .add 9 (.const _) _ _)); refine qP ?_ (o_sAdd (a := [32]) rfl rfl (by simp only [List.length_cons, List.length_nil]; omega))) | ((with_reducible apply kP (.binOp .add 9 _ _ _)); refine sP ?_ (o_sAdd rfl rfl (by simp only [List.length_append, List.length_cons, List.length_nil]; omega))) | ((with_reducible apply kDP (.binOp .add 9 _ _ _)); refine dP ?_ (hX := rfl) (hv := o_sAdd rfl rfl (by simp only [List.length_append, List.length_cons, List.length_nil]; omega))) | ((with_reducible apply kQO (.binOp .add 9 _ _ _)); refine qP ?_ (o_sAdd rfl rfl (by simp only [List.length_append, List.length_cons, List.length_nil]; omega))) | ((with_reducible apply kP (.load 3 _)); refine sP ?_ (o_load rfl (ld_one (shTOf rfl) (hL.at SBt hi')))) | ((with_reducible apply kDP (.load 3 _)); refine dP ?_ (hX := rfl) (hv := o_load rfl (ld_one (shTOf rfl) (hL.at SBt hi')))) | ((with_reducible apply kQO (.load 3 _)); refine qP ?_ (o_load rfl (ld_one (shTOf rfl) (hL.at SBt hi')))) | ((with_reducible apply kP (.indexAddr 35 _ _)); refine sP ?_ (o_indexS (scTOf rfl) rfl rfl rfl (aa0 _) i1 hi')) | ((with_reducible apply kDP (.indexAddr 35 _ _)); refine dP ?_ (hX := rfl) (hv := o_indexS (scTOf rfl) rfl rfl rfl (aa0 _) i1 hi')) | ((with_reducible apply kQO (.indexAddr 35 _ _)); refine qP ?_ (o_indexS (scTOf rfl) rfl rfl rfl (aa0 _) i1 hi')) | (with_reducible first | refine c_seq ?_ | refine c_reg ?_ | refine c_region ?_ | refine c_block ?_ | refine c_skip ?_ | refine c_exit ?_ | refine c_ret ?_ | refine s_nil ?_ | refine x_then ?_ | refine x_then_exit ?_ | refine x_then_ret ?_ | refine x_block ?_ | refine x_block_ret ?_ | refine x_block_same ?_ | refine x_block_other (by first | rfl | decide) ?_ | refine q_nil ?_ | refine k_nil ?_) | ((with_reducible apply kP _); refine sP ?_) | ((with_reducible apply kP _); refine sX ?_) | ((with_reducible apply kC); first | refine cT ?_ | refine cF ?_ | (refine cI (fun h => ?_) (fun h => ?_) <;> (try (exfalso; omega))) | refine cB (fun h => ?_) (fun h => ?_)))
    all_goals try (exfalso; omega)
    exact r_end (i + 1) hi' (by omega) (by rw [nmT_take hi']; (repeat' first | trivial | rfl | apply And.intro)) (.refl _)
  · obtain rfl : i = l.length := by omega
    rw [List.take_length]
    repeat' (first | (with_reducible first | refine c_seq ?_ | refine c_reg ?_ | refine c_region ?_ | refine c_block ?_ | refine c_skip ?_ | refine c_exit ?_ | refine c_ret ?_ | refine s_nil ?_ | refine x_then ?_ | refine x_then_exit ?_ | refine x_then_ret ?_ | refine x_block ?_ | refine x_block_ret ?_ | refine x_block_same ?_ | refine x_block_other (by first | rfl | decide) ?_ | refine q_nil ?_ | refine k_nil ?_) | ((with_reducible apply kP _); refine sP ?_) | ((with_reducible apply kP _); refine sX ?_) | ((with_reducible apply kC); first | refine cT ?_ | refine cF ?_ | (refine cI (fun h => ?_) (fun h => ?_) <;> (try (exfalso; omega))) | refine cB (fun h => ?_) (fun h => ?_)))
    all_goals try (exfalso; omega)
    exact e_ret1 (hs' := hs) rfl rfl ⟨rfl, rfl⟩ (.refl _)
end Go.Proofs.YtmblgbcipniecaaGreatDoor
