/- Where a side goes in a split, of both. -/
import Derived.Test.YtnbickholedckaaMC64
namespace Go.Proofs.Ytnbickholedckaa
open Go.RowKit
def mv1 (a x p i k s P : Nat) : Nat := if a ≠ p then a else if (x + k - i) % k < s then p else P
def mv2 (a x p i j k s : Nat) : Nat := if a ≠ p then x else if (x + k - i) % k < s then (x + k - i) % k else (x + k - j) % k
theorem md_int {x i k : Nat} (hi : i < k) : ((x : Int) - (i : Int) + (k : Int)) % (k : Int) = (((x + k - i) % k : Nat) : Int) := by
  rw [show (x : Int) - (i : Int) + (k : Int) = ((x + k - i : Nat) : Int) by omega, ← Int.natCast_emod]
attribute [local irreducible] OpF Ld CellAt Sl Sv pcA usP
set_option maxRecDepth 100000 in
set_option maxHeartbeats 8000000 in
theorem r_moved (a x p i j k P : Nat) (ha : a ≤ 100) (hx : x ≤ 100) (hP : P ≤ 100) (hp : p ≤ 100) (hk : k ≤ 100) (hi : i < k) (hj : j < k) (B : Nat) (w0 : Wd) (hs : HS) :
    Fn Try.prog 82 #[iv a, iv x, iv p, iv i, iv j, iv k, iv P] B w0 hs (fun v h => v = .tuple #[iv (mv1 a x p i k ((j + k - i) % k) P), iv (mv2 a x p i j k ((j + k - i) % k))] ∧ h = hs) := by
  have e1 := md_int (x := x) hi
  have e2 := md_int (x := x) hj
  have e3 := md_int (x := j) hi
  have l1 : (x + k - i) % k < k := Nat.mod_lt _ (by omega)
  unfold mv1 mv2
  by_cases hap : a = p
  · have hne : ¬ (a ≠ p) := fun h' => h' hap
    rw [if_neg hne, if_neg hne]
    by_cases h2 : (x + k - i) % k < (j + k - i) % k
    · rw [if_pos h2, if_pos h2]
      refine fn_enter Try.func82 rfl Try.ntmps82 (by simp) ?_
      repeat' (first | (with_reducible first | refine c_seq ?_ | refine c_reg ?_ | refine c_region ?_ | refine c_block ?_ | refine c_skip ?_ | refine c_exit ?_ | refine c_ret ?_ | refine s_nil ?_ | refine x_then ?_ | refine x_then_exit ?_ | refine x_then_ret ?_ | refine x_block ?_ | refine x_block_ret ?_ | refine x_block_same ?_ | refine x_block_other (by first | rfl | decide) ?_ | refine q_nil ?_ | refine k_nil ?_) | ((with_reducible apply kP _); refine sP ?_) | ((with_reducible apply kP _); refine sX ?_) | ((with_reducible apply kQP); refine qP ?_) | ((with_reducible apply kQP); refine qX ?_) | ((with_reducible apply kC); first | refine cT ?_ | refine cF ?_ | (refine cI (fun h => ?_) (fun h => ?_) <;> (try (exfalso; omega))) | refine cB (fun h => ?_) (fun h => ?_)) | ((with_reducible apply kR); refine cQ ?_))
      all_goals first
        | (exfalso; omega)
        | (refine e_ret2 (hs' := hs) rfl rfl rfl ⟨?_, rfl⟩ SCt; rw [e1, hap]; try rfl)
        | trace_state
    · rw [if_neg h2, if_neg h2]
      refine fn_enter Try.func82 rfl Try.ntmps82 (by simp) ?_
      repeat' (first | (with_reducible first | refine c_seq ?_ | refine c_reg ?_ | refine c_region ?_ | refine c_block ?_ | refine c_skip ?_ | refine c_exit ?_ | refine c_ret ?_ | refine s_nil ?_ | refine x_then ?_ | refine x_then_exit ?_ | refine x_then_ret ?_ | refine x_block ?_ | refine x_block_ret ?_ | refine x_block_same ?_ | refine x_block_other (by first | rfl | decide) ?_ | refine q_nil ?_ | refine k_nil ?_) | ((with_reducible apply kP _); refine sP ?_) | ((with_reducible apply kP _); refine sX ?_) | ((with_reducible apply kQP); refine qP ?_) | ((with_reducible apply kQP); refine qX ?_) | ((with_reducible apply kC); first | refine cT ?_ | refine cF ?_ | (refine cI (fun h => ?_) (fun h => ?_) <;> (try (exfalso; omega))) | refine cB (fun h => ?_) (fun h => ?_)) | ((with_reducible apply kR); refine cQ ?_))
      all_goals first
        | (exfalso; omega)
        | (refine e_ret2 (hs' := hs) rfl rfl rfl ⟨?_, rfl⟩ SCt; rw [e2]; try rfl)
        | trace_state
  · rw [if_pos hap, if_pos hap]
    refine fn_enter Try.func82 rfl Try.ntmps82 (by simp) ?_
    repeat' (first | (with_reducible first | refine c_seq ?_ | refine c_reg ?_ | refine c_region ?_ | refine c_block ?_ | refine c_skip ?_ | refine c_exit ?_ | refine c_ret ?_ | refine s_nil ?_ | refine x_then ?_ | refine x_then_exit ?_ | refine x_then_ret ?_ | refine x_block ?_ | refine x_block_ret ?_ | refine x_block_same ?_ | refine x_block_other (by first | rfl | decide) ?_ | refine q_nil ?_ | refine k_nil ?_) | ((with_reducible apply kP _); refine sP ?_) | ((with_reducible apply kP _); refine sX ?_) | ((with_reducible apply kQP); refine qP ?_) | ((with_reducible apply kQP); refine qX ?_) | ((with_reducible apply kC); first | refine cT ?_ | refine cF ?_ | (refine cI (fun h => ?_) (fun h => ?_) <;> (try (exfalso; omega))) | refine cB (fun h => ?_) (fun h => ?_)) | ((with_reducible apply kR); refine cQ ?_))
    all_goals first
      | (exfalso; omega)
      | exact e_ret2 (hs' := hs) rfl rfl rfl ⟨rfl, rfl⟩ SCt
      | trace_state
set_option maxRecDepth 100000 in
set_option maxHeartbeats 8000000 in
theorem k_move (a x p i j k s P b7 b8 b16 b17 b21 b9 cP : Nat) (oP : Option Addr) (u v : Value) (ha : a ≤ 100) (hx : x ≤ 100) (hP : P ≤ 100) (hp : p ≤ 100) (hk : k ≤ 100) (hi : i < k) (hj : j < k) (hsk : s ≤ 100) (B : Nat) (w0 : Wd) (hs : HS)
    (h7 : (b7, [iv p]) ∈ hs) (h8 : (b8, [iv i]) ∈ hs) (h16 : (b16, [iv k]) ∈ hs) (h17 : (b17, [iv s]) ∈ hs) (h21 : (b21, [.slice oP (P + 1) cP, u, v]) ∈ hs) (h9 : (b9, [iv j]) ∈ hs) :
    Fn Try.prog 79 #[iv a, iv x, .pointer (some ⟨b7, 0, none⟩), .pointer (some ⟨b8, 0, none⟩), .pointer (some ⟨b16, 0, none⟩), .pointer (some ⟨b17, 0, none⟩), .pointer (some ⟨b21, 0, none⟩), .pointer (some ⟨b9, 0, none⟩)] B w0 hs (fun v h => v = .tuple #[iv (mv1 a x p i k s P), iv (mv2 a x p i j k s)] ∧ h = hs) := by
  have e1 := md_int (x := x) hi
  have e2 := md_int (x := x) hj
  have l1 : (x + k - i) % k < k := Nat.mod_lt _ (by omega)
  unfold mv1 mv2
  by_cases hap : a = p
  · have hne : ¬ (a ≠ p) := fun h' => h' hap
    rw [if_neg hne, if_neg hne]
    by_cases h2 : (x + k - i) % k < s
    · rw [if_pos h2, if_pos h2]
      refine fn_enter Try.func79 rfl Try.ntmps79 (by simp) ?_
      repeat' (first | ((with_reducible apply kP (.load 3 _)); refine sP ?_ (o_load rfl (ld_one (shTOf rfl) (own (by first | exact h7 | exact h8 | exact h16 | exact h17 | exact h9) rfl)))) | ((with_reducible apply kDP (.load 3 _)); refine dP ?_ (hX := rfl) (hv := o_load rfl (ld_one (shTOf rfl) (own (by first | exact h7 | exact h8 | exact h16 | exact h17 | exact h9) rfl)))) | ((with_reducible apply kQO (.load 3 _)); refine qP ?_ (o_load rfl (ld_one (shTOf rfl) (own (by first | exact h7 | exact h8 | exact h16 | exact h17 | exact h9) rfl)))) | (with_reducible first | refine c_seq ?_ | refine c_reg ?_ | refine c_region ?_ | refine c_block ?_ | refine c_skip ?_ | refine c_exit ?_ | refine c_ret ?_ | refine s_nil ?_ | refine x_then ?_ | refine x_then_exit ?_ | refine x_then_ret ?_ | refine x_block ?_ | refine x_block_ret ?_ | refine x_block_same ?_ | refine x_block_other (by first | rfl | decide) ?_ | refine q_nil ?_ | refine k_nil ?_) | ((with_reducible apply kP _); refine sP ?_) | ((with_reducible apply kP _); refine sX ?_) | ((with_reducible apply kQP); refine qP ?_) | ((with_reducible apply kQP); refine qX ?_) | ((with_reducible apply kC); first | refine cT ?_ | refine cF ?_ | (refine cI (fun h => ?_) (fun h => ?_) <;> (try (exfalso; omega))) | refine cB (fun h => ?_) (fun h => ?_)) | ((with_reducible apply kR); refine cQ ?_))
      all_goals first
        | (exfalso; omega)
        | (refine e_ret2 (hs' := hs) rfl rfl rfl ⟨?_, rfl⟩ SCt; rw [e1]; try rfl)
        | trace_state
    · rw [if_neg h2, if_neg h2]
      refine fn_enter Try.func79 rfl Try.ntmps79 (by simp) ?_
      repeat' (first | ((with_reducible apply kP (.load 3 _)); refine sP ?_ (o_load rfl (ld_one (shTOf rfl) (own (by first | exact h7 | exact h8 | exact h16 | exact h17 | exact h9) rfl)))) | ((with_reducible apply kDP (.load 3 _)); refine dP ?_ (hX := rfl) (hv := o_load rfl (ld_one (shTOf rfl) (own (by first | exact h7 | exact h8 | exact h16 | exact h17 | exact h9) rfl)))) | ((with_reducible apply kQO (.load 3 _)); refine qP ?_ (o_load rfl (ld_one (shTOf rfl) (own (by first | exact h7 | exact h8 | exact h16 | exact h17 | exact h9) rfl)))) | ((with_reducible apply kP (.load 22 _)); refine sP ?_ (o_load rfl (ld_one (shTOf rfl) (own h21 rfl)))) | ((with_reducible apply kDP (.load 22 _)); refine dP ?_ (hX := rfl) (hv := o_load rfl (ld_one (shTOf rfl) (own h21 rfl)))) | ((with_reducible apply kQO (.load 22 _)); refine qP ?_ (o_load rfl (ld_one (shTOf rfl) (own h21 rfl)))) | (with_reducible first | refine c_seq ?_ | refine c_reg ?_ | refine c_region ?_ | refine c_block ?_ | refine c_skip ?_ | refine c_exit ?_ | refine c_ret ?_ | refine s_nil ?_ | refine x_then ?_ | refine x_then_exit ?_ | refine x_then_ret ?_ | refine x_block ?_ | refine x_block_ret ?_ | refine x_block_same ?_ | refine x_block_other (by first | rfl | decide) ?_ | refine q_nil ?_ | refine k_nil ?_) | ((with_reducible apply kP _); refine sP ?_) | ((with_reducible apply kP _); refine sX ?_) | ((with_reducible apply kQP); refine qP ?_) | ((with_reducible apply kQP); refine qX ?_) | ((with_reducible apply kC); first | refine cT ?_ | refine cF ?_ | (refine cI (fun h => ?_) (fun h => ?_) <;> (try (exfalso; omega))) | refine cB (fun h => ?_) (fun h => ?_)) | ((with_reducible apply kR); refine cQ ?_))
      all_goals first
        | (exfalso; omega)
        | (refine e_ret2 (hs' := hs) rfl rfl rfl ⟨?_, rfl⟩ SCt; rw [e2, show ((P + 1 : Nat) : Int) - 1 = (P : Int) by omega]; try rfl)
        | trace_state
  · rw [if_pos hap, if_pos hap]
    refine fn_enter Try.func79 rfl Try.ntmps79 (by simp) ?_
    repeat' (first | ((with_reducible apply kP (.load 3 _)); refine sP ?_ (o_load rfl (ld_one (shTOf rfl) (own (by first | exact h7 | exact h8 | exact h16 | exact h17 | exact h9) rfl)))) | ((with_reducible apply kDP (.load 3 _)); refine dP ?_ (hX := rfl) (hv := o_load rfl (ld_one (shTOf rfl) (own (by first | exact h7 | exact h8 | exact h16 | exact h17 | exact h9) rfl)))) | ((with_reducible apply kQO (.load 3 _)); refine qP ?_ (o_load rfl (ld_one (shTOf rfl) (own (by first | exact h7 | exact h8 | exact h16 | exact h17 | exact h9) rfl)))) | (with_reducible first | refine c_seq ?_ | refine c_reg ?_ | refine c_region ?_ | refine c_block ?_ | refine c_skip ?_ | refine c_exit ?_ | refine c_ret ?_ | refine s_nil ?_ | refine x_then ?_ | refine x_then_exit ?_ | refine x_then_ret ?_ | refine x_block ?_ | refine x_block_ret ?_ | refine x_block_same ?_ | refine x_block_other (by first | rfl | decide) ?_ | refine q_nil ?_ | refine k_nil ?_) | ((with_reducible apply kP _); refine sP ?_) | ((with_reducible apply kP _); refine sX ?_) | ((with_reducible apply kQP); refine qP ?_) | ((with_reducible apply kQP); refine qX ?_) | ((with_reducible apply kC); first | refine cT ?_ | refine cF ?_ | (refine cI (fun h => ?_) (fun h => ?_) <;> (try (exfalso; omega))) | refine cB (fun h => ?_) (fun h => ?_)) | ((with_reducible apply kR); refine cQ ?_))
    all_goals first
      | (exfalso; omega)
      | exact e_ret2 (hs' := hs) rfl rfl rfl ⟨rfl, rfl⟩ SCt
      | trace_state
end Go.Proofs.Ytnbickholedckaa
