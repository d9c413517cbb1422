/- Whether a cap is too long for the laws. -/
import Derived.Test.YtmblgbcipniecaaGreatDoorMB2
import Derived.Test.YtmblgbcipniecaaGreatDoorMB4
namespace Go.Proofs.YtmblgbcipniecaaGreatDoor
open Go.RowKit
attribute [local irreducible] OpF Ld CellAt Sl Sv pcA
def lgP (p : Pc) : Prop := 30 < (p.sd.length : Int) ∨ 30 < (p.an.length : Int)
def lgC (ps : List Pc) (m : Nat) : Prop := 30 < (ps.length : Int) ∨ 60 < (m : Int) ∨ ∃ i, i < ps.length ∧ lgP (pcA ps i)
set_option maxRecDepth 100000 in
set_option maxHeartbeats 8000000 in
theorem k_Long (ps : List Pc) (oP oS : Option Addr) (cP m cS : Nat) (sm : List Int) (e : Int) (B : Nat) (w0 : Wd) (hs : HS) (hC : CapM B w0 hs oP oS ps sm) :
    Fn Tryz.prog 4 #[.agg #[.slice oP ps.length cP, .slice oS m cS, iv e]] B w0 hs (fun v h => (∃ b : Bool, v = .bool b ∧ (b = true ↔ lgC ps m)) ∧ h = hs) := by
  by_cases h1 : 30 < (ps.length : Int)
  · refine fn_enter Tryz.func4 rfl Tryz.ntmps4 (by simp) ?_
    repeat' (first | ((with_reducible apply kP (.box 25 _)); refine sBA (fun b1 => ?_)) | (with_reducible first | refine c_seq ?_ | refine c_reg ?_ | refine c_region ?_ | refine c_block ?_ | refine c_skip ?_ | refine c_exit ?_ | refine c_ret ?_ | refine s_nil ?_ | refine x_then ?_ | refine x_then_exit ?_ | refine x_then_ret ?_ | refine x_block ?_ | refine x_block_ret ?_ | refine x_block_same ?_ | refine x_block_other (by first | rfl | decide) ?_ | refine q_nil ?_ | refine k_nil ?_) | ((with_reducible apply kG); first | refine gY1 ?_ | refine gN1 ?_ | refine gU1 ?_ | (refine gD1 (fun h => ?_) (fun h => ?_) <;> (try (exfalso; omega))) | refine gB1 (fun h => ?_) (fun h => ?_)) | ((with_reducible apply kP (.box _ _)); first | refine sBA (fun b => ?_) | refine sB (fun b => ?_)) | ((with_reducible apply kP _); refine sP ?_) | ((with_reducible apply kP _); refine sX ?_) | ((with_reducible apply kC); first | refine cT ?_ | refine cF ?_ | (refine cI (fun h => ?_) (fun h => ?_) <;> (try (exfalso; omega))) | refine cB (fun h => ?_) (fun h => ?_)))
    all_goals first | exact e_ret1 (hs' := hs) rfl rfl ⟨⟨true, rfl, by simp only [true_iff]; exact .inl h1⟩, rfl⟩ SCt | trace_state
  · by_cases h2 : 60 < (m : Int)
    · refine fn_enter Tryz.func4 rfl Tryz.ntmps4 (by simp) ?_
      repeat' (first | ((with_reducible apply kP (.box 25 _)); refine sBA (fun b1 => ?_)) | (with_reducible first | refine c_seq ?_ | refine c_reg ?_ | refine c_region ?_ | refine c_block ?_ | refine c_skip ?_ | refine c_exit ?_ | refine c_ret ?_ | refine s_nil ?_ | refine x_then ?_ | refine x_then_exit ?_ | refine x_then_ret ?_ | refine x_block ?_ | refine x_block_ret ?_ | refine x_block_same ?_ | refine x_block_other (by first | rfl | decide) ?_ | refine q_nil ?_ | refine k_nil ?_) | ((with_reducible apply kG); first | refine gY1 ?_ | refine gN1 ?_ | refine gU1 ?_ | (refine gD1 (fun h => ?_) (fun h => ?_) <;> (try (exfalso; omega))) | refine gB1 (fun h => ?_) (fun h => ?_)) | ((with_reducible apply kP (.box _ _)); first | refine sBA (fun b => ?_) | refine sB (fun b => ?_)) | ((with_reducible apply kP _); refine sP ?_) | ((with_reducible apply kP _); refine sX ?_) | ((with_reducible apply kC); first | refine cT ?_ | refine cF ?_ | (refine cI (fun h => ?_) (fun h => ?_) <;> (try (exfalso; omega))) | refine cB (fun h => ?_) (fun h => ?_)))
      all_goals first | exact e_ret1 (hs' := hs) rfl rfl ⟨⟨true, rfl, by simp only [true_iff]; exact .inr (.inl h2)⟩, rfl⟩ SCt | trace_state
    · have hc0 := fun hs' (h : hs.Sublist hs') i (hi : i < ps.length) => hC.c0 h hi
      have hc1 := fun hs' (h : hs.Sublist hs') i (hi : i < ps.length) => hC.c1 h hi
      have hiS := fun i (hi : i < ps.length) => hC.isS hi
      refine fn_enter Tryz.func4 rfl Tryz.ntmps4 (by simp) ?_
      repeat' (first | ((with_reducible apply kP (.box 25 _)); refine sBA (fun b1 => ?_)) | (with_reducible first | refine c_seq ?_ | refine c_reg ?_ | refine c_region ?_ | refine c_block ?_ | refine c_skip ?_ | refine c_exit ?_ | refine c_ret ?_ | refine s_nil ?_ | refine x_then ?_ | refine x_then_exit ?_ | refine x_then_ret ?_ | refine x_block ?_ | refine x_block_ret ?_ | refine x_block_same ?_ | refine x_block_other (by first | rfl | decide) ?_ | refine q_nil ?_ | refine k_nil ?_) | ((with_reducible apply kG); first | refine gY1 ?_ | refine gN1 ?_ | refine gU1 ?_ | (refine gD1 (fun h => ?_) (fun h => ?_) <;> (try (exfalso; omega))) | refine gB1 (fun h => ?_) (fun h => ?_)) | ((with_reducible apply kP (.box _ _)); first | refine sBA (fun b => ?_) | refine sB (fun b => ?_)) | ((with_reducible apply kP _); refine sP ?_) | ((with_reducible apply kP _); refine sX ?_) | ((with_reducible apply kC); first | refine cT ?_ | refine cF ?_ | (refine cI (fun h => ?_) (fun h => ?_) <;> (try (exfalso; omega))) | refine cB (fun h => ?_) (fun h => ?_)))
      refine c_loop (fun i : Nat => [(1, .pointer (some ⟨b1, 0, none⟩)), (3, iv i)]) (fun _ => (b1, [.slice oP ps.length cP, .slice oS m cS, iv e]) :: hs) (fun i => i ≤ ps.length ∧ ∀ j, j < i → ¬ lgP (pcA ps j)) (fun i => ps.length - i) 0 ⟨Nat.zero_le _, fun j hj => absurd hj (Nat.not_lt_zero _)⟩ (by repeat' first | trivial | rfl | apply And.intro) SCt ?_
      rintro i ⟨hi, hno⟩
      by_cases hi' : i < ps.length
      · have hc0 := fun hs' (h : hs.Sublist hs') => hC.c0 h hi'
        have hc1 := fun hs' (h : hs.Sublist hs') => hC.c1 h hi'
        have iP := hC.isS hi'
        have hsd : ∀ v : Bool, (v = true ↔ 30 < ((pcA ps i).sd.length : Int)) → True := fun _ _ => trivial
        by_cases g1 : 30 < ((pcA ps i).sd.length : Int)
        · repeat' (first | ((with_reducible apply kP (.fieldAddr _ _ _)); refine sP ?_ (o_fieldE rfl (by assumption) (foTOf2 rfl rfl) (by with_reducible first | exact bb0 _ | exact bb1 _ | exact bb2 _ _))) | ((with_reducible apply kDP (.fieldAddr _ _ _)); refine dP ?_ (hX := rfl) (hv := o_fieldE rfl (by assumption) (foTOf2 rfl rfl) (by with_reducible first | exact bb0 _ | exact bb1 _ | exact bb2 _ _))) | ((with_reducible apply kQO (.fieldAddr _ _ _)); refine qP ?_ (o_fieldE rfl (by assumption) (foTOf2 rfl rfl) (by with_reducible first | exact bb0 _ | exact bb1 _ | exact bb2 _ _))) | ((with_reducible apply kP (.load 35 (.tmp 25))); refine sP ?_ (o_load rfl (ld_one (shTOf rfl) (hc0 _ SBt)))) | ((with_reducible apply kDP (.load 35 (.tmp 25))); refine dP ?_ (hX := rfl) (hv := o_load rfl (ld_one (shTOf rfl) (hc0 _ SBt)))) | ((with_reducible apply kQO (.load 35 (.tmp 25))); refine qP ?_ (o_load rfl (ld_one (shTOf rfl) (hc0 _ SBt)))) | (with_reducible first | refine c_seq ?_ | refine c_reg ?_ | refine c_region ?_ | refine c_block ?_ | refine c_skip ?_ | refine c_exit ?_ | refine c_ret ?_ | refine s_nil ?_ | refine x_then ?_ | refine x_then_exit ?_ | refine x_then_ret ?_ | refine x_block ?_ | refine x_block_ret ?_ | refine x_block_same ?_ | refine x_block_other (by first | rfl | decide) ?_ | refine q_nil ?_ | refine k_nil ?_) | ((with_reducible apply kG); first | refine gY1 ?_ | refine gN1 ?_ | refine gU1 ?_ | (refine gD1 (fun h => ?_) (fun h => ?_) <;> (try (exfalso; omega))) | refine gB1 (fun h => ?_) (fun h => ?_)) | ((with_reducible apply kP (.box _ _)); first | refine sBA (fun b => ?_) | refine sB (fun b => ?_)) | ((with_reducible apply kP _); refine sP ?_) | ((with_reducible apply kP _); refine sX ?_) | ((with_reducible apply kC); first | refine cT ?_ | refine cF ?_ | (refine cI (fun h => ?_) (fun h => ?_) <;> (try (exfalso; omega))) | refine cB (fun h => ?_) (fun h => ?_)))
          all_goals first | exact e_ret1 (hs' := hs) rfl rfl ⟨⟨true, rfl, by simp only [true_iff]; exact .inr (.inr ⟨i, hi', .inl g1⟩)⟩, rfl⟩ SCt | trace_state
        · by_cases g2 : 30 < ((pcA ps i).an.length : Int)
          · repeat' (first | ((with_reducible apply kP (.fieldAddr _ _ _)); refine sP ?_ (o_fieldE rfl (by assumption) (foTOf2 rfl rfl) (by with_reducible first | exact bb0 _ | exact bb1 _ | exact bb2 _ _))) | ((with_reducible apply kDP (.fieldAddr _ _ _)); refine dP ?_ (hX := rfl) (hv := o_fieldE rfl (by assumption) (foTOf2 rfl rfl) (by with_reducible first | exact bb0 _ | exact bb1 _ | exact bb2 _ _))) | ((with_reducible apply kQO (.fieldAddr _ _ _)); refine qP ?_ (o_fieldE rfl (by assumption) (foTOf2 rfl rfl) (by with_reducible first | exact bb0 _ | exact bb1 _ | exact bb2 _ _))) | ((with_reducible apply kP (.load 35 (.tmp 25))); refine sP ?_ (o_load rfl (ld_one (shTOf rfl) (hc0 _ SBt)))) | ((with_reducible apply kDP (.load 35 (.tmp 25))); refine dP ?_ (hX := rfl) (hv := o_load rfl (ld_one (shTOf rfl) (hc0 _ SBt)))) | ((with_reducible apply kQO (.load 35 (.tmp 25))); refine qP ?_ (o_load rfl (ld_one (shTOf rfl) (hc0 _ SBt)))) | ((with_reducible apply kP (.load 35 (.tmp 34))); refine sP ?_ (o_load rfl (ld_one (shTOf rfl) (hc1 _ SBt)))) | ((with_reducible apply kDP (.load 35 (.tmp 34))); refine dP ?_ (hX := rfl) (hv := o_load rfl (ld_one (shTOf rfl) (hc1 _ SBt)))) | ((with_reducible apply kQO (.load 35 (.tmp 34))); refine qP ?_ (o_load rfl (ld_one (shTOf rfl) (hc1 _ SBt)))) | (with_reducible first | refine c_seq ?_ | refine c_reg ?_ | refine c_region ?_ | refine c_block ?_ | refine c_skip ?_ | refine c_exit ?_ | refine c_ret ?_ | refine s_nil ?_ | refine x_then ?_ | refine x_then_exit ?_ | refine x_then_ret ?_ | refine x_block ?_ | refine x_block_ret ?_ | refine x_block_same ?_ | refine x_block_other (by first | rfl | decide) ?_ | refine q_nil ?_ | refine k_nil ?_) | ((with_reducible apply kG); first | refine gY1 ?_ | refine gN1 ?_ | refine gU1 ?_ | (refine gD1 (fun h => ?_) (fun h => ?_) <;> (try (exfalso; omega))) | refine gB1 (fun h => ?_) (fun h => ?_)) | ((with_reducible apply kP (.box _ _)); first | refine sBA (fun b => ?_) | refine sB (fun b => ?_)) | ((with_reducible apply kP _); refine sP ?_) | ((with_reducible apply kP _); refine sX ?_) | ((with_reducible apply kC); first | refine cT ?_ | refine cF ?_ | (refine cI (fun h => ?_) (fun h => ?_) <;> (try (exfalso; omega))) | refine cB (fun h => ?_) (fun h => ?_)))
            all_goals first | exact e_ret1 (hs' := hs) rfl rfl ⟨⟨true, rfl, by simp only [true_iff]; exact .inr (.inr ⟨i, hi', .inr g2⟩)⟩, rfl⟩ SCt | trace_state
          · repeat' (first | ((with_reducible apply kP (.fieldAddr _ _ _)); refine sP ?_ (o_fieldE rfl (by assumption) (foTOf2 rfl rfl) (by with_reducible first | exact bb0 _ | exact bb1 _ | exact bb2 _ _))) | ((with_reducible apply kDP (.fieldAddr _ _ _)); refine dP ?_ (hX := rfl) (hv := o_fieldE rfl (by assumption) (foTOf2 rfl rfl) (by with_reducible first | exact bb0 _ | exact bb1 _ | exact bb2 _ _))) | ((with_reducible apply kQO (.fieldAddr _ _ _)); refine qP ?_ (o_fieldE rfl (by assumption) (foTOf2 rfl rfl) (by with_reducible first | exact bb0 _ | exact bb1 _ | exact bb2 _ _))) | ((with_reducible apply kP (.load 35 (.tmp 25))); refine sP ?_ (o_load rfl (ld_one (shTOf rfl) (hc0 _ SBt)))) | ((with_reducible apply kDP (.load 35 (.tmp 25))); refine dP ?_ (hX := rfl) (hv := o_load rfl (ld_one (shTOf rfl) (hc0 _ SBt)))) | ((with_reducible apply kQO (.load 35 (.tmp 25))); refine qP ?_ (o_load rfl (ld_one (shTOf rfl) (hc0 _ SBt)))) | ((with_reducible apply kP (.load 35 (.tmp 34))); refine sP ?_ (o_load rfl (ld_one (shTOf rfl) (hc1 _ SBt)))) | ((with_reducible apply kDP (.load 35 (.tmp 34))); refine dP ?_ (hX := rfl) (hv := o_load rfl (ld_one (shTOf rfl) (hc1 _ SBt)))) | ((with_reducible apply kQO (.load 35 (.tmp 34))); refine qP ?_ (o_load rfl (ld_one (shTOf rfl) (hc1 _ SBt)))) | (with_reducible first | refine c_seq ?_ | refine c_reg ?_ | refine c_region ?_ | refine c_block ?_ | refine c_skip ?_ | refine c_exit ?_ | refine c_ret ?_ | refine s_nil ?_ | refine x_then ?_ | refine x_then_exit ?_ | refine x_then_ret ?_ | refine x_block ?_ | refine x_block_ret ?_ | refine x_block_same ?_ | refine x_block_other (by first | rfl | decide) ?_ | refine q_nil ?_ | refine k_nil ?_) | ((with_reducible apply kG); first | refine gY1 ?_ | refine gN1 ?_ | refine gU1 ?_ | (refine gD1 (fun h => ?_) (fun h => ?_) <;> (try (exfalso; omega))) | refine gB1 (fun h => ?_) (fun h => ?_)) | ((with_reducible apply kP (.box _ _)); first | refine sBA (fun b => ?_) | refine sB (fun b => ?_)) | ((with_reducible apply kP _); refine sP ?_) | ((with_reducible apply kP _); refine sX ?_) | ((with_reducible apply kC); first | refine cT ?_ | refine cF ?_ | (refine cI (fun h => ?_) (fun h => ?_) <;> (try (exfalso; omega))) | refine cB (fun h => ?_) (fun h => ?_)))
            all_goals first | exact r_end (i + 1) ⟨hi', fun j hj => by
              by_cases e : j = i
              · subst e; exact fun h => h.elim g1 g2
              · exact hno j (by omega)⟩ (by omega) (by repeat' first | trivial | rfl | apply And.intro) SCt | trace_state
      · repeat' (first | (with_reducible first | refine c_seq ?_ | refine c_reg ?_ | refine c_region ?_ | refine c_block ?_ | refine c_skip ?_ | refine c_exit ?_ | refine c_ret ?_ | refine s_nil ?_ | refine x_then ?_ | refine x_then_exit ?_ | refine x_then_ret ?_ | refine x_block ?_ | refine x_block_ret ?_ | refine x_block_same ?_ | refine x_block_other (by first | rfl | decide) ?_ | refine q_nil ?_ | refine k_nil ?_) | ((with_reducible apply kG); first | refine gY1 ?_ | refine gN1 ?_ | refine gU1 ?_ | (refine gD1 (fun h => ?_) (fun h => ?_) <;> (try (exfalso; omega))) | refine gB1 (fun h => ?_) (fun h => ?_)) | ((with_reducible apply kP (.box _ _)); first | refine sBA (fun b => ?_) | refine sB (fun b => ?_)) | ((with_reducible apply kP _); refine sP ?_) | ((with_reducible apply kP _); refine sX ?_) | ((with_reducible apply kC); first | refine cT ?_ | refine cF ?_ | (refine cI (fun h => ?_) (fun h => ?_) <;> (try (exfalso; omega))) | refine cB (fun h => ?_) (fun h => ?_)))
        all_goals first | exact e_ret1 (hs' := hs) rfl rfl ⟨⟨false, rfl, by
          simp only [Bool.false_eq_true, false_iff]
          rintro (h | h | ⟨j, hj, h⟩)
          · exact h1 h
          · exact h2 h
          · exact hno j (by omega) h⟩, rfl⟩ SCt | trace_state
end Go.Proofs.YtmblgbcipniecaaGreatDoor

namespace Go.Proofs.YtmblgbcipniecaaGreatDoor
open Go.RowKit
attribute [local irreducible] OpF Ld CellAt Sl Sv pcA
def NewI (l : List Int) (u : Value) (blk : HS) : Prop := ∃ oa c, u = .slice oa l.length c ∧ RowOk oa c 1 (ivs l) blk
set_option maxRecDepth 100000 in
set_option maxHeartbeats 8000000 in
theorem r_same (oa ob : Option Addr) (c d : Nat) (l m : List Int) (B : Nat) (w0 : Wd) (hs : HS) (h1 : Sl B w0 hs oa l) (h2 : Sl B w0 hs ob m) (hl : l.length ≤ 1000000) :
    Fn Tryz.prog 21 #[.slice oa l.length c, .slice ob m.length d] B w0 hs (fun v hs' => v = .bool (decide (l = m)) ∧ hs' = hs) := by
  refine fn_enter Tryz.func21 rfl Tryz.ntmps21 (by simp) ?_
  repeat' (first | (with_reducible first | refine c_seq ?_ | refine c_reg ?_ | refine c_region ?_ | refine c_block ?_ | refine c_skip ?_ | refine c_exit ?_ | refine c_ret ?_ | refine s_nil ?_ | refine x_then ?_ | refine x_then_exit ?_ | refine x_then_ret ?_ | refine x_block ?_ | refine x_block_ret ?_ | refine x_block_same ?_ | refine x_block_other (by first | rfl | decide) ?_ | refine q_nil ?_ | refine k_nil ?_) | ((with_reducible apply kP _); refine sP ?_) | ((with_reducible apply kP _); refine sX ?_) | ((with_reducible apply kQP); refine qP ?_) | ((with_reducible apply kQP); refine qX ?_) | ((with_reducible apply kC); first | refine cT ?_ | refine cF ?_ | (refine cI (fun h => ?_) (fun h => ?_) <;> (try (exfalso; omega))) | refine cB (fun h => ?_) (fun h => ?_)) | ((with_reducible apply kR); refine cQ ?_))
  · exact e_ret1 rfl rfl ⟨by rw [decide_eq_false (fun e => by subst e; omega)], rfl⟩ sb0
  have hlen : l.length = m.length := by omega
  refine c_loop (fun k : Nat => [(0, .slice oa l.length c), (1, .slice ob m.length d), (5, iv k)]) (fun _ => hs) (fun k => k ≤ l.length ∧ ∀ i, i < k → l.getD i 0 = m.getD i 0) (fun k => l.length - k) 0 ⟨by omega, by intro i hi; omega⟩ (by repeat' first | trivial | rfl | apply And.intro) sb0 ?_
  rintro k ⟨hk, hg⟩
  by_cases hk' : k < l.length
  · have g1 := h1.any hk'
    have g2 := h2.any (show k < m.length by omega)
    repeat' (first | (with_reducible first | refine c_seq ?_ | refine c_reg ?_ | refine c_region ?_ | refine c_block ?_ | refine c_skip ?_ | refine c_exit ?_ | refine c_ret ?_ | refine s_nil ?_ | refine x_then ?_ | refine x_then_exit ?_ | refine x_then_ret ?_ | refine x_block ?_ | refine x_block_ret ?_ | refine x_block_same ?_ | refine x_block_other (by first | rfl | decide) ?_ | refine q_nil ?_ | refine k_nil ?_) | ((with_reducible apply kP _); refine sP ?_) | ((with_reducible apply kP _); refine sX ?_) | ((with_reducible apply kQP); refine qP ?_) | ((with_reducible apply kQP); refine qX ?_) | ((with_reducible apply kC); first | refine cT ?_ | refine cF ?_ | (refine cI (fun h => ?_) (fun h => ?_) <;> (try (exfalso; omega))) | refine cB (fun h => ?_) (fun h => ?_)) | ((with_reducible apply kR); refine cQ ?_))
    · exact e_ret1 rfl rfl ⟨by rw [decide_eq_false (fun e => by subst e; omega)], rfl⟩ sb0
    · refine r_end (k + 1) ⟨by omega, fun i hi => ?_⟩ (by omega) ⟨rfl, rfl, rfl, trivial⟩ sb0
      rcases Nat.lt_succ_iff_lt_or_eq.1 hi with hi | rfl
      · exact hg i hi
      · omega
  · repeat' (first | (with_reducible first | refine c_seq ?_ | refine c_reg ?_ | refine c_region ?_ | refine c_block ?_ | refine c_skip ?_ | refine c_exit ?_ | refine c_ret ?_ | refine s_nil ?_ | refine x_then ?_ | refine x_then_exit ?_ | refine x_then_ret ?_ | refine x_block ?_ | refine x_block_ret ?_ | refine x_block_same ?_ | refine x_block_other (by first | rfl | decide) ?_ | refine q_nil ?_ | refine k_nil ?_) | ((with_reducible apply kP _); refine sP ?_) | ((with_reducible apply kP _); refine sX ?_) | ((with_reducible apply kQP); refine qP ?_) | ((with_reducible apply kQP); refine qX ?_) | ((with_reducible apply kC); first | refine cT ?_ | refine cF ?_ | (refine cI (fun h => ?_) (fun h => ?_) <;> (try (exfalso; omega))) | refine cB (fun h => ?_) (fun h => ?_)) | ((with_reducible apply kR); refine cQ ?_))
    refine e_ret1 rfl rfl ⟨?_, rfl⟩ sb0
    rw [decide_eq_true]
    refine List.ext_getElem hlen (fun i hi hi2 => ?_)
    have := hg i (by omega)
    simpa [List.getD, hi, hi2] using this
/-- A piece in new memory. -/
def NewP (sd an : List Int) (u : Value) (blk : HS) : Prop := ∃ oa ob ca cb k1 k2, u = .agg #[.slice oa sd.length ca, .slice ob an.length cb] ∧ RowOk oa ca 1 (ivs sd) k1 ∧ RowOk ob cb 1 (ivs an) k2 ∧ blk = k2 ++ k1
end Go.Proofs.YtmblgbcipniecaaGreatDoor

namespace Go.Proofs.YtmblgbcipniecaaGreatDoor
open Go.RowKit
theorem pcA_lt {l : List Pc} {p : Pc} {j : Nat} (h : j < l.length) : pcA (l ++ [p]) j = pcA l j := by unfold pcA; rw [List.getD_eq_getElem?_getD, List.getD_eq_getElem?_getD, List.getElem?_append_left h]
theorem pcA_eq (l : List Pc) (p : Pc) : pcA (l ++ [p]) l.length = p := by unfold pcA; rw [List.getD_eq_getElem?_getD, List.getElem?_append_right (Nat.le_refl _)]; simp
attribute [local irreducible] OpF Ld CellAt Sl Sv pcA
structure Rp where
  p : Pc
  k : HS
def rpP (rs : List Rp) : List Pc := rs.map (·.p)
def rpb (rs : List Rp) : HS := rs.foldl (fun acc r => r.k ++ acc) []
theorem rpb_snoc (rs : List Rp) (r : Rp) : rpb (rs ++ [r]) = r.k ++ rpb rs := by simp [rpb]
def RpOk (r : Rp) : Prop := ∃ k1 k2, RowOk r.p.oa r.p.ca 1 (ivs r.p.sd) k1 ∧ RowOk r.p.ob r.p.cb 1 (ivs r.p.an) k2 ∧ r.k = k2 ++ k1
theorem ivs_take1 {l : List Int} {k : Nat} (h : k < l.length) : ivs (l.take (k + 1)) = ivs (l.take k) ++ [iv (l.getD k 0)] := by
  rw [List.take_succ_eq_append_getElem h, ← ivs_snoc, show l[k] = l.getD k 0 by simp [List.getD, h]]
theorem ivs_take4 {l : List Int} {j : Nat} (h : j * 4 + 3 < l.length) : ivs (l.take ((j + 1) * 4)) = ivs (l.take (j * 4)) ++ [iv (l.getD (j * 4) 0), iv (l.getD (j * 4 + 1) 0), iv (l.getD (j * 4 + 2) 0), iv (l.getD (j * 4 + 3) 0)] := by
  rw [show (j + 1) * 4 = j * 4 + 3 + 1 by omega, ivs_take1 h, ivs_take1 (k := j * 4 + 2) (by omega), ivs_take1 (k := j * 4 + 1) (by omega), ivs_take1 (k := j * 4) (by omega)]
  simp only [List.append_assoc, List.cons_append, List.nil_append]
structure CpJ where
  i : Nat
  oa : Option Addr
  c : Nat
  ko : HS
structure CpI where
  i : Nat
  oa : Option Addr
  c : Nat
  rs : List Rp
  bo : HS
end Go.Proofs.YtmblgbcipniecaaGreatDoor

namespace Go.Proofs.YtmblgbcipniecaaGreatDoor
open Go.RowKit
attribute [local irreducible] OpF Ld CellAt Sl Sv pcA
theorem eq56 : eqt Tryz.prog 39 = some 4 := by kernel_rfl
theorem o_neqS {n : NN} {B : Nat} {w0 : Wd} {fr : FR} {hs : HS} {ty t' : TypeId} {x y : Operand} {xs : List Int} (hx : opv fr x = some (.agg (ivs xs).toArray)) (hy : opv fr y = some (.agg (ivs xs).toArray)) (h : xs.length = 4) : OpF Tryz.prog n B w0 (.binOp .neq 39 x y t') ty fr hs (.bool false) := by
  have := o_neqA (n := n) (B := B) (w0 := w0) (hs := hs) (ty := ty) (t' := t') eq56 hx hy h h
  rwa [decide_eq_false (fun hh => hh rfl)] at this
set_option maxRecDepth 100000 in
set_option maxHeartbeats 8000000 in
theorem r_SameT (ps qs : List Pc) (oP oS oP' oS' : Option Addr) (cP m cS cP' cS' : Nat) (sm : List Int) (e : Int) (hn : ps.length ≤ 10000) (hq : qs.length = ps.length) (hl : ∀ i, i < ps.length → (pcA ps i).sd.length ≤ 100 ∧ (pcA ps i).an.length ≤ 100) (heq : ∀ i, i < ps.length → (pcA ps i).sd = (pcA qs i).sd ∧ (pcA ps i).an = (pcA qs i).an) (hsm : sm.length = m * 4) (hm : m ≤ 10000) (B : Nat) (w0 : Wd) (hs : HS) (hC : CapM B w0 hs oP oS ps sm) (hD : CapM B w0 hs oP' oS' qs sm) :
    Fn Tryz.prog 10 #[.agg #[.slice oP ps.length cP, .slice oS m cS, iv e], .agg #[.slice oP' ps.length cP', .slice oS' m cS', iv e]] B w0 hs (fun v h => v = .bool true ∧ h = hs) := by
  refine fn_enter Tryz.func10 rfl Tryz.ntmps10 (by simp) ?_
  repeat' (first | ((with_reducible apply kP (.box 25 (.tmp 0))); refine sBA (fun b1 => ?_)) | ((with_reducible apply kP (.box 25 (.tmp 1))); refine sBA (fun b2 => ?_)) | ((with_reducible apply kRg 6); refine cD [1, 1, 1, 1, 1, 1, 1, 1, 1, 1, 1, 1, 4, 1, 1, 1, 1, 1, 1, 1, 1, 1, 1, 1, 1, 1, 1, 4, 1, 1] ?_) | (with_reducible first | refine c_seq ?_ | refine c_reg ?_ | refine c_region ?_ | refine c_block ?_ | refine c_skip ?_ | refine c_exit ?_ | refine c_ret ?_ | refine s_nil ?_ | refine x_then ?_ | refine x_then_exit ?_ | refine x_then_ret ?_ | refine x_block ?_ | refine x_block_ret ?_ | refine x_block_same ?_ | refine x_block_other (by first | rfl | decide) ?_ | refine q_nil ?_ | refine k_nil ?_) | ((with_reducible apply kG); first | refine gY1 ?_ | refine gN1 ?_ | refine gU1 ?_ | (refine gD1 (fun h => ?_) (fun h => ?_) <;> (try (exfalso; omega))) | refine gB1 (fun h => ?_) (fun h => ?_)) | ((with_reducible apply kP (.box _ _)); first | refine sBA (fun b => ?_) | refine sB (fun b => ?_)) | ((with_reducible apply kP _); refine sP ?_) | ((with_reducible apply kP _); refine sX ?_) | ((with_reducible apply kQP); refine qP ?_) | ((with_reducible apply kQP); refine qX ?_) | ((with_reducible apply kC); first | refine cT ?_ | refine cF ?_ | (refine cI (fun h => ?_) (fun h => ?_) <;> (try (exfalso; omega))) | refine cB (fun h => ?_) (fun h => ?_)) | ((with_reducible apply kR); refine cQ ?_) | ((with_reducible apply kDG); first | refine dY1 ?_ | refine dNo1 ?_ | refine dU1 ?_ | (refine dD1 (fun h => ?_) (fun h => ?_) <;> (try (exfalso; omega))) | refine dB1 (fun h => ?_) (fun h => ?_)) | ((with_reducible apply kDP _); refine dP ?_) | ((with_reducible apply kDP _); refine dX ?_))
  refine c_loop (fun i : Nat => [(2, .pointer (some ⟨b1, 0, none⟩)), (3, .pointer (some ⟨b2, 0, none⟩)), (5, iv i)]) (fun _ => (b2, [.slice oP' ps.length cP', .slice oS' m cS', iv e]) :: (b1, [.slice oP ps.length cP, .slice oS m cS, iv e]) :: hs) (fun i => i ≤ ps.length) (fun i => ps.length - i) 0 (Nat.zero_le _) (by repeat' first | trivial | rfl | apply And.intro) SCt ?_
  intro i hi
  by_cases hi' : i < ps.length
  · have hi2 : i < qs.length := by omega
    have iP := hC.isS hi'
    have iQ := hD.isS hi2
    have h1 := fun hs' (h : hs.Sublist hs') => hC.c0 h hi'
    have h2 := fun hs' (h : hs.Sublist hs') => hC.c1 h hi'
    have h3 := fun hs' (h : hs.Sublist hs') => hD.c0 h hi2
    have h4 := fun hs' (h : hs.Sublist hs') => hD.c1 h hi2
    obtain ⟨e1, e2⟩ := heq i hi'
    have s1 := fun hs' (h : hs.Sublist hs') => r_same (pcA ps i).oa (pcA qs i).oa (pcA ps i).ca (pcA qs i).ca (pcA ps i).sd (pcA qs i).sd B w0 hs' ((hC.sds i hi').sub h) ((hD.sds i hi2).sub h) (by have := (hl i hi').1; omega)
    have s2 := fun hs' (h : hs.Sublist hs') => r_same (pcA ps i).ob (pcA qs i).ob (pcA ps i).cb (pcA qs i).cb (pcA ps i).an (pcA qs i).an B w0 hs' ((hC.ans i hi').sub h) ((hD.ans i hi2).sub h) (by have := (hl i hi').2; omega)
    rw [decide_eq_true e1] at s1
    rw [decide_eq_true e2] at s2
    clear e1 e2 heq hl
    repeat' (first | ((with_reducible apply kP (.fieldAddr _ _ _)); refine sP ?_ (o_fieldE rfl (by assumption) (foTOf2 rfl rfl) (by with_reducible first | exact bb0 _ | exact bb1 _ | exact bb2 _ _))) | ((with_reducible apply kDP (.fieldAddr _ _ _)); refine dP ?_ (hX := rfl) (hv := o_fieldE rfl (by assumption) (foTOf2 rfl rfl) (by with_reducible first | exact bb0 _ | exact bb1 _ | exact bb2 _ _))) | ((with_reducible apply kQO (.fieldAddr _ _ _)); refine qP ?_ (o_fieldE rfl (by assumption) (foTOf2 rfl rfl) (by with_reducible first | exact bb0 _ | exact bb1 _ | exact bb2 _ _))) | ((with_reducible apply kP (.load 35 (.tmp 41))); refine sP ?_ (o_load rfl (ld_one (shTOf rfl) (h1 _ SBt)))) | ((with_reducible apply kDP (.load 35 (.tmp 41))); refine dP ?_ (hX := rfl) (hv := o_load rfl (ld_one (shTOf rfl) (h1 _ SBt)))) | ((with_reducible apply kQO (.load 35 (.tmp 41))); refine qP ?_ (o_load rfl (ld_one (shTOf rfl) (h1 _ SBt)))) | ((with_reducible apply kP (.load 35 (.tmp 47))); refine sP ?_ (o_load rfl (ld_one (shTOf rfl) (h3 _ SBt)))) | ((with_reducible apply kDP (.load 35 (.tmp 47))); refine dP ?_ (hX := rfl) (hv := o_load rfl (ld_one (shTOf rfl) (h3 _ SBt)))) | ((with_reducible apply kQO (.load 35 (.tmp 47))); refine qP ?_ (o_load rfl (ld_one (shTOf rfl) (h3 _ SBt)))) | ((with_reducible apply kP (.load 35 (.tmp 56))); refine sP ?_ (o_load rfl (ld_one (shTOf rfl) (h2 _ SBt)))) | ((with_reducible apply kDP (.load 35 (.tmp 56))); refine dP ?_ (hX := rfl) (hv := o_load rfl (ld_one (shTOf rfl) (h2 _ SBt)))) | ((with_reducible apply kQO (.load 35 (.tmp 56))); refine qP ?_ (o_load rfl (ld_one (shTOf rfl) (h2 _ SBt)))) | ((with_reducible apply kP (.load 35 (.tmp 62))); refine sP ?_ (o_load rfl (ld_one (shTOf rfl) (h4 _ SBt)))) | ((with_reducible apply kDP (.load 35 (.tmp 62))); refine dP ?_ (hX := rfl) (hv := o_load rfl (ld_one (shTOf rfl) (h4 _ SBt)))) | ((with_reducible apply kQO (.load 35 (.tmp 62))); refine qP ?_ (o_load rfl (ld_one (shTOf rfl) (h4 _ SBt)))) | ((with_reducible apply kDF 21); refine dC 21 (fun F => s1 _ (sbA SBt)) ?_) | ((with_reducible apply kDF 21); refine dC 21 (fun F => s2 _ (sbA SBt)) ?_) | ((with_reducible apply kRg 6); refine cD [1, 1, 1, 1, 1, 1, 1, 1, 1, 1, 1, 1, 4, 1, 1, 1, 1, 1, 1, 1, 1, 1, 1, 1, 1, 1, 1, 4, 1, 1] ?_) | (with_reducible first | refine c_seq ?_ | refine c_reg ?_ | refine c_region ?_ | refine c_block ?_ | refine c_skip ?_ | refine c_exit ?_ | refine c_ret ?_ | refine s_nil ?_ | refine x_then ?_ | refine x_then_exit ?_ | refine x_then_ret ?_ | refine x_block ?_ | refine x_block_ret ?_ | refine x_block_same ?_ | refine x_block_other (by first | rfl | decide) ?_ | refine q_nil ?_ | refine k_nil ?_) | ((with_reducible apply kG); first | refine gY1 ?_ | refine gN1 ?_ | refine gU1 ?_ | (refine gD1 (fun h => ?_) (fun h => ?_) <;> (try (exfalso; omega))) | refine gB1 (fun h => ?_) (fun h => ?_)) | ((with_reducible apply kP (.box _ _)); first | refine sBA (fun b => ?_) | refine sB (fun b => ?_)) | ((with_reducible apply kP _); refine sP ?_) | ((with_reducible apply kP _); refine sX ?_) | ((with_reducible apply kQP); refine qP ?_) | ((with_reducible apply kQP); refine qX ?_) | ((with_reducible apply kC); first | refine cT ?_ | refine cF ?_ | (refine cI (fun h => ?_) (fun h => ?_) <;> (try (exfalso; omega))) | refine cB (fun h => ?_) (fun h => ?_)) | ((with_reducible apply kR); refine cQ ?_) | ((with_reducible apply kDG); first | refine dY1 ?_ | refine dNo1 ?_ | refine dU1 ?_ | (refine dD1 (fun h => ?_) (fun h => ?_) <;> (try (exfalso; omega))) | refine dB1 (fun h => ?_) (fun h => ?_)) | ((with_reducible apply kDP _); refine dP ?_) | ((with_reducible apply kDP _); refine dX ?_))
    all_goals first | exact r_end (i + 1) hi' (by omega) (by repeat' first | trivial | rfl | apply And.intro) SCt | trace_state
  · obtain rfl : ps.length = i := by omega
    repeat' (first | ((with_reducible apply kRg 6); refine cD [1, 1, 1, 1, 1, 1, 1, 1, 1, 1, 1, 1, 4, 1, 1, 1, 1, 1, 1, 1, 1, 1, 1, 1, 1, 1, 1, 4, 1, 1] ?_) | (with_reducible first | refine c_seq ?_ | refine c_reg ?_ | refine c_region ?_ | refine c_block ?_ | refine c_skip ?_ | refine c_exit ?_ | refine c_ret ?_ | refine s_nil ?_ | refine x_then ?_ | refine x_then_exit ?_ | refine x_then_ret ?_ | refine x_block ?_ | refine x_block_ret ?_ | refine x_block_same ?_ | refine x_block_other (by first | rfl | decide) ?_ | refine q_nil ?_ | refine k_nil ?_) | ((with_reducible apply kG); first | refine gY1 ?_ | refine gN1 ?_ | refine gU1 ?_ | (refine gD1 (fun h => ?_) (fun h => ?_) <;> (try (exfalso; omega))) | refine gB1 (fun h => ?_) (fun h => ?_)) | ((with_reducible apply kP (.box _ _)); first | refine sBA (fun b => ?_) | refine sB (fun b => ?_)) | ((with_reducible apply kP _); refine sP ?_) | ((with_reducible apply kP _); refine sX ?_) | ((with_reducible apply kQP); refine qP ?_) | ((with_reducible apply kQP); refine qX ?_) | ((with_reducible apply kC); first | refine cT ?_ | refine cF ?_ | (refine cI (fun h => ?_) (fun h => ?_) <;> (try (exfalso; omega))) | refine cB (fun h => ?_) (fun h => ?_)) | ((with_reducible apply kR); refine cQ ?_) | ((with_reducible apply kDG); first | refine dY1 ?_ | refine dNo1 ?_ | refine dU1 ?_ | (refine dD1 (fun h => ?_) (fun h => ?_) <;> (try (exfalso; omega))) | refine dB1 (fun h => ?_) (fun h => ?_)) | ((with_reducible apply kDP _); refine dP ?_) | ((with_reducible apply kDP _); refine dX ?_))
    have hsl := hC.sms
    have hsr := hD.sms
    refine c_loop (fun j : Nat => [(2, .pointer (some ⟨b1, 0, none⟩)), (3, .pointer (some ⟨b2, 0, none⟩)), (6, iv j)]) (fun _ => (b2, [.slice oP' ps.length cP', .slice oS' m cS', iv e]) :: (b1, [.slice oP ps.length cP, .slice oS m cS, iv e]) :: hs) (fun j => j ≤ m) (fun j => m - j) 0 (Nat.zero_le _) (by repeat' first | trivial | rfl | apply And.intro) SCt ?_
    intro j hj
    by_cases hj' : j < m
    · have iS := hsl.any (i := 0) (by omega)
      have iT := hsr.any (i := 0) (by omega)
      repeat' (first | ((with_reducible apply kP (.load 39 (.tmp 77))); refine sP ?_ (o_load rfl (ld_4S (shTOf rfl) hsl SBt (by omega)))) | ((with_reducible apply kDP (.load 39 (.tmp 77))); refine dP ?_ (hX := rfl) (hv := o_load rfl (ld_4S (shTOf rfl) hsl SBt (by omega)))) | ((with_reducible apply kQO (.load 39 (.tmp 77))); refine qP ?_ (o_load rfl (ld_4S (shTOf rfl) hsl SBt (by omega)))) | ((with_reducible apply kP (.load 39 (.tmp 82))); refine sP ?_ (o_load rfl (ld_4S (shTOf rfl) hsr SBt (by omega)))) | ((with_reducible apply kDP (.load 39 (.tmp 82))); refine dP ?_ (hX := rfl) (hv := o_load rfl (ld_4S (shTOf rfl) hsr SBt (by omega)))) | ((with_reducible apply kQO (.load 39 (.tmp 82))); refine qP ?_ (o_load rfl (ld_4S (shTOf rfl) hsr SBt (by omega)))) | ((with_reducible apply kP (.binOp .neq 39 _ _ _)); refine sP ?_ (o_neqS (xs := [sm.getD (j * 4) 0, sm.getD (j * 4 + 1) 0, sm.getD (j * 4 + 2) 0, sm.getD (j * 4 + 3) 0]) rfl rfl rfl)) | ((with_reducible apply kDP (.binOp .neq 39 _ _ _)); refine dP ?_ (hX := rfl) (hv := o_neqS (xs := [sm.getD (j * 4) 0, sm.getD (j * 4 + 1) 0, sm.getD (j * 4 + 2) 0, sm.getD (j * 4 + 3) 0]) rfl rfl rfl)) | ((with_reducible apply kQO (.binOp .neq 39 _ _ _)); refine qP ?_ (o_neqS (xs := [sm.getD (j * 4) 0, sm.getD (j * 4 + 1) 0, sm.getD (j * 4 + 2) 0, sm.getD (j * 4 + 3) 0]) rfl rfl rfl)) | ((with_reducible apply kRg 6); refine cD [1, 1, 1, 1, 1, 1, 1, 1, 1, 1, 1, 1, 4, 1, 1, 1, 1, 1, 1, 1, 1, 1, 1, 1, 1, 1, 1, 4, 1, 1] ?_) | (with_reducible first | refine c_seq ?_ | refine c_reg ?_ | refine c_region ?_ | refine c_block ?_ | refine c_skip ?_ | refine c_exit ?_ | refine c_ret ?_ | refine s_nil ?_ | refine x_then ?_ | refine x_then_exit ?_ | refine x_then_ret ?_ | refine x_block ?_ | refine x_block_ret ?_ | refine x_block_same ?_ | refine x_block_other (by first | rfl | decide) ?_ | refine q_nil ?_ | refine k_nil ?_) | ((with_reducible apply kG); first | refine gY1 ?_ | refine gN1 ?_ | refine gU1 ?_ | (refine gD1 (fun h => ?_) (fun h => ?_) <;> (try (exfalso; omega))) | refine gB1 (fun h => ?_) (fun h => ?_)) | ((with_reducible apply kP (.box _ _)); first | refine sBA (fun b => ?_) | refine sB (fun b => ?_)) | ((with_reducible apply kP _); refine sP ?_) | ((with_reducible apply kP _); refine sX ?_) | ((with_reducible apply kQP); refine qP ?_) | ((with_reducible apply kQP); refine qX ?_) | ((with_reducible apply kC); first | refine cT ?_ | refine cF ?_ | (refine cI (fun h => ?_) (fun h => ?_) <;> (try (exfalso; omega))) | refine cB (fun h => ?_) (fun h => ?_)) | ((with_reducible apply kR); refine cQ ?_) | ((with_reducible apply kDG); first | refine dY1 ?_ | refine dNo1 ?_ | refine dU1 ?_ | (refine dD1 (fun h => ?_) (fun h => ?_) <;> (try (exfalso; omega))) | refine dB1 (fun h => ?_) (fun h => ?_)) | ((with_reducible apply kDP _); refine dP ?_) | ((with_reducible apply kDP _); refine dX ?_))
      all_goals first | exact r_end (j + 1) hj' (by omega) (by repeat' first | trivial | rfl | apply And.intro) SCt | (exfalso; simp_all; done) | trace_state
    · repeat' (first | ((with_reducible apply kRg 6); refine cD [1, 1, 1, 1, 1, 1, 1, 1, 1, 1, 1, 1, 4, 1, 1, 1, 1, 1, 1, 1, 1, 1, 1, 1, 1, 1, 1, 4, 1, 1] ?_) | (with_reducible first | refine c_seq ?_ | refine c_reg ?_ | refine c_region ?_ | refine c_block ?_ | refine c_skip ?_ | refine c_exit ?_ | refine c_ret ?_ | refine s_nil ?_ | refine x_then ?_ | refine x_then_exit ?_ | refine x_then_ret ?_ | refine x_block ?_ | refine x_block_ret ?_ | refine x_block_same ?_ | refine x_block_other (by first | rfl | decide) ?_ | refine q_nil ?_ | refine k_nil ?_) | ((with_reducible apply kG); first | refine gY1 ?_ | refine gN1 ?_ | refine gU1 ?_ | (refine gD1 (fun h => ?_) (fun h => ?_) <;> (try (exfalso; omega))) | refine gB1 (fun h => ?_) (fun h => ?_)) | ((with_reducible apply kP (.box _ _)); first | refine sBA (fun b => ?_) | refine sB (fun b => ?_)) | ((with_reducible apply kP _); refine sP ?_) | ((with_reducible apply kP _); refine sX ?_) | ((with_reducible apply kQP); refine qP ?_) | ((with_reducible apply kQP); refine qX ?_) | ((with_reducible apply kC); first | refine cT ?_ | refine cF ?_ | (refine cI (fun h => ?_) (fun h => ?_) <;> (try (exfalso; omega))) | refine cB (fun h => ?_) (fun h => ?_)) | ((with_reducible apply kR); refine cQ ?_) | ((with_reducible apply kDG); first | refine dY1 ?_ | refine dNo1 ?_ | refine dU1 ?_ | (refine dD1 (fun h => ?_) (fun h => ?_) <;> (try (exfalso; omega))) | refine dB1 (fun h => ?_) (fun h => ?_)) | ((with_reducible apply kDP _); refine dP ?_) | ((with_reducible apply kDP _); refine dX ?_))
      exact e_ret1 (hs' := hs) rfl rfl ⟨rfl, rfl⟩ SCt
end Go.Proofs.YtmblgbcipniecaaGreatDoor
namespace Go.Proofs.YtmblgbcipniecaaGreatDoor
open Go.RowKit
theorem Sv.rowC {B : Nat} {w0 : Wd} {oa : Option Addr} {c size : Nat} {cells : List Value} {blk : HS} (h : RowOk oa c size cells blk) : Sv B w0 blk oa cells := by
  rcases h with ⟨rfl, _, rfl, _⟩ | ⟨b, z, rfl, rfl, _, _⟩
  · exact fun i hi => absurd hi (by simp)
  · refine fun i hi => ⟨rfl, fun w hw => ?_⟩
    have h1 := hw.cells_at (.head _) i _ (List.getElem?_eq_getElem (show i < (cells ++ z).length by rw [List.length_append]; omega))
    rw [List.getElem_append_left hi] at h1
    rw [List.getElem?_eq_getElem hi, ← h1]
    rw [ea_some]
theorem rpb_go : ∀ (rs : List Rp) (acc : HS), rs.foldl (fun acc r => r.k ++ acc) acc = rpb rs ++ acc
  | [], acc => rfl
  | r :: rs, acc => by
    unfold rpb
    simp only [List.foldl_cons]
    rw [rpb_go rs (r.k ++ acc), rpb_go rs (r.k ++ []), List.append_nil, List.append_assoc]
theorem rpb_mem : ∀ {rs : List Rp} {r : Rp}, r ∈ rs → r.k.Sublist (rpb rs)
  | q :: rs, r, h => by
    have e : rpb (q :: rs) = rpb rs ++ q.k := by show rs.foldl _ (q.k ++ []) = _; rw [rpb_go, List.append_nil]
    rw [e]
    rcases List.mem_cons.1 h with rfl | h
    · exact List.sublist_append_right _ _
    · exact (rpb_mem h).trans (List.sublist_append_left _ _)
theorem rp_at {rs : List Rp} {i : Nat} (hi : i < rs.length) : ∃ r ∈ rs, pcA (rpP rs) i = r.p := by
  refine ⟨rs[i], List.getElem_mem hi, ?_⟩
  unfold pcA rpP
  rw [List.getD_eq_getElem?_getD, List.getElem?_map, List.getElem?_eq_getElem hi]
  rfl
theorem pcA_ge {l : List Pc} {i : Nat} (h : l.length ≤ i) : pcA l i = default := by unfold pcA; rw [List.getD_eq_getElem?_getD, List.getElem?_eq_none h]; rfl
theorem capC {B : Nat} {w0 : Wd} {oP oS : Option Addr} {cP cS : Nat} {rs : List Rp} {sm : List Int} {bo ko hs : HS} (h1 : RowOk oP cP 2 (pcsv (rpP rs)) bo) (h2 : ∀ r ∈ rs, RpOk r) (h3 : RowOk oS cS 4 (ivs sm) ko) : CapM B w0 ((ko ++ (bo ++ rpb rs)) ++ hs) oP oS (rpP rs) sm := by
  have hl : (rpP rs).length = rs.length := by rw [rpP, List.length_map]
  refine ⟨(Sv.rowC h1).sub ((((List.sublist_append_left _ _).trans (List.sublist_append_right _ _))).trans (List.sublist_append_left _ _)), fun i hi => ?_, fun i hi => ?_, (Sv.rowC h3).ints.sub ((List.sublist_append_left _ _).trans (List.sublist_append_left _ _))⟩
  · obtain ⟨r, hr, e⟩ := rp_at (hl ▸ hi)
    obtain ⟨k1, k2, g1, g2, g3⟩ := h2 r hr
    rw [e]
    refine (Sl.row g1).sub (List.Sublist.trans ?_ (((rpb_mem hr).trans ((List.sublist_append_right _ _).trans (List.sublist_append_right _ _))).trans (List.sublist_append_left _ _)))
    rw [g3]; exact List.sublist_append_right _ _
  · obtain ⟨r, hr, e⟩ := rp_at (hl ▸ hi)
    obtain ⟨k1, k2, g1, g2, g3⟩ := h2 r hr
    rw [e]
    refine (Sl.row g2).sub (List.Sublist.trans ?_ (((rpb_mem hr).trans ((List.sublist_append_right _ _).trans (List.sublist_append_right _ _))).trans (List.sublist_append_left _ _)))
    rw [g3]; exact List.sublist_append_left _ _
end Go.Proofs.YtmblgbcipniecaaGreatDoor
