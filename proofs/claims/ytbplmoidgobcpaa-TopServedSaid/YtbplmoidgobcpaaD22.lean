/- Bounds of sets that are lists. -/
import Derived.Test.YtbplmoidgobcpaaD21
import Derived.Test.YtbplmoidgobcpaaD17
namespace Go.Proofs.Ytbplmoidgobcpaa
open Go.RowKit

abbrev sI (sz : List Int) (i : Nat) : Int := sz.getD i 0
def stF (M : Nat) (sz : List Int) (i : Nat) : Int := if sI sz i < 0 ∨ M ≤ sI sz i ∨ (0 < i ∧ sI sz i ≤ sI sz (i - 1)) then 1 else 0
def inB (sz : List Int) (i : Nat) (o : Nat) : Bool := (List.range i).any fun j => sI sz j == (o : Int)
def boE (N M G : Nat) (lz wz sz : List Int) : Int := if vlE N M lz wz ≠ 0 then vlE N M lz wz else fsE (stF M sz) G
def boV (N M G : Nat) (lz wz sz : List Int) : Int := if boE N M G lz wz sz = 0 then bdF N M lz wz (inB sz G) else 0
section
variable {N M G : Nat} {lz wz sz : List Int}
theorem bo_bad (h : vlE N M lz wz ≠ 0) : boE N M G lz wz sz = vlE N M lz wz ∧ boV N M G lz wz sz = 0 := by
  have e : boE N M G lz wz sz = vlE N M lz wz := if_pos h
  exact ⟨e, if_neg (by rw [e]; exact h)⟩
theorem bo_first {i : Nat} (hv : vlE N M lz wz = 0) (hi : i < G) (h : ∀ j, j < i → stF M sz j = 0) (he : stF M sz i = 1) : boE N M G lz wz sz = 1 ∧ boV N M G lz wz sz = 0 := by
  have e : boE N M G lz wz sz = 1 := by
    unfold boE
    rw [if_neg (by rw [hv]; simp), fsE_at (by rw [he]; simp) h G hi, he]
  exact ⟨e, if_neg (by rw [e]; simp)⟩
theorem bo_ok (hv : vlE N M lz wz = 0) (h : ∀ j, j < G → stF M sz j = 0) : boE N M G lz wz sz = 0 ∧ boV N M G lz wz sz = bdF N M lz wz (inB sz G) := by
  have e : boE N M G lz wz sz = 0 := by
    unfold boE
    rw [if_neg (by rw [hv]; simp), fsE_zero G h]
  exact ⟨e, if_pos e⟩
theorem inB_succ (i o : Nat) : inB sz (i + 1) o = (inB sz i o || (sI sz i == (o : Int))) := by
  unfold inB
  rw [List.range_succ, List.any_append]
  simp
theorem inB_step {i a : Nat} (ha : sI sz i = a) (o : Nat) : inB sz (i + 1) o = if o = a then true else inB sz i o := by
  rw [inB_succ, ha]
  by_cases e : o = a
  · subst e; simp
  · rw [if_neg e]
    have : ((a : Int) == (o : Int)) = false := by
      rw [beq_eq_false_iff_ne]; omega
    rw [this, Bool.or_false]
set_option maxRecDepth 100000 in
set_option maxHeartbeats 8000000 in
theorem k_Bound (N M G : Nat) (lz wz sz : List Int) (cL cW cS : Nat) (oaL oaW oaS : Option Addr) (hN : N ≤ 100) (hM : M ≤ 100) (hG : G ≤ 1000) (hl : lz.length = N * 4) (hwz : wz.length = M * 5) (hsz : sz.length = G) (B : Nat) (w0 : World) (hs : HS) (hL : Sl B w0 hs oaL lz) (hW : Sl B w0 hs oaW wz) (hS : Sl B w0 hs oaS sz) :
    Fn Try.prog 36 #[.slice oaL N cL, .slice oaW M cW, .slice oaS G cS] B w0 hs (fun v h => v = .tuple #[iv (boV N M G lz wz sz), iv (boE N M G lz wz sz)] ∧ h = hs) := by
  have kv := k_Validate N M lz wz cL cW oaL oaW hN hM hl hwz B w0
  by_cases hv : vlE N M lz wz = 0
  · obtain ⟨_, f2, f3, f4, f5⟩ := fed_start hv
    rw [hv] at kv
    refine fn_enter Try.func36 rfl Try.ntmps36 (by simp) ?_
    repeat' (first | ((with_reducible apply kF 28); refine sC 28 (kv _ hL hW) ?_) | (with_reducible first | refine c_seq ?_ | refine c_reg ?_ | refine c_region ?_ | refine c_block ?_ | refine c_skip ?_ | refine c_exit ?_ | refine c_ret ?_ | refine s_nil ?_ | refine x_then ?_ | refine x_then_exit ?_ | refine x_then_ret ?_ | refine x_block ?_ | refine x_block_ret ?_ | refine x_block_same ?_ | refine x_block_other (by rfl) ?_ | refine q_nil ?_ | refine k_nil ?_) | ((with_reducible apply kP (.makeFunc _ _ _)); refine sMF ?_) | ((with_reducible apply kG); first | refine gY1 ?_ | refine gN1 ?_ | refine gU1 ?_ | (refine gD1 (fun h => ?_) (fun h => ?_) <;> (try (exfalso; omega))) | refine gB1 (fun h => ?_) (fun h => ?_)) | ((with_reducible apply kN); first | refine stP ?_ | refine stI ?_ | refine st1 ?_ | refine stW ?_) | ((with_reducible apply kP (.alloc _)); refine sA (fun b => ?_)) | ((with_reducible apply kP (.box _ _)); first | refine sBA (fun b => ?_) | refine sB (fun b => ?_)) | ((with_reducible apply kP (.buildSlice _ 1 _)); first | refine sl1A (fun b => ?_) | refine sl1 (fun b => ?_)) | ((with_reducible apply kP (.buildSlice _ 2 _)); refine sl2 (fun b => ?_)) | ((with_reducible apply kP (.buildSlice _ 3 _)); refine sl3 (fun b => ?_)) | ((with_reducible apply kP (.buildSlice _ 4 _)); refine sl4 (fun b => ?_)) | ((with_reducible apply kP (.buildSlice _ 0 _)); refine s_bs0 (scTOf rfl) (zsTOf rfl) (by decide) (fun b => ?_)) | ((with_reducible apply kP (.makeSlice _ _ _)); refine sMk (fun b => ?_)) | ((with_reducible apply kP (.call ⟨.builtin .append, _, _⟩)); refine sAp (fun oa2 c2 blk2 hrow2 => ?_)) | ((with_reducible apply kP _); refine sP ?_) | ((with_reducible apply kP _); refine sX ?_) | ((with_reducible apply kQG); first | refine qY1 ?_ | refine qN1 ?_ | refine qU1 ?_ | (refine qD1 (fun h => ?_) (fun h => ?_) <;> (try (exfalso; omega))) | refine qB1 (fun h => ?_) (fun h => ?_)) | ((with_reducible apply kQP); refine qP ?_) | ((with_reducible apply kQP); refine qX ?_) | ((with_reducible apply kC); first | refine cT ?_ | refine cF ?_ | (refine cI (fun h => ?_) (fun h => ?_) <;> (try (exfalso; omega))) | refine cB (fun h => ?_) (fun h => ?_)) | ((with_reducible apply kR); refine cQ ?_))
    refine s_makeZ (apTOf rfl) (zsTOf rfl) rfl rfl (by omega) (by decide) (by decide) (fun b => ?_)
    rw [bvs_false]
    repeat' (first | (with_reducible first | refine c_seq ?_ | refine c_reg ?_ | refine c_region ?_ | refine c_block ?_ | refine c_skip ?_ | refine c_exit ?_ | refine c_ret ?_ | refine s_nil ?_ | refine x_then ?_ | refine x_then_exit ?_ | refine x_then_ret ?_ | refine x_block ?_ | refine x_block_ret ?_ | refine x_block_same ?_ | refine x_block_other (by rfl) ?_ | refine q_nil ?_ | refine k_nil ?_) | ((with_reducible apply kP (.makeFunc _ _ _)); refine sMF ?_) | ((with_reducible apply kG); first | refine gY1 ?_ | refine gN1 ?_ | refine gU1 ?_ | (refine gD1 (fun h => ?_) (fun h => ?_) <;> (try (exfalso; omega))) | refine gB1 (fun h => ?_) (fun h => ?_)) | ((with_reducible apply kN); first | refine stP ?_ | refine stI ?_ | refine st1 ?_ | refine stW ?_) | ((with_reducible apply kP (.alloc _)); refine sA (fun b => ?_)) | ((with_reducible apply kP (.box _ _)); first | refine sBA (fun b => ?_) | refine sB (fun b => ?_)) | ((with_reducible apply kP (.buildSlice _ 1 _)); first | refine sl1A (fun b => ?_) | refine sl1 (fun b => ?_)) | ((with_reducible apply kP (.buildSlice _ 2 _)); refine sl2 (fun b => ?_)) | ((with_reducible apply kP (.buildSlice _ 3 _)); refine sl3 (fun b => ?_)) | ((with_reducible apply kP (.buildSlice _ 4 _)); refine sl4 (fun b => ?_)) | ((with_reducible apply kP (.buildSlice _ 0 _)); refine s_bs0 (scTOf rfl) (zsTOf rfl) (by decide) (fun b => ?_)) | ((with_reducible apply kP (.makeSlice _ _ _)); refine sMk (fun b => ?_)) | ((with_reducible apply kP (.call ⟨.builtin .append, _, _⟩)); refine sAp (fun oa2 c2 blk2 hrow2 => ?_)) | ((with_reducible apply kP _); refine sP ?_) | ((with_reducible apply kP _); refine sX ?_) | ((with_reducible apply kQG); first | refine qY1 ?_ | refine qN1 ?_ | refine qU1 ?_ | (refine qD1 (fun h => ?_) (fun h => ?_) <;> (try (exfalso; omega))) | refine qB1 (fun h => ?_) (fun h => ?_)) | ((with_reducible apply kQP); refine qP ?_) | ((with_reducible apply kQP); refine qX ?_) | ((with_reducible apply kC); first | refine cT ?_ | refine cF ?_ | (refine cI (fun h => ?_) (fun h => ?_) <;> (try (exfalso; omega))) | refine cB (fun h => ?_) (fun h => ?_)) | ((with_reducible apply kR); refine cQ ?_))
    refine c_loop (fun i : Nat => [(0, .slice oaL N cL), (1, .slice oaW M cW), (2, .slice oaS G cS), (9, .slice (some ⟨b, 0, none⟩) M M), (21, .slice oaS G cS), (22, iv G), (23, iv i)]) (fun i => (b, bvs M (inB sz i)) :: hs)
      (fun i => i ≤ G ∧ ∀ j, j < i → stF M sz j = 0) (fun i => G - i) 0 ⟨Nat.zero_le _, fun j hj => absurd hj (Nat.not_lt_zero j)⟩ (by repeat' first | trivial | rfl | apply And.intro) (.refl _) ?_
    rintro i ⟨hi, hall⟩
    by_cases hi' : i < G
    · have hoS : oaS.isSome = true := hS.any (i := i) (by omega)
      by_cases hbad : sI sz i < 0 ∨ M ≤ sI sz i ∨ (0 < i ∧ sI sz i ≤ sI sz (i - 1))
      · obtain ⟨q1, q2⟩ := bo_first hv hi' hall (if_pos hbad)
        rw [q1, q2]
        simp only [sI] at hbad
        repeat' (first | ((with_reducible apply kP (.load 3 _)); refine sP ?_ (o_load rfl (ld_one (shTOf rfl) (Sl.at (by assumption) SBt (by omega))))) | ((with_reducible apply kDP (.load 3 _)); refine dP ?_ (hX := rfl) (hv := o_load rfl (ld_one (shTOf rfl) (Sl.at (by assumption) SBt (by omega))))) | ((with_reducible apply kQO (.load 3 _)); refine qP ?_ (o_load rfl (ld_one (shTOf rfl) (Sl.at (by assumption) SBt (by omega))))) | (with_reducible first | refine c_seq ?_ | refine c_reg ?_ | refine c_region ?_ | refine c_block ?_ | refine c_skip ?_ | refine c_exit ?_ | refine c_ret ?_ | refine s_nil ?_ | refine x_then ?_ | refine x_then_exit ?_ | refine x_then_ret ?_ | refine x_block ?_ | refine x_block_ret ?_ | refine x_block_same ?_ | refine x_block_other (by rfl) ?_ | refine q_nil ?_ | refine k_nil ?_) | ((with_reducible apply kP (.makeFunc _ _ _)); refine sMF ?_) | ((with_reducible apply kG); first | refine gY1 ?_ | refine gN1 ?_ | refine gU1 ?_ | (refine gD1 (fun h => ?_) (fun h => ?_) <;> (try (exfalso; omega))) | refine gB1 (fun h => ?_) (fun h => ?_)) | ((with_reducible apply kN); first | refine stP ?_ | refine stI ?_ | refine st1 ?_ | refine stW ?_) | ((with_reducible apply kP (.alloc _)); refine sA (fun b => ?_)) | ((with_reducible apply kP (.box _ _)); first | refine sBA (fun b => ?_) | refine sB (fun b => ?_)) | ((with_reducible apply kP (.buildSlice _ 1 _)); first | refine sl1A (fun b => ?_) | refine sl1 (fun b => ?_)) | ((with_reducible apply kP (.buildSlice _ 2 _)); refine sl2 (fun b => ?_)) | ((with_reducible apply kP (.buildSlice _ 3 _)); refine sl3 (fun b => ?_)) | ((with_reducible apply kP (.buildSlice _ 4 _)); refine sl4 (fun b => ?_)) | ((with_reducible apply kP (.buildSlice _ 0 _)); refine s_bs0 (scTOf rfl) (zsTOf rfl) (by decide) (fun b => ?_)) | ((with_reducible apply kP (.makeSlice _ _ _)); refine sMk (fun b => ?_)) | ((with_reducible apply kP (.call ⟨.builtin .append, _, _⟩)); refine sAp (fun oa2 c2 blk2 hrow2 => ?_)) | ((with_reducible apply kP _); refine sP ?_) | ((with_reducible apply kP _); refine sX ?_) | ((with_reducible apply kQG); first | refine qY1 ?_ | refine qN1 ?_ | refine qU1 ?_ | (refine qD1 (fun h => ?_) (fun h => ?_) <;> (try (exfalso; omega))) | refine qB1 (fun h => ?_) (fun h => ?_)) | ((with_reducible apply kQP); refine qP ?_) | ((with_reducible apply kQP); refine qX ?_) | ((with_reducible apply kC); first | refine cT ?_ | refine cF ?_ | (refine cI (fun h => ?_) (fun h => ?_) <;> (try (exfalso; omega))) | refine cB (fun h => ?_) (fun h => ?_)) | ((with_reducible apply kR); refine cQ ?_))
        all_goals first
          | exact e_ret2 rfl rfl rfl ⟨rfl, rfl⟩ SCt
          | (exfalso; omega)
      · have hst : stF M sz i = 0 := if_neg hbad
        have hbl : (bvs M (inB sz i)).length = M := bvs_length _ _
        have hst2 := inB_step (sz := sz) (i := i) (a := (sI sz i).toNat) (by omega)
        have hall2 : ∀ j, j < i + 1 → stF M sz j = 0 := fun j hj => by
          by_cases e : j = i
          · rw [e]; exact hst
          · exact hall j (by omega)
        have ebv : (bvs M (inB sz i)).set (sz.getD i 0).toNat (.bool true) = bvs M (inB sz (i + 1)) := by
          rw [bvs_set]
          congr 1
          funext o
          exact (hst2 o).symm
        clear hall hst hst2
        simp only [sI] at hbad
        repeat' (first | ((with_reducible apply kP (.load 3 _)); refine sP ?_ (o_load rfl (ld_one (shTOf rfl) (Sl.at (by assumption) SBt (by omega))))) | ((with_reducible apply kDP (.load 3 _)); refine dP ?_ (hX := rfl) (hv := o_load rfl (ld_one (shTOf rfl) (Sl.at (by assumption) SBt (by omega))))) | ((with_reducible apply kQO (.load 3 _)); refine qP ?_ (o_load rfl (ld_one (shTOf rfl) (Sl.at (by assumption) SBt (by omega))))) | (with_reducible first | refine c_seq ?_ | refine c_reg ?_ | refine c_region ?_ | refine c_block ?_ | refine c_skip ?_ | refine c_exit ?_ | refine c_ret ?_ | refine s_nil ?_ | refine x_then ?_ | refine x_then_exit ?_ | refine x_then_ret ?_ | refine x_block ?_ | refine x_block_ret ?_ | refine x_block_same ?_ | refine x_block_other (by rfl) ?_ | refine q_nil ?_ | refine k_nil ?_) | ((with_reducible apply kP (.makeFunc _ _ _)); refine sMF ?_) | ((with_reducible apply kG); first | refine gY1 ?_ | refine gN1 ?_ | refine gU1 ?_ | (refine gD1 (fun h => ?_) (fun h => ?_) <;> (try (exfalso; omega))) | refine gB1 (fun h => ?_) (fun h => ?_)) | ((with_reducible apply kN); first | refine stP ?_ | refine stI ?_ | refine st1 ?_ | refine stW ?_) | ((with_reducible apply kP (.alloc _)); refine sA (fun b => ?_)) | ((with_reducible apply kP (.box _ _)); first | refine sBA (fun b => ?_) | refine sB (fun b => ?_)) | ((with_reducible apply kP (.buildSlice _ 1 _)); first | refine sl1A (fun b => ?_) | refine sl1 (fun b => ?_)) | ((with_reducible apply kP (.buildSlice _ 2 _)); refine sl2 (fun b => ?_)) | ((with_reducible apply kP (.buildSlice _ 3 _)); refine sl3 (fun b => ?_)) | ((with_reducible apply kP (.buildSlice _ 4 _)); refine sl4 (fun b => ?_)) | ((with_reducible apply kP (.buildSlice _ 0 _)); refine s_bs0 (scTOf rfl) (zsTOf rfl) (by decide) (fun b => ?_)) | ((with_reducible apply kP (.makeSlice _ _ _)); refine sMk (fun b => ?_)) | ((with_reducible apply kP (.call ⟨.builtin .append, _, _⟩)); refine sAp (fun oa2 c2 blk2 hrow2 => ?_)) | ((with_reducible apply kP _); refine sP ?_) | ((with_reducible apply kP _); refine sX ?_) | ((with_reducible apply kQG); first | refine qY1 ?_ | refine qN1 ?_ | refine qU1 ?_ | (refine qD1 (fun h => ?_) (fun h => ?_) <;> (try (exfalso; omega))) | refine qB1 (fun h => ?_) (fun h => ?_)) | ((with_reducible apply kQP); refine qP ?_) | ((with_reducible apply kQP); refine qX ?_) | ((with_reducible apply kC); first | refine cT ?_ | refine cF ?_ | (refine cI (fun h => ?_) (fun h => ?_) <;> (try (exfalso; omega))) | refine cB (fun h => ?_) (fun h => ?_)) | ((with_reducible apply kR); refine cQ ?_))
        all_goals first
          | exact r_end (i + 1) ⟨hi', hall2⟩ (by omega) (by repeat' first | trivial | rfl | apply And.intro) (by rw [← ebv]; exact SCt)
          | (exfalso; omega)
          | trace_state
    · obtain rfl : G = i := by omega
      obtain ⟨q1, q2⟩ := bo_ok hv hall
      have kb := k_bound N M (inB sz G) lz wz cL cW b oaL oaW hv hl hwz B w0 ((b, bvs M (inB sz G)) :: hs) (hL.sub SBt) (hW.sub SBt) (.head _)
      rw [q1, q2]
      repeat' (first | ((with_reducible apply kF 51); refine sC 51 (kb) ?_) | (with_reducible first | refine c_seq ?_ | refine c_reg ?_ | refine c_region ?_ | refine c_block ?_ | refine c_skip ?_ | refine c_exit ?_ | refine c_ret ?_ | refine s_nil ?_ | refine x_then ?_ | refine x_then_exit ?_ | refine x_then_ret ?_ | refine x_block ?_ | refine x_block_ret ?_ | refine x_block_same ?_ | refine x_block_other (by rfl) ?_ | refine q_nil ?_ | refine k_nil ?_) | ((with_reducible apply kP (.makeFunc _ _ _)); refine sMF ?_) | ((with_reducible apply kG); first | refine gY1 ?_ | refine gN1 ?_ | refine gU1 ?_ | (refine gD1 (fun h => ?_) (fun h => ?_) <;> (try (exfalso; omega))) | refine gB1 (fun h => ?_) (fun h => ?_)) | ((with_reducible apply kN); first | refine stP ?_ | refine stI ?_ | refine st1 ?_ | refine stW ?_) | ((with_reducible apply kP (.alloc _)); refine sA (fun b => ?_)) | ((with_reducible apply kP (.box _ _)); first | refine sBA (fun b => ?_) | refine sB (fun b => ?_)) | ((with_reducible apply kP (.buildSlice _ 1 _)); first | refine sl1A (fun b => ?_) | refine sl1 (fun b => ?_)) | ((with_reducible apply kP (.buildSlice _ 2 _)); refine sl2 (fun b => ?_)) | ((with_reducible apply kP (.buildSlice _ 3 _)); refine sl3 (fun b => ?_)) | ((with_reducible apply kP (.buildSlice _ 4 _)); refine sl4 (fun b => ?_)) | ((with_reducible apply kP (.buildSlice _ 0 _)); refine s_bs0 (scTOf rfl) (zsTOf rfl) (by decide) (fun b => ?_)) | ((with_reducible apply kP (.makeSlice _ _ _)); refine sMk (fun b => ?_)) | ((with_reducible apply kP (.call ⟨.builtin .append, _, _⟩)); refine sAp (fun oa2 c2 blk2 hrow2 => ?_)) | ((with_reducible apply kP _); refine sP ?_) | ((with_reducible apply kP _); refine sX ?_) | ((with_reducible apply kQG); first | refine qY1 ?_ | refine qN1 ?_ | refine qU1 ?_ | (refine qD1 (fun h => ?_) (fun h => ?_) <;> (try (exfalso; omega))) | refine qB1 (fun h => ?_) (fun h => ?_)) | ((with_reducible apply kQP); refine qP ?_) | ((with_reducible apply kQP); refine qX ?_) | ((with_reducible apply kC); first | refine cT ?_ | refine cF ?_ | (refine cI (fun h => ?_) (fun h => ?_) <;> (try (exfalso; omega))) | refine cB (fun h => ?_) (fun h => ?_)) | ((with_reducible apply kR); refine cQ ?_))
      exact e_ret2 rfl rfl rfl ⟨rfl, rfl⟩ SCt
  · obtain ⟨q1, q2⟩ := bo_bad (G := G) (sz := sz) hv
    rw [q1, q2]
    refine fn_enter Try.func36 rfl Try.ntmps36 (by simp) ?_
    repeat' (first | ((with_reducible apply kF 28); refine sC 28 (kv _ hL hW) ?_) | (with_reducible first | refine c_seq ?_ | refine c_reg ?_ | refine c_region ?_ | refine c_block ?_ | refine c_skip ?_ | refine c_exit ?_ | refine c_ret ?_ | refine s_nil ?_ | refine x_then ?_ | refine x_then_exit ?_ | refine x_then_ret ?_ | refine x_block ?_ | refine x_block_ret ?_ | refine x_block_same ?_ | refine x_block_other (by rfl) ?_ | refine q_nil ?_ | refine k_nil ?_) | ((with_reducible apply kP (.makeFunc _ _ _)); refine sMF ?_) | ((with_reducible apply kG); first | refine gY1 ?_ | refine gN1 ?_ | refine gU1 ?_ | (refine gD1 (fun h => ?_) (fun h => ?_) <;> (try (exfalso; omega))) | refine gB1 (fun h => ?_) (fun h => ?_)) | ((with_reducible apply kN); first | refine stP ?_ | refine stI ?_ | refine st1 ?_ | refine stW ?_) | ((with_reducible apply kP (.alloc _)); refine sA (fun b => ?_)) | ((with_reducible apply kP (.box _ _)); first | refine sBA (fun b => ?_) | refine sB (fun b => ?_)) | ((with_reducible apply kP (.buildSlice _ 1 _)); first | refine sl1A (fun b => ?_) | refine sl1 (fun b => ?_)) | ((with_reducible apply kP (.buildSlice _ 2 _)); refine sl2 (fun b => ?_)) | ((with_reducible apply kP (.buildSlice _ 3 _)); refine sl3 (fun b => ?_)) | ((with_reducible apply kP (.buildSlice _ 4 _)); refine sl4 (fun b => ?_)) | ((with_reducible apply kP (.buildSlice _ 0 _)); refine s_bs0 (scTOf rfl) (zsTOf rfl) (by decide) (fun b => ?_)) | ((with_reducible apply kP (.makeSlice _ _ _)); refine sMk (fun b => ?_)) | ((with_reducible apply kP (.call ⟨.builtin .append, _, _⟩)); refine sAp (fun oa2 c2 blk2 hrow2 => ?_)) | ((with_reducible apply kP _); refine sP ?_) | ((with_reducible apply kP _); refine sX ?_) | ((with_reducible apply kQG); first | refine qY1 ?_ | refine qN1 ?_ | refine qU1 ?_ | (refine qD1 (fun h => ?_) (fun h => ?_) <;> (try (exfalso; omega))) | refine qB1 (fun h => ?_) (fun h => ?_)) | ((with_reducible apply kQP); refine qP ?_) | ((with_reducible apply kQP); refine qX ?_) | ((with_reducible apply kC); first | refine cT ?_ | refine cF ?_ | (refine cI (fun h => ?_) (fun h => ?_) <;> (try (exfalso; omega))) | refine cB (fun h => ?_) (fun h => ?_)) | ((with_reducible apply kR); refine cQ ?_))
    exact e_ret2 rfl rfl rfl ⟨rfl, rfl⟩ (.refl _)
/-- The number whose bits are the set. -/
def bz (sz : List Int) : Nat → Nat
  | 0 => 0
  | i + 1 => bz sz i + pw (sI sz i).toNat
theorem bS_bit (s o : Nat) : bS s o = s.testBit o := by
  rw [Nat.testBit_eq_decide_div_mod_eq]
  rfl
theorem st_ok {i : Nat} (h : stF M sz i = 0) : 0 ≤ sI sz i ∧ sI sz i < M ∧ (0 < i → sI sz (i - 1) < sI sz i) := by
  unfold stF at h
  by_cases e : sI sz i < 0 ∨ M ≤ sI sz i ∨ (0 < i ∧ sI sz i ≤ sI sz (i - 1))
  · rw [if_pos e] at h; cases h
  · exact ⟨by omega, by omega, fun h0 => by omega⟩
theorem bz_lt : ∀ i, (∀ j, j < i + 1 → stF M sz j = 0) → bz sz i < pw (sI sz i).toNat
  | 0, h => by unfold bz pw; exact Nat.two_pow_pos _
  | i + 1, h => by
    have h1 := bz_lt i (fun j hj => h j (by omega))
    have h2 := st_ok (h (i + 1) (by omega))
    have h3 := st_ok (h i (by omega))
    have h4 := h2.2.2 (by omega)
    simp only [Nat.add_sub_cancel] at h4
    have h5 : pw ((sI sz i).toNat + 1) ≤ pw (sI sz (i + 1)).toNat := Nat.pow_le_pow_right (by decide) (by omega)
    have h6 : pw ((sI sz i).toNat + 1) = 2 * pw (sI sz i).toNat := by unfold pw; rw [Nat.pow_succ, Nat.mul_comm]
    unfold bz
    omega
theorem bz_bit : ∀ i, (∀ j, j < i → stF M sz j = 0) → ∀ o, bS (bz sz i) o = inB sz i o
  | 0, _, o => by rw [bS_bit]; unfold bz; simp [inB]
  | i + 1, h, o => by
    have h1 := bz_bit i (fun j hj => h j (by omega)) o
    have h2 := bz_lt i h
    have h3 := (st_ok (h i (by omega))).1
    rw [inB_step (a := (sI sz i).toNat) (by omega), ← h1, bS_bit, bS_bit]
    show (bz sz i + pw (sI sz i).toNat).testBit o = _
    rw [Nat.add_comm]
    generalize (sI sz i).toNat = a at *
    unfold pw at *
    by_cases e : o = a
    · subst e
      rw [if_pos rfl, Nat.testBit_two_pow_add_eq, Nat.testBit_lt_two_pow h2]; rfl
    · rw [if_neg e]
      by_cases e2 : o < a
      · rw [Nat.testBit_two_pow_add_gt e2]
      · have h4 : 2 ^ a ≤ 2 ^ o := Nat.pow_le_pow_right (by decide) (by omega)
        have h5 : 2 ^ (a + 1) ≤ 2 ^ o := Nat.pow_le_pow_right (by decide) (by omega)
        rw [Nat.pow_succ] at h5
        rw [Nat.testBit_lt_two_pow (by omega), Nat.testBit_lt_two_pow (by omega)]
theorem bz_to {i : Nat} (hM : M ≤ 6) (h : ∀ j, j < i → stF M sz j = 0) : bz sz i ≤ 63 := by
  cases i with
  | zero => unfold bz; omega
  | succ i =>
    have h1 := bz_lt i h
    have h2 := st_ok (h i (by omega))
    have h3 : pw (sI sz i).toNat ≤ pw 5 := Nat.pow_le_pow_right (by decide) (by omega)
    have h4 : pw 5 = 32 := rfl
    unfold bz
    omega
set_option maxRecDepth 100000 in
set_option maxHeartbeats 8000000 in
theorem r_Bound (N M G : Nat) (lz wz sz : List Int) (cL cW cS : Nat) (oaL oaW oaS : Option Addr) (hN : N ≤ 100) (hM : M ≤ 100) (hG : G ≤ 1000) (hl : lz.length = N * 4) (hwz : wz.length = M * 5) (hsz : sz.length = G) (B : Nat) (w0 : World) (hs : HS) (hL : Sl B w0 hs oaL lz) (hW : Sl B w0 hs oaW wz) (hS : Sl B w0 hs oaS sz) :
    Fn Try.prog 37 #[.slice oaL N cL, .slice oaW M cW, .slice oaS G cS] B w0 hs (fun v h => v = .tuple #[iv (boV N M G lz wz sz), iv (boE N M G lz wz sz)] ∧ h = hs) := by
  have kv := r_Validate N M lz wz cL cW oaL oaW hN hM hl hwz B w0
  by_cases hv : vlE N M lz wz = 0
  · obtain ⟨_, f2, f3, f4, f5⟩ := fed_start hv
    have u3 : Try.prog.underlying 3 = some (.int .i64) := by kernel_rfl
    have u92 : Try.prog.underlying 92 = some (.int .u64) := by kernel_rfl
    rw [hv] at kv
    refine fn_enter Try.func37 rfl Try.ntmps37 (by simp) ?_
    repeat' (first | ((with_reducible apply kF 29); refine sC 29 (kv _ hL hW) ?_) | (with_reducible first | refine c_seq ?_ | refine c_reg ?_ | refine c_region ?_ | refine c_block ?_ | refine c_skip ?_ | refine c_exit ?_ | refine c_ret ?_ | refine s_nil ?_ | refine x_then ?_ | refine x_then_exit ?_ | refine x_then_ret ?_ | refine x_block ?_ | refine x_block_ret ?_ | refine x_block_same ?_ | refine x_block_other (by rfl) ?_ | refine q_nil ?_ | refine k_nil ?_) | ((with_reducible apply kP (.makeFunc _ _ _)); refine sMF ?_) | ((with_reducible apply kG); first | refine gY1 ?_ | refine gN1 ?_ | refine gU1 ?_ | (refine gD1 (fun h => ?_) (fun h => ?_) <;> (try (exfalso; omega))) | refine gB1 (fun h => ?_) (fun h => ?_)) | ((with_reducible apply kN); first | refine stP ?_ | refine stI ?_ | refine st1 ?_ | refine stW ?_) | ((with_reducible apply kP (.alloc _)); refine sA (fun b => ?_)) | ((with_reducible apply kP (.box _ _)); first | refine sBA (fun b => ?_) | refine sB (fun b => ?_)) | ((with_reducible apply kP (.buildSlice _ 1 _)); first | refine sl1A (fun b => ?_) | refine sl1 (fun b => ?_)) | ((with_reducible apply kP (.buildSlice _ 2 _)); refine sl2 (fun b => ?_)) | ((with_reducible apply kP (.buildSlice _ 3 _)); refine sl3 (fun b => ?_)) | ((with_reducible apply kP (.buildSlice _ 4 _)); refine sl4 (fun b => ?_)) | ((with_reducible apply kP (.buildSlice _ 0 _)); refine s_bs0 (scTOf rfl) (zsTOf rfl) (by decide) (fun b => ?_)) | ((with_reducible apply kP (.makeSlice _ _ _)); refine sMk (fun b => ?_)) | ((with_reducible apply kP (.call ⟨.builtin .append, _, _⟩)); refine sAp (fun oa2 c2 blk2 hrow2 => ?_)) | ((with_reducible apply kP _); refine sP ?_) | ((with_reducible apply kP _); refine sX ?_) | ((with_reducible apply kQG); first | refine qY1 ?_ | refine qN1 ?_ | refine qU1 ?_ | (refine qD1 (fun h => ?_) (fun h => ?_) <;> (try (exfalso; omega))) | refine qB1 (fun h => ?_) (fun h => ?_)) | ((with_reducible apply kQP); refine qP ?_) | ((with_reducible apply kQP); refine qX ?_) | ((with_reducible apply kC); first | refine cT ?_ | refine cF ?_ | (refine cI (fun h => ?_) (fun h => ?_) <;> (try (exfalso; omega))) | refine cB (fun h => ?_) (fun h => ?_)) | ((with_reducible apply kR); refine cQ ?_))
    refine c_loop (fun i : Nat => [(0, .slice oaL N cL), (1, .slice oaW M cW), (2, .slice oaS G cS), (9, iv (bz sz i)), (10, iv i)]) (fun _ => hs)
      (fun i => i ≤ G ∧ ∀ j, j < i → stF M sz j = 0) (fun i => G - i) 0 ⟨Nat.zero_le _, fun j hj => absurd hj (Nat.not_lt_zero j)⟩ (by repeat' first | trivial | rfl | apply And.intro) (.refl _) ?_
    rintro i ⟨hi, hall⟩
    by_cases hi' : i < G
    · have hoS : oaS.isSome = true := hS.any (i := i) (by omega)
      by_cases hbad : sI sz i < 0 ∨ M ≤ sI sz i ∨ (0 < i ∧ sI sz i ≤ sI sz (i - 1))
      · obtain ⟨q1, q2⟩ := bo_first hv hi' hall (if_pos hbad)
        rw [q1, q2]
        simp only [sI] at hbad
        repeat' (first | ((with_reducible apply kP (.load 3 _)); refine sP ?_ (o_load rfl (ld_one (shTOf rfl) (Sl.at (by assumption) SBt (by omega))))) | ((with_reducible apply kDP (.load 3 _)); refine dP ?_ (hX := rfl) (hv := o_load rfl (ld_one (shTOf rfl) (Sl.at (by assumption) SBt (by omega))))) | ((with_reducible apply kQO (.load 3 _)); refine qP ?_ (o_load rfl (ld_one (shTOf rfl) (Sl.at (by assumption) SBt (by omega))))) | (with_reducible first | refine c_seq ?_ | refine c_reg ?_ | refine c_region ?_ | refine c_block ?_ | refine c_skip ?_ | refine c_exit ?_ | refine c_ret ?_ | refine s_nil ?_ | refine x_then ?_ | refine x_then_exit ?_ | refine x_then_ret ?_ | refine x_block ?_ | refine x_block_ret ?_ | refine x_block_same ?_ | refine x_block_other (by rfl) ?_ | refine q_nil ?_ | refine k_nil ?_) | ((with_reducible apply kP (.makeFunc _ _ _)); refine sMF ?_) | ((with_reducible apply kG); first | refine gY1 ?_ | refine gN1 ?_ | refine gU1 ?_ | (refine gD1 (fun h => ?_) (fun h => ?_) <;> (try (exfalso; omega))) | refine gB1 (fun h => ?_) (fun h => ?_)) | ((with_reducible apply kN); first | refine stP ?_ | refine stI ?_ | refine st1 ?_ | refine stW ?_) | ((with_reducible apply kP (.alloc _)); refine sA (fun b => ?_)) | ((with_reducible apply kP (.box _ _)); first | refine sBA (fun b => ?_) | refine sB (fun b => ?_)) | ((with_reducible apply kP (.buildSlice _ 1 _)); first | refine sl1A (fun b => ?_) | refine sl1 (fun b => ?_)) | ((with_reducible apply kP (.buildSlice _ 2 _)); refine sl2 (fun b => ?_)) | ((with_reducible apply kP (.buildSlice _ 3 _)); refine sl3 (fun b => ?_)) | ((with_reducible apply kP (.buildSlice _ 4 _)); refine sl4 (fun b => ?_)) | ((with_reducible apply kP (.buildSlice _ 0 _)); refine s_bs0 (scTOf rfl) (zsTOf rfl) (by decide) (fun b => ?_)) | ((with_reducible apply kP (.makeSlice _ _ _)); refine sMk (fun b => ?_)) | ((with_reducible apply kP (.call ⟨.builtin .append, _, _⟩)); refine sAp (fun oa2 c2 blk2 hrow2 => ?_)) | ((with_reducible apply kP _); refine sP ?_) | ((with_reducible apply kP _); refine sX ?_) | ((with_reducible apply kQG); first | refine qY1 ?_ | refine qN1 ?_ | refine qU1 ?_ | (refine qD1 (fun h => ?_) (fun h => ?_) <;> (try (exfalso; omega))) | refine qB1 (fun h => ?_) (fun h => ?_)) | ((with_reducible apply kQP); refine qP ?_) | ((with_reducible apply kQP); refine qX ?_) | ((with_reducible apply kC); first | refine cT ?_ | refine cF ?_ | (refine cI (fun h => ?_) (fun h => ?_) <;> (try (exfalso; omega))) | refine cB (fun h => ?_) (fun h => ?_)) | ((with_reducible apply kR); refine cQ ?_))
        all_goals first
          | exact e_ret2 rfl rfl rfl ⟨rfl, rfl⟩ SCt
          | (exfalso; omega)
      · have hst : stF M sz i = 0 := if_neg hbad
        have hall2 : ∀ j, j < i + 1 → stF M sz j = 0 := fun j hj => by
          by_cases e : j = i
          · rw [e]; exact hst
          · exact hall j (by omega)
        have hb1 := bz_to f5 hall
        obtain ⟨a, ha⟩ : ∃ a : Nat, sz.getD i 0 = a := ⟨(sI sz i).toNat, by simp only [sI] at hbad ⊢; omega⟩
        simp only [sI] at hbad
        have hp := pw_to (m := a) (by omega)
        have eb : bz sz (i + 1) = bz sz i + pw a := by
          show bz sz i + pw (sI sz i).toNat = _
          simp only [sI]
          rw [ha, Int.toNat_natCast]
        have hld : ∀ hs', hs.Sublist hs' → Ld Try.prog B w0 hs' 3 (ea oaS i) (iv a) := fun hs' h => by
          rw [← ha]; exact ld_one (shTOf rfl) (Sl.at hS h (by omega))
        rw [ha] at hbad
        clear hall hst
        repeat' (first | ((with_reducible apply kP (.load 3 _)); refine sP ?_ (o_load rfl (hld _ SBt))) | ((with_reducible apply kDP (.load 3 _)); refine dP ?_ (hX := rfl) (hv := o_load rfl (hld _ SBt))) | ((with_reducible apply kQO (.load 3 _)); refine qP ?_ (o_load rfl (hld _ SBt))) | ((with_reducible apply kP (.load 3 _)); refine sP ?_ (o_load rfl (ld_one (shTOf rfl) (Sl.at (by assumption) SBt (by omega))))) | ((with_reducible apply kDP (.load 3 _)); refine dP ?_ (hX := rfl) (hv := o_load rfl (ld_one (shTOf rfl) (Sl.at (by assumption) SBt (by omega))))) | ((with_reducible apply kQO (.load 3 _)); refine qP ?_ (o_load rfl (ld_one (shTOf rfl) (Sl.at (by assumption) SBt (by omega))))) | ((with_reducible apply kP (.convert _ _ _)); refine sP ?_ (o_convU rfl u3 u92 (by omega))) | ((with_reducible apply kDP (.convert _ _ _)); refine dP ?_ (hX := rfl) (hv := o_convU rfl u3 u92 (by omega))) | ((with_reducible apply kQO (.convert _ _ _)); refine qP ?_ (o_convU rfl u3 u92 (by omega))) | ((with_reducible apply kP (.binOp .shr _ _ _ _)); refine sP ?_ (o_shrN rfl rfl (by omega))) | ((with_reducible apply kDP (.binOp .shr _ _ _ _)); refine dP ?_ (hX := rfl) (hv := o_shrN rfl rfl (by omega))) | ((with_reducible apply kQO (.binOp .shr _ _ _ _)); refine qP ?_ (o_shrN rfl rfl (by omega))) | ((with_reducible apply kP (.binOp .shl _ _ _ _)); refine sP ?_ (o_shl1 rfl rfl (by omega))) | ((with_reducible apply kDP (.binOp .shl _ _ _ _)); refine dP ?_ (hX := rfl) (hv := o_shl1 rfl rfl (by omega))) | ((with_reducible apply kQO (.binOp .shl _ _ _ _)); refine qP ?_ (o_shl1 rfl rfl (by omega))) | ((with_reducible apply kP (.binOp .and _ _ _ _)); refine sP ?_ (o_and1 rfl rfl)) | ((with_reducible apply kDP (.binOp .and _ _ _ _)); refine dP ?_ (hX := rfl) (hv := o_and1 rfl rfl)) | ((with_reducible apply kQO (.binOp .and _ _ _ _)); refine qP ?_ (o_and1 rfl rfl)) | (with_reducible first | refine c_seq ?_ | refine c_reg ?_ | refine c_region ?_ | refine c_block ?_ | refine c_skip ?_ | refine c_exit ?_ | refine c_ret ?_ | refine s_nil ?_ | refine x_then ?_ | refine x_then_exit ?_ | refine x_then_ret ?_ | refine x_block ?_ | refine x_block_ret ?_ | refine x_block_same ?_ | refine x_block_other (by rfl) ?_ | refine q_nil ?_ | refine k_nil ?_) | ((with_reducible apply kP (.makeFunc _ _ _)); refine sMF ?_) | ((with_reducible apply kG); first | refine gY1 ?_ | refine gN1 ?_ | refine gU1 ?_ | (refine gD1 (fun h => ?_) (fun h => ?_) <;> (try (exfalso; omega))) | refine gB1 (fun h => ?_) (fun h => ?_)) | ((with_reducible apply kN); first | refine stP ?_ | refine stI ?_ | refine st1 ?_ | refine stW ?_) | ((with_reducible apply kP (.alloc _)); refine sA (fun b => ?_)) | ((with_reducible apply kP (.box _ _)); first | refine sBA (fun b => ?_) | refine sB (fun b => ?_)) | ((with_reducible apply kP (.buildSlice _ 1 _)); first | refine sl1A (fun b => ?_) | refine sl1 (fun b => ?_)) | ((with_reducible apply kP (.buildSlice _ 2 _)); refine sl2 (fun b => ?_)) | ((with_reducible apply kP (.buildSlice _ 3 _)); refine sl3 (fun b => ?_)) | ((with_reducible apply kP (.buildSlice _ 4 _)); refine sl4 (fun b => ?_)) | ((with_reducible apply kP (.buildSlice _ 0 _)); refine s_bs0 (scTOf rfl) (zsTOf rfl) (by decide) (fun b => ?_)) | ((with_reducible apply kP (.makeSlice _ _ _)); refine sMk (fun b => ?_)) | ((with_reducible apply kP (.call ⟨.builtin .append, _, _⟩)); refine sAp (fun oa2 c2 blk2 hrow2 => ?_)) | ((with_reducible apply kP _); refine sP ?_) | ((with_reducible apply kP _); refine sX ?_) | ((with_reducible apply kQG); first | refine qY1 ?_ | refine qN1 ?_ | refine qU1 ?_ | (refine qD1 (fun h => ?_) (fun h => ?_) <;> (try (exfalso; omega))) | refine qB1 (fun h => ?_) (fun h => ?_)) | ((with_reducible apply kQP); refine qP ?_) | ((with_reducible apply kQP); refine qX ?_) | ((with_reducible apply kC); first | refine cT ?_ | refine cF ?_ | (refine cI (fun h => ?_) (fun h => ?_) <;> (try (exfalso; omega))) | refine cB (fun h => ?_) (fun h => ?_)) | ((with_reducible apply kR); refine cQ ?_))
        all_goals first
          | exact r_end (i + 1) ⟨hi', hall2⟩ (by omega) (by rw [eb]; exact (by repeat' first | trivial | rfl | apply And.intro)) (.refl _)
          | (exfalso; omega)
          | trace_state
    · obtain rfl : G = i := by omega
      obtain ⟨q1, q2⟩ := bo_ok hv hall
      have kb := r_bound N M (bz sz G) lz wz cL cW oaL oaW hv hl hwz B w0 hs hL hW
      rw [show bdF N M lz wz (bS (bz sz G)) = bdF N M lz wz (inB sz G) from bndS_congr fun o _ => bz_bit G hall o] at kb
      rw [q1, q2]
      repeat' (first | ((with_reducible apply kF 50); refine sC 50 (kb) ?_) | (with_reducible first | refine c_seq ?_ | refine c_reg ?_ | refine c_region ?_ | refine c_block ?_ | refine c_skip ?_ | refine c_exit ?_ | refine c_ret ?_ | refine s_nil ?_ | refine x_then ?_ | refine x_then_exit ?_ | refine x_then_ret ?_ | refine x_block ?_ | refine x_block_ret ?_ | refine x_block_same ?_ | refine x_block_other (by rfl) ?_ | refine q_nil ?_ | refine k_nil ?_) | ((with_reducible apply kP (.makeFunc _ _ _)); refine sMF ?_) | ((with_reducible apply kG); first | refine gY1 ?_ | refine gN1 ?_ | refine gU1 ?_ | (refine gD1 (fun h => ?_) (fun h => ?_) <;> (try (exfalso; omega))) | refine gB1 (fun h => ?_) (fun h => ?_)) | ((with_reducible apply kN); first | refine stP ?_ | refine stI ?_ | refine st1 ?_ | refine stW ?_) | ((with_reducible apply kP (.alloc _)); refine sA (fun b => ?_)) | ((with_reducible apply kP (.box _ _)); first | refine sBA (fun b => ?_) | refine sB (fun b => ?_)) | ((with_reducible apply kP (.buildSlice _ 1 _)); first | refine sl1A (fun b => ?_) | refine sl1 (fun b => ?_)) | ((with_reducible apply kP (.buildSlice _ 2 _)); refine sl2 (fun b => ?_)) | ((with_reducible apply kP (.buildSlice _ 3 _)); refine sl3 (fun b => ?_)) | ((with_reducible apply kP (.buildSlice _ 4 _)); refine sl4 (fun b => ?_)) | ((with_reducible apply kP (.buildSlice _ 0 _)); refine s_bs0 (scTOf rfl) (zsTOf rfl) (by decide) (fun b => ?_)) | ((with_reducible apply kP (.makeSlice _ _ _)); refine sMk (fun b => ?_)) | ((with_reducible apply kP (.call ⟨.builtin .append, _, _⟩)); refine sAp (fun oa2 c2 blk2 hrow2 => ?_)) | ((with_reducible apply kP _); refine sP ?_) | ((with_reducible apply kP _); refine sX ?_) | ((with_reducible apply kQG); first | refine qY1 ?_ | refine qN1 ?_ | refine qU1 ?_ | (refine qD1 (fun h => ?_) (fun h => ?_) <;> (try (exfalso; omega))) | refine qB1 (fun h => ?_) (fun h => ?_)) | ((with_reducible apply kQP); refine qP ?_) | ((with_reducible apply kQP); refine qX ?_) | ((with_reducible apply kC); first | refine cT ?_ | refine cF ?_ | (refine cI (fun h => ?_) (fun h => ?_) <;> (try (exfalso; omega))) | refine cB (fun h => ?_) (fun h => ?_)) | ((with_reducible apply kR); refine cQ ?_))
      exact e_ret2 rfl rfl rfl ⟨rfl, rfl⟩ SCt
  · obtain ⟨q1, q2⟩ := bo_bad (G := G) (sz := sz) hv
    rw [q1, q2]
    refine fn_enter Try.func37 rfl Try.ntmps37 (by simp) ?_
    repeat' (first | ((with_reducible apply kF 29); refine sC 29 (kv _ hL hW) ?_) | (with_reducible first | refine c_seq ?_ | refine c_reg ?_ | refine c_region ?_ | refine c_block ?_ | refine c_skip ?_ | refine c_exit ?_ | refine c_ret ?_ | refine s_nil ?_ | refine x_then ?_ | refine x_then_exit ?_ | refine x_then_ret ?_ | refine x_block ?_ | refine x_block_ret ?_ | refine x_block_same ?_ | refine x_block_other (by rfl) ?_ | refine q_nil ?_ | refine k_nil ?_) | ((with_reducible apply kP (.makeFunc _ _ _)); refine sMF ?_) | ((with_reducible apply kG); first | refine gY1 ?_ | refine gN1 ?_ | refine gU1 ?_ | (refine gD1 (fun h => ?_) (fun h => ?_) <;> (try (exfalso; omega))) | refine gB1 (fun h => ?_) (fun h => ?_)) | ((with_reducible apply kN); first | refine stP ?_ | refine stI ?_ | refine st1 ?_ | refine stW ?_) | ((with_reducible apply kP (.alloc _)); refine sA (fun b => ?_)) | ((with_reducible apply kP (.box _ _)); first | refine sBA (fun b => ?_) | refine sB (fun b => ?_)) | ((with_reducible apply kP (.buildSlice _ 1 _)); first | refine sl1A (fun b => ?_) | refine sl1 (fun b => ?_)) | ((with_reducible apply kP (.buildSlice _ 2 _)); refine sl2 (fun b => ?_)) | ((with_reducible apply kP (.buildSlice _ 3 _)); refine sl3 (fun b => ?_)) | ((with_reducible apply kP (.buildSlice _ 4 _)); refine sl4 (fun b => ?_)) | ((with_reducible apply kP (.buildSlice _ 0 _)); refine s_bs0 (scTOf rfl) (zsTOf rfl) (by decide) (fun b => ?_)) | ((with_reducible apply kP (.makeSlice _ _ _)); refine sMk (fun b => ?_)) | ((with_reducible apply kP (.call ⟨.builtin .append, _, _⟩)); refine sAp (fun oa2 c2 blk2 hrow2 => ?_)) | ((with_reducible apply kP _); refine sP ?_) | ((with_reducible apply kP _); refine sX ?_) | ((with_reducible apply kQG); first | refine qY1 ?_ | refine qN1 ?_ | refine qU1 ?_ | (refine qD1 (fun h => ?_) (fun h => ?_) <;> (try (exfalso; omega))) | refine qB1 (fun h => ?_) (fun h => ?_)) | ((with_reducible apply kQP); refine qP ?_) | ((with_reducible apply kQP); refine qX ?_) | ((with_reducible apply kC); first | refine cT ?_ | refine cF ?_ | (refine cI (fun h => ?_) (fun h => ?_) <;> (try (exfalso; omega))) | refine cB (fun h => ?_) (fun h => ?_)) | ((with_reducible apply kR); refine cQ ?_))
    exact e_ret2 rfl rfl rfl ⟨rfl, rfl⟩ (.refl _)
end
end Go.Proofs.Ytbplmoidgobcpaa
