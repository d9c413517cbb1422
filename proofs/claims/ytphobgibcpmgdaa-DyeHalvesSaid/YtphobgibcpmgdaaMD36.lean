/- Which blends match a sample: the walks. -/
import Derived.Test.YtphobgibcpmgdaaMD35
namespace Go.Proofs.Ytphobgibcpmgdaa
open Go.RowKit

def rtB (x y : Int) : Bool := decide (1 ≤ y ∧ y ≤ 1000 ∧ 0 ≤ x ∧ x ≤ y ∧ Nat.gcd x.toNat y.toNat = 1)
def nmB (N M : Nat) (lz wz : List Int) (x y : Int) : Bool := decide (dst N M lz wz / dgc N M lz wz * y ≤ x * (dnm N M lz wz / dgc N M lz wz))
def maE (N M : Nat) (lz wz : List Int) (x y : Int) : Int := if boE N M lz wz = 0 then (if rtB x y = true then 0 else 1) else boE N M lz wz
def maB (N M : Nat) (lz wz : List Int) (x y : Int) : Bool := if boE N M lz wz = 0 then (if rtB x y = true then nmB N M lz wz x y else false) else false
theorem bo_to {N M : Nat} {lz wz : List Int} (h : boE N M lz wz = 0) : VB N lz ∧ VB M wz := by
  unfold boE at h
  split at h
  · rename_i h1; exact ⟨VB.of h1, VB.of h⟩
  · rename_i h1; exact absurd h h1
/-- The quotients are small. -/
theorem quo_b {N M : Nat} {lz wz : List Int} (h1 : VB N lz) (h2 : VB M wz) : 0 ≤ dst N M lz wz / dgc N M lz wz ∧ dst N M lz wz / dgc N M lz wz ≤ 100000000000 ∧ 0 ≤ dnm N M lz wz / dgc N M lz wz ∧ dnm N M lz wz / dgc N M lz wz ≤ 100000000 := by
  have t1 := h1.tot
  have t2 := h2.tot
  have p1 := prod_b (x := tW lz N) (y := tW wz M) ⟨by omega, t1.2⟩ ⟨by omega, t2.2⟩
  have ed2 : dnm N M lz wz = 2 * (tW lz N * tW wz M) := Int.mul_assoc _ _ _
  have hd : 0 ≤ dst N M lz wz ∧ dst N M lz wz ≤ 240 * 36000000 := ds_b h1 h2 240
  have hg : 0 ≤ dgc N M lz wz := by unfold dgc; omega
  have q1 := Int.ediv_nonneg hd.1 hg
  have q2 := Int.ediv_le_self (dgc N M lz wz) hd.1
  have hn : 0 ≤ dnm N M lz wz := by omega
  have q3 := Int.ediv_nonneg hn hg
  have q4 := Int.ediv_le_self (dgc N M lz wz) hn
  exact ⟨q1, by omega, q3, by omega⟩
theorem mul_b {q y : Int} {c : Int} (h : 0 ≤ q ∧ q ≤ c) (hy : 0 ≤ y ∧ y ≤ 1000) (hc : 0 ≤ c) : 0 ≤ q * y ∧ q * y ≤ c * 1000 := ⟨Int.mul_nonneg h.1 hy.1, Int.mul_le_mul h.2 hy.2 hy.1 hc⟩
theorem rt_to {x y : Int} (h : rtB x y = true) : 1 ≤ y ∧ y ≤ 1000 ∧ 0 ≤ x ∧ x ≤ y ∧ Nat.gcd x.toNat y.toNat = 1 := by
  unfold rtB at h
  simpa using h
theorem rt_not {x y : Int} (h : rtB x y = false) : ¬ (1 ≤ y ∧ y ≤ 1000 ∧ 0 ≤ x ∧ x ≤ y ∧ Nat.gcd x.toNat y.toNat = 1) := by
  unfold rtB at h
  simpa using h
set_option maxRecDepth 100000 in
set_option maxHeartbeats 8000000 in
theorem k_Matches (N M : Nat) (lz wz : List Int) (x y : Int) (c d : Nat) (oa ob : Option Addr) (hN : N ≤ 100) (hM : M ≤ 100) (hl : lz.length = N * 4) (hw : wz.length = M * 4) (B : Nat) (w0 : Wd) (hs : HS) (hL : Sl B w0 hs oa lz) (hW : Sl B w0 hs ob wz) :
    Fn Try.prog 44 #[.slice oa N c, .slice ob M d, .agg #[iv x, iv y]] B w0 hs (fun v h => v = .tuple #[.bool (maB N M lz wz x y), iv (maE N M lz wz x y)] ∧ h = hs) := by
  by_cases hz : boE N M lz wz = 0
  · obtain ⟨h1, h2⟩ := bo_to hz
    have k0 := k_Apart N M lz wz c d oa ob h1 h2 hz hl hw B w0
    have qb := quo_b h1 h2
    rw [show maE N M lz wz x y = if rtB x y = true then 0 else 1 from if_pos hz]
    rw [show maB N M lz wz x y = if rtB x y = true then nmB N M lz wz x y else false from if_pos hz]
    have en : nmB N M lz wz x y = decide (dst N M lz wz / dgc N M lz wz * y ≤ x * (dnm N M lz wz / dgc N M lz wz)) := rfl
    rw [en]
    generalize dst N M lz wz / dgc N M lz wz = p at *
    generalize dnm N M lz wz / dgc N M lz wz = q at *
    unfold ratV at k0
    have kg := fun a1 a2 => k_gcdI x y a1 a2 B w0
    rcases hr : rtB x y with _ | _
    · have hr' := rt_not hr
      generalize Nat.gcd x.toNat y.toNat = g at *
      rw [if_neg (by simp), if_neg (by simp)]
      refine fn_enter Try.func44 rfl Try.ntmps44 (by simp) ?_
      repeat' (first | ((with_reducible apply kF 56); refine sC 56 (k0 _ (hL.sub SBt) (hW.sub SBt)) ?_) | ((with_reducible apply kF 69); refine sC 69 (kg ⟨by omega, by omega⟩ ⟨by omega, by omega⟩ _) ?_) | (with_reducible first | refine c_seq ?_ | refine c_reg ?_ | refine c_region ?_ | refine c_block ?_ | refine c_skip ?_ | refine c_exit ?_ | refine c_ret ?_ | refine s_nil ?_ | refine x_then ?_ | refine x_then_exit ?_ | refine x_then_ret ?_ | refine x_block ?_ | refine x_block_ret ?_ | refine x_block_same ?_ | refine x_block_other (by rfl) ?_ | refine q_nil ?_ | refine k_nil ?_) | ((with_reducible apply kP (.makeFunc _ _ _)); refine sMF ?_) | ((with_reducible apply kG); first | refine gY1 ?_ | refine gN1 ?_ | refine gU1 ?_ | (refine gD1 (fun h => ?_) (fun h => ?_) <;> (try (exfalso; omega))) | refine gB1 (fun h => ?_) (fun h => ?_)) | ((with_reducible apply kN); first | refine stP ?_ | refine stI ?_ | refine st1 ?_ | refine stW ?_) | ((with_reducible apply kP (.alloc _)); refine sA (fun b => ?_)) | ((with_reducible apply kP (.box _ _)); first | refine sBA (fun b => ?_) | refine sB (fun b => ?_)) | ((with_reducible apply kP (.buildSlice _ 1 _)); first | refine sl1A (fun b => ?_) | refine sl1 (fun b => ?_)) | ((with_reducible apply kP (.buildSlice _ 2 _)); refine sl2 (fun b => ?_)) | ((with_reducible apply kP (.buildSlice _ 3 _)); refine sl3 (fun b => ?_)) | ((with_reducible apply kP (.buildSlice _ 4 _)); refine sl4 (fun b => ?_)) | ((with_reducible apply kP (.buildSlice _ 0 _)); refine s_bs0 (scTOf rfl) (zsTOf rfl) (by decide) (fun b => ?_)) | ((with_reducible apply kP (.makeSlice _ _ _)); refine sMk (fun b => ?_)) | ((with_reducible apply kP (.call ⟨.builtin .append, _, _⟩)); refine sAp (fun oa2 c2 blk2 hrow2 => ?_)) | ((with_reducible apply kP _); refine sP ?_) | ((with_reducible apply kP _); refine sX ?_) | ((with_reducible apply kQG); first | refine qY1 ?_ | refine qN1 ?_ | refine qU1 ?_ | (refine qD1 (fun h => ?_) (fun h => ?_) <;> (try (exfalso; omega))) | refine qB1 (fun h => ?_) (fun h => ?_)) | ((with_reducible apply kQP); refine qP ?_) | ((with_reducible apply kQP); refine qX ?_) | ((with_reducible apply kC); first | refine cT ?_ | refine cF ?_ | (refine cI (fun h => ?_) (fun h => ?_) <;> (try (exfalso; omega))) | refine cB (fun h => ?_) (fun h => ?_)) | ((with_reducible apply kR); refine cQ ?_))
      all_goals first
        | exact e_ret2 rfl rfl rfl ⟨rfl, rfl⟩ SCt
        | (exfalso; omega)
        | trace_state
    · have hr' := rt_to hr
      have m1 := mul_b (y := y) ⟨qb.1, qb.2.1⟩ ⟨by omega, by omega⟩ (by decide)
      have m2 := mul_b (y := x) ⟨qb.2.2.1, qb.2.2.2⟩ ⟨by omega, by omega⟩ (by decide)
      rw [Int.mul_comm q x] at m2
      generalize Nat.gcd x.toNat y.toNat = g at *
      rw [if_pos rfl, if_pos rfl]
      refine fn_enter Try.func44 rfl Try.ntmps44 (by simp) ?_
      repeat' (first | ((with_reducible apply kF 56); refine sC 56 (k0 _ (hL.sub SBt) (hW.sub SBt)) ?_) | ((with_reducible apply kF 69); refine sC 69 (kg ⟨by omega, by omega⟩ ⟨by omega, by omega⟩ _) ?_) | (with_reducible first | refine c_seq ?_ | refine c_reg ?_ | refine c_region ?_ | refine c_block ?_ | refine c_skip ?_ | refine c_exit ?_ | refine c_ret ?_ | refine s_nil ?_ | refine x_then ?_ | refine x_then_exit ?_ | refine x_then_ret ?_ | refine x_block ?_ | refine x_block_ret ?_ | refine x_block_same ?_ | refine x_block_other (by rfl) ?_ | refine q_nil ?_ | refine k_nil ?_) | ((with_reducible apply kP (.makeFunc _ _ _)); refine sMF ?_) | ((with_reducible apply kG); first | refine gY1 ?_ | refine gN1 ?_ | refine gU1 ?_ | (refine gD1 (fun h => ?_) (fun h => ?_) <;> (try (exfalso; omega))) | refine gB1 (fun h => ?_) (fun h => ?_)) | ((with_reducible apply kN); first | refine stP ?_ | refine stI ?_ | refine st1 ?_ | refine stW ?_) | ((with_reducible apply kP (.alloc _)); refine sA (fun b => ?_)) | ((with_reducible apply kP (.box _ _)); first | refine sBA (fun b => ?_) | refine sB (fun b => ?_)) | ((with_reducible apply kP (.buildSlice _ 1 _)); first | refine sl1A (fun b => ?_) | refine sl1 (fun b => ?_)) | ((with_reducible apply kP (.buildSlice _ 2 _)); refine sl2 (fun b => ?_)) | ((with_reducible apply kP (.buildSlice _ 3 _)); refine sl3 (fun b => ?_)) | ((with_reducible apply kP (.buildSlice _ 4 _)); refine sl4 (fun b => ?_)) | ((with_reducible apply kP (.buildSlice _ 0 _)); refine s_bs0 (scTOf rfl) (zsTOf rfl) (by decide) (fun b => ?_)) | ((with_reducible apply kP (.makeSlice _ _ _)); refine sMk (fun b => ?_)) | ((with_reducible apply kP (.call ⟨.builtin .append, _, _⟩)); refine sAp (fun oa2 c2 blk2 hrow2 => ?_)) | ((with_reducible apply kP _); refine sP ?_) | ((with_reducible apply kP _); refine sX ?_) | ((with_reducible apply kQG); first | refine qY1 ?_ | refine qN1 ?_ | refine qU1 ?_ | (refine qD1 (fun h => ?_) (fun h => ?_) <;> (try (exfalso; omega))) | refine qB1 (fun h => ?_) (fun h => ?_)) | ((with_reducible apply kQP); refine qP ?_) | ((with_reducible apply kQP); refine qX ?_) | ((with_reducible apply kC); first | refine cT ?_ | refine cF ?_ | (refine cI (fun h => ?_) (fun h => ?_) <;> (try (exfalso; omega))) | refine cB (fun h => ?_) (fun h => ?_)) | ((with_reducible apply kR); refine cQ ?_))
      all_goals first
        | exact e_ret2 rfl rfl rfl ⟨rfl, rfl⟩ SCt
        | (exfalso; omega)
        | trace_state
  · have k0 := k_Apart0 N M lz wz c d oa ob hN hM hz hl hw B w0
    rw [show maE N M lz wz x y = boE N M lz wz from if_neg hz]
    rw [show maB N M lz wz x y = false from if_neg hz]
    generalize boE N M lz wz = e at *
    unfold ratV at k0
    refine fn_enter Try.func44 rfl Try.ntmps44 (by simp) ?_
    repeat' (first | ((with_reducible apply kF 56); refine sC 56 (k0 _ (hL.sub SBt) (hW.sub SBt)) ?_) | (with_reducible first | refine c_seq ?_ | refine c_reg ?_ | refine c_region ?_ | refine c_block ?_ | refine c_skip ?_ | refine c_exit ?_ | refine c_ret ?_ | refine s_nil ?_ | refine x_then ?_ | refine x_then_exit ?_ | refine x_then_ret ?_ | refine x_block ?_ | refine x_block_ret ?_ | refine x_block_same ?_ | refine x_block_other (by rfl) ?_ | refine q_nil ?_ | refine k_nil ?_) | ((with_reducible apply kP (.makeFunc _ _ _)); refine sMF ?_) | ((with_reducible apply kG); first | refine gY1 ?_ | refine gN1 ?_ | refine gU1 ?_ | (refine gD1 (fun h => ?_) (fun h => ?_) <;> (try (exfalso; omega))) | refine gB1 (fun h => ?_) (fun h => ?_)) | ((with_reducible apply kN); first | refine stP ?_ | refine stI ?_ | refine st1 ?_ | refine stW ?_) | ((with_reducible apply kP (.alloc _)); refine sA (fun b => ?_)) | ((with_reducible apply kP (.box _ _)); first | refine sBA (fun b => ?_) | refine sB (fun b => ?_)) | ((with_reducible apply kP (.buildSlice _ 1 _)); first | refine sl1A (fun b => ?_) | refine sl1 (fun b => ?_)) | ((with_reducible apply kP (.buildSlice _ 2 _)); refine sl2 (fun b => ?_)) | ((with_reducible apply kP (.buildSlice _ 3 _)); refine sl3 (fun b => ?_)) | ((with_reducible apply kP (.buildSlice _ 4 _)); refine sl4 (fun b => ?_)) | ((with_reducible apply kP (.buildSlice _ 0 _)); refine s_bs0 (scTOf rfl) (zsTOf rfl) (by decide) (fun b => ?_)) | ((with_reducible apply kP (.makeSlice _ _ _)); refine sMk (fun b => ?_)) | ((with_reducible apply kP (.call ⟨.builtin .append, _, _⟩)); refine sAp (fun oa2 c2 blk2 hrow2 => ?_)) | ((with_reducible apply kP _); refine sP ?_) | ((with_reducible apply kP _); refine sX ?_) | ((with_reducible apply kQG); first | refine qY1 ?_ | refine qN1 ?_ | refine qU1 ?_ | (refine qD1 (fun h => ?_) (fun h => ?_) <;> (try (exfalso; omega))) | refine qB1 (fun h => ?_) (fun h => ?_)) | ((with_reducible apply kQP); refine qP ?_) | ((with_reducible apply kQP); refine qX ?_) | ((with_reducible apply kC); first | refine cT ?_ | refine cF ?_ | (refine cI (fun h => ?_) (fun h => ?_) <;> (try (exfalso; omega))) | refine cB (fun h => ?_) (fun h => ?_)) | ((with_reducible apply kR); refine cQ ?_))
    exact e_ret2 rfl rfl rfl ⟨rfl, rfl⟩ SCt
set_option maxRecDepth 100000 in
set_option maxHeartbeats 8000000 in
theorem r_Matches (N M : Nat) (lz wz : List Int) (x y : Int) (c d : Nat) (oa ob : Option Addr) (hN : N ≤ 100) (hM : M ≤ 100) (hl : lz.length = N * 4) (hw : wz.length = M * 4) (B : Nat) (w0 : Wd) (hs : HS) (hL : Sl B w0 hs oa lz) (hW : Sl B w0 hs ob wz) :
    Fn Try.prog 45 #[.slice oa N c, .slice ob M d, .agg #[iv x, iv y]] B w0 hs (fun v h => v = .tuple #[.bool (maB N M lz wz x y), iv (maE N M lz wz x y)] ∧ h = hs) := by
  have kb := r_both N M lz wz c d oa ob hN hM hl hw B w0
  have w1 := r_within y 1 1000 B w0
  have w2 := r_within x 0 y B w0
  by_cases hz : boE N M lz wz = 0
  · obtain ⟨h1, h2⟩ := bo_to hz
    have k0 := r_distance N M lz wz c d oa ob h1 h2 hl hw B w0
    have qb := quo_b h1 h2
    rw [hz] at kb
    rw [show maE N M lz wz x y = if rtB x y = true then 0 else 1 from if_pos hz]
    rw [show maB N M lz wz x y = if rtB x y = true then nmB N M lz wz x y else false from if_pos hz]
    have en : nmB N M lz wz x y = decide (dst N M lz wz / dgc N M lz wz * y ≤ x * (dnm N M lz wz / dgc N M lz wz)) := rfl
    rw [en]
    generalize dst N M lz wz / dgc N M lz wz = p at *
    generalize dnm N M lz wz / dgc N M lz wz = q at *
    unfold ratV at k0
    have kg := fun a1 a2 => r_divisorI x y a1 a2 B w0
    have hw1 := @wB_to y 1 1000
    have hw2 := @wB_to x 0 y
    generalize wB y 1 1000 = c1 at *
    generalize wB x 0 y = c2 at *
    rcases hr : rtB x y with _ | _
    · have hr' := rt_not hr
      generalize Nat.gcd x.toNat y.toNat = g at *
      rw [if_neg (by simp), if_neg (by simp)]
      rcases c1 with _ | _ <;> rcases c2 with _ | _ <;> simp only [Bool.false_eq_true, false_iff, true_iff] at hw1 hw2
      all_goals
        refine fn_enter Try.func45 rfl Try.ntmps45 (by simp) ?_
        repeat' (first | ((with_reducible apply kF 70); refine sC 70 (kb _ (hL.sub SBt) (hW.sub SBt)) ?_) | ((with_reducible apply kF 59); refine sC 59 (w1 _) ?_) | ((with_reducible apply kF 59); refine sC 59 (w2 _) ?_) | ((with_reducible apply kF 72); refine sC 72 (k0 _ (hL.sub SBt) (hW.sub SBt)) ?_) | ((with_reducible apply kF 71); refine sC 71 (kg ⟨by omega, by omega⟩ ⟨by omega, by omega⟩ _) ?_) | (with_reducible first | refine c_seq ?_ | refine c_reg ?_ | refine c_region ?_ | refine c_block ?_ | refine c_skip ?_ | refine c_exit ?_ | refine c_ret ?_ | refine s_nil ?_ | refine x_then ?_ | refine x_then_exit ?_ | refine x_then_ret ?_ | refine x_block ?_ | refine x_block_ret ?_ | refine x_block_same ?_ | refine x_block_other (by rfl) ?_ | refine q_nil ?_ | refine k_nil ?_) | ((with_reducible apply kP (.makeFunc _ _ _)); refine sMF ?_) | ((with_reducible apply kG); first | refine gY1 ?_ | refine gN1 ?_ | refine gU1 ?_ | (refine gD1 (fun h => ?_) (fun h => ?_) <;> (try (exfalso; omega))) | refine gB1 (fun h => ?_) (fun h => ?_)) | ((with_reducible apply kN); first | refine stP ?_ | refine stI ?_ | refine st1 ?_ | refine stW ?_) | ((with_reducible apply kP (.alloc _)); refine sA (fun b => ?_)) | ((with_reducible apply kP (.box _ _)); first | refine sBA (fun b => ?_) | refine sB (fun b => ?_)) | ((with_reducible apply kP (.buildSlice _ 1 _)); first | refine sl1A (fun b => ?_) | refine sl1 (fun b => ?_)) | ((with_reducible apply kP (.buildSlice _ 2 _)); refine sl2 (fun b => ?_)) | ((with_reducible apply kP (.buildSlice _ 3 _)); refine sl3 (fun b => ?_)) | ((with_reducible apply kP (.buildSlice _ 4 _)); refine sl4 (fun b => ?_)) | ((with_reducible apply kP (.buildSlice _ 0 _)); refine s_bs0 (scTOf rfl) (zsTOf rfl) (by decide) (fun b => ?_)) | ((with_reducible apply kP (.makeSlice _ _ _)); refine sMk (fun b => ?_)) | ((with_reducible apply kP (.call ⟨.builtin .append, _, _⟩)); refine sAp (fun oa2 c2 blk2 hrow2 => ?_)) | ((with_reducible apply kP _); refine sP ?_) | ((with_reducible apply kP _); refine sX ?_) | ((with_reducible apply kQG); first | refine qY1 ?_ | refine qN1 ?_ | refine qU1 ?_ | (refine qD1 (fun h => ?_) (fun h => ?_) <;> (try (exfalso; omega))) | refine qB1 (fun h => ?_) (fun h => ?_)) | ((with_reducible apply kQP); refine qP ?_) | ((with_reducible apply kQP); refine qX ?_) | ((with_reducible apply kC); first | refine cT ?_ | refine cF ?_ | (refine cI (fun h => ?_) (fun h => ?_) <;> (try (exfalso; omega))) | refine cB (fun h => ?_) (fun h => ?_)) | ((with_reducible apply kR); refine cQ ?_))
        all_goals first
          | exact e_ret2 rfl rfl rfl ⟨rfl, rfl⟩ SCt
          | (exfalso; omega)
          | trace_state
    · have hr' := rt_to hr
      have m1 := mul_b (y := y) ⟨qb.1, qb.2.1⟩ ⟨by omega, by omega⟩ (by decide)
      have m2 := mul_b (y := x) ⟨qb.2.2.1, qb.2.2.2⟩ ⟨by omega, by omega⟩ (by decide)
      rw [Int.mul_comm q x] at m2
      generalize Nat.gcd x.toNat y.toNat = g at *
      rw [if_pos rfl, if_pos rfl]
      have c1t : c1 = true := hw1.2 (by omega)
      have c2t : c2 = true := hw2.2 (by omega)
      subst c1t c2t
      refine fn_enter Try.func45 rfl Try.ntmps45 (by simp) ?_
      repeat' (first | ((with_reducible apply kF 70); refine sC 70 (kb _ (hL.sub SBt) (hW.sub SBt)) ?_) | ((with_reducible apply kF 59); refine sC 59 (w1 _) ?_) | ((with_reducible apply kF 59); refine sC 59 (w2 _) ?_) | ((with_reducible apply kF 72); refine sC 72 (k0 _ (hL.sub SBt) (hW.sub SBt)) ?_) | ((with_reducible apply kF 71); refine sC 71 (kg ⟨by omega, by omega⟩ ⟨by omega, by omega⟩ _) ?_) | (with_reducible first | refine c_seq ?_ | refine c_reg ?_ | refine c_region ?_ | refine c_block ?_ | refine c_skip ?_ | refine c_exit ?_ | refine c_ret ?_ | refine s_nil ?_ | refine x_then ?_ | refine x_then_exit ?_ | refine x_then_ret ?_ | refine x_block ?_ | refine x_block_ret ?_ | refine x_block_same ?_ | refine x_block_other (by rfl) ?_ | refine q_nil ?_ | refine k_nil ?_) | ((with_reducible apply kP (.makeFunc _ _ _)); refine sMF ?_) | ((with_reducible apply kG); first | refine gY1 ?_ | refine gN1 ?_ | refine gU1 ?_ | (refine gD1 (fun h => ?_) (fun h => ?_) <;> (try (exfalso; omega))) | refine gB1 (fun h => ?_) (fun h => ?_)) | ((with_reducible apply kN); first | refine stP ?_ | refine stI ?_ | refine st1 ?_ | refine stW ?_) | ((with_reducible apply kP (.alloc _)); refine sA (fun b => ?_)) | ((with_reducible apply kP (.box _ _)); first | refine sBA (fun b => ?_) | refine sB (fun b => ?_)) | ((with_reducible apply kP (.buildSlice _ 1 _)); first | refine sl1A (fun b => ?_) | refine sl1 (fun b => ?_)) | ((with_reducible apply kP (.buildSlice _ 2 _)); refine sl2 (fun b => ?_)) | ((with_reducible apply kP (.buildSlice _ 3 _)); refine sl3 (fun b => ?_)) | ((with_reducible apply kP (.buildSlice _ 4 _)); refine sl4 (fun b => ?_)) | ((with_reducible apply kP (.buildSlice _ 0 _)); refine s_bs0 (scTOf rfl) (zsTOf rfl) (by decide) (fun b => ?_)) | ((with_reducible apply kP (.makeSlice _ _ _)); refine sMk (fun b => ?_)) | ((with_reducible apply kP (.call ⟨.builtin .append, _, _⟩)); refine sAp (fun oa2 c2 blk2 hrow2 => ?_)) | ((with_reducible apply kP _); refine sP ?_) | ((with_reducible apply kP _); refine sX ?_) | ((with_reducible apply kQG); first | refine qY1 ?_ | refine qN1 ?_ | refine qU1 ?_ | (refine qD1 (fun h => ?_) (fun h => ?_) <;> (try (exfalso; omega))) | refine qB1 (fun h => ?_) (fun h => ?_)) | ((with_reducible apply kQP); refine qP ?_) | ((with_reducible apply kQP); refine qX ?_) | ((with_reducible apply kC); first | refine cT ?_ | refine cF ?_ | (refine cI (fun h => ?_) (fun h => ?_) <;> (try (exfalso; omega))) | refine cB (fun h => ?_) (fun h => ?_)) | ((with_reducible apply kR); refine cQ ?_))
      all_goals first
        | exact e_ret2 rfl rfl rfl ⟨rfl, rfl⟩ SCt
        | (exfalso; omega)
        | trace_state
  · rw [show maE N M lz wz x y = boE N M lz wz from if_neg hz]
    rw [show maB N M lz wz x y = false from if_neg hz]
    generalize boE N M lz wz = e at *
    refine fn_enter Try.func45 rfl Try.ntmps45 (by simp) ?_
    repeat' (first | ((with_reducible apply kF 70); refine sC 70 (kb _ (hL.sub SBt) (hW.sub SBt)) ?_) | (with_reducible first | refine c_seq ?_ | refine c_reg ?_ | refine c_region ?_ | refine c_block ?_ | refine c_skip ?_ | refine c_exit ?_ | refine c_ret ?_ | refine s_nil ?_ | refine x_then ?_ | refine x_then_exit ?_ | refine x_then_ret ?_ | refine x_block ?_ | refine x_block_ret ?_ | refine x_block_same ?_ | refine x_block_other (by rfl) ?_ | refine q_nil ?_ | refine k_nil ?_) | ((with_reducible apply kP (.makeFunc _ _ _)); refine sMF ?_) | ((with_reducible apply kG); first | refine gY1 ?_ | refine gN1 ?_ | refine gU1 ?_ | (refine gD1 (fun h => ?_) (fun h => ?_) <;> (try (exfalso; omega))) | refine gB1 (fun h => ?_) (fun h => ?_)) | ((with_reducible apply kN); first | refine stP ?_ | refine stI ?_ | refine st1 ?_ | refine stW ?_) | ((with_reducible apply kP (.alloc _)); refine sA (fun b => ?_)) | ((with_reducible apply kP (.box _ _)); first | refine sBA (fun b => ?_) | refine sB (fun b => ?_)) | ((with_reducible apply kP (.buildSlice _ 1 _)); first | refine sl1A (fun b => ?_) | refine sl1 (fun b => ?_)) | ((with_reducible apply kP (.buildSlice _ 2 _)); refine sl2 (fun b => ?_)) | ((with_reducible apply kP (.buildSlice _ 3 _)); refine sl3 (fun b => ?_)) | ((with_reducible apply kP (.buildSlice _ 4 _)); refine sl4 (fun b => ?_)) | ((with_reducible apply kP (.buildSlice _ 0 _)); refine s_bs0 (scTOf rfl) (zsTOf rfl) (by decide) (fun b => ?_)) | ((with_reducible apply kP (.makeSlice _ _ _)); refine sMk (fun b => ?_)) | ((with_reducible apply kP (.call ⟨.builtin .append, _, _⟩)); refine sAp (fun oa2 c2 blk2 hrow2 => ?_)) | ((with_reducible apply kP _); refine sP ?_) | ((with_reducible apply kP _); refine sX ?_) | ((with_reducible apply kQG); first | refine qY1 ?_ | refine qN1 ?_ | refine qU1 ?_ | (refine qD1 (fun h => ?_) (fun h => ?_) <;> (try (exfalso; omega))) | refine qB1 (fun h => ?_) (fun h => ?_)) | ((with_reducible apply kQP); refine qP ?_) | ((with_reducible apply kQP); refine qX ?_) | ((with_reducible apply kC); first | refine cT ?_ | refine cF ?_ | (refine cI (fun h => ?_) (fun h => ?_) <;> (try (exfalso; omega))) | refine cB (fun h => ?_) (fun h => ?_)) | ((with_reducible apply kR); refine cQ ?_))
    exact e_ret2 rfl rfl rfl ⟨rfl, rfl⟩ SCt
end Go.Proofs.Ytphobgibcpmgdaa
