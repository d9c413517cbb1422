/- Mix: the program's and the reference's. -/
import Derived.Test.YtphobgibcpmgdaaMD50
namespace Go.Proofs.Ytphobgibcpmgdaa
open Go.RowKit

def okW (x y : Int) : Prop := 0 ≤ x ∧ x ≤ 1000 ∧ 0 ≤ y ∧ y ≤ 1000 ∧ x + y ≠ 0
/-- The weights of a mixture. -/
def mxV (N M : Nat) (lz wz : List Int) (x y : Int) (k : Nat) : Int := x * tW wz M * wS lz N k + y * tW lz N * wS wz M k
def MRes (N M : Nat) (lz wz : List Int) (x y : Int) (u : Value) (blk : HS) : Prop :=
  (boE N M lz wz = 0 ∧ okW x y ∧ NRes (mxV N M lz wz x y) u blk) ∨ (boE N M lz wz = 0 ∧ ¬ okW x y ∧ u = .tuple #[.slice none 0 0, iv 1] ∧ blk = []) ∨ (boE N M lz wz ≠ 0 ∧ u = .tuple #[.slice none 0 0, iv (boE N M lz wz)] ∧ blk = [])
theorem prod_p {x y c d : Int} (h1 : 0 ≤ x ∧ x ≤ c) (h2 : 0 ≤ y ∧ y ≤ d) (hc : 0 ≤ c) : 0 ≤ x * y ∧ x * y ≤ c * d := ⟨Int.mul_nonneg h1.1 h2.1, Int.mul_le_mul h1.2 h2.2 h2.1 hc⟩
/-- What is known of a mixture's weights. -/
structure MV (N M : Nat) (lz wz : List Int) (A C : Int) : Prop where
  a : 0 ≤ A ∧ A ≤ 6000000
  c : 0 ≤ C ∧ C ≤ 6000000
  az : ∀ k, 0 ≤ A * wS lz N k ∧ A * wS lz N k ≤ 100000000000
  cz : ∀ k, 0 ≤ C * wS wz M k ∧ C * wS wz M k ≤ 100000000000
  pos : ∃ k, k < 240 ∧ 0 < A * wS lz N k + C * wS wz M k
  z : ∀ k, 240 ≤ k → A * wS lz N k + C * wS wz M k = 0
theorem mv_of {N M : Nat} {lz wz : List Int} {x y : Int} (h1 : VB N lz) (h2 : VB M wz) (h : okW x y) : MV N M lz wz (x * tW wz M) (y * tW lz N) := by
  obtain ⟨a1, a2, b1, b2, hs⟩ := h
  have t1 := h1.tot
  have t2 := h2.tot
  have qa := prod_p (x := x) (y := tW wz M) (c := 1000) (d := 6000) ⟨a1, a2⟩ (by omega) (by decide)
  have qc := prod_p (x := y) (y := tW lz N) (c := 1000) (d := 6000) ⟨b1, b2⟩ (by omega) (by decide)
  have za : ∀ k, 0 ≤ x * tW wz M * wS lz N k ∧ x * tW wz M * wS lz N k ≤ 100000000000 := fun k => by
    have := prod_p (c := 6000000) (d := 6000) (x := x * tW wz M) (by omega) (h1.wS k) (by decide); omega
  have zc : ∀ k, 0 ≤ y * tW lz N * wS wz M k ∧ y * tW lz N * wS wz M k ≤ 100000000000 := fun k => by
    have := prod_p (c := 6000000) (d := 6000) (x := y * tW lz N) (by omega) (h2.wS k) (by decide); omega
  refine ⟨by omega, by omega, za, zc, ?_, fun k hk => ?_⟩
  · by_cases hx : 0 < x
    · obtain ⟨k, hk, hp⟩ := vb_some h1
      have : 0 < x * tW wz M * wS lz N k := Int.mul_pos (Int.mul_pos hx (by omega)) hp
      have := (zc k).1
      exact ⟨k, hk, by omega⟩
    · obtain ⟨k, hk, hp⟩ := vb_some h2
      have : 0 < y * tW lz N * wS wz M k := Int.mul_pos (Int.mul_pos (by omega) (by omega)) hp
      have := (za k).1
      exact ⟨k, hk, by omega⟩
  · rw [wS_out h1.sd hk N (Nat.le_refl _), wS_out h2.sd hk M (Nat.le_refl _), Int.mul_zero, Int.mul_zero]; rfl
set_option maxRecDepth 100000 in
set_option maxHeartbeats 8000000 in
theorem r_Mix (N M : Nat) (lz wz : List Int) (x y : Int) (c d : Nat) (oa ob : Option Addr) (hN : N ≤ 100) (hM : M ≤ 100) (hl : lz.length = N * 4) (hw : wz.length = M * 4) (B : Nat) (w0 : Wd) (hs : HS) (hL : Sl B w0 hs oa lz) (hW : Sl B w0 hs ob wz) :
    Fn Try.prog 55 #[.slice oa N c, iv x, .slice ob M d, iv y] B w0 hs (fun u h => ∃ blk, MRes N M lz wz x y u blk ∧ h = blk ++ hs) := by
  have kb := r_both N M lz wz c d oa ob hN hM hl hw B w0
  have w1 := r_within x 0 1000 B w0
  have w2 := r_within y 0 1000 B w0
  have hw1 := @wB_to x 0 1000
  have hw2 := @wB_to y 0 1000
  by_cases hz : boE N M lz wz = 0
  · obtain ⟨h1, h2⟩ := bo_to hz
    rw [hz] at kb
    by_cases hk : okW x y
    · have hv := mv_of h1 h2 hk
      have hR : MRes N M lz wz x y = NRes (mxV N M lz wz x y) := by
        funext u blk; unfold MRes; simp [hz, hk]
      rw [hR]
      have km := fun hs hL hW => r_merged N M lz wz (x * tW wz M) (y * tW lz N) c d oa ob h1.le h2.le hl hw h1.w h2.w (mxV N M lz wz x y) (fun k => rfl) hv.az hv.cz hv.z hv.pos B w0 hs hL hW
      have k3 := r_total N lz c oa h1.le hl h1.w B w0
      have k4 := r_total M wz d ob h2.le hw h2.w B w0
      rw [show sumTo (wgt lz) N = tW lz N from rfl] at k3
      rw [show sumTo (wgt wz) M = tW wz M from rfl] at k4
      obtain ⟨a1, a2, b1, b2, hs'⟩ := hk
      have ha := hv.a
      have hc := hv.c
      generalize tW lz N = p at *
      generalize tW wz M = q at *
      have e1 : wB x 0 1000 = true := hw1.2 (by omega)
      have e2 : wB y 0 1000 = true := hw2.2 (by omega)
      rw [e1] at w1
      rw [e2] at w2
      refine fn_enter Try.func55 rfl Try.ntmps55 (by simp) ?_
      repeat' (first | ((with_reducible apply kF 70); refine sC 70 (kb _ (hL.sub SBt) (hW.sub SBt)) ?_) | ((with_reducible apply kF 59); refine sC 59 (w1 _) ?_) | ((with_reducible apply kF 59); refine sC 59 (w2 _) ?_) | ((with_reducible apply kF 78); refine sC 78 (k3 _ (hL.sub SBt)) ?_) | ((with_reducible apply kF 78); refine sC 78 (k4 _ (hW.sub SBt)) ?_) | ((with_reducible apply kF 74); refine sN 74 (km _ (hL.sub SBt) (hW.sub SBt)) ?_; rintro u blk hu; obtain ⟨oa2, n2, c2, e2, rfl⟩ := nres_tup hu) | (with_reducible first | refine c_seq ?_ | refine c_reg ?_ | refine c_region ?_ | refine c_block ?_ | refine c_skip ?_ | refine c_exit ?_ | refine c_ret ?_ | refine s_nil ?_ | refine x_then ?_ | refine x_then_exit ?_ | refine x_then_ret ?_ | refine x_block ?_ | refine x_block_ret ?_ | refine x_block_same ?_ | refine x_block_other (by rfl) ?_ | refine q_nil ?_ | refine k_nil ?_) | ((with_reducible apply kP (.makeFunc _ _ _)); refine sMF ?_) | ((with_reducible apply kG); first | refine gY1 ?_ | refine gN1 ?_ | refine gU1 ?_ | (refine gD1 (fun h => ?_) (fun h => ?_) <;> (try (exfalso; omega))) | refine gB1 (fun h => ?_) (fun h => ?_)) | ((with_reducible apply kN); first | refine stP ?_ | refine stI ?_ | refine st1 ?_ | refine stW ?_) | ((with_reducible apply kP (.alloc _)); refine sA (fun b => ?_)) | ((with_reducible apply kP (.box _ _)); first | refine sBA (fun b => ?_) | refine sB (fun b => ?_)) | ((with_reducible apply kP (.buildSlice _ 1 _)); first | refine sl1A (fun b => ?_) | refine sl1 (fun b => ?_)) | ((with_reducible apply kP (.buildSlice _ 2 _)); refine sl2 (fun b => ?_)) | ((with_reducible apply kP (.buildSlice _ 3 _)); refine sl3 (fun b => ?_)) | ((with_reducible apply kP (.buildSlice _ 4 _)); refine sl4 (fun b => ?_)) | ((with_reducible apply kP (.buildSlice _ 0 _)); refine s_bs0 (scTOf rfl) (zsTOf rfl) (by decide) (fun b => ?_)) | ((with_reducible apply kP (.makeSlice _ _ _)); refine sMk (fun b => ?_)) | ((with_reducible apply kP (.call ⟨.builtin .append, _, _⟩)); refine sAp (fun oa2 c2 blk2 hrow2 => ?_)) | ((with_reducible apply kP _); refine sP ?_) | ((with_reducible apply kP _); refine sX ?_) | ((with_reducible apply kQG); first | refine qY1 ?_ | refine qN1 ?_ | refine qU1 ?_ | (refine qD1 (fun h => ?_) (fun h => ?_) <;> (try (exfalso; omega))) | refine qB1 (fun h => ?_) (fun h => ?_)) | ((with_reducible apply kQP); refine qP ?_) | ((with_reducible apply kQP); refine qX ?_) | ((with_reducible apply kC); first | refine cT ?_ | refine cF ?_ | (refine cI (fun h => ?_) (fun h => ?_) <;> (try (exfalso; omega))) | refine cB (fun h => ?_) (fun h => ?_)) | ((with_reducible apply kR); refine cQ ?_))
      all_goals first
        | exact e_ret2 rfl rfl rfl ⟨_, hu, rfl⟩ (.refl _)
        | (exfalso; omega)
        | trace_state
    · have hR : MRes N M lz wz x y = fun u blk => u = .tuple #[.slice none 0 0, iv 1] ∧ blk = [] := by
        funext u blk; unfold MRes; simp [hz, hk]
      rw [hR]
      unfold okW at hk
      generalize wB x 0 1000 = c1 at *
      generalize wB y 0 1000 = c2 at *
      rcases c1 with _ | _ <;> rcases c2 with _ | _ <;> simp only [Bool.false_eq_true, false_iff, true_iff] at hw1 hw2
      all_goals
        refine fn_enter Try.func55 rfl Try.ntmps55 (by simp) ?_
        repeat' (first | ((with_reducible apply kF 70); refine sC 70 (kb _ (hL.sub SBt) (hW.sub SBt)) ?_) | ((with_reducible apply kF 59); refine sC 59 (w1 _) ?_) | ((with_reducible apply kF 59); refine sC 59 (w2 _) ?_) | (with_reducible first | refine c_seq ?_ | refine c_reg ?_ | refine c_region ?_ | refine c_block ?_ | refine c_skip ?_ | refine c_exit ?_ | refine c_ret ?_ | refine s_nil ?_ | refine x_then ?_ | refine x_then_exit ?_ | refine x_then_ret ?_ | refine x_block ?_ | refine x_block_ret ?_ | refine x_block_same ?_ | refine x_block_other (by rfl) ?_ | refine q_nil ?_ | refine k_nil ?_) | ((with_reducible apply kP (.makeFunc _ _ _)); refine sMF ?_) | ((with_reducible apply kG); first | refine gY1 ?_ | refine gN1 ?_ | refine gU1 ?_ | (refine gD1 (fun h => ?_) (fun h => ?_) <;> (try (exfalso; omega))) | refine gB1 (fun h => ?_) (fun h => ?_)) | ((with_reducible apply kN); first | refine stP ?_ | refine stI ?_ | refine st1 ?_ | refine stW ?_) | ((with_reducible apply kP (.alloc _)); refine sA (fun b => ?_)) | ((with_reducible apply kP (.box _ _)); first | refine sBA (fun b => ?_) | refine sB (fun b => ?_)) | ((with_reducible apply kP (.buildSlice _ 1 _)); first | refine sl1A (fun b => ?_) | refine sl1 (fun b => ?_)) | ((with_reducible apply kP (.buildSlice _ 2 _)); refine sl2 (fun b => ?_)) | ((with_reducible apply kP (.buildSlice _ 3 _)); refine sl3 (fun b => ?_)) | ((with_reducible apply kP (.buildSlice _ 4 _)); refine sl4 (fun b => ?_)) | ((with_reducible apply kP (.buildSlice _ 0 _)); refine s_bs0 (scTOf rfl) (zsTOf rfl) (by decide) (fun b => ?_)) | ((with_reducible apply kP (.makeSlice _ _ _)); refine sMk (fun b => ?_)) | ((with_reducible apply kP (.call ⟨.builtin .append, _, _⟩)); refine sAp (fun oa2 c2 blk2 hrow2 => ?_)) | ((with_reducible apply kP _); refine sP ?_) | ((with_reducible apply kP _); refine sX ?_) | ((with_reducible apply kQG); first | refine qY1 ?_ | refine qN1 ?_ | refine qU1 ?_ | (refine qD1 (fun h => ?_) (fun h => ?_) <;> (try (exfalso; omega))) | refine qB1 (fun h => ?_) (fun h => ?_)) | ((with_reducible apply kQP); refine qP ?_) | ((with_reducible apply kQP); refine qX ?_) | ((with_reducible apply kC); first | refine cT ?_ | refine cF ?_ | (refine cI (fun h => ?_) (fun h => ?_) <;> (try (exfalso; omega))) | refine cB (fun h => ?_) (fun h => ?_)) | ((with_reducible apply kR); refine cQ ?_))
        all_goals first
          | exact e_ret2 rfl rfl rfl ⟨[], ⟨rfl, rfl⟩, rfl⟩ (.refl _)
          | (exfalso; omega)
          | trace_state
  · have hR : MRes N M lz wz x y = fun u blk => u = .tuple #[.slice none 0 0, iv (boE N M lz wz)] ∧ blk = [] := by
      funext u blk; unfold MRes; simp [hz]
    rw [hR]
    generalize boE N M lz wz = e at *
    refine fn_enter Try.func55 rfl Try.ntmps55 (by simp) ?_
    repeat' (first | ((with_reducible apply kF 70); refine sC 70 (kb _ (hL.sub SBt) (hW.sub SBt)) ?_) | (with_reducible first | refine c_seq ?_ | refine c_reg ?_ | refine c_region ?_ | refine c_block ?_ | refine c_skip ?_ | refine c_exit ?_ | refine c_ret ?_ | refine s_nil ?_ | refine x_then ?_ | refine x_then_exit ?_ | refine x_then_ret ?_ | refine x_block ?_ | refine x_block_ret ?_ | refine x_block_same ?_ | refine x_block_other (by rfl) ?_ | refine q_nil ?_ | refine k_nil ?_) | ((with_reducible apply kP (.makeFunc _ _ _)); refine sMF ?_) | ((with_reducible apply kG); first | refine gY1 ?_ | refine gN1 ?_ | refine gU1 ?_ | (refine gD1 (fun h => ?_) (fun h => ?_) <;> (try (exfalso; omega))) | refine gB1 (fun h => ?_) (fun h => ?_)) | ((with_reducible apply kN); first | refine stP ?_ | refine stI ?_ | refine st1 ?_ | refine stW ?_) | ((with_reducible apply kP (.alloc _)); refine sA (fun b => ?_)) | ((with_reducible apply kP (.box _ _)); first | refine sBA (fun b => ?_) | refine sB (fun b => ?_)) | ((with_reducible apply kP (.buildSlice _ 1 _)); first | refine sl1A (fun b => ?_) | refine sl1 (fun b => ?_)) | ((with_reducible apply kP (.buildSlice _ 2 _)); refine sl2 (fun b => ?_)) | ((with_reducible apply kP (.buildSlice _ 3 _)); refine sl3 (fun b => ?_)) | ((with_reducible apply kP (.buildSlice _ 4 _)); refine sl4 (fun b => ?_)) | ((with_reducible apply kP (.buildSlice _ 0 _)); refine s_bs0 (scTOf rfl) (zsTOf rfl) (by decide) (fun b => ?_)) | ((with_reducible apply kP (.makeSlice _ _ _)); refine sMk (fun b => ?_)) | ((with_reducible apply kP (.call ⟨.builtin .append, _, _⟩)); refine sAp (fun oa2 c2 blk2 hrow2 => ?_)) | ((with_reducible apply kP _); refine sP ?_) | ((with_reducible apply kP _); refine sX ?_) | ((with_reducible apply kQG); first | refine qY1 ?_ | refine qN1 ?_ | refine qU1 ?_ | (refine qD1 (fun h => ?_) (fun h => ?_) <;> (try (exfalso; omega))) | refine qB1 (fun h => ?_) (fun h => ?_)) | ((with_reducible apply kQP); refine qP ?_) | ((with_reducible apply kQP); refine qX ?_) | ((with_reducible apply kC); first | refine cT ?_ | refine cF ?_ | (refine cI (fun h => ?_) (fun h => ?_) <;> (try (exfalso; omega))) | refine cB (fun h => ?_) (fun h => ?_)) | ((with_reducible apply kR); refine cQ ?_))
    all_goals first
      | exact e_ret2 rfl rfl rfl ⟨[], ⟨rfl, rfl⟩, rfl⟩ (.refl _)
      | trace_state
end Go.Proofs.Ytphobgibcpmgdaa
