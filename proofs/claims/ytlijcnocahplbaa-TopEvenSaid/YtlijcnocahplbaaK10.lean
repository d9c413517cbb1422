/- Densities in even steps. -/
import Derived.Test.YtlijcnocahplbaaK9
namespace Go.Proofs.Ytlijcnocahplbaa
open Go.RowKit

theorem gz_pos {p q : Int} (h : 1 ≤ q) : 1 ≤ gz p q := by
  have := Nat.gcd_pos_of_pos_right p.toNat (show 0 < q.toNat by omega)
  unfold gz; omega
theorem gz_scale {p q t : Int} (hp : 0 ≤ p) (hq : 0 ≤ q) (ht : 0 ≤ t) : gz (p * t) (q * t) = gz p q * t := by
  obtain ⟨a, rfl⟩ := Int.eq_ofNat_of_zero_le hp
  obtain ⟨b, rfl⟩ := Int.eq_ofNat_of_zero_le hq
  obtain ⟨c, rfl⟩ := Int.eq_ofNat_of_zero_le ht
  unfold gz
  rw [← Int.natCast_mul, ← Int.natCast_mul, Int.toNat_natCast, Int.toNat_natCast, Int.toNat_natCast, Int.toNat_natCast, Nat.gcd_mul_right, Int.natCast_mul]
set_option maxRecDepth 100000 in
set_option maxHeartbeats 8000000 in
theorem k_lowest (p q : Int) (hp : 0 ≤ p) (hq : 1 ≤ q) (hp2 : p ≤ 9223372036854775807) (hq2 : q ≤ 9223372036854775807) (B : Nat) (w0 : World) (hs : HS) :
    Fn Try.prog 71 #[iv p, iv q] B w0 hs (fun v hs' => v = rat (p / gz p q) (q / gz p q) ∧ hs' = hs) := by
  have hg := gz_pos (p := p) hq
  refine fn_enter Try.func71 rfl Try.ntmps71 (by simp) ?_
  repeat' (first | ((with_reducible apply kF 89); refine sC 89 (k_divisor p q hp (by omega) hp2 hq2 B w0 _) ?_) | ((with_reducible apply kRg 2); refine cD [1, 1, 1, 1, 1, 1, 1, 4] ?_) | (with_reducible first | refine c_seq ?_ | refine c_reg ?_ | refine c_region ?_ | refine c_block ?_ | refine c_skip ?_ | refine c_exit ?_ | refine c_ret ?_ | refine s_nil ?_ | refine x_then ?_ | refine x_then_exit ?_ | refine x_then_ret ?_ | refine x_block ?_ | refine x_block_ret ?_ | refine x_block_same ?_ | refine x_block_other (by rfl) ?_ | refine q_nil ?_ | refine k_nil ?_) | ((with_reducible apply kP (.makeFunc _ _ _)); refine sMF ?_) | ((with_reducible apply kG); first | refine gY1 ?_ | refine gN1 ?_ | refine gU1 ?_ | (refine gD1 (fun h => ?_) (fun h => ?_) <;> (try (exfalso; omega))) | refine gB1 (fun h => ?_) (fun h => ?_)) | ((with_reducible apply kN); first | refine stP ?_ | refine stI ?_ | refine st1 ?_ | refine stW ?_) | ((with_reducible apply kP (.alloc _)); refine sA (fun b => ?_)) | ((with_reducible apply kP (.box _ _)); first | refine sBA (fun b => ?_) | refine sB (fun b => ?_)) | ((with_reducible apply kP (.buildSlice _ 1 _)); first | refine sl1A (fun b => ?_) | refine sl1 (fun b => ?_)) | ((with_reducible apply kP (.buildSlice _ 2 _)); refine sl2 (fun b => ?_)) | ((with_reducible apply kP (.buildSlice _ 3 _)); refine sl3 (fun b => ?_)) | ((with_reducible apply kP (.buildSlice _ 4 _)); refine sl4 (fun b => ?_)) | ((with_reducible apply kP (.buildSlice _ 0 _)); refine s_bs0 (scTOf rfl) (zsTOf rfl) (by decide) (fun b => ?_)) | ((with_reducible apply kP (.makeSlice _ _ _)); refine sMk (fun b => ?_)) | ((with_reducible apply kP (.call ⟨.builtin .append, _, _⟩)); refine sAp (fun oa2 c2 blk2 hrow2 => ?_)) | ((with_reducible apply kP _); refine sP ?_) | ((with_reducible apply kP _); refine sX ?_) | ((with_reducible apply kQG); first | refine qY1 ?_ | refine qN1 ?_ | refine qU1 ?_ | (refine qD1 (fun h => ?_) (fun h => ?_) <;> (try (exfalso; omega))) | refine qB1 (fun h => ?_) (fun h => ?_)) | ((with_reducible apply kQP); refine qP ?_) | ((with_reducible apply kQP); refine qX ?_) | ((with_reducible apply kC); first | refine cT ?_ | refine cF ?_ | (refine cI (fun h => ?_) (fun h => ?_) <;> (try (exfalso; omega))) | refine cB (fun h => ?_) (fun h => ?_)) | ((with_reducible apply kR); refine cQ ?_) | ((with_reducible apply kDG); first | refine dY1 ?_ | refine dNo1 ?_ | refine dU1 ?_ | (refine dD1 (fun h => ?_) (fun h => ?_) <;> (try (exfalso; omega))) | refine dB1 (fun h => ?_) (fun h => ?_)) | ((with_reducible apply kDN); first | refine dtI ?_ | refine dt1 ?_ | refine dtW ?_) | ((with_reducible apply kDP (.alloc _)); refine dA (fun b => ?_)) | ((with_reducible apply kDP (.box _ _)); first | refine dBA (fun b => ?_) | refine dB (fun b => ?_)) | ((with_reducible apply kDP (.buildSlice _ 1 _)); first | refine dl1A (fun b => ?_) | refine dl1 (fun b => ?_)) | ((with_reducible apply kDP (.call ⟨.builtin .append, _, _⟩)); first | refine dAp3 (fun oa2 c2 blk2 hrow2 => ?_) (hS := SCt) | refine dAp4 (fun oa2 c2 blk2 hrow2 => ?_)) | ((with_reducible apply kDP _); refine dP ?_) | ((with_reducible apply kDP _); refine dX ?_))
  exact e_ret1 rfl ⟨_, rfl, ld_two (shTOf rfl) MDt rfl rfl⟩ ⟨rfl, rfl⟩ SCt
/-- The numerator and the denominator of a step, not in lowest terms, of m steps. -/
def fnum (p q s t : Int) (m k : Nat) : Int := p * t * (m - k) + s * q * k
def fden (q t : Int) (m : Nat) : Int := q * t * m
def fN (p q s t : Int) (m k : Nat) : Int := fnum p q s t m k / gz (fnum p q s t m k) (fden q t m)
def fD (p q s t : Int) (m k : Nat) : Int := fden q t m / gz (fnum p q s t m k) (fden q t m)
theorem fnum_to {p q s t : Int} (h1 : densB p q = true) (h2 : densB s t = true) {m k : Nat} (hk : k ≤ m) (hm : m ≤ 60) : 0 ≤ p * t ∧ p * t ≤ 6000000 ∧ 0 ≤ s * q ∧ s * q ≤ 6000000 ∧ 0 ≤ p * t * (m - k) ∧ p * t * (m - k) ≤ 360000000 ∧ 0 ≤ s * q * k ∧ s * q * k ≤ 360000000 := by
  obtain ⟨a1, a2, a3, a4⟩ := dens_to h1
  obtain ⟨b1, b2, b3, b4⟩ := dens_to h2
  obtain ⟨c1, c2⟩ := mul_to a3 (show p ≤ 6000 by omega) (show 0 ≤ t by omega) b2
  obtain ⟨c3, c4⟩ := mul_to b3 (show s ≤ 6000 by omega) (show 0 ≤ q by omega) a2
  obtain ⟨c5, c6⟩ := mul_to c1 c2 (show (0 : Int) ≤ m - k by omega) (show (m - k : Int) ≤ 60 by omega)
  obtain ⟨c7, c8⟩ := mul_to c3 c4 (show (0 : Int) ≤ k by omega) (show (k : Int) ≤ 60 by omega)
  omega
theorem fden_to {p q s t : Int} (h1 : densB p q = true) (h2 : densB s t = true) {m : Nat} (hm0 : 1 ≤ m) (hm : m ≤ 60) : 0 ≤ q * t ∧ q * t ≤ 1000000 ∧ 1 ≤ fden q t m ∧ fden q t m ≤ 60000000 := by
  obtain ⟨a1, a2, a3, a4⟩ := dens_to h1
  obtain ⟨b1, b2, b3, b4⟩ := dens_to h2
  obtain ⟨c1, c2⟩ := mul_to (show 0 ≤ q by omega) a2 (show 0 ≤ t by omega) b2
  obtain ⟨c5, c6⟩ := mul_to c1 c2 (show (0 : Int) ≤ m by omega) (show (m : Int) ≤ 60 by omega)
  have c7 : 0 < q * t := Int.mul_pos (by omega) (by omega)
  have c8 : 0 < q * t * m := Int.mul_pos c7 (by omega)
  unfold fden
  omega
/-- The cells of the first fractions. -/
def fcell (p q s t : Int) (m : Nat) (i : Nat) : Int := if i % 2 = 0 then fN p q s t m (i / 2) else fD p q s t m (i / 2)
theorem fcell_two (p q s t : Int) (m k : Nat) : tab ((k + 1) * 2) (fcell p q s t m) = tab (k * 2) (fcell p q s t m) ++ [fN p q s t m k, fD p q s t m k] := by
  rw [show (k + 1) * 2 = k * 2 + 1 + 1 by omega, tab_succ, tab_succ]
  have e1 : fcell p q s t m (k * 2) = fN p q s t m k := by unfold fcell; rw [if_pos (by omega)]; congr 1; omega
  have e2 : fcell p q s t m (k * 2 + 1) = fD p q s t m k := by unfold fcell; rw [if_neg (by omega)]; congr 1; omega
  rw [e1, e2]
  simp
theorem ivs_two (m : List Int) (x y : Int) : ivs m ++ [iv x, iv y] = ivs (m ++ [x, y]) := by simp [ivs]
/-- Is some denominator too large? -/
def fbad (p q s t : Int) (m n : Nat) : Bool := (List.range n).any fun k => decide (1000 < fD p q s t m k)
theorem fbad_iff {p q s t : Int} {m n : Nat} : fbad p q s t m n = true ↔ ∃ k, k < n ∧ 1000 < fD p q s t m k := by
  simp [fbad]
def steps (n : Nat) : Nat := max (n - 1) 1
def fargs (p q s t z : Int) : Bool := decide (densB p q = true ∧ densB s t = true ∧ 1 ≤ z ∧ z ≤ 60)
def fadE (p q s t z : Int) : Int := if fargs p q s t z = true then if fbad p q s t (steps z.toNat) z.toNat = true then 4 else 0 else 1
/-- How many fractions come out, and their cells. -/
def fadN (p q s t z : Int) : Nat := if fadE p q s t z = 0 then z.toNat else 0
def fadL (p q s t z : Int) : List Int := tab (fadN p q s t z * 2) (fcell p q s t (steps z.toNat))
/-- A slice of new memory of pairs, with an error. -/
def NewF (l : List Int) (n : Nat) (e : Int) (u : Value) (blk : HS) : Prop := ∃ oa c, u = .tuple #[.slice oa n c, iv e] ∧ RowOk oa c 2 (ivs l) blk
set_option maxRecDepth 100000 in
set_option maxHeartbeats 8000000 in
theorem k_Fade (p q s t z : Int) (hp : p ≤ 9223372036854775807) (hs2 : s ≤ 9223372036854775807) (B : Nat) (w0 : World) (hs : HS) :
    Fn Try.prog 33 #[rat p q, rat s t, iv z] B w0 hs (fun u h => ∃ blk, NewF (fadL p q s t z) (fadN p q s t z) (fadE p q s t z) u blk ∧ h = blk ++ hs) := by
  have f1 := k_dens p q hp B w0
  have f2 := k_dens s t hs2 B w0
  by_cases ha : fargs p q s t z = true
  · obtain ⟨h1, h2, h3, h4⟩ := of_decide_eq_true ha
    obtain ⟨n, rfl⟩ := Int.eq_ofNat_of_zero_le (show 0 ≤ z by omega)
    have hst : max ((n : Int) - 1) 1 = (steps n : Nat) := by unfold steps; omega
    have hst1 : 1 ≤ steps n ∧ steps n ≤ 60 ∧ n - 1 ≤ steps n := by unfold steps; omega
    generalize hm : steps n = m at hst hst1
    rw [h1] at f1
    rw [h2] at f2
    have hbad : ∀ k, k < n → 1000 < fD p q s t m k → fadE p q s t n = 4 := fun k hk h => by
      unfold fadE
      rw [if_pos ha, Int.toNat_natCast, hm, if_pos (fbad_iff.2 ⟨k, hk, h⟩)]
    refine fn_enter Try.func33 rfl Try.ntmps33 (by simp) ?_
    repeat' (first | ((with_reducible apply kF 27); refine sC 27 (f1 _) ?_) | ((with_reducible apply kF 27); refine sC 27 (f2 _) ?_) | ((with_reducible apply kF 65); refine sC 65 (k_within _ _ _ B w0 _) ?_) | (with_reducible first | refine c_seq ?_ | refine c_reg ?_ | refine c_region ?_ | refine c_block ?_ | refine c_skip ?_ | refine c_exit ?_ | refine c_ret ?_ | refine s_nil ?_ | refine x_then ?_ | refine x_then_exit ?_ | refine x_then_ret ?_ | refine x_block ?_ | refine x_block_ret ?_ | refine x_block_same ?_ | refine x_block_other (by rfl) ?_ | refine q_nil ?_ | refine k_nil ?_) | ((with_reducible apply kP (.makeFunc _ _ _)); refine sMF ?_) | ((with_reducible apply kG); first | refine gY1 ?_ | refine gN1 ?_ | refine gU1 ?_ | (refine gD1 (fun h => ?_) (fun h => ?_) <;> (try (exfalso; omega))) | refine gB1 (fun h => ?_) (fun h => ?_)) | ((with_reducible apply kN); first | refine stP ?_ | refine stI ?_ | refine st1 ?_ | refine stW ?_) | ((with_reducible apply kP (.alloc _)); refine sA (fun b => ?_)) | ((with_reducible apply kP (.box _ _)); first | refine sBA (fun b => ?_) | refine sB (fun b => ?_)) | ((with_reducible apply kP (.buildSlice _ 1 _)); first | refine sl1A (fun b => ?_) | refine sl1 (fun b => ?_)) | ((with_reducible apply kP (.buildSlice _ 2 _)); refine sl2 (fun b => ?_)) | ((with_reducible apply kP (.buildSlice _ 3 _)); refine sl3 (fun b => ?_)) | ((with_reducible apply kP (.buildSlice _ 4 _)); refine sl4 (fun b => ?_)) | ((with_reducible apply kP (.buildSlice _ 0 _)); refine s_bs0 (scTOf rfl) (zsTOf rfl) (by decide) (fun b => ?_)) | ((with_reducible apply kP (.makeSlice _ _ _)); refine sMk (fun b => ?_)) | ((with_reducible apply kP (.call ⟨.builtin .append, _, _⟩)); refine sAp (fun oa2 c2 blk2 hrow2 => ?_)) | ((with_reducible apply kP _); refine sP ?_) | ((with_reducible apply kP _); refine sX ?_) | ((with_reducible apply kQG); first | refine qY1 ?_ | refine qN1 ?_ | refine qU1 ?_ | (refine qD1 (fun h => ?_) (fun h => ?_) <;> (try (exfalso; omega))) | refine qB1 (fun h => ?_) (fun h => ?_)) | ((with_reducible apply kQP); refine qP ?_) | ((with_reducible apply kQP); refine qX ?_) | ((with_reducible apply kC); first | refine cT ?_ | refine cF ?_ | (refine cI (fun h => ?_) (fun h => ?_) <;> (try (exfalso; omega))) | refine cB (fun h => ?_) (fun h => ?_)) | ((with_reducible apply kR); refine cQ ?_))
    rename_i b0
    refine c_loop (fun x : Nat × Option Addr × Nat × HS => [(3, .pointer (some ⟨b0, 0, none⟩)), (4, .pointer (some ⟨b, 0, none⟩)), (8, iv m), (9, .slice x.2.1 x.1 x.2.2.1), (28, iv n), (29, iv x.1)]) (fun x => x.2.2.2 ++ (b, [iv s, iv t]) :: (b0, [iv p, iv q]) :: hs)
      (fun x => x.1 ≤ n ∧ (∀ k, k < x.1 → fD p q s t m k ≤ 1000) ∧ RowOk x.2.1 x.2.2.1 2 (ivs (tab (x.1 * 2) (fcell p q s t m))) x.2.2.2) (fun x => n - x.1) (0, none, 0, []) ⟨by simp, by intro k hk; simp at hk, RowOk.nil⟩ (by simp only [← hst]; exact (by repeat' first | trivial | rfl | apply And.intro)) sb0 ?_
    rintro ⟨k, oa, c, blk⟩ ⟨hk, hg, hrow⟩
    simp only at hk hg hrow ⊢
    have hl := tab_length (k * 2) (fcell p q s t m)
    by_cases hk' : k < n
    · obtain ⟨u1, u2, u3, u4, u5, u6, u7, u8⟩ := fnum_to h1 h2 (show k ≤ m by omega) hst1.2.1
      obtain ⟨w1, w2, w3, w4⟩ := fden_to h1 h2 hst1.1 hst1.2.1
      have e1 : fnum p q s t m k = p * t * (m - k) + s * q * k := rfl
      have e2 : fden q t m = q * t * m := rfl
      have f3 := fun hs => k_lowest (fnum p q s t m k) (fden q t m) (by omega) w3 (by omega) (by omega) B w0 hs
      rw [show fnum p q s t m k / gz (fnum p q s t m k) (fden q t m) = fN p q s t m k from rfl, show fden q t m / gz (fnum p q s t m k) (fden q t m) = fD p q s t m k from rfl] at f3
      repeat' (first | ((with_reducible apply kF 71); refine sC 71 (f3 _) ?_) | (with_reducible first | refine c_seq ?_ | refine c_reg ?_ | refine c_region ?_ | refine c_block ?_ | refine c_skip ?_ | refine c_exit ?_ | refine c_ret ?_ | refine s_nil ?_ | refine x_then ?_ | refine x_then_exit ?_ | refine x_then_ret ?_ | refine x_block ?_ | refine x_block_ret ?_ | refine x_block_same ?_ | refine x_block_other (by rfl) ?_ | refine q_nil ?_ | refine k_nil ?_) | ((with_reducible apply kP (.makeFunc _ _ _)); refine sMF ?_) | ((with_reducible apply kG); first | refine gY1 ?_ | refine gN1 ?_ | refine gU1 ?_ | (refine gD1 (fun h => ?_) (fun h => ?_) <;> (try (exfalso; omega))) | refine gB1 (fun h => ?_) (fun h => ?_)) | ((with_reducible apply kN); first | refine stP ?_ | refine stI ?_ | refine st1 ?_ | refine stW ?_) | ((with_reducible apply kP (.alloc _)); refine sA (fun b => ?_)) | ((with_reducible apply kP (.box _ _)); first | refine sBA (fun b => ?_) | refine sB (fun b => ?_)) | ((with_reducible apply kP (.buildSlice _ 1 _)); first | refine sl1A (fun b => ?_) | refine sl1 (fun b => ?_)) | ((with_reducible apply kP (.buildSlice _ 2 _)); refine sl2 (fun b => ?_)) | ((with_reducible apply kP (.buildSlice _ 3 _)); refine sl3 (fun b => ?_)) | ((with_reducible apply kP (.buildSlice _ 4 _)); refine sl4 (fun b => ?_)) | ((with_reducible apply kP (.buildSlice _ 0 _)); refine s_bs0 (scTOf rfl) (zsTOf rfl) (by decide) (fun b => ?_)) | ((with_reducible apply kP (.makeSlice _ _ _)); refine sMk (fun b => ?_)) | ((with_reducible apply kP (.call ⟨.builtin .append, _, _⟩)); refine sAp (fun oa2 c2 blk2 hrow2 => ?_)) | ((with_reducible apply kP _); refine sP ?_) | ((with_reducible apply kP _); refine sX ?_) | ((with_reducible apply kQG); first | refine qY1 ?_ | refine qN1 ?_ | refine qU1 ?_ | (refine qD1 (fun h => ?_) (fun h => ?_) <;> (try (exfalso; omega))) | refine qB1 (fun h => ?_) (fun h => ?_)) | ((with_reducible apply kQP); refine qP ?_) | ((with_reducible apply kQP); refine qX ?_) | ((with_reducible apply kC); first | refine cT ?_ | refine cF ?_ | (refine cI (fun h => ?_) (fun h => ?_) <;> (try (exfalso; omega))) | refine cB (fun h => ?_) (fun h => ?_)) | ((with_reducible apply kR); refine cQ ?_))
      · have hb := h
        have hE := hbad k hk' hb
        have hN : fadN p q s t n = 0 := by unfold fadN; rw [hE]; rfl
        rw [hE, hN, show fadL p q s t n = [] by unfold fadL; rw [hN]; rfl]
        exact e_ret2 (hs' := hs) rfl rfl rfl ⟨[], ⟨none, 0, rfl, RowOk.nil⟩, rfl⟩ SCt
      · refine r_end (k + 1, oa2, c2, blk2) ⟨by omega, fun j hj => ?_, ?_⟩ (by simp only; omega) ⟨rfl, rfl, rfl, rfl, rfl, rfl, trivial⟩ SCt
        · by_cases hjk : j = k
          · subst hjk; omega
          · exact hg j (by omega)
        · rw [fcell_two, ← ivs_two]
          exact hrow2
    · obtain rfl : k = n := by omega
      have hE : fadE p q s t k = 0 := by
        unfold fadE
        rw [if_pos ha, Int.toNat_natCast, hm, if_neg]
        intro hb
        obtain ⟨j, hj, h⟩ := fbad_iff.1 hb
        have := hg j hj; omega
      have hN : fadN p q s t k = k := by unfold fadN; rw [if_pos hE, Int.toNat_natCast]
      have hL : fadL p q s t k = tab (k * 2) (fcell p q s t m) := by unfold fadL; rw [hN, Int.toNat_natCast, hm]
      rw [hE, hN, hL]
      repeat' (first | (with_reducible first | refine c_seq ?_ | refine c_reg ?_ | refine c_region ?_ | refine c_block ?_ | refine c_skip ?_ | refine c_exit ?_ | refine c_ret ?_ | refine s_nil ?_ | refine x_then ?_ | refine x_then_exit ?_ | refine x_then_ret ?_ | refine x_block ?_ | refine x_block_ret ?_ | refine x_block_same ?_ | refine x_block_other (by rfl) ?_ | refine q_nil ?_ | refine k_nil ?_) | ((with_reducible apply kP (.makeFunc _ _ _)); refine sMF ?_) | ((with_reducible apply kG); first | refine gY1 ?_ | refine gN1 ?_ | refine gU1 ?_ | (refine gD1 (fun h => ?_) (fun h => ?_) <;> (try (exfalso; omega))) | refine gB1 (fun h => ?_) (fun h => ?_)) | ((with_reducible apply kN); first | refine stP ?_ | refine stI ?_ | refine st1 ?_ | refine stW ?_) | ((with_reducible apply kP (.alloc _)); refine sA (fun b => ?_)) | ((with_reducible apply kP (.box _ _)); first | refine sBA (fun b => ?_) | refine sB (fun b => ?_)) | ((with_reducible apply kP (.buildSlice _ 1 _)); first | refine sl1A (fun b => ?_) | refine sl1 (fun b => ?_)) | ((with_reducible apply kP (.buildSlice _ 2 _)); refine sl2 (fun b => ?_)) | ((with_reducible apply kP (.buildSlice _ 3 _)); refine sl3 (fun b => ?_)) | ((with_reducible apply kP (.buildSlice _ 4 _)); refine sl4 (fun b => ?_)) | ((with_reducible apply kP (.buildSlice _ 0 _)); refine s_bs0 (scTOf rfl) (zsTOf rfl) (by decide) (fun b => ?_)) | ((with_reducible apply kP (.makeSlice _ _ _)); refine sMk (fun b => ?_)) | ((with_reducible apply kP (.call ⟨.builtin .append, _, _⟩)); refine sAp (fun oa2 c2 blk2 hrow2 => ?_)) | ((with_reducible apply kP _); refine sP ?_) | ((with_reducible apply kP _); refine sX ?_) | ((with_reducible apply kQG); first | refine qY1 ?_ | refine qN1 ?_ | refine qU1 ?_ | (refine qD1 (fun h => ?_) (fun h => ?_) <;> (try (exfalso; omega))) | refine qB1 (fun h => ?_) (fun h => ?_)) | ((with_reducible apply kQP); refine qP ?_) | ((with_reducible apply kQP); refine qX ?_) | ((with_reducible apply kC); first | refine cT ?_ | refine cF ?_ | (refine cI (fun h => ?_) (fun h => ?_) <;> (try (exfalso; omega))) | refine cB (fun h => ?_) (fun h => ?_)) | ((with_reducible apply kR); refine cQ ?_))
      exact e_ret2 rfl rfl rfl ⟨blk, ⟨oa, c, rfl, hrow⟩, rfl⟩ SCt
  · have hE : fadE p q s t z = 1 := by unfold fadE; rw [if_neg ha]
    have hN : fadN p q s t z = 0 := by unfold fadN; rw [hE]; rfl
    rw [hE, hN, show fadL p q s t z = [] by unfold fadL; rw [hN]; rfl]
    have ha' : ¬ (densB p q = true ∧ densB s t = true ∧ 1 ≤ z ∧ z ≤ 60) := fun h => ha (decide_eq_true h)
    refine fn_enter Try.func33 rfl Try.ntmps33 (by simp) ?_
    repeat' (first | ((with_reducible apply kF 27); refine sC 27 (f1 _) ?_) | ((with_reducible apply kF 27); refine sC 27 (f2 _) ?_) | ((with_reducible apply kF 65); refine sC 65 (k_within _ _ _ B w0 _) ?_) | (with_reducible first | refine c_seq ?_ | refine c_reg ?_ | refine c_region ?_ | refine c_block ?_ | refine c_skip ?_ | refine c_exit ?_ | refine c_ret ?_ | refine s_nil ?_ | refine x_then ?_ | refine x_then_exit ?_ | refine x_then_ret ?_ | refine x_block ?_ | refine x_block_ret ?_ | refine x_block_same ?_ | refine x_block_other (by rfl) ?_ | refine q_nil ?_ | refine k_nil ?_) | ((with_reducible apply kP (.makeFunc _ _ _)); refine sMF ?_) | ((with_reducible apply kG); first | refine gY1 ?_ | refine gN1 ?_ | refine gU1 ?_ | (refine gD1 (fun h => ?_) (fun h => ?_) <;> (try (exfalso; omega))) | refine gB1 (fun h => ?_) (fun h => ?_)) | ((with_reducible apply kN); first | refine stP ?_ | refine stI ?_ | refine st1 ?_ | refine stW ?_) | ((with_reducible apply kP (.alloc _)); refine sA (fun b => ?_)) | ((with_reducible apply kP (.box _ _)); first | refine sBA (fun b => ?_) | refine sB (fun b => ?_)) | ((with_reducible apply kP (.buildSlice _ 1 _)); first | refine sl1A (fun b => ?_) | refine sl1 (fun b => ?_)) | ((with_reducible apply kP (.buildSlice _ 2 _)); refine sl2 (fun b => ?_)) | ((with_reducible apply kP (.buildSlice _ 3 _)); refine sl3 (fun b => ?_)) | ((with_reducible apply kP (.buildSlice _ 4 _)); refine sl4 (fun b => ?_)) | ((with_reducible apply kP (.buildSlice _ 0 _)); refine s_bs0 (scTOf rfl) (zsTOf rfl) (by decide) (fun b => ?_)) | ((with_reducible apply kP (.makeSlice _ _ _)); refine sMk (fun b => ?_)) | ((with_reducible apply kP (.call ⟨.builtin .append, _, _⟩)); refine sAp (fun oa2 c2 blk2 hrow2 => ?_)) | ((with_reducible apply kP _); refine sP ?_) | ((with_reducible apply kP _); refine sX ?_) | ((with_reducible apply kQG); first | refine qY1 ?_ | refine qN1 ?_ | refine qU1 ?_ | (refine qD1 (fun h => ?_) (fun h => ?_) <;> (try (exfalso; omega))) | refine qB1 (fun h => ?_) (fun h => ?_)) | ((with_reducible apply kQP); refine qP ?_) | ((with_reducible apply kQP); refine qX ?_) | ((with_reducible apply kC); first | refine cT ?_ | refine cF ?_ | (refine cI (fun h => ?_) (fun h => ?_) <;> (try (exfalso; omega))) | refine cB (fun h => ?_) (fun h => ?_)) | ((with_reducible apply kR); refine cQ ?_))
    all_goals first
      | exact e_ret2 (hs' := hs) rfl rfl rfl ⟨[], ⟨none, 0, rfl, RowOk.nil⟩, rfl⟩ SCt
      | (exfalso; apply ha'; simp_all; done)
theorem fden_succ {p q s t : Int} {m k : Nat} (h1 : densB p q = true) (h2 : densB s t = true) : fN p q s t 1 0 = p ∧ fD p q s t 1 0 = q := by
  obtain ⟨a1, a2, a3, a4⟩ := dens_to h1
  obtain ⟨b1, b2, b3, b4⟩ := dens_to h2
  have hg : gz p q = 1 := by unfold densB at h1; exact (of_decide_eq_true h1).2.2.2.2
  have e1 : fnum p q s t 1 0 = p * t := by unfold fnum; simp
  have e2 : fden q t 1 = q * t := by unfold fden; simp
  have e3 : gz (p * t) (q * t) = t := by rw [gz_scale a3 (by omega) (by omega), hg, Int.one_mul]
  unfold fN fD
  rw [e1, e2, e3]
  exact ⟨Int.mul_ediv_cancel _ (by omega), Int.mul_ediv_cancel _ (by omega)⟩
theorem fad_one {p q s t : Int} (ha : fargs p q s t 1 = true) : fadE p q s t 1 = 0 ∧ fadN p q s t 1 = 1 ∧ fadL p q s t 1 = [p, q] := by
  obtain ⟨h1, h2, h3, h4⟩ := of_decide_eq_true ha
  obtain ⟨e1, e2⟩ := fden_succ (m := 0) (k := 0) h1 h2
  obtain ⟨a1, a2, a3, a4⟩ := dens_to h1
  have hs : steps (1 : Int).toNat = 1 := rfl
  have hE : fadE p q s t 1 = 0 := by
    unfold fadE
    rw [if_pos ha, hs, if_neg]
    intro hb
    obtain ⟨j, hj, h⟩ := fbad_iff.1 hb
    obtain rfl : j = 0 := by have : (1 : Int).toNat = 1 := rfl; omega
    omega
  have hN : fadN p q s t 1 = 1 := by unfold fadN; rw [if_pos hE]; rfl
  refine ⟨hE, hN, ?_⟩
  unfold fadL
  rw [hN, hs, show 1 * 2 = (0 + 1) * 2 from rfl, fcell_two, e1, e2]
  rfl
set_option maxRecDepth 100000 in
set_option maxHeartbeats 8000000 in
theorem r_Fade (p q s t z : Int) (hp : p ≤ 9223372036854775807) (hs2 : s ≤ 9223372036854775807) (B : Nat) (w0 : World) (hs : HS) :
    Fn Try.prog 34 #[rat p q, rat s t, iv z] B w0 hs (fun u h => ∃ blk, NewF (fadL p q s t z) (fadN p q s t z) (fadE p q s t z) u blk ∧ h = blk ++ hs) := by
  have f1 := r_dens p q hp B w0
  have f2 := r_dens s t hs2 B w0
  by_cases ha : fargs p q s t z = true
  · obtain ⟨h1, h2, h3, h4⟩ := of_decide_eq_true ha
    obtain ⟨n, rfl⟩ := Int.eq_ofNat_of_zero_le (show 0 ≤ z by omega)
    rw [h1] at f1
    rw [h2] at f2
    by_cases hn1 : n = 1
    · subst hn1
      obtain ⟨x1, x2, x3⟩ := fad_one ha
      rw [show ((1 : Nat) : Int) = 1 from rfl, x1, x2, x3]
      refine fn_enter Try.func34 rfl Try.ntmps34 (by simp) ?_
      repeat' (first | ((with_reducible apply kF 28); refine sC 28 (f1 _) ?_) | ((with_reducible apply kF 28); refine sC 28 (f2 _) ?_) | ((with_reducible apply kRg 14); refine cD [1, 1, 1, 1, 1, 1, 1, 1, 2, 4, 1] ?_) | (with_reducible first | refine c_seq ?_ | refine c_reg ?_ | refine c_region ?_ | refine c_block ?_ | refine c_skip ?_ | refine c_exit ?_ | refine c_ret ?_ | refine s_nil ?_ | refine x_then ?_ | refine x_then_exit ?_ | refine x_then_ret ?_ | refine x_block ?_ | refine x_block_ret ?_ | refine x_block_same ?_ | refine x_block_other (by rfl) ?_ | refine q_nil ?_ | refine k_nil ?_) | ((with_reducible apply kP (.makeFunc _ _ _)); refine sMF ?_) | ((with_reducible apply kG); first | refine gY1 ?_ | refine gN1 ?_ | refine gU1 ?_ | (refine gD1 (fun h => ?_) (fun h => ?_) <;> (try (exfalso; omega))) | refine gB1 (fun h => ?_) (fun h => ?_)) | ((with_reducible apply kN); first | refine stP ?_ | refine stI ?_ | refine st1 ?_ | refine stW ?_) | ((with_reducible apply kP (.alloc _)); refine sA (fun b => ?_)) | ((with_reducible apply kP (.box _ _)); first | refine sBA (fun b => ?_) | refine sB (fun b => ?_)) | ((with_reducible apply kP (.buildSlice _ 1 _)); first | refine sl1A (fun b => ?_) | refine sl1 (fun b => ?_)) | ((with_reducible apply kP (.buildSlice _ 2 _)); refine sl2 (fun b => ?_)) | ((with_reducible apply kP (.buildSlice _ 3 _)); refine sl3 (fun b => ?_)) | ((with_reducible apply kP (.buildSlice _ 4 _)); refine sl4 (fun b => ?_)) | ((with_reducible apply kP (.buildSlice _ 0 _)); refine s_bs0 (scTOf rfl) (zsTOf rfl) (by decide) (fun b => ?_)) | ((with_reducible apply kP (.makeSlice _ _ _)); refine sMk (fun b => ?_)) | ((with_reducible apply kP (.call ⟨.builtin .append, _, _⟩)); refine sAp (fun oa2 c2 blk2 hrow2 => ?_)) | ((with_reducible apply kP _); refine sP ?_) | ((with_reducible apply kP _); refine sX ?_) | ((with_reducible apply kQG); first | refine qY1 ?_ | refine qN1 ?_ | refine qU1 ?_ | (refine qD1 (fun h => ?_) (fun h => ?_) <;> (try (exfalso; omega))) | refine qB1 (fun h => ?_) (fun h => ?_)) | ((with_reducible apply kQP); refine qP ?_) | ((with_reducible apply kQP); refine qX ?_) | ((with_reducible apply kC); first | refine cT ?_ | refine cF ?_ | (refine cI (fun h => ?_) (fun h => ?_) <;> (try (exfalso; omega))) | refine cB (fun h => ?_) (fun h => ?_)) | ((with_reducible apply kR); refine cQ ?_) | ((with_reducible apply kDG); first | refine dY1 ?_ | refine dNo1 ?_ | refine dU1 ?_ | (refine dD1 (fun h => ?_) (fun h => ?_) <;> (try (exfalso; omega))) | refine dB1 (fun h => ?_) (fun h => ?_)) | ((with_reducible apply kDN); first | refine dtI ?_ | refine dt1 ?_ | refine dtW ?_) | ((with_reducible apply kDP (.alloc _)); refine dA (fun b => ?_)) | ((with_reducible apply kDP (.box _ _)); first | refine dBA (fun b => ?_) | refine dB (fun b => ?_)) | ((with_reducible apply kDP (.buildSlice _ 1 _)); first | refine dl1A (fun b => ?_) | refine dl1 (fun b => ?_)) | ((with_reducible apply kDP (.call ⟨.builtin .append, _, _⟩)); first | refine dAp3 (fun oa2 c2 blk2 hrow2 => ?_) (hS := SCt) | refine dAp4 (fun oa2 c2 blk2 hrow2 => ?_)) | ((with_reducible apply kDP _); refine dP ?_) | ((with_reducible apply kDP _); refine dX ?_))
      exact e_ret2 (hs' := (b, [iv p, iv q]) :: hs) rfl rfl rfl ⟨[(b, [iv p, iv q])], ⟨_, _, rfl, RowOk.new rfl (by decide)⟩, rfl⟩ SCt
    obtain ⟨m, rfl⟩ : ∃ m, n = m + 1 := ⟨n - 1, by omega⟩
    have hst : steps (m + 1) = m := by unfold steps; omega
    have hbad : ∀ k, k < m + 1 → 1000 < fD p q s t m k → fadE p q s t (m + 1 : Nat) = 4 := fun k hk h => by
      unfold fadE
      rw [if_pos ha, Int.toNat_natCast, hst, if_pos (fbad_iff.2 ⟨k, hk, h⟩)]
    have hc : ((m + 1 : Nat) : Int) - 1 = m := by omega
    refine fn_enter Try.func34 rfl Try.ntmps34 (by simp) ?_
    repeat' (first | ((with_reducible apply kF 28); refine sC 28 (f1 _) ?_) | ((with_reducible apply kF 28); refine sC 28 (f2 _) ?_) | ((with_reducible apply kRg 14); refine cD [1, 1, 1, 1, 1, 1, 1, 1, 2, 4, 1] ?_) | (with_reducible first | refine c_seq ?_ | refine c_reg ?_ | refine c_region ?_ | refine c_block ?_ | refine c_skip ?_ | refine c_exit ?_ | refine c_ret ?_ | refine s_nil ?_ | refine x_then ?_ | refine x_then_exit ?_ | refine x_then_ret ?_ | refine x_block ?_ | refine x_block_ret ?_ | refine x_block_same ?_ | refine x_block_other (by rfl) ?_ | refine q_nil ?_ | refine k_nil ?_) | ((with_reducible apply kP (.makeFunc _ _ _)); refine sMF ?_) | ((with_reducible apply kG); first | refine gY1 ?_ | refine gN1 ?_ | refine gU1 ?_ | (refine gD1 (fun h => ?_) (fun h => ?_) <;> (try (exfalso; omega))) | refine gB1 (fun h => ?_) (fun h => ?_)) | ((with_reducible apply kN); first | refine stP ?_ | refine stI ?_ | refine st1 ?_ | refine stW ?_) | ((with_reducible apply kP (.alloc _)); refine sA (fun b => ?_)) | ((with_reducible apply kP (.box _ _)); first | refine sBA (fun b => ?_) | refine sB (fun b => ?_)) | ((with_reducible apply kP (.buildSlice _ 1 _)); first | refine sl1A (fun b => ?_) | refine sl1 (fun b => ?_)) | ((with_reducible apply kP (.buildSlice _ 2 _)); refine sl2 (fun b => ?_)) | ((with_reducible apply kP (.buildSlice _ 3 _)); refine sl3 (fun b => ?_)) | ((with_reducible apply kP (.buildSlice _ 4 _)); refine sl4 (fun b => ?_)) | ((with_reducible apply kP (.buildSlice _ 0 _)); refine s_bs0 (scTOf rfl) (zsTOf rfl) (by decide) (fun b => ?_)) | ((with_reducible apply kP (.makeSlice _ _ _)); refine sMk (fun b => ?_)) | ((with_reducible apply kP (.call ⟨.builtin .append, _, _⟩)); refine sAp (fun oa2 c2 blk2 hrow2 => ?_)) | ((with_reducible apply kP _); refine sP ?_) | ((with_reducible apply kP _); refine sX ?_) | ((with_reducible apply kQG); first | refine qY1 ?_ | refine qN1 ?_ | refine qU1 ?_ | (refine qD1 (fun h => ?_) (fun h => ?_) <;> (try (exfalso; omega))) | refine qB1 (fun h => ?_) (fun h => ?_)) | ((with_reducible apply kQP); refine qP ?_) | ((with_reducible apply kQP); refine qX ?_) | ((with_reducible apply kC); first | refine cT ?_ | refine cF ?_ | (refine cI (fun h => ?_) (fun h => ?_) <;> (try (exfalso; omega))) | refine cB (fun h => ?_) (fun h => ?_)) | ((with_reducible apply kR); refine cQ ?_) | ((with_reducible apply kDG); first | refine dY1 ?_ | refine dNo1 ?_ | refine dU1 ?_ | (refine dD1 (fun h => ?_) (fun h => ?_) <;> (try (exfalso; omega))) | refine dB1 (fun h => ?_) (fun h => ?_)) | ((with_reducible apply kDN); first | refine dtI ?_ | refine dt1 ?_ | refine dtW ?_) | ((with_reducible apply kDP (.alloc _)); refine dA (fun b => ?_)) | ((with_reducible apply kDP (.box _ _)); first | refine dBA (fun b => ?_) | refine dB (fun b => ?_)) | ((with_reducible apply kDP (.buildSlice _ 1 _)); first | refine dl1A (fun b => ?_) | refine dl1 (fun b => ?_)) | ((with_reducible apply kDP (.call ⟨.builtin .append, _, _⟩)); first | refine dAp3 (fun oa2 c2 blk2 hrow2 => ?_) (hS := SCt) | refine dAp4 (fun oa2 c2 blk2 hrow2 => ?_)) | ((with_reducible apply kDP _); refine dP ?_) | ((with_reducible apply kDP _); refine dX ?_))
    rename_i b0 h60
    refine c_loop (fun x : Nat × Option Addr × Nat × HS => [(2, iv (m + 1 : Nat)), (3, .pointer (some ⟨b0, 0, none⟩)), (4, .pointer (some ⟨b, 0, none⟩)), (8, .slice x.2.1 x.1 x.2.2.1), (9, iv x.1)]) (fun x => x.2.2.2 ++ (b, [iv s, iv t]) :: (b0, [iv p, iv q]) :: hs)
      (fun x => x.1 ≤ m + 1 ∧ (∀ k, k < x.1 → fD p q s t m k ≤ 1000) ∧ RowOk x.2.1 x.2.2.1 2 (ivs (tab (x.1 * 2) (fcell p q s t m))) x.2.2.2) (fun x => m + 1 - x.1) (0, none, 0, []) ⟨by simp, by intro k hk; simp at hk, RowOk.nil⟩ (by repeat' first | trivial | rfl | apply And.intro) sb0 ?_
    rintro ⟨k, oa, c, blk⟩ ⟨hk, hg, hrow⟩
    simp only at hk hg hrow ⊢
    have hl := tab_length (k * 2) (fcell p q s t m)
    by_cases hk' : k < m + 1
    · obtain ⟨u1, u2, u3, u4, u5, u6, u7, u8⟩ := fnum_to h1 h2 (show k ≤ m by omega) (show m ≤ 60 by omega)
      obtain ⟨w1, w2, w3, w4⟩ := fden_to h1 h2 (show 1 ≤ m by omega) (show m ≤ 60 by omega)
      have e1 : fnum p q s t m k = p * t * (m - k) + s * q * k := rfl
      have e2 : fden q t m = q * t * m := rfl
      have f3 := fun hs => r_divisor (fnum p q s t m k) (fden q t m) (by omega) (by omega) (by omega) (by omega) B w0 hs
      have hg0 := gz_pos (p := fnum p q s t m k) w3
      repeat' (first | ((with_reducible apply kF 70); refine sC 70 (f3 _) ?_) | (with_reducible refine f_eq (t := 44) (v := iv (((m + 1 : Nat) : Int) - 1)) rfl (congrArg iv hc) ?_) | (with_reducible refine f_eq (t := 62) (v := iv (((m + 1 : Nat) : Int) - 1)) rfl (congrArg iv hc) ?_) | ((with_reducible apply kRg 14); refine cD [1, 1, 1, 1, 1, 1, 1, 1, 2, 4, 1] ?_) | (with_reducible first | refine c_seq ?_ | refine c_reg ?_ | refine c_region ?_ | refine c_block ?_ | refine c_skip ?_ | refine c_exit ?_ | refine c_ret ?_ | refine s_nil ?_ | refine x_then ?_ | refine x_then_exit ?_ | refine x_then_ret ?_ | refine x_block ?_ | refine x_block_ret ?_ | refine x_block_same ?_ | refine x_block_other (by rfl) ?_ | refine q_nil ?_ | refine k_nil ?_) | ((with_reducible apply kP (.makeFunc _ _ _)); refine sMF ?_) | ((with_reducible apply kG); first | refine gY1 ?_ | refine gN1 ?_ | refine gU1 ?_ | (refine gD1 (fun h => ?_) (fun h => ?_) <;> (try (exfalso; omega))) | refine gB1 (fun h => ?_) (fun h => ?_)) | ((with_reducible apply kN); first | refine stP ?_ | refine stI ?_ | refine st1 ?_ | refine stW ?_) | ((with_reducible apply kP (.alloc _)); refine sA (fun b => ?_)) | ((with_reducible apply kP (.box _ _)); first | refine sBA (fun b => ?_) | refine sB (fun b => ?_)) | ((with_reducible apply kP (.buildSlice _ 1 _)); first | refine sl1A (fun b => ?_) | refine sl1 (fun b => ?_)) | ((with_reducible apply kP (.buildSlice _ 2 _)); refine sl2 (fun b => ?_)) | ((with_reducible apply kP (.buildSlice _ 3 _)); refine sl3 (fun b => ?_)) | ((with_reducible apply kP (.buildSlice _ 4 _)); refine sl4 (fun b => ?_)) | ((with_reducible apply kP (.buildSlice _ 0 _)); refine s_bs0 (scTOf rfl) (zsTOf rfl) (by decide) (fun b => ?_)) | ((with_reducible apply kP (.makeSlice _ _ _)); refine sMk (fun b => ?_)) | ((with_reducible apply kP (.call ⟨.builtin .append, _, _⟩)); refine sAp (fun oa2 c2 blk2 hrow2 => ?_)) | ((with_reducible apply kP _); refine sP ?_) | ((with_reducible apply kP _); refine sX ?_) | ((with_reducible apply kQG); first | refine qY1 ?_ | refine qN1 ?_ | refine qU1 ?_ | (refine qD1 (fun h => ?_) (fun h => ?_) <;> (try (exfalso; omega))) | refine qB1 (fun h => ?_) (fun h => ?_)) | ((with_reducible apply kQP); refine qP ?_) | ((with_reducible apply kQP); refine qX ?_) | ((with_reducible apply kC); first | refine cT ?_ | refine cF ?_ | (refine cI (fun h => ?_) (fun h => ?_) <;> (try (exfalso; omega))) | refine cB (fun h => ?_) (fun h => ?_)) | ((with_reducible apply kR); refine cQ ?_) | ((with_reducible apply kDG); first | refine dY1 ?_ | refine dNo1 ?_ | refine dU1 ?_ | (refine dD1 (fun h => ?_) (fun h => ?_) <;> (try (exfalso; omega))) | refine dB1 (fun h => ?_) (fun h => ?_)) | ((with_reducible apply kDN); first | refine dtI ?_ | refine dt1 ?_ | refine dtW ?_) | ((with_reducible apply kDP (.alloc _)); refine dA (fun b => ?_)) | ((with_reducible apply kDP (.box _ _)); first | refine dBA (fun b => ?_) | refine dB (fun b => ?_)) | ((with_reducible apply kDP (.buildSlice _ 1 _)); first | refine dl1A (fun b => ?_) | refine dl1 (fun b => ?_)) | ((with_reducible apply kDP (.call ⟨.builtin .append, _, _⟩)); first | refine dAp3 (fun oa2 c2 blk2 hrow2 => ?_) (hS := SCt) | refine dAp4 (fun oa2 c2 blk2 hrow2 => ?_)) | ((with_reducible apply kDP _); refine dP ?_) | ((with_reducible apply kDP _); refine dX ?_))
      · have hE := hbad k hk' h
        have hN : fadN p q s t (m + 1 : Nat) = 0 := by unfold fadN; rw [hE]; rfl
        rw [hE, hN, show fadL p q s t (m + 1 : Nat) = [] by unfold fadL; rw [hN]; rfl]
        exact e_ret2 (hs' := hs) rfl rfl rfl ⟨[], ⟨none, 0, rfl, RowOk.nil⟩, rfl⟩ SCt
      · have h' : ¬ 1000 < fD p q s t m k := h
        refine r_end (k + 1, oa2, c2, blk2) ⟨by omega, fun j hj => ?_, ?_⟩ (by simp only; omega) ⟨rfl, rfl, rfl, rfl, rfl, trivial⟩ SCt
        · by_cases hjk : j = k
          · subst hjk; omega
          · exact hg j (by omega)
        · rw [fcell_two, ← ivs_two]
          exact hrow2
    · obtain rfl : k = m + 1 := by omega
      have hE : fadE p q s t (m + 1 : Nat) = 0 := by
        unfold fadE
        rw [if_pos ha, Int.toNat_natCast, hst, if_neg]
        intro hb
        obtain ⟨j, hj, h⟩ := fbad_iff.1 hb
        have := hg j hj; omega
      have hN : fadN p q s t (m + 1 : Nat) = m + 1 := by unfold fadN; rw [if_pos hE, Int.toNat_natCast]
      have hL : fadL p q s t (m + 1 : Nat) = tab ((m + 1) * 2) (fcell p q s t m) := by unfold fadL; rw [hN, Int.toNat_natCast, hst]
      rw [hE, hN, hL]
      repeat' (first | ((with_reducible apply kRg 14); refine cD [1, 1, 1, 1, 1, 1, 1, 1, 2, 4, 1] ?_) | (with_reducible first | refine c_seq ?_ | refine c_reg ?_ | refine c_region ?_ | refine c_block ?_ | refine c_skip ?_ | refine c_exit ?_ | refine c_ret ?_ | refine s_nil ?_ | refine x_then ?_ | refine x_then_exit ?_ | refine x_then_ret ?_ | refine x_block ?_ | refine x_block_ret ?_ | refine x_block_same ?_ | refine x_block_other (by rfl) ?_ | refine q_nil ?_ | refine k_nil ?_) | ((with_reducible apply kP (.makeFunc _ _ _)); refine sMF ?_) | ((with_reducible apply kG); first | refine gY1 ?_ | refine gN1 ?_ | refine gU1 ?_ | (refine gD1 (fun h => ?_) (fun h => ?_) <;> (try (exfalso; omega))) | refine gB1 (fun h => ?_) (fun h => ?_)) | ((with_reducible apply kN); first | refine stP ?_ | refine stI ?_ | refine st1 ?_ | refine stW ?_) | ((with_reducible apply kP (.alloc _)); refine sA (fun b => ?_)) | ((with_reducible apply kP (.box _ _)); first | refine sBA (fun b => ?_) | refine sB (fun b => ?_)) | ((with_reducible apply kP (.buildSlice _ 1 _)); first | refine sl1A (fun b => ?_) | refine sl1 (fun b => ?_)) | ((with_reducible apply kP (.buildSlice _ 2 _)); refine sl2 (fun b => ?_)) | ((with_reducible apply kP (.buildSlice _ 3 _)); refine sl3 (fun b => ?_)) | ((with_reducible apply kP (.buildSlice _ 4 _)); refine sl4 (fun b => ?_)) | ((with_reducible apply kP (.buildSlice _ 0 _)); refine s_bs0 (scTOf rfl) (zsTOf rfl) (by decide) (fun b => ?_)) | ((with_reducible apply kP (.makeSlice _ _ _)); refine sMk (fun b => ?_)) | ((with_reducible apply kP (.call ⟨.builtin .append, _, _⟩)); refine sAp (fun oa2 c2 blk2 hrow2 => ?_)) | ((with_reducible apply kP _); refine sP ?_) | ((with_reducible apply kP _); refine sX ?_) | ((with_reducible apply kQG); first | refine qY1 ?_ | refine qN1 ?_ | refine qU1 ?_ | (refine qD1 (fun h => ?_) (fun h => ?_) <;> (try (exfalso; omega))) | refine qB1 (fun h => ?_) (fun h => ?_)) | ((with_reducible apply kQP); refine qP ?_) | ((with_reducible apply kQP); refine qX ?_) | ((with_reducible apply kC); first | refine cT ?_ | refine cF ?_ | (refine cI (fun h => ?_) (fun h => ?_) <;> (try (exfalso; omega))) | refine cB (fun h => ?_) (fun h => ?_)) | ((with_reducible apply kR); refine cQ ?_) | ((with_reducible apply kDG); first | refine dY1 ?_ | refine dNo1 ?_ | refine dU1 ?_ | (refine dD1 (fun h => ?_) (fun h => ?_) <;> (try (exfalso; omega))) | refine dB1 (fun h => ?_) (fun h => ?_)) | ((with_reducible apply kDN); first | refine dtI ?_ | refine dt1 ?_ | refine dtW ?_) | ((with_reducible apply kDP (.alloc _)); refine dA (fun b => ?_)) | ((with_reducible apply kDP (.box _ _)); first | refine dBA (fun b => ?_) | refine dB (fun b => ?_)) | ((with_reducible apply kDP (.buildSlice _ 1 _)); first | refine dl1A (fun b => ?_) | refine dl1 (fun b => ?_)) | ((with_reducible apply kDP (.call ⟨.builtin .append, _, _⟩)); first | refine dAp3 (fun oa2 c2 blk2 hrow2 => ?_) (hS := SCt) | refine dAp4 (fun oa2 c2 blk2 hrow2 => ?_)) | ((with_reducible apply kDP _); refine dP ?_) | ((with_reducible apply kDP _); refine dX ?_))
      exact e_ret2 rfl rfl rfl ⟨blk, ⟨oa, c, rfl, hrow⟩, rfl⟩ SCt
  · have hE : fadE p q s t z = 1 := by unfold fadE; rw [if_neg ha]
    have hN : fadN p q s t z = 0 := by unfold fadN; rw [hE]; rfl
    rw [hE, hN, show fadL p q s t z = [] by unfold fadL; rw [hN]; rfl]
    have ha' : ¬ (densB p q = true ∧ densB s t = true ∧ 1 ≤ z ∧ z ≤ 60) := fun h => ha (decide_eq_true h)
    refine fn_enter Try.func34 rfl Try.ntmps34 (by simp) ?_
    repeat' (first | ((with_reducible apply kF 28); refine sC 28 (f1 _) ?_) | ((with_reducible apply kF 28); refine sC 28 (f2 _) ?_) | ((with_reducible apply kRg 14); refine cD [1, 1, 1, 1, 1, 1, 1, 1, 2, 4, 1] ?_) | (with_reducible first | refine c_seq ?_ | refine c_reg ?_ | refine c_region ?_ | refine c_block ?_ | refine c_skip ?_ | refine c_exit ?_ | refine c_ret ?_ | refine s_nil ?_ | refine x_then ?_ | refine x_then_exit ?_ | refine x_then_ret ?_ | refine x_block ?_ | refine x_block_ret ?_ | refine x_block_same ?_ | refine x_block_other (by rfl) ?_ | refine q_nil ?_ | refine k_nil ?_) | ((with_reducible apply kP (.makeFunc _ _ _)); refine sMF ?_) | ((with_reducible apply kG); first | refine gY1 ?_ | refine gN1 ?_ | refine gU1 ?_ | (refine gD1 (fun h => ?_) (fun h => ?_) <;> (try (exfalso; omega))) | refine gB1 (fun h => ?_) (fun h => ?_)) | ((with_reducible apply kN); first | refine stP ?_ | refine stI ?_ | refine st1 ?_ | refine stW ?_) | ((with_reducible apply kP (.alloc _)); refine sA (fun b => ?_)) | ((with_reducible apply kP (.box _ _)); first | refine sBA (fun b => ?_) | refine sB (fun b => ?_)) | ((with_reducible apply kP (.buildSlice _ 1 _)); first | refine sl1A (fun b => ?_) | refine sl1 (fun b => ?_)) | ((with_reducible apply kP (.buildSlice _ 2 _)); refine sl2 (fun b => ?_)) | ((with_reducible apply kP (.buildSlice _ 3 _)); refine sl3 (fun b => ?_)) | ((with_reducible apply kP (.buildSlice _ 4 _)); refine sl4 (fun b => ?_)) | ((with_reducible apply kP (.buildSlice _ 0 _)); refine s_bs0 (scTOf rfl) (zsTOf rfl) (by decide) (fun b => ?_)) | ((with_reducible apply kP (.makeSlice _ _ _)); refine sMk (fun b => ?_)) | ((with_reducible apply kP (.call ⟨.builtin .append, _, _⟩)); refine sAp (fun oa2 c2 blk2 hrow2 => ?_)) | ((with_reducible apply kP _); refine sP ?_) | ((with_reducible apply kP _); refine sX ?_) | ((with_reducible apply kQG); first | refine qY1 ?_ | refine qN1 ?_ | refine qU1 ?_ | (refine qD1 (fun h => ?_) (fun h => ?_) <;> (try (exfalso; omega))) | refine qB1 (fun h => ?_) (fun h => ?_)) | ((with_reducible apply kQP); refine qP ?_) | ((with_reducible apply kQP); refine qX ?_) | ((with_reducible apply kC); first | refine cT ?_ | refine cF ?_ | (refine cI (fun h => ?_) (fun h => ?_) <;> (try (exfalso; omega))) | refine cB (fun h => ?_) (fun h => ?_)) | ((with_reducible apply kR); refine cQ ?_) | ((with_reducible apply kDG); first | refine dY1 ?_ | refine dNo1 ?_ | refine dU1 ?_ | (refine dD1 (fun h => ?_) (fun h => ?_) <;> (try (exfalso; omega))) | refine dB1 (fun h => ?_) (fun h => ?_)) | ((with_reducible apply kDN); first | refine dtI ?_ | refine dt1 ?_ | refine dtW ?_) | ((with_reducible apply kDP (.alloc _)); refine dA (fun b => ?_)) | ((with_reducible apply kDP (.box _ _)); first | refine dBA (fun b => ?_) | refine dB (fun b => ?_)) | ((with_reducible apply kDP (.buildSlice _ 1 _)); first | refine dl1A (fun b => ?_) | refine dl1 (fun b => ?_)) | ((with_reducible apply kDP (.call ⟨.builtin .append, _, _⟩)); first | refine dAp3 (fun oa2 c2 blk2 hrow2 => ?_) (hS := SCt) | refine dAp4 (fun oa2 c2 blk2 hrow2 => ?_)) | ((with_reducible apply kDP _); refine dP ?_) | ((with_reducible apply kDP _); refine dX ?_))
    all_goals first
      | exact e_ret2 (hs' := hs) rfl rfl rfl ⟨[], ⟨none, 0, rfl, RowOk.nil⟩, rfl⟩ SCt
      | (exfalso; apply ha'; simp_all; done)
      | (exfalso; apply ha'; simp_all; omega)
/-! ### Equal lists of fractions; the steps from the other end -/
theorem fnum_back {p q s t : Int} {m k : Nat} (h : k ≤ m) : fnum s t p q m (m - k) = fnum p q s t m k := by
  unfold fnum
  rw [show ((m - k : Nat) : Int) = (m : Int) - k by omega, show (m : Int) - ((m : Int) - k) = k by omega]
  omega
theorem fden_back (q t : Int) (m : Nat) : fden t q m = fden q t m := by unfold fden; rw [Int.mul_comm t q]
theorem fN_back {p q s t : Int} {m k : Nat} (h : k ≤ m) : fN s t p q m (m - k) = fN p q s t m k := by unfold fN; rw [fnum_back h, fden_back]
theorem fD_back {p q s t : Int} {m k : Nat} (h : k ≤ m) : fD s t p q m (m - k) = fD p q s t m k := by unfold fD; rw [fnum_back h, fden_back]
theorem fad_back {p q s t : Int} {z : Int} (hz : 2 ≤ z) (h : fadE p q s t z = 0) : fadE s t p q z = 0 := by
  unfold fadE at h ⊢
  split at h
  · rename_i ha
    split at h
    · cases h
    · rename_i hb
      obtain ⟨h1, h2, h3, h4⟩ := of_decide_eq_true ha
      have ha2 : fargs s t p q z = true := decide_eq_true ⟨h2, h1, h3, h4⟩
      rw [if_pos ha2, if_neg]
      intro hc
      obtain ⟨k, hk, hk2⟩ := fbad_iff.1 hc
      have hst : steps z.toNat = z.toNat - 1 := by unfold steps; omega
      refine hb (fbad_iff.2 ⟨steps z.toNat - k, by omega, ?_⟩)
      have := fD_back (p := s) (q := t) (s := p) (t := q) (m := steps z.toNat) (k := k) (by omega)
      omega
  · cases h
theorem Sl.row2 {B : Nat} {w0 : World} {oa : Option Addr} {c size : Nat} {m : List Int} {blk : HS} (h : RowOk oa c size (ivs m) blk) : Sl B w0 blk oa m := by
  rcases h with ⟨rfl, _, h2, _⟩ | ⟨b, z, rfl, rfl, _, _⟩
  · have : m = [] := by simpa [ivs] using h2
    subst this; exact Sl.nil
  · exact Sl.own' (.head _)
set_option maxRecDepth 100000 in
set_option maxHeartbeats 8000000 in
theorem r_sameRats (oa ob : Option Addr) (c d n m : Nat) (l l2 : List Int) (hl : l.length = n * 2) (hl2 : l2.length = m * 2) (hn : n ≤ 1000000) (hm : m ≤ 1000000) (B : Nat) (w0 : World) (hs : HS) (h1 : Sl B w0 hs oa l) (h2 : Sl B w0 hs ob l2) :
    Fn Try.prog 35 #[.slice oa n c, .slice ob m d] B w0 hs (fun v hs' => v = .bool (decide (l = l2)) ∧ hs' = hs) := by
  refine fn_enter Try.func35 rfl Try.ntmps35 (by simp) ?_
  repeat' (first | (with_reducible first | refine c_seq ?_ | refine c_reg ?_ | refine c_region ?_ | refine c_block ?_ | refine c_skip ?_ | refine c_exit ?_ | refine c_ret ?_ | refine s_nil ?_ | refine x_then ?_ | refine x_then_exit ?_ | refine x_then_ret ?_ | refine x_block ?_ | refine x_block_ret ?_ | refine x_block_same ?_ | refine x_block_other (by rfl) ?_ | refine q_nil ?_ | refine k_nil ?_) | ((with_reducible apply kP (.makeFunc _ _ _)); refine sMF ?_) | ((with_reducible apply kG); first | refine gY1 ?_ | refine gN1 ?_ | refine gU1 ?_ | (refine gD1 (fun h => ?_) (fun h => ?_) <;> (try (exfalso; omega))) | refine gB1 (fun h => ?_) (fun h => ?_)) | ((with_reducible apply kN); first | refine stP ?_ | refine stI ?_ | refine st1 ?_ | refine stW ?_) | ((with_reducible apply kP (.alloc _)); refine sA (fun b => ?_)) | ((with_reducible apply kP (.box _ _)); first | refine sBA (fun b => ?_) | refine sB (fun b => ?_)) | ((with_reducible apply kP (.buildSlice _ 1 _)); first | refine sl1A (fun b => ?_) | refine sl1 (fun b => ?_)) | ((with_reducible apply kP (.buildSlice _ 2 _)); refine sl2 (fun b => ?_)) | ((with_reducible apply kP (.buildSlice _ 3 _)); refine sl3 (fun b => ?_)) | ((with_reducible apply kP (.buildSlice _ 4 _)); refine sl4 (fun b => ?_)) | ((with_reducible apply kP (.buildSlice _ 0 _)); refine s_bs0 (scTOf rfl) (zsTOf rfl) (by decide) (fun b => ?_)) | ((with_reducible apply kP (.makeSlice _ _ _)); refine sMk (fun b => ?_)) | ((with_reducible apply kP (.call ⟨.builtin .append, _, _⟩)); refine sAp (fun oa2 c2 blk2 hrow2 => ?_)) | ((with_reducible apply kP _); refine sP ?_) | ((with_reducible apply kP _); refine sX ?_) | ((with_reducible apply kQG); first | refine qY1 ?_ | refine qN1 ?_ | refine qU1 ?_ | (refine qD1 (fun h => ?_) (fun h => ?_) <;> (try (exfalso; omega))) | refine qB1 (fun h => ?_) (fun h => ?_)) | ((with_reducible apply kQP); refine qP ?_) | ((with_reducible apply kQP); refine qX ?_) | ((with_reducible apply kC); first | refine cT ?_ | refine cF ?_ | (refine cI (fun h => ?_) (fun h => ?_) <;> (try (exfalso; omega))) | refine cB (fun h => ?_) (fun h => ?_)) | ((with_reducible apply kR); refine cQ ?_))
  · exact e_ret1 rfl rfl ⟨by rw [decide_eq_false (fun e => by subst e; omega)], rfl⟩ sb0
  have hnm : n = m := by omega
  subst hnm
  refine c_loop (fun k : Nat => [(0, .slice oa n c), (1, .slice ob n d), (5, iv k)]) (fun _ => hs) (fun k => k ≤ n ∧ ∀ i, i < k * 2 → l.getD i 0 = l2.getD i 0) (fun k => n - k) 0 ⟨by omega, by intro i hi; omega⟩ (by repeat' first | trivial | rfl | apply And.intro) sb0 ?_
  rintro k ⟨hk, hg⟩
  by_cases hk' : k < n
  · have g1 := h1.any (show k * 2 < l.length by omega)
    have g2 := h2.any (show k * 2 < l2.length by omega)
    have g3 := fun hs' (hh : hs.Sublist hs') => ld_2S (P := Try.prog) (t := 23) (o := k * 2) (shTOf rfl) h1 hh (by omega)
    have g4 := fun hs' (hh : hs.Sublist hs') => ld_2S (P := Try.prog) (t := 23) (o := k * 2) (shTOf rfl) h2 hh (by omega)
    have g5 := g3 hs sb0
    have g6 := g4 hs sb0
    repeat' (first | (with_reducible first | refine c_seq ?_ | refine c_reg ?_ | refine c_region ?_ | refine c_block ?_ | refine c_skip ?_ | refine c_exit ?_ | refine c_ret ?_ | refine s_nil ?_ | refine x_then ?_ | refine x_then_exit ?_ | refine x_then_ret ?_ | refine x_block ?_ | refine x_block_ret ?_ | refine x_block_same ?_ | refine x_block_other (by rfl) ?_ | refine q_nil ?_ | refine k_nil ?_) | ((with_reducible apply kP (.makeFunc _ _ _)); refine sMF ?_) | ((with_reducible apply kG); first | refine gY1 ?_ | refine gN1 ?_ | refine gU1 ?_ | (refine gD1 (fun h => ?_) (fun h => ?_) <;> (try (exfalso; omega))) | refine gB1 (fun h => ?_) (fun h => ?_)) | ((with_reducible apply kN); first | refine stP ?_ | refine stI ?_ | refine st1 ?_ | refine stW ?_) | ((with_reducible apply kP (.alloc _)); refine sA (fun b => ?_)) | ((with_reducible apply kP (.box _ _)); first | refine sBA (fun b => ?_) | refine sB (fun b => ?_)) | ((with_reducible apply kP (.buildSlice _ 1 _)); first | refine sl1A (fun b => ?_) | refine sl1 (fun b => ?_)) | ((with_reducible apply kP (.buildSlice _ 2 _)); refine sl2 (fun b => ?_)) | ((with_reducible apply kP (.buildSlice _ 3 _)); refine sl3 (fun b => ?_)) | ((with_reducible apply kP (.buildSlice _ 4 _)); refine sl4 (fun b => ?_)) | ((with_reducible apply kP (.buildSlice _ 0 _)); refine s_bs0 (scTOf rfl) (zsTOf rfl) (by decide) (fun b => ?_)) | ((with_reducible apply kP (.makeSlice _ _ _)); refine sMk (fun b => ?_)) | ((with_reducible apply kP (.call ⟨.builtin .append, _, _⟩)); refine sAp (fun oa2 c2 blk2 hrow2 => ?_)) | ((with_reducible apply kP _); refine sP ?_) | ((with_reducible apply kP _); refine sX ?_) | ((with_reducible apply kQG); first | refine qY1 ?_ | refine qN1 ?_ | refine qU1 ?_ | (refine qD1 (fun h => ?_) (fun h => ?_) <;> (try (exfalso; omega))) | refine qB1 (fun h => ?_) (fun h => ?_)) | ((with_reducible apply kQP); refine qP ?_) | ((with_reducible apply kQP); refine qX ?_) | ((with_reducible apply kC); first | refine cT ?_ | refine cF ?_ | (refine cI (fun h => ?_) (fun h => ?_) <;> (try (exfalso; omega))) | refine cB (fun h => ?_) (fun h => ?_)) | ((with_reducible apply kR); refine cQ ?_))
    · rename_i h
      exact e_ret1 rfl rfl ⟨by rw [decide_eq_false (fun e => by subst e; exact h ⟨rfl, rfl⟩)], rfl⟩ sb0
    · rename_i h
      have h := Decidable.not_not.1 h
      refine r_end (k + 1) ⟨by omega, fun i hi => ?_⟩ (by omega) ⟨rfl, rfl, rfl, trivial⟩ sb0
      by_cases hi1 : i < k * 2
      · exact hg i hi1
      · obtain rfl | rfl : i = k * 2 ∨ i = k * 2 + 1 := by omega
        · exact h.1
        · exact h.2
  · repeat' (first | (with_reducible first | refine c_seq ?_ | refine c_reg ?_ | refine c_region ?_ | refine c_block ?_ | refine c_skip ?_ | refine c_exit ?_ | refine c_ret ?_ | refine s_nil ?_ | refine x_then ?_ | refine x_then_exit ?_ | refine x_then_ret ?_ | refine x_block ?_ | refine x_block_ret ?_ | refine x_block_same ?_ | refine x_block_other (by rfl) ?_ | refine q_nil ?_ | refine k_nil ?_) | ((with_reducible apply kP (.makeFunc _ _ _)); refine sMF ?_) | ((with_reducible apply kG); first | refine gY1 ?_ | refine gN1 ?_ | refine gU1 ?_ | (refine gD1 (fun h => ?_) (fun h => ?_) <;> (try (exfalso; omega))) | refine gB1 (fun h => ?_) (fun h => ?_)) | ((with_reducible apply kN); first | refine stP ?_ | refine stI ?_ | refine st1 ?_ | refine stW ?_) | ((with_reducible apply kP (.alloc _)); refine sA (fun b => ?_)) | ((with_reducible apply kP (.box _ _)); first | refine sBA (fun b => ?_) | refine sB (fun b => ?_)) | ((with_reducible apply kP (.buildSlice _ 1 _)); first | refine sl1A (fun b => ?_) | refine sl1 (fun b => ?_)) | ((with_reducible apply kP (.buildSlice _ 2 _)); refine sl2 (fun b => ?_)) | ((with_reducible apply kP (.buildSlice _ 3 _)); refine sl3 (fun b => ?_)) | ((with_reducible apply kP (.buildSlice _ 4 _)); refine sl4 (fun b => ?_)) | ((with_reducible apply kP (.buildSlice _ 0 _)); refine s_bs0 (scTOf rfl) (zsTOf rfl) (by decide) (fun b => ?_)) | ((with_reducible apply kP (.makeSlice _ _ _)); refine sMk (fun b => ?_)) | ((with_reducible apply kP (.call ⟨.builtin .append, _, _⟩)); refine sAp (fun oa2 c2 blk2 hrow2 => ?_)) | ((with_reducible apply kP _); refine sP ?_) | ((with_reducible apply kP _); refine sX ?_) | ((with_reducible apply kQG); first | refine qY1 ?_ | refine qN1 ?_ | refine qU1 ?_ | (refine qD1 (fun h => ?_) (fun h => ?_) <;> (try (exfalso; omega))) | refine qB1 (fun h => ?_) (fun h => ?_)) | ((with_reducible apply kQP); refine qP ?_) | ((with_reducible apply kQP); refine qX ?_) | ((with_reducible apply kC); first | refine cT ?_ | refine cF ?_ | (refine cI (fun h => ?_) (fun h => ?_) <;> (try (exfalso; omega))) | refine cB (fun h => ?_) (fun h => ?_)) | ((with_reducible apply kR); refine cQ ?_))
    refine e_ret1 rfl rfl ⟨?_, rfl⟩ sb0
    rw [decide_eq_true]
    refine List.ext_getElem (by omega) (fun i hi hi2 => ?_)
    have := hg i (by omega)
    simpa [List.getD, hi, hi2] using this
end Go.Proofs.Ytlijcnocahplbaa
