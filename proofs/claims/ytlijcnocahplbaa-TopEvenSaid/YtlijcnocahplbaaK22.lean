/- Beginnings of spread rows are spread. -/
import Derived.Test.YtlijcnocahplbaaK21
namespace Go.Proofs.Ytlijcnocahplbaa
open Go.RowKit

theorem fb_zeroE (bad : Nat → Bool) : ∀ m k, (∀ i, k ≤ i → i < k + m → bad i = false) → fb bad m k = 0
  | 0, _, _ => rfl
  | m + 1, k, h => by
    unfold fb
    rw [h k (by omega) (by omega)]
    exact fb_zeroE bad m (k + 1) (fun i h1 h2 => h i (by omega) (by omega))
theorem ct_sprE (w : List Int) (N : Nat) (c : Nat) : ∀ k, k ≤ N → ct (tab N (sprF w)) k c = sHv (wv w) (sumL w) w.length k c
  | 0, _ => rfl
  | k + 1, h => by
    rw [ct_succ, ct_sprE w N c k (by omega), tab_getD _ (by omega)]
    show _ + (if (sCh (wv w) (sumL w) w.length k : Int) = (c : Int) then 1 else 0) = sHv (wv w) (sumL w) w.length k c + if c = sCh (wv w) (sumL w) w.length k then 1 else 0
    by_cases hc : c = sCh (wv w) (sumL w) w.length k
    · rw [if_pos hc, if_pos (by omega)]
    · rw [if_neg hc, if_neg (by omega)]
theorem spr_shr {n : Int} {w : List Int} (h : qB n w = true) : Shr w (sprL n w) ∧ cok w (sprL n w) = true ∧ ((sprL n w).length : Int) = n ∧ vw w = true ∧ 0 ≤ n ∧ n ≤ 600 := by
  obtain ⟨hv, h0, h6⟩ := of_decide_eq_true h
  obtain ⟨e1, e2, e3, e4, e5, e6⟩ := vw_to hv
  have w1 : ∀ c, c < w.length → 0 ≤ wv w c := fun c hc => by have := (e1 c hc).1; rwa [wv_at] at this
  obtain ⟨N, rfl⟩ := Int.eq_ofNat_of_zero_le h0
  have el : sprL N w = tab N (sprF w) := by unfold sprL; rw [if_pos h, Int.toNat_natCast]
  have stp := fun k => s_step (w := wv w) (S := sumL w) (m := w.length) (wv_sum w) e4 k (s_sum (wv_sum w) e4 k)
  rw [el]
  refine ⟨fun k hk c hc => ?_, ?_, by rw [tab_length], hv, h0, h6⟩
  · rw [tab_length] at hk
    rw [ct_sprE w N c k hk, wv_at]
    exact s_spread w1 (wv_sum w) e4 k c hc
  · unfold cok
    refine decide_eq_true fun i hi => ?_
    rw [tab_length] at hi
    rw [tab_getD _ hi]
    have := (stp i).1
    unfold sprF
    omega
theorem spV_of {w l : List Int} (hv : vw w = true) (hl : l.length ≤ 600) (hc : cok w l = true) (hs : Shr w l) : spV w l = .tuple #[iv 0, .bool true, iv 0] := by
  have hb : fb (badk w l) l.length 1 = 0 := fb_zeroE _ _ _ fun k h1 h2 => by
    unfold badk
    rw [Bool.not_eq_false']
    exact decide_eq_true fun c hc => hs k (by omega) c hc
  unfold spV
  rw [if_pos hv, if_neg (by omega), if_pos hc, hb]
  rfl
theorem take_getD (l : List Int) {j i : Nat} (h : i < j) : (l.take j).getD i 0 = l.getD i 0 := by
  simp only [List.getD_eq_getElem?_getD, List.getElem?_take]
  rw [if_pos h]
theorem ct_take (l : List Int) (c : Int) (j : Nat) : ∀ k, k ≤ j → ct (l.take j) k c = ct l k c
  | 0, _ => rfl
  | k + 1, h => by
    rw [ct_succ, ct_succ, ct_take l c j k (by omega), take_getD l (by omega)]
theorem shr_take {w l : List Int} (h : Shr w l) (j : Nat) : Shr w (l.take j) := fun k hk c hc => by
  rw [List.length_take] at hk
  rw [ct_take l c j k (by omega)]
  exact h k (by omega) c hc
theorem cok_take {w l : List Int} (h : cok w l = true) (j : Nat) : cok w (l.take j) = true := by
  unfold cok at h ⊢
  have h' := of_decide_eq_true h
  refine decide_eq_true fun i hi => ?_
  rw [List.length_take] at hi
  rw [take_getD l (by omega)]
  exact h' i (by omega)
theorem bef_offE {p q s t : Int} (h1 : densB p q = true) (h2 : phasB s t = true) (a z : Int) : (bef p q s t z - bef p q s t a) * q - (z - a) * p < q ∧ -q < (bef p q s t z - bef p q s t a) * q - (z - a) * p := by
  obtain ⟨a1, a2, a3, a4⟩ := dens_to h1
  obtain ⟨b1, b2, b3, b4⟩ := phas_to h2
  have c9 : 0 < q * t := Int.mul_pos (by omega) (by omega)
  have X : ∀ h : Int, bef p q s t h * q * t ≤ h * p * t + s * q ∧ h * p * t + s * q < bef p q s t h * q * t + q * t := fun h => by
    have e1 := Int.emod_add_mul_ediv (h * p * t + s * q) (q * t)
    have e2 := Int.emod_nonneg (h * p * t + s * q) (show q * t ≠ 0 by omega)
    have e3 := Int.emod_lt_of_pos (h * p * t + s * q) c9
    have e4 : q * t * ((h * p * t + s * q) / (q * t)) = bef p q s t h * q * t := by unfold bef; rw [Int.mul_comm (q * t), ← Int.mul_assoc]
    omega
  obtain ⟨x1, x2⟩ := X a
  obtain ⟨x3, x4⟩ := X z
  have e5 : ((bef p q s t z - bef p q s t a) * q - (z - a) * p) * t = bef p q s t z * q * t - bef p q s t a * q * t - (z * p * t - a * p * t) := by
    simp only [Int.sub_mul]
  have e6 : (-q) * t = - (q * t) := Int.neg_mul q t
  refine ⟨Int.lt_of_mul_lt_mul_right (a := t) (by omega) (by omega), Int.lt_of_mul_lt_mul_right (a := t) (by omega) (by omega)⟩
theorem k_isSpreadM (oa ob : Option Addr) (c d m : Nat) (w cs : List Int) (hm : cs.length = m) (hl : w.length ≤ 1000) (hl2 : m ≤ 1000000) (B : Nat) (w0 : World) (hs : HS) (h1 : Sl B w0 hs oa w) (h2 : Sl B w0 hs ob cs) :
    Fn Try.prog 23 #[.slice oa w.length c, .slice ob m d] B w0 hs (fun v hs' => v = spV w cs ∧ hs' = hs) := by
  subst hm
  exact k_isSpread oa ob c d w cs hl hl2 B w0 hs h1 h2
theorem bl_0110 : blV [0, 1, 1, 0] = .tuple #[.bool true, iv 0] := by
  have h1 : rErr [0, 1, 1, 0] = 0 := by rw [rErr_short (by decide)]; unfold rng; rw [if_pos (by decide)]
  have h2 : balB [0, 1, 1, 0] = true := by decide
  unfold blV
  rw [if_pos h1, h2]
theorem st_diff {p q s t : Int} (hW : 0 < q * t) (a d : Int) : (bef p q s t (a + d) - bef p q s t a) - (bef p q s t d - bef p q s t 0) ≤ 1 ∧ (bef p q s t d - bef p q s t 0) - (bef p q s t (a + d) - bef p q s t a) ≤ 1 := by
  have key : ∀ i : Int, bef p q s t (i + d) = (i * p * t + s * q + d * p * t) / (q * t) := fun i => by
    unfold bef; congr 1
    rw [Int.add_mul, Int.add_mul]; omega
  have e0 : bef p q s t d = bef p q s t (0 + d) := by rw [Int.zero_add]
  rw [e0, key, key]
  unfold bef
  have x := div_two (a * p * t + s * q) (d * p * t) hW
  have y := div_two (0 * p * t + s * q) (d * p * t) hW
  omega
end Go.Proofs.Ytlijcnocahplbaa
