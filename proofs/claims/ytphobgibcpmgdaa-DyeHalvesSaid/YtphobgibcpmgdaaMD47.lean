/- Normal blends: both ways, and again. -/
import Derived.Test.YtphobgibcpmgdaaMD46
namespace Go.Proofs.Ytphobgibcpmgdaa
open Go.RowKit

theorem wS_app {l r : List Int} (k : Nat) : ∀ {i : Nat}, i * 4 ≤ l.length → wS (l ++ r) i k = wS l i k
  | 0, _ => rfl
  | i + 1, h => by
    rw [wS_succ, wS_succ, wS_app k (by omega)]
    have e : isS (l ++ r) i (shL k) (shT_ k) (shC k) ↔ isS l i (shL k) (shT_ k) (shC k) := by
      unfold isS
      rw [gD_l (by omega), gD_l (by omega), gD_l (by omega)]
    have ew : wgt (l ++ r) i = wgt l i := by unfold wgt; rw [gD_l (by omega)]
    rw [ew]
    by_cases hh : isS l i (shL k) (shT_ k) (shC k)
    · rw [if_pos hh, if_pos (e.2 hh)]
    · rw [if_neg hh, if_neg fun h => hh (e.1 h)]
theorem wS_kp0 {V : Nat → Int} (k : Nat) : ∀ n, wS (kp V n) (kpr V n).length k = if k < n ∧ 0 < V k then V k else 0
  | 0 => by rw [if_neg (by omega)]; rfl
  | n + 1 => by
    rw [kp_succ, kpr_succ]
    by_cases h : 0 < V n
    · rw [if_pos h, if_pos h, List.length_append, List.length_singleton, wS_succ, wS_app k (by rw [kp_len]; omega), wS_kp0 k n]
      have g : ∀ j, (kp V n ++ rowK V n).getD ((kpr V n).length * 4 + j) 0 = (rowK V n).getD j 0 := fun j => by
        rw [gD_r (by rw [kp_len]; omega), kp_len, Nat.add_sub_cancel_left]
      have e : isS (kp V n ++ rowK V n) (kpr V n).length (shL k) (shT_ k) (shC k) ↔ k = n := isS_iff (g 0).symm (g 1).symm (g 2).symm
      have e2 : wgt (kp V n ++ rowK V n) (kpr V n).length = V n := g 3
      rw [e2]
      by_cases hk : k = n
      · subst hk
        rw [if_neg (by omega), if_pos (e.2 rfl), if_pos ⟨by omega, h⟩]; omega
      · rw [if_neg (fun hh => hk (e.1 hh))]
        by_cases hh : k < n ∧ 0 < V k
        · rw [if_pos hh, if_pos ⟨by omega, hh.2⟩]; omega
        · rw [if_neg hh, if_neg (by omega)]; rfl
    · rw [if_neg h, if_neg h, List.append_nil, List.append_nil, wS_kp0 k n]
      by_cases hh : k < n ∧ 0 < V k
      · rw [if_pos hh, if_pos ⟨by omega, hh.2⟩]
      · rw [if_neg hh, if_neg]
        rintro ⟨a, b⟩
        by_cases hk : k = n
        · subst hk; exact h b
        · exact hh ⟨by omega, b⟩
theorem wS_kp {V : Nat → Int} (hz : ∀ k, 240 ≤ k → V k = 0) (h0 : ∀ k, 0 ≤ V k) : wS (kp V 240) (kpr V 240).length = V := funext fun k => by
  rw [wS_kp0]
  by_cases h : k < 240 ∧ 0 < V k
  · rw [if_pos h]
  · rw [if_neg h]
    by_cases hk : k < 240
    · have := h0 k; omega
    · rw [hz k (by omega)]
theorem dvd_gcs {V : Nat → Int} {d : Nat} : ∀ {n : Nat}, (∀ k, k < n → d ∣ (V k).toNat) → d ∣ gcs V n
  | 0, _ => Nat.dvd_zero d
  | n + 1, h => by rw [gcs]; exact Nat.dvd_gcd (dvd_gcs fun k hk => h k (by omega)) (h n (by omega))
/-- A normal blend's weights have no common divisor. -/
theorem gcs_nW {V : Nat → Int} (h0 : ∀ k, 0 ≤ V k) (hp : ∃ k, k < 240 ∧ 0 < V k) : gcs (nW V) 240 = 1 := by
  obtain ⟨k0, hk0, hk1⟩ := hp
  have hg := gcs_pos hk0 hk1
  have key : gcs V 240 * gcs (nW V) 240 ∣ gcs V 240 := dvd_gcs fun k hk => by
    have h1 := gcs_dvd (W := V) hk
    have h2 := gcs_dvd (W := nW V) hk
    obtain ⟨a, ha⟩ := h1
    have h3 : (nW V k).toNat = a := by
      unfold nW
      have : V k = ((gcs V 240 * a : Nat) : Int) := by have := h0 k; omega
      rw [this, Int.natCast_mul, Int.mul_ediv_cancel_left _ (by omega)]; rfl
    rw [h3] at h2
    rw [ha]
    exact Nat.mul_dvd_mul_left _ h2
  have := Nat.le_of_dvd hg key
  have h1 : 0 < gcs (nW V) 240 := by
    rcases Nat.eq_zero_or_pos (gcs (nW V) 240) with h | h
    · rw [h, Nat.mul_zero] at key
      have := Nat.eq_zero_of_zero_dvd key
      omega
    · exact h
  have h2 : gcs V 240 * gcs (nW V) 240 ≤ gcs V 240 * 1 := by omega
  have := Nat.le_of_mul_le_mul_left h2 hg
  omega
theorem nW_nW {V : Nat → Int} (h0 : ∀ k, 0 ≤ V k) (hp : ∃ k, k < 240 ∧ 0 < V k) : nW (nW V) = nW V := funext fun k => by
  show nW V k / (gcs (nW V) 240 : Int) = nW V k
  rw [gcs_nW h0 hp]; exact Int.ediv_one _
theorem nW_0 {V : Nat → Int} (h0 : ∀ k, 0 ≤ V k) (k : Nat) : 0 ≤ nW V k := Int.ediv_nonneg (h0 k) (by omega)
theorem nW_z {V : Nat → Int} (hz : ∀ k, 240 ≤ k → V k = 0) : ∀ k, 240 ≤ k → nW V k = 0 := fun k hk => by unfold nW; rw [hz k hk]; exact Int.zero_ediv _
theorem nfB_nW {V : Nat → Int} (hz : ∀ k, 240 ≤ k → V k = 0) (h0 : ∀ k, 0 ≤ V k) (hp : ∃ k, k < 240 ∧ 0 < V k) : nfB (nW V) ↔ nfB V := by
  unfold nfB
  rw [nW_nW h0 hp, kpr_nW hz]
/-! ### The weights of a blend -/
theorem vb_some {N : Nat} {lz : List Int} (h : VB N lz) : ∃ k, k < 240 ∧ 0 < wS lz N k := by
  obtain ⟨n, rfl⟩ : ∃ n, N = n + 1 := ⟨N - 1, by have := h.pos; omega⟩
  obtain ⟨κ, h0, h1, h2, h3⟩ := s_all (h.sd n (by omega))
  refine ⟨κ, h0, ?_⟩
  have := (wS_b (N := n + 1) (lz := lz) (fun i hi => by have := h.w i hi; omega) κ n (by omega)).1
  have hw := h.w n (by omega)
  rw [wS_succ, if_pos ((isS_iff h1 h2 h3).2 rfl)]
  omega
theorem kpr_add {W W' : Nat → Int} {κ : Nat} (h : ∀ k, k ≠ κ → W' k = W k) : ∀ n, (kpr W' n).length ≤ (kpr W n).length + if κ < n then 1 else 0
  | 0 => by simp [kpr]
  | n + 1 => by
    have ih := kpr_add h n
    rw [kpr_succ, kpr_succ, List.length_append, List.length_append]
    by_cases e : κ = n
    · subst e
      rw [if_neg (show ¬ κ < κ by omega)] at ih
      rw [if_pos (show κ < κ + 1 by omega)]
      split <;> split <;> simp only [List.length_singleton, List.length_nil] <;> omega
    · rw [h n (fun hh => e hh.symm)]
      have : (if κ < n + 1 then 1 else 0) = if κ < n then 1 else 0 := by
        by_cases hk : κ < n
        · rw [if_pos hk, if_pos (by omega)]
        · rw [if_neg hk, if_neg (by omega)]
      rw [this]; omega
theorem kpr_wS {N : Nat} {lz : List Int} (h : ∀ i, i < N → sdB (lz.getD (i * 4) 0) (lz.getD (i * 4 + 1) 0) (lz.getD (i * 4 + 2) 0) = true) : ∀ i, i ≤ N → (kpr (wS lz i) 240).length ≤ i
  | 0, _ => by rw [kpr0]; exact Nat.le_refl _
  | i + 1, hi => by
    obtain ⟨κ, h0, h1, h2, h3⟩ := s_all (h i (by omega))
    have := kpr_add (W := wS lz i) (W' := wS lz (i + 1)) (κ := κ) (fun k hk => by rw [Ord.add h1 h2 h3, addW, if_neg hk, Int.add_zero]) 240
    have := kpr_wS h i (by omega)
    split at * <;> omega
end Go.Proofs.Ytphobgibcpmgdaa
