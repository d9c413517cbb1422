/- Normal blends, in plain words: the shades that have a weight, in their order. -/
import Derived.Test.YtphobgibcpmgdaaMM8
import Derived.Test.YtphobgibcpmgdaaMD34
namespace Go.Proofs.Ytphobgibcpmgdaa
open Go.RowKit

/-! ### Sums over rows do not hang on their order -/
def sumR {k : Nat} (f : Rw k → Int) : List (Rw k) → Int
  | [] => 0
  | x :: l => f x + sumR f l
theorem sumR_snoc {k : Nat} (f : Rw k → Int) (x : Rw k) : ∀ l, sumR f (l ++ [x]) = sumR f l + f x
  | [] => by simp [sumR]
  | y :: l => by simp only [List.cons_append, sumR, sumR_snoc f x l]; omega
theorem sumR_perm {k : Nat} (f : Rw k → Int) {s t : List (Rw k)} (h : s.Perm t) : sumR f s = sumR f t := by
  induction h with
  | nil => rfl
  | cons x _ ih => simp only [sumR, ih]
  | swap x y l => simp only [sumR]; omega
  | trans _ _ h1 h2 => exact h1.trans h2
theorem rwl_succ (k n : Nat) (l : List Int) : rwl k (n + 1) l = rwl k n l ++ [rw_ k l n] := by simp [rwl, List.range_succ]
theorem sumTo_rwl {k : Nat} (f : Rw k → Int) (l : List Int) : ∀ n, sumTo (fun i => f (rw_ k l i)) n = sumR f (rwl k n l)
  | 0 => rfl
  | n + 1 => by rw [sumTo_succ, sumTo_rwl f l n, rwl_succ, sumR_snoc]
theorem rw_mem {k n : Nat} {l : List Int} {i : Nat} (h : i < n) : rw_ k l i ∈ rwl k n l := List.mem_map_of_mem (List.mem_range.2 h)
theorem rwl_all {k n : Nat} {l l' : List Int} (hp : (rwl k n l').Perm (rwl k n l)) {p : Rw k → Prop} (h : ∀ i, i < n → p (rw_ k l i)) : ∀ i, i < n → p (rw_ k l' i) := fun i hi => by
  obtain ⟨j, hj, e⟩ := List.mem_map.1 (hp.mem_iff.1 (rw_mem hi))
  exact e ▸ h j (List.mem_range.1 hj)
theorem rw_get {k : Nat} {l : List Int} {i j : Nat} (hj : j < k) : (rw_ k l i).1.getD j 0 = l.getD (i * k + j) 0 := by
  simp [rw_, List.getD_eq_getElem?_getD, hj]
/-! ### The shades that have a weight -/
def kpr (W : Nat → Int) (n : Nat) : List Nat := (List.range n).filter fun k => decide (0 < W k)
theorem kpr_succ (W : Nat → Int) (n : Nat) : kpr W (n + 1) = kpr W n ++ if 0 < W n then [n] else [] := by
  unfold kpr
  rw [List.range_succ, List.filter_append]
  by_cases h : 0 < W n <;> simp [h]
theorem kpr_le (W : Nat → Int) (n : Nat) : (kpr W n).length ≤ n := by
  have := List.length_filter_le (fun k => decide (0 < W k)) (List.range n)
  simpa [kpr] using this
def rowK (W : Nat → Int) (k : Nat) : List Int := [shL k, shT_ k, shC k, W k]
def kp (W : Nat → Int) (n : Nat) : List Int := (kpr W n).flatMap (rowK W)
theorem kp_succ (W : Nat → Int) (n : Nat) : kp W (n + 1) = kp W n ++ if 0 < W n then rowK W n else [] := by
  unfold kp
  rw [kpr_succ, List.flatMap_append]
  by_cases h : 0 < W n <;> simp [h]
theorem fm_len (W : Nat → Int) : ∀ ks : List Nat, (ks.flatMap (rowK W)).length = ks.length * 4
  | [] => rfl
  | k :: ks => by simp only [List.flatMap_cons, List.length_append, fm_len W ks, rowK, List.length_cons, List.length_nil]; omega
theorem kp_len (W : Nat → Int) (n : Nat) : (kp W n).length = (kpr W n).length * 4 := fm_len W _
theorem fm_get (W : Nat → Int) : ∀ (ks : List Nat) (i j : Nat), i < ks.length → j < 4 → (ks.flatMap (rowK W)).getD (i * 4 + j) 0 = (rowK W (ks.getD i 0)).getD j 0
  | [], _, _, h, _ => by cases h
  | k :: ks, 0, j, _, hj => by
    simp only [List.flatMap_cons, Nat.zero_mul, Nat.zero_add, List.getD_cons_zero]
    rw [gD_l (by simp [rowK]; exact hj)]
  | k :: ks, i + 1, j, h, hj => by
    simp only [List.flatMap_cons, List.getD_cons_succ]
    rw [gD_r (by simp [rowK]; omega), ← fm_get W ks i j (by simpa using h) hj]
    congr 1
    simp [rowK]; omega
theorem kp_get {W : Nat → Int} {n i j : Nat} (hi : i < (kpr W n).length) (hj : j < 4) : (kp W n).getD (i * 4 + j) 0 = (rowK W ((kpr W n).getD i 0)).getD j 0 := fm_get W _ i j hi hj
theorem kpr_at {W : Nat → Int} {n i : Nat} (hi : i < (kpr W n).length) : (kpr W n).getD i 0 < n ∧ 0 < W ((kpr W n).getD i 0) := by
  rw [List.getD_eq_getElem?_getD, List.getElem?_eq_getElem hi]
  have h2 := List.mem_filter.1 (List.getElem_mem hi : (kpr W n)[i] ∈ kpr W n)
  exact ⟨List.mem_range.1 h2.1, of_decide_eq_true h2.2⟩
theorem ext4 {l l' : List Int} {n : Nat} (h : l.length = n * 4) (h' : l'.length = n * 4) (he : ∀ i j, i < n → j < 4 → l.getD (i * 4 + j) 0 = l'.getD (i * 4 + j) 0) : l = l' := by
  apply List.ext_getElem (by omega)
  intro t h1 h2
  have := he (t / 4) (t % 4) (by omega) (by omega)
  rw [show t / 4 * 4 + t % 4 = t by omega, List.getD_eq_getElem?_getD, List.getD_eq_getElem?_getD, List.getElem?_eq_getElem h1, List.getElem?_eq_getElem h2] at this
  exact this
/-! ### Divided weights -/
def dvl (g : Int) (l : List Int) : Nat → List Int
  | 0 => l
  | i + 1 => (dvl g l i).set (i * 4 + 3) (wgt l i / g)
theorem dvl_len (g : Int) (l : List Int) : ∀ i, (dvl g l i).length = l.length
  | 0 => rfl
  | i + 1 => by rw [dvl, List.length_set, dvl_len g l i]
theorem getD_set_eq {l : List Int} {i : Nat} {x : Int} (h : i < l.length) : (l.set i x).getD i 0 = x := by
  rw [List.getD_eq_getElem?_getD, List.getElem?_set_self h]; rfl
theorem getD_set_ne {l : List Int} {i j : Nat} {x : Int} (h : i ≠ j) : (l.set i x).getD j 0 = l.getD j 0 := by
  rw [List.getD_eq_getElem?_getD, List.getElem?_set_ne h]; rfl
theorem dvl_get (g : Int) (l : List Int) {t : Nat} (ht : t < l.length) : ∀ i, (dvl g l i).getD t 0 = if t % 4 = 3 ∧ t / 4 < i then l.getD t 0 / g else l.getD t 0
  | 0 => by rw [if_neg (by omega)]; rfl
  | i + 1 => by
    rw [dvl]
    by_cases h : i * 4 + 3 = t
    · rw [h, getD_set_eq (by rw [dvl_len]; exact ht), if_pos (by omega), wgt, h]
    · rw [getD_set_ne h, dvl_get g l ht i]
      by_cases h2 : t % 4 = 3 ∧ t / 4 < i
      · rw [if_pos h2, if_pos (by omega)]
      · rw [if_neg h2, if_neg (by omega)]
theorem kpr_div {W : Nat → Int} {g : Int} (hW : ∀ k, 0 < W k ↔ 0 < W k / g) (n : Nat) : kpr (fun k => W k / g) n = kpr W n := by
  unfold kpr
  congr 1
  funext k
  have := hW k
  by_cases h : 0 < W k
  · simp [h, this.1 h]
  · simp [h]; exact Int.not_lt.1 fun hh => h (this.2 hh)
theorem dvl_kp {W : Nat → Int} {g : Int} (hW : ∀ k, 0 < W k ↔ 0 < W k / g) (n : Nat) : dvl g (kp W n) (kpr W n).length = kp (fun k => W k / g) n := by
  refine ext4 (n := (kpr W n).length) (by rw [dvl_len, kp_len]) (by rw [kp_len, kpr_div hW]) fun i j hi hj => ?_
  rw [dvl_get _ _ (by rw [kp_len]; omega), kp_get hi hj, kp_get (by rw [kpr_div hW]; exact hi) hj, kpr_div hW]
  by_cases h3 : j = 3
  · subst h3
    rw [if_pos (by omega)]; rfl
  · rw [if_neg (by omega)]
    have : j = 0 ∨ j = 1 ∨ j = 2 := by omega
    rcases this with rfl | rfl | rfl <;> rfl
/-! ### The greatest common divisor -/
def gcs (W : Nat → Int) : Nat → Nat
  | 0 => 0
  | n + 1 => Nat.gcd (gcs W n) (W n).toNat
theorem gcs_dvd {W : Nat → Int} {k : Nat} : ∀ {n : Nat}, k < n → gcs W n ∣ (W k).toNat
  | n + 1, h => by
    rw [gcs]
    by_cases e : k = n
    · subst e; exact Nat.gcd_dvd_right _ _
    · exact Nat.dvd_trans (Nat.gcd_dvd_left _ _) (gcs_dvd (by omega))
def gcl (l : List Int) : Nat → Nat
  | 0 => 0
  | i + 1 => Nat.gcd (gcl l i) (wgt l i).toNat
theorem gcl_app {l r : List Int} : ∀ {i : Nat}, i * 4 ≤ l.length → gcl (l ++ r) i = gcl l i
  | 0, _ => rfl
  | i + 1, h => by
    rw [gcl, gcl, gcl_app (by omega)]
    congr 2
    unfold wgt
    rw [gD_l (by omega)]
theorem gcl_kp {W : Nat → Int} : ∀ n, gcl (kp W n) (kpr W n).length = gcs W n
  | 0 => rfl
  | n + 1 => by
    rw [kp_succ, kpr_succ, gcs, ← gcl_kp n]
    by_cases h : 0 < W n
    · rw [if_pos h, if_pos h, List.length_append, List.length_singleton, gcl, gcl_app (by rw [kp_len]; omega)]
      congr 2
      unfold wgt
      rw [gD_r (by rw [kp_len]; omega), kp_len]
      rw [show (kpr W n).length * 4 + 3 - (kpr W n).length * 4 = 3 by omega]; rfl
    · rw [if_neg h, if_neg h, List.append_nil, List.append_nil, show (W n).toNat = 0 by omega, Nat.gcd_zero_right]
theorem gcs_pos {W : Nat → Int} {k n : Nat} (hk : k < n) (h : 0 < W k) : 0 < gcs W n := by
  rcases Nat.eq_zero_or_pos (gcs W n) with h0 | h0
  · have := gcs_dvd (W := W) hk
    rw [h0] at this
    have := Nat.eq_zero_of_zero_dvd this
    omega
  · exact h0
theorem gcs_le {W : Nat → Int} {k n : Nat} (hk : k < n) (h : 0 < W k) : (gcs W n : Int) ≤ W k := by
  have := Nat.le_of_dvd (by omega) (gcs_dvd (W := W) hk)
  omega
theorem gcs_none {W : Nat → Int} : ∀ {n : Nat}, (∀ k, k < n → W k ≤ 0) → gcs W n = 0
  | 0, _ => rfl
  | n + 1, h => by rw [gcs, gcs_none fun k hk => h k (by omega), show (W n).toNat = 0 by have := h n (by omega); omega]; rfl
theorem kpr_none {W : Nat → Int} : ∀ {n : Nat}, (∀ k, k < n → W k ≤ 0) → kpr W n = []
  | 0, _ => rfl
  | n + 1, h => by rw [kpr_succ, kpr_none fun k hk => h k (by omega), if_neg (by have := h n (by omega); omega)]; rfl
/-- Only the first n shades have a weight. -/
theorem div_iff {W : Nat → Int} {n : Nat} (hz : ∀ k, n ≤ k → W k = 0) (k : Nat) : 0 < W k ↔ 0 < W k / (gcs W n : Int) := by
  by_cases hk : k < n
  · constructor
    · intro h
      have h1 := gcs_le hk h
      have h2 := gcs_pos hk h
      exact Int.ediv_pos_of_pos_of_dvd h (by omega) (by
        have := gcs_dvd (W := W) hk
        rw [show W k = ((W k).toNat : Int) by omega]
        exact Int.natCast_dvd_natCast.2 this)
    · intro h
      rcases Int.lt_or_le 0 (W k) with h1 | h1
      · exact h1
      · have : W k / (gcs W n : Int) ≤ 0 := by
          rcases Nat.eq_zero_or_pos (gcs W n) with h0 | h0
          · rw [h0]; simp
          · have := Int.ediv_le_ediv (c := (gcs W n : Int)) (by omega) h1
            rwa [Int.zero_ediv] at this
        omega
  · rw [hz k (by omega)]; simp
/-! ### One part more -/
def addW (W : Nat → Int) (κ : Nat) (w : Int) (k : Nat) : Int := W k + if k = κ then w else 0
theorem kp_ext {W W' : Nat → Int} : ∀ {n : Nat}, (∀ k, k < n → W k = W' k) → kp W n = kp W' n
  | 0, _ => rfl
  | n + 1, h => by rw [kp_succ, kp_succ, kp_ext fun k hk => h k (by omega), rowK, rowK, h n (by omega)]
theorem kp_zero {W : Nat → Int} {κ : Nat} : ∀ {m : Nat}, κ < m → (∀ k, κ < k → k < m → W k = 0) → kp W m = kp W (κ + 1)
  | m + 1, h, hz => by
    by_cases e : κ = m
    · subst e; rfl
    · rw [kp_succ, hz m (by omega) (by omega), if_neg (by omega), List.append_nil]
      exact kp_zero (by omega) fun k h1 h2 => hz k h1 (by omega)
theorem kp_last {W : Nat → Int} : ∀ {n : Nat}, kp W n = [] ∨ ∃ A m, m < n ∧ 0 < W m ∧ kp W n = A ++ rowK W m
  | 0 => .inl rfl
  | n + 1 => by
    rw [kp_succ]
    by_cases h : 0 < W n
    · rw [if_pos h]; exact .inr ⟨_, n, by omega, h, rfl⟩
    · rw [if_neg h, List.append_nil]
      rcases kp_last (W := W) (n := n) with h1 | ⟨A, m, h1, h2, h3⟩
      · exact .inl h1
      · exact .inr ⟨A, m, by omega, h2, h3⟩
theorem kp_old {W : Nat → Int} {κ n : Nat} {w : Int} (hκ : κ < n) (hz : ∀ k, κ < k → k < n → W k = 0) (hp : 0 < W κ) (hw : 0 ≤ w) :
    kp W n = kp W κ ++ rowK W κ ∧ kp (addW W κ w) n = kp W κ ++ [shL κ, shT_ κ, shC κ, W κ + w] := by
  constructor
  · rw [kp_zero hκ hz, kp_succ, if_pos hp]
  · rw [kp_zero hκ (fun k h1 h2 => by unfold addW; rw [hz k h1 h2, if_neg (by omega)]; rfl), kp_succ, if_pos (by unfold addW; rw [if_pos rfl]; omega), kp_ext (W' := W) (fun k hk => by unfold addW; rw [if_neg (by omega)]; omega)]
    simp [rowK, addW]
theorem kp_new {W : Nat → Int} {κ n : Nat} {w : Int} (hκ : κ < n) (hz : ∀ k, κ ≤ k → k < n → W k = 0) (hw : 0 < w) :
    kp (addW W κ w) n = kp W n ++ [shL κ, shT_ κ, shC κ, w] ∧ (kp W n = [] ∨ ∃ A m, m < κ ∧ kp W n = A ++ rowK W m) := by
  have h0 := hz κ (by omega) hκ
  have e : kp W n = kp W κ := by rw [kp_zero hκ (fun k h1 h2 => hz k (by omega) h2), kp_succ, h0, if_neg (by omega), List.append_nil]
  constructor
  · rw [kp_zero hκ (fun k h1 h2 => by unfold addW; rw [hz k (by omega) h2, if_neg (by omega)]; rfl), kp_succ, if_pos (by unfold addW; rw [if_pos rfl]; omega), kp_ext (W' := W) (fun k hk => by unfold addW; rw [if_neg (by omega)]; omega), e]
    simp [rowK, addW, h0]
  · rw [e]
    rcases kp_last (W := W) (n := κ) with h1 | ⟨A, m, h1, h2, h3⟩
    · exact .inl h1
    · exact .inr ⟨A, m, h1, h3⟩
end Go.Proofs.Ytphobgibcpmgdaa
