/- Plans of commissions in plain words: the earliest due first. -/
import Derived.Test.YtgcjddlcgpjlcaaMP1
namespace Go.Proofs.Ytgcjddlcgpjlcaa
open Go.RowKit

theorem sum_swap (g : Nat → Nat → Int) (K : Nat) : ∀ n, sumTo (fun d => sumTo (g d) K) n = sumTo (fun j => sumTo (fun d => g d j) n) K
  | 0 => (sumTo_zero K fun _ _ => rfl).symm
  | n + 1 => by
    rw [sumTo_succ, sum_swap g K n, ← sumTo_add]; rfl
theorem sum_win {F G : Nat → Int} {a : Nat} : ∀ {b : Nat}, a ≤ b → (∀ d, a ≤ d → d < b → F d = G d) → sumTo F b - sumTo F a = sumTo G b - sumTo G a
  | 0, h, _ => by rw [show a = 0 by omega]; simp [sumTo]
  | b + 1, h, he => by
    by_cases e : a = b + 1
    · subst e; omega
    · have := sum_win (F := F) (G := G) (show a ≤ b by omega) fun d h1 h2 => he d h1 (by omega)
      have := he b (by omega) (by omega)
      rw [sumTo_succ, sumTo_succ]; omega
theorem sum_le_win {F G : Nat → Int} {a : Nat} : ∀ {b : Nat}, a ≤ b → (∀ d, a ≤ d → d < b → F d ≤ G d) → sumTo F b - sumTo F a ≤ sumTo G b - sumTo G a
  | 0, h, _ => by rw [show a = 0 by omega]; simp [sumTo]
  | b + 1, h, he => by
    by_cases e : a = b + 1
    · subst e; omega
    · have := sum_le_win (F := F) (G := G) (show a ≤ b by omega) fun d h1 h2 => he d h1 (by omega)
      have := he b (by omega) (by omega)
      rw [sumTo_succ, sumTo_succ]; omega
theorem sum_sub (F G : Nat → Int) : ∀ n, sumTo (fun j => F j - G j) n = sumTo F n - sumTo G n
  | 0 => by simp [sumTo]
  | n + 1 => by rw [sumTo_succ, sumTo_succ, sumTo_succ, sum_sub F G n]; omega
theorem sum_leP {F G : Nat → Int} : ∀ n, (∀ i, i < n → F i ≤ G i) → sumTo F n ≤ sumTo G n
  | 0, _ => Int.le_refl _
  | n + 1, h => by
    have := sum_leP n fun i hi => h i (by omega)
    have := h n (by omega)
    rw [sumTo_succ, sumTo_succ]; omega
theorem sum_ltP {F G : Nat → Int} {j : Nat} : ∀ {n : Nat}, (∀ i, i < n → F i ≤ G i) → j < n → F j < G j → sumTo F n < sumTo G n
  | n + 1, h, hj, hlt => by
    rw [sumTo_succ, sumTo_succ]
    by_cases e : j = n
    · subst e
      have := sum_leP j fun i hi => h i (by omega)
      omega
    · have := sum_ltP (fun i hi => h i (by omega)) (show j < n by omega) hlt
      have := h n (by omega)
      omega
theorem sum_mono_n {F : Nat → Int} {a : Nat} (h : ∀ i, 0 ≤ F i) : ∀ {b : Nat}, a ≤ b → sumTo F a ≤ sumTo F b
  | 0, hab => by rw [show a = 0 by omega]; exact Int.le_refl _
  | b + 1, hab => by
    by_cases e : a = b + 1
    · rw [e]; exact Int.le_refl _
    · have := sum_mono_n h (show a ≤ b by omega)
      have := h b
      rw [sumTo_succ]; omega
theorem sum_same {F : Nat → Int} {a : Nat} : ∀ {b : Nat}, a ≤ b → (∀ i, a ≤ i → i < b → F i = 0) → sumTo F b = sumTo F a
  | 0, hab, _ => by rw [show a = 0 by omega]
  | b + 1, hab, h => by
    by_cases e : a = b + 1
    · rw [e]
    · have := sum_same (F := F) (show a ≤ b by omega) fun i h1 h2 => h i h1 (by omega)
      have := h b (by omega) (by omega)
      rw [sumTo_succ]; omega
/-! ### Commissions -/
/-- The minutes of a window less the work that must be done in it. -/
def spr (K : Nat) (sh W R D : Nat → Int) (a b : Nat) : Int := sumTo sh (b + 1) - sumTo sh a - sumTo (fun j => if (a : Int) ≤ R j ∧ D j ≤ (b : Int) then W j else 0) K
/-- What is left of a commission's work. -/
def lf (W : Nat → Int) (g : Nat → Nat → Int) (d j : Nat) : Int := W j - sumTo (fun e => g e j) d
/-- Right commissions. -/
structure Jb (N K : Nat) (sh W R D : Nat → Int) : Prop where
  w : ∀ j, j < K → 0 ≤ W j
  r : ∀ j, j < K → 0 ≤ R j ∧ R j ≤ D j ∧ D j < N
  s : ∀ d, d < N → 0 ≤ sh d
/-- Minutes given to commissions, day by day: the first due first. -/
structure Edf (N K : Nat) (sh W R D : Nat → Int) (g : Nat → Nat → Int) : Prop where
  nn : ∀ d j, d < N → j < K → 0 ≤ g d j ∧ g d j ≤ lf W g d j
  win : ∀ d j, d < N → j < K → 0 < g d j → R j ≤ d ∧ (d : Int) ≤ D j
  cap : ∀ d, d < N → sumTo (g d) K ≤ sh d
  edf : ∀ d j, d < N → j < K → 0 < lf W g (d + 1) j → R j ≤ d → (d : Int) ≤ D j → sumTo (g d) K = sh d ∧ ∀ i, i < K → 0 < g d i → D i ≤ D j
theorem lf_succ (W : Nat → Int) (g : Nat → Nat → Int) (d j : Nat) : lf W g (d + 1) j = lf W g d j - g d j := by
  unfold lf; rw [sumTo_succ]; omega
theorem Edf.lf0 {N K : Nat} {sh W R D : Nat → Int} {g : Nat → Nat → Int} (h : Edf N K sh W R D g) (hj : Jb N K sh W R D) {j : Nat} (hk : j < K) : ∀ d, d ≤ N → 0 ≤ lf W g d j
  | 0, _ => by unfold lf; simpa [sumTo] using hj.w j hk
  | d + 1, hd => by
    have := (h.nn d j (by omega) hk).2
    rw [lf_succ]; omega
theorem Edf.mono {N K : Nat} {sh W R D : Nat → Int} {g : Nat → Nat → Int} (h : Edf N K sh W R D g) {j a : Nat} (hk : j < K) : ∀ {b : Nat}, a ≤ b → b ≤ N → lf W g b j ≤ lf W g a j
  | 0, hab, _ => by rw [show a = 0 by omega]; exact Int.le_refl _
  | b + 1, hab, hb => by
    by_cases e : a = b + 1
    · rw [e]; exact Int.le_refl _
    · have := h.mono hk (show a ≤ b by omega) (by omega)
      have := (h.nn b j (by omega) hk).1
      rw [lf_succ]; omega
theorem Edf.late {N K : Nat} {sh W R D : Nat → Int} {g : Nat → Nat → Int} (h : Edf N K sh W R D g) {j a : Nat} (hk : j < K) (ha : D j < a) : ∀ {b : Nat}, a ≤ b → b ≤ N → lf W g b j = lf W g a j
  | 0, hab, _ => by rw [show a = 0 by omega]
  | b + 1, hab, hb => by
    by_cases e : a = b + 1
    · rw [e]
    · have := h.late hk ha (show a ≤ b by omega) (by omega)
      have h1 := (h.nn b j (by omega) hk).1
      have h2 := h.win b j (by omega) hk
      rw [lf_succ]
      by_cases hp : 0 < g b j
      · have := h2 hp; omega
      · omega
theorem Edf.early {N K : Nat} {sh W R D : Nat → Int} {g : Nat → Nat → Int} (h : Edf N K sh W R D g) {j : Nat} (hk : j < K) : ∀ {b : Nat}, (b : Int) ≤ R j → b ≤ N → lf W g b j = W j
  | 0, _, _ => by unfold lf; simp [sumTo]
  | b + 1, hr, hb => by
    have := h.early hk (b := b) (by omega) (by omega)
    have h1 := (h.nn b j (by omega) hk).1
    have h2 := h.win b j (by omega) hk
    rw [lf_succ]
    by_cases hp : 0 < g b j
    · have := h2 hp; omega
    · omega
theorem least_of {K : Nat} (p : Nat → Prop) (f : Nat → Int) (hd : ∀ j, Decidable (p j)) : ∀ K, (∃ j, j < K ∧ p j) → ∃ j, j < K ∧ p j ∧ ∀ i, i < K → p i → f j ≤ f i
  | 0, h => by obtain ⟨j, hj, _⟩ := h; omega
  | K + 1, h => by
    by_cases h2 : ∃ j, j < K ∧ p j
    · obtain ⟨j, hj, hp, hm⟩ := least_of (K := K) p f hd K h2
      by_cases hK : p K ∧ f K < f j
      · refine ⟨K, by omega, hK.1, fun i hi hpi => ?_⟩
        by_cases e : i = K
        · rw [e]; exact Int.le_refl _
        · have := hm i (by omega) hpi; omega
      · refine ⟨j, by omega, hp, fun i hi hpi => ?_⟩
        by_cases e : i = K
        · subst e
          have : ¬ f i < f j := fun h => hK ⟨hpi, h⟩
          omega
        · exact hm i (by omega) hpi
    · obtain ⟨j, hj, hp⟩ := h
      have hjK : j = K := by
        apply Classical.byContradiction
        intro hne
        exact h2 ⟨j, by omega, hp⟩
      subst hjK
      refine ⟨j, by omega, hp, fun i hi hpi => ?_⟩
      by_cases e : i = j
      · rw [e]; exact Int.le_refl _
      · exact absurd ⟨i, by omega, hpi⟩ h2
theorem run_back (p : Nat → Prop) (hd : ∀ d, Decidable (p d)) : ∀ t, ∃ f, f ≤ t ∧ (∀ d, f ≤ d → d < t → p d) ∧ (f = 0 ∨ ∃ s, f = s + 1 ∧ ¬ p s)
  | 0 => ⟨0, Nat.le_refl _, fun d h1 h2 => by omega, .inl rfl⟩
  | t + 1 => by
    by_cases h : p t
    · obtain ⟨f, h1, h2, h3⟩ := run_back p hd t
      refine ⟨f, by omega, fun d a b => ?_, h3⟩
      by_cases e : d = t
      · subst e; exact h
      · exact h2 d a (by omega)
    · exact ⟨t + 1, Nat.le_refl _, fun d a b => by omega, .inr ⟨t, rfl, h⟩⟩
/-- If something is left, some window has not enough. -/
theorem Edf.lack {N K : Nat} {sh W R D : Nat → Int} {g : Nat → Nat → Int} (h : Edf N K sh W R D g) (hj : Jb N K sh W R D) (hl : ∃ j, j < K ∧ 0 < lf W g N j) : ∃ a b, a ≤ b ∧ b < N ∧ spr K sh W R D a b < 0 := by
  obtain ⟨j0, hk0, hp0, hmin⟩ := least_of (K := K) (fun j => 0 < lf W g N j) D (fun _ => inferInstance) K hl
  obtain ⟨r1, r2, r3⟩ := hj.r j0 hk0
  obtain ⟨t, ht⟩ := Int.eq_ofNat_of_zero_le (show 0 ≤ D j0 by omega)
  have htN : t < N := by omega
  let full : Nat → Prop := fun d => sumTo (g d) K = sh d ∧ ∀ i, i < K → 0 < g d i → D i ≤ t
  obtain ⟨f, f1, f2, f3⟩ := run_back full (fun d => Classical.propDecidable _) (t + 1)
  have hft : full t := by
    have := h.edf t j0 htN hk0 (by have := h.mono hk0 (show t + 1 ≤ N by omega) (Nat.le_refl _); omega) (by omega) (by omega)
    exact ⟨this.1, fun i hi hg => by have := this.2 i hi hg; omega⟩
  have hf : f ≤ t := by
    rcases f3 with h0 | ⟨s, rfl, hs⟩
    · omega
    · apply Classical.byContradiction
      intro hne
      obtain rfl : s = t := by omega
      exact hs hft
  have done : ∀ j, j < K → D j ≤ t → R j < f → lf W g f j = 0 := fun j hk hd hr => by
    have h0 := h.lf0 hj hk f (by omega)
    apply Classical.byContradiction
    intro hne
    rcases f3 with hz | ⟨s, rfl, hs⟩
    · have := (hj.r j hk).1; omega
    · have hpos : 0 < lf W g (s + 1) j := by omega
      by_cases hsd : (s : Int) ≤ D j
      · obtain ⟨e1, e2⟩ := h.edf s j (by omega) hk hpos (by omega) hsd
        exact hs ⟨e1, fun i hi hg => by have := e2 i hi hg; omega⟩
      · have := h.late hk (a := s + 1) (by omega) (show s + 1 ≤ N by omega) (Nat.le_refl _)
        have := hmin j hk (by omega)
        omega
  refine ⟨f, t, hf, htN, ?_⟩
  have e1 : sumTo sh (t + 1) - sumTo sh f = sumTo (fun d => sumTo (g d) K) (t + 1) - sumTo (fun d => sumTo (g d) K) f := sum_win (by omega) fun d a b => (f2 d a b).1.symm
  rw [sum_swap g K (t + 1), sum_swap g K f, ← sum_sub] at e1
  have e2 : ∀ j, sumTo (fun d => g d j) (t + 1) - sumTo (fun d => g d j) f = lf W g f j - lf W g (t + 1) j := fun j => by unfold lf; omega
  rw [sumTo_congr K fun j _ => e2 j] at e1
  have key : ∀ j, j < K → lf W g f j - lf W g (t + 1) j ≤ (if (f : Int) ≤ R j ∧ D j ≤ (t : Int) then W j else 0) := fun j hk => by
    have b2 := h.lf0 hj hk (t + 1) (by omega)
    by_cases hd : D j ≤ t
    · by_cases hr : (f : Int) ≤ R j
      · rw [if_pos ⟨hr, hd⟩, h.early hk hr (by omega)]; omega
      · rw [if_neg (fun hh => hr hh.1), done j hk hd (by omega)]; omega
    · rw [if_neg (fun hh => hd hh.2)]
      have : sumTo (fun d => g d j) (t + 1) = sumTo (fun d => g d j) f := sum_same (by omega) fun d a b => by
        have q1 := (h.nn d j (by omega) hk).1
        have q2 := (f2 d a b).2 j hk
        by_cases hp : 0 < g d j
        · have := q2 hp; omega
        · omega
      have := e2 j
      omega
  have hr0 : (f : Int) ≤ R j0 := by
    apply Classical.byContradiction
    intro hne
    have a1 := done j0 hk0 (by omega) (by omega)
    have a2 := h.mono hk0 (show f ≤ N by omega) (Nat.le_refl _)
    omega
  have key0 : lf W g f j0 - lf W g (t + 1) j0 < (if (f : Int) ≤ R j0 ∧ D j0 ≤ (t : Int) then W j0 else 0) := by
    rw [if_pos ⟨hr0, by omega⟩, h.early hk0 hr0 (by omega)]
    have := h.mono hk0 (show t + 1 ≤ N by omega) (Nat.le_refl _)
    omega
  have := sum_ltP key hk0 key0
  unfold spr
  omega
/-- A right plan leaves no window without enough. -/
theorem plan_spr {N K : Nat} {sh W R D : Nat → Int} {x : Nat → Nat → Int} (hj : Jb N K sh W R D) (h0 : ∀ d j, d < N → j < K → 0 ≤ x d j) (hw : ∀ d j, d < N → j < K → 0 < x d j → R j ≤ d ∧ (d : Int) ≤ D j) (hc : ∀ d, d < N → sumTo (x d) K ≤ sh d)
    (hs : ∀ j, j < K → sumTo (fun d => x d j) N = W j) {a b : Nat} (hab : a ≤ b) (hb : b < N) : 0 ≤ spr K sh W R D a b := by
  have e1 : sumTo (fun d => sumTo (x d) K) (b + 1) - sumTo (fun d => sumTo (x d) K) a ≤ sumTo sh (b + 1) - sumTo sh a := sum_le_win (by omega) fun d _ h2 => hc d (by omega)
  rw [sum_swap x K (b + 1), sum_swap x K a, ← sum_sub] at e1
  have key : ∀ j, j < K → (if (a : Int) ≤ R j ∧ D j ≤ (b : Int) then W j else 0) ≤ sumTo (fun d => x d j) (b + 1) - sumTo (fun d => x d j) a := fun j hk => by
    have hnn : ∀ d, d < N → 0 ≤ x d j := fun d hd => h0 d j hd hk
    split
    · rename_i hh
      have q1 : sumTo (fun d => x d j) N = sumTo (fun d => x d j) (b + 1) := sum_same (by omega) fun d h1 h2 => by
        have := hw d j h2 hk
        have := hnn d h2
        by_cases hp : 0 < x d j
        · have := hw d j h2 hk hp; omega
        · omega
      have q2 : sumTo (fun d => x d j) a = sumTo (fun d => x d j) 0 := sum_same (Nat.zero_le _) fun d h1 h2 => by
        have := hnn d (by omega)
        by_cases hp : 0 < x d j
        · have := hw d j (by omega) hk hp; omega
        · omega
      have := hs j hk
      have q3 : sumTo (fun d => x d j) 0 = 0 := rfl
      omega
    · have := sum_le_win (F := fun _ => 0) (G := fun d => x d j) (show a ≤ b + 1 by omega) fun d h1 h2 => hnn d (by omega)
      rw [sumTo_zero (F := fun _ => 0) (b + 1) fun _ _ => rfl, sumTo_zero (F := fun _ => 0) a fun _ _ => rfl] at this
      omega
  have := sum_leP K key
  unfold spr
  omega
end Go.Proofs.Ytgcjddlcgpjlcaa
