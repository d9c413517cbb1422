/- Wigs given size by size: plain. -/
import Derived.Test.YtgcjddlcgpjlcaaMP1
namespace Go.Proofs.Ytgcjddlcgpjlcaa
open Go.RowKit

/-- How many wigs the sizes below k need. -/
def msum (l : List Int) (R : Int) (n : Nat) : Nat → Nat
  | 0 => 0
  | k + 1 => msum l R n k + most l R n (k : Int)
theorem msum_mono {l : List Int} {R : Int} {n a : Nat} : ∀ {b : Nat}, a ≤ b → msum l R n a ≤ msum l R n b
  | 0, h => by rw [show a = 0 by omega]; exact Nat.le_refl _
  | b + 1, h => by
    by_cases e : a = b + 1
    · rw [e]; exact Nat.le_refl _
    · have := msum_mono (l := l) (R := R) (n := n) (show a ≤ b by omega)
      rw [msum]; omega
theorem msum_gap {l : List Int} {R : Int} {n a : Nat} : ∀ {b : Nat}, a ≤ b → (∀ i, i < n → ¬ ((a : Int) ≤ wZ l i ∧ wZ l i < b)) → msum l R n a = msum l R n b
  | 0, h, _ => by rw [show a = 0 by omega]
  | b + 1, h, hg => by
    by_cases e : a = b + 1
    · rw [e]
    · rw [msum, ← msum_gap (show a ≤ b by omega) fun i hi => by have := hg i hi; omega, most, mostTo_none n fun i hi => by have := hg i hi; omega]
      rfl
/-- All wearings of sizes below k have their wigs. -/
structure As (l : List Int) (R : Int) (n k : Nat) (o : List Int) : Prop where
  len : o.length = n
  to : ∀ i, i < n → wZ l i < k → 0 ≤ o.getD i 0 ∧ o.getD i 0 < (msum l R n k : Int)
  apart : ∀ i j, i < n → j < n → wZ l i < k → wZ l j < k → i ≠ j → o.getD i 0 = o.getD j 0 → wZ l i = wZ l j ∧ (wT l i + R ≤ wF l j ∨ wT l j + R ≤ wF l i)
  onto : ∀ t, t < msum l R n k → ∃ i, i < n ∧ wZ l i < k ∧ o.getD i 0 = (t : Int)
theorem As.gap {l : List Int} {R : Int} {n a b : Nat} {o : List Int} (h : As l R n a o) (hab : a ≤ b) (hg : ∀ i, i < n → ¬ ((a : Int) ≤ wZ l i ∧ wZ l i < b)) : As l R n b o := by
  have e := msum_gap (R := R) hab hg
  have key : ∀ i, i < n → wZ l i < b → wZ l i < a := fun i hi hb => by have := hg i hi; omega
  refine ⟨h.len, fun i hi hb => ?_, fun i j hi hj hb hb' => h.apart i j hi hj (key i hi hb) (key j hj hb'), fun t ht => ?_⟩
  · rw [← e]; exact h.to i hi (key i hi hb)
  · obtain ⟨i, h1, h2, h3⟩ := h.onto t (by rw [e]; exact ht)
    exact ⟨i, h1, by omega, h3⟩
theorem As.zero {l : List Int} {R : Int} {n : Nat} {o : List Int} (h : o.length = n) (hz : ∀ i, i < n → 0 ≤ wZ l i) : As l R n 0 o :=
  ⟨h, fun i hi hb => by have := hz i hi; omega, fun i j hi _ hb => by have := hz i hi; omega, fun t ht => absurd ht (Nat.not_lt_zero _)⟩
/-- The wig of a size's own count. -/
def wgo (o : List Int) (first a : Nat) : Nat := (o.getD a 0 - first).toNat
/-- One size more. -/
theorem As.next {l : List Int} {R : Int} {n k c : Nat} {o o' : List Int} {P : List Nat} {E : List Int} (h : As l R n k o) (hg : Gd l R n k P c E (wgo o' (msum l R n k))) (hP : ∀ i, i < n → wZ l i = k → i ∈ P) (hl : o'.length = n)
    (hold : ∀ i, i < n → wZ l i < k → o'.getD i 0 = o.getD i 0) (hpos : ∀ a ∈ P, (msum l R n k : Int) ≤ o'.getD a 0) : As l R n (k + 1) o' := by
  have hc := hg.fin hP
  have hm : msum l R n (k + 1) = msum l R n k + c := by rw [msum, ← hc]
  have own : ∀ i, i < n → wZ l i = k → o'.getD i 0 = (msum l R n k : Int) + wgo o' (msum l R n k) i ∧ wgo o' (msum l R n k) i < c := fun i hi hz => by
    have := hpos i (hP i hi hz)
    have h2 := (hg.lt i (hP i hi hz)).2.2
    refine ⟨?_, h2⟩
    unfold wgo; omega
  refine ⟨hl, fun i hi hb => ?_, fun i j hi hj hb hb' hij he => ?_, fun t ht => ?_⟩
  · rw [hm]
    by_cases hz : wZ l i = k
    · have := own i hi hz; omega
    · have h1 := h.to i hi (by omega)
      rw [hold i hi (by omega)]; omega
  · by_cases hz : wZ l i = k
    · have a1 := own i hi hz
      by_cases hz' : wZ l j = k
      · have a2 := own j hj hz'
        exact ⟨by omega, hg.apart i (hP i hi hz) j (hP j hj hz') hij (by omega)⟩
      · have a2 := h.to j hj (by omega)
        rw [hold j hj (by omega)] at he
        omega
    · have a1 := h.to i hi (by omega)
      rw [hold i hi (by omega)] at he
      by_cases hz' : wZ l j = k
      · have a2 := own j hj hz'
        omega
      · rw [hold j hj (by omega)] at he
        exact h.apart i j hi hj (by omega) (by omega) hij he
  · by_cases htk : t < msum l R n k
    · obtain ⟨i, h1, h2, h3⟩ := h.onto t htk
      exact ⟨i, h1, by omega, by rw [hold i h1 h2]; exact h3⟩
    · obtain ⟨a, ha, h1, _⟩ := hg.last (t - msum l R n k) (by omega)
      have h2 := hg.lt a ha
      exact ⟨a, h2.1, by omega, by have := (own a h2.1 h2.2.1).1; omega⟩
end Go.Proofs.Ytgcjddlcgpjlcaa
