/- Which plays are valid: plain. -/
import Derived.Test.YtgcjddlcgpjlcaaMP2
namespace Go.Proofs.Ytgcjddlcgpjlcaa
open Go.RowKit

def okP (R C : Int) : Prop := 0 ≤ R ∧ R ≤ 600 ∧ 0 ≤ C ∧ C ≤ 600
instance (R C : Int) : Decidable (okP R C) := by unfold okP; infer_instance
def okw (l : List Int) (i : Nat) : Prop := 0 ≤ wA l i ∧ wA l i ≤ 99 ∧ 1 ≤ wZ l i ∧ wZ l i ≤ 99 ∧ 0 ≤ wF l i ∧ wF l i < wT l i ∧ wT l i ≤ 600
instance (l : List Int) (i : Nat) : Decidable (okw l i) := by unfold okw; infer_instance
/-- Of two wearings, the later one begins less than a time after the end of the earlier one. -/
def nr (l : List Int) (t : Int) (i k : Nat) : Prop := wF l k < wT l i + t ∧ wF l i < wT l k + t
instance (l : List Int) (t : Int) (i k : Nat) : Decidable (nr l t i k) := by unfold nr; infer_instance
theorem nr_sym {l : List Int} {t : Int} {i k : Nat} : nr l t i k ↔ nr l t k i := And.comm
def ovl (l : List Int) (C : Int) (i k : Nat) : Prop := wA l i = wA l k ∧ nr l C i k
instance (l : List Int) (t : Int) (i k : Nat) : Decidable (ovl l t i k) := by unfold ovl; infer_instance
def vpE (n : Nat) (R C : Int) (l : List Int) : Int :=
  if 16 < n then 4 else if ¬ okP R C then 1 else if ¬ (∀ i, i < n → okw l i) then 1 else if ∀ i, i < n → ∀ k, k < i → ¬ ovl l C i k then 0 else 10
theorem vp_large {n : Nat} {R C : Int} {l : List Int} (h : 16 < n) : vpE n R C l = 4 := if_pos h
theorem vp_nums {n : Nat} {R C : Int} {l : List Int} (h : ¬ 16 < n) (h1 : ¬ okP R C) : vpE n R C l = 1 := by unfold vpE; rw [if_neg h, if_pos h1]
theorem vp_bad {n k : Nat} {R C : Int} {l : List Int} (h : ¬ 16 < n) (h1 : okP R C) (hk : k < n) (h2 : ¬ okw l k) : vpE n R C l = 1 := by
  unfold vpE; rw [if_neg h, if_neg (fun hh => hh h1), if_pos fun hh => h2 (hh k hk)]
theorem vp_over {n i k : Nat} {R C : Int} {l : List Int} (h : ¬ 16 < n) (h1 : okP R C) (h2 : ∀ i, i < n → okw l i) (hi : i < n) (hk : k < i) (h3 : ovl l C i k) : vpE n R C l = 10 := by
  unfold vpE; rw [if_neg h, if_neg (fun hh => hh h1), if_neg (fun hh => hh h2), if_neg fun hh => hh i hi k hk h3]
theorem vp_ok {n : Nat} {R C : Int} {l : List Int} (h : ¬ 16 < n) (h1 : okP R C) (h2 : ∀ i, i < n → okw l i) (h3 : ∀ i, i < n → ∀ k, k < i → ¬ ovl l C i k) : vpE n R C l = 0 := by
  unfold vpE; rw [if_neg h, if_neg (fun hh => hh h1), if_neg (fun hh => hh h2), if_pos h3]
structure VP (n : Nat) (R C : Int) (l : List Int) : Prop where
  le : n ≤ 16
  nums : okP R C
  w : ∀ i, i < n → okw l i
  no : ∀ i, i < n → ∀ k, k < i → ¬ ovl l C i k
theorem vp_to {n : Nat} {R C : Int} {l : List Int} (h : vpE n R C l = 0) : VP n R C l := by
  unfold vpE at h
  split at h
  · omega
  · split at h
    · omega
    · split at h
      · omega
      · split at h
        · rename_i h0 h1 h2 h3
          exact ⟨by omega, Decidable.not_not.1 h1, Decidable.not_not.1 h2, h3⟩
        · omega
/-- The reference's way to say it. -/
def tgt (l : List Int) (t : Int) (i k : Nat) : Prop := if wF l i < wF l k then wF l k < wT l i + t else if wF l k < wF l i then wF l i < wT l k + t else True
theorem tgt_iff {l : List Int} {t : Int} {i k : Nat} (hi : okw l i) (hk : okw l k) (ht : 0 ≤ t) : tgt l t i k ↔ nr l t i k := by
  unfold tgt nr okw at *
  split
  · omega
  · split
    · omega
    · simp only [true_iff]; omega
end Go.Proofs.Ytgcjddlcgpjlcaa
