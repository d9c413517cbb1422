/- No right assignment uses fewer wigs than are needed: plain. -/
import Derived.Test.YtgcjddlcgpjlcaaMP31
import Derived.Test.YtgcjddlcgpjlcaaMP29
namespace Go.Proofs.Ytgcjddlcgpjlcaa
open Go.RowKit

theorem most_at (l : List Int) (R : Int) (n : Nat) (z : Int) : ∃ t, crw l R n z t = most l R n z := by
  have key : ∀ k, k ≤ n → ∃ t, mostTo l R n z k ≤ crw l R n z t := by
    intro k
    induction k with
    | zero => exact fun _ => ⟨0, Nat.zero_le _⟩
    | succ k ih =>
      intro hk
      obtain ⟨t, ht⟩ := ih (by omega)
      rw [mostTo]
      split
      · rcases Nat.le_total (mostTo l R n z k) (crw l R n z (wF l k)) with h | h
        · exact ⟨wF l k, by omega⟩
        · exact ⟨t, by omega⟩
      · exact ⟨t, ht⟩
  obtain ⟨t, ht⟩ := key n (Nat.le_refl _)
  have : crw l R n z t ≤ most l R n z := crw_le_most
  have ht' : most l R n z ≤ crw l R n z t := ht
  exact ⟨t, by omega⟩
theorem hot_eq {x : Int} {j : Nat} (hx : x = (j : Int)) : ∀ K, j < K → sumTo (fun k => if x = (k : Int) then 1 else 0) K = 1
  | K + 1, h => by
    rw [sumTo_succ]
    by_cases e : j = K
    · subst e
      rw [sumTo_zero j fun k hk => if_neg (by omega), if_pos hx]; rfl
    · rw [hot_eq hx K (by omega), if_neg (by omega)]; rfl
theorem cnt_parts {p : Nat → Bool} {f : Nat → Int} {K : Nat} : ∀ n, (∀ i, i < n → p i = true → 0 ≤ f i ∧ f i < K) → ((cnt p n : Nat) : Int) = sumTo (fun z => ((cnt (fun i => p i && decide (f i = (z : Int))) n : Nat) : Int)) K
  | 0, _ => (sumTo_zero K fun _ _ => rfl).symm
  | n + 1, h => by
    have ih := cnt_parts (p := p) (f := f) (K := K) n fun i hi => h i (by omega)
    have e1 : ((cnt p (n + 1) : Nat) : Int) = (cnt p n : Int) + (if p n then 1 else 0) := by
      show ((cnt p n + (if p n then 1 else 0) : Nat) : Int) = _
      split <;> simp
    have e2 : ∀ z : Nat, ((cnt (fun i => p i && decide (f i = (z : Int))) (n + 1) : Nat) : Int) = (cnt (fun i => p i && decide (f i = (z : Int))) n : Int) + (if p n = true ∧ f n = (z : Int) then 1 else 0) := fun z => by
      show ((cnt (fun i => p i && decide (f i = (z : Int))) n + (if (p n && decide (f n = (z : Int))) = true then 1 else 0) : Nat) : Int) = _
      by_cases hq : p n = true ∧ f n = (z : Int)
      · rw [if_pos hq, if_pos (by simp [hq.1, hq.2])]; rfl
      · rw [if_neg hq, if_neg (by simpa using hq)]; rfl
    rw [e1, ih, sumTo_congr K fun z _ => e2 z, sumTo_add]
    congr 1
    by_cases hp : p n = true
    · obtain ⟨g1, g2⟩ := h n (by omega) hp
      obtain ⟨j, hj⟩ := Int.eq_ofNat_of_zero_le g1
      rw [if_pos hp, sumTo_congr K fun z _ => show (if p n = true ∧ f n = (z : Int) then (1 : Int) else 0) = if f n = (z : Int) then 1 else 0 from by simp [hp], hot_eq hj K (by omega)]
    · rw [if_neg hp, sumTo_zero K fun z _ => if_neg fun hh => hp hh.1]
theorem us_ge {n m : Nat} {R C : Int} {l w : List Int} (hc : ckE n R C l m w = 0) : lsV n R C l ≤ (usN w m : Nat) := by
  obtain ⟨hv, rfl, _, hfree⟩ := ck_to hc
  have hV := vp_to hv
  obtain ⟨bt, hbt⟩ : ∃ bt : Int → Int, ∀ z, crw l R m z (bt z) = most l R m z := ⟨fun z => Classical.choose (most_at l R m z), fun z => Classical.choose_spec (most_at l R m z)⟩
  let S : Nat → Bool := fun i => inC l R (wZ l i) (bt (wZ l i)) i
  have h1 : ((cnt S m : Nat) : Int) = (msum l R m 100 : Nat) := by
    rw [cnt_parts (f := wZ l) (K := 100) m fun i hi _ => by have := hV.w i hi; unfold okw at this; omega, msum_sum]
    refine sumTo_congr 100 fun z _ => ?_
    rw [← hbt]
    have e : cnt (fun i => S i && decide (wZ l i = (z : Int))) m = crw l R m z (bt z) := by
      have a := cnt_mono (p := fun i => S i && decide (wZ l i = (z : Int))) (q := inC l R z (bt z)) m fun i _ h => by
        simp only [Bool.and_eq_true, decide_eq_true_eq] at h
        have := h.1
        show inC l R z (bt z) i = true
        rw [← h.2]; exact this
      have b := cnt_mono (q := fun i => S i && decide (wZ l i = (z : Int))) (p := inC l R z (bt z)) m fun i _ h => by
        have hz := (inC_to.1 h).1
        simp only [Bool.and_eq_true, decide_eq_true_eq]
        refine ⟨?_, hz⟩
        show inC l R (wZ l i) (bt (wZ l i)) i = true
        rw [hz]; exact h
      unfold crw; omega
    rw [e]
  have h2 : cnt S m ≤ usN w m := by
    rw [cnt_eq, ← fstL_len, ← List.length_map (f := fun i => w.getD i 0)]
    refine nodup_sub ?_ fun x hx => ?_
    · refine List.pairwise_map.2 ?_
      have hr : ((List.range m).filter S).Pairwise (· < ·) := List.pairwise_lt_range.filter _
      have hr2 : ((List.range m).filter S).Pairwise fun a b => a < b ∧ b < m ∧ S a = true ∧ S b = true := by
        refine List.Pairwise.imp_of_mem ?_ hr
        intro a b ha hb hab
        exact ⟨hab, List.mem_range.1 (List.mem_filter.1 hb).1, (List.mem_filter.1 ha).2, (List.mem_filter.1 hb).2⟩
      refine hr2.imp fun {a b} h => ?_
      obtain ⟨g1, g2, g3, g4⟩ := h
      intro he
      have hn := hfree b g2 a g1 he.symm
      have hz : wZ l b = wZ l a := Decidable.not_not.1 fun hz => hn (.inl hz)
      have q1 := inC_to.1 g3
      have q2 := inC_to.1 g4
      rw [hz] at q2
      exact hn (.inr ⟨by omega, by omega⟩)
    · obtain ⟨i, hi, rfl⟩ := List.mem_map.1 hx
      exact fstL_mem.2 ⟨i, List.mem_range.1 (List.mem_filter.1 hi).1, rfl⟩
  rw [lsV, if_pos hv]
  omega
end Go.Proofs.Ytgcjddlcgpjlcaa
