/- No moments prove more wigs than are needed: plain; and the assignment that is returned is right: plain. -/
import Derived.Test.YtgcjddlcgpjlcaaMP26
import Derived.Test.YtgcjddlcgpjlcaaMP28
namespace Go.Proofs.Ytgcjddlcgpjlcaa
open Go.RowKit

theorem cnt_zero {p : Nat → Bool} : ∀ n, (∀ i, i < n → p i = false) → cnt p n = 0 := fun n h => by
  rw [cnt_eq, List.filter_eq_nil_iff.2 fun i hi => by rw [h i (List.mem_range.1 hi)]; decide]; rfl
theorem crw_le_most {l : List Int} {R : Int} {n : Nat} {z t : Int} : crw l R n z t ≤ most l R n z := by
  by_cases h : ∃ i, i < n ∧ inC l R z t i = true
  · obtain ⟨i, h1, h2, h3⟩ := least_of (K := n) (fun i => inC l R z t i = true) (fun i => - wF l i) (fun _ => inferInstance) n h
    have hi := inC_to.1 h2
    refine Nat.le_trans (cnt_mono n fun j hj hjt => ?_) (le_most h1 hi.1)
    have h4 := h3 j hj hjt
    have hj2 := inC_to.1 hjt
    exact inC_to.2 ⟨hj2.1, by omega, by omega⟩
  · have : crw l R n z t = 0 := cnt_zero n fun i hi => by
      cases hc : inC l R z t i with
      | false => rfl
      | true => exact absurd ⟨i, hi, hc⟩ h
    omega
theorem msum_sum (l : List Int) (R : Int) (n : Nat) : ∀ K, ((msum l R n K : Nat) : Int) = sumTo (fun k => ((most l R n (k : Int) : Nat) : Int)) K
  | 0 => rfl
  | K + 1 => by rw [sumTo_succ, ← msum_sum l R n K, msum]; omega
theorem hot_ge {f : Nat → Int} {x : Int} {j : Nat} (hx : x = (j : Int)) (hf : ∀ k, 0 ≤ f k) : ∀ K, j < K → f j ≤ sumTo (fun k => if x = (k : Int) then f k else 0) K
  | K + 1, h => by
    have hnn : 0 ≤ sumTo (fun k => if x = (k : Int) then f k else 0) K := sumTo_nonneg K fun k _ => by have := hf k; split <;> omega
    rw [sumTo_succ]
    by_cases e : j = K
    · subst e; rw [if_pos hx]; omega
    · have := hot_ge hx hf K (by omega)
      have h2 : 0 ≤ (if x = (K : Int) then f K else 0) := by have := hf K; split <;> omega
      omega
theorem hot_le {q : List Int} {z M : Int} (hM : 0 ≤ M) : ∀ m, (∀ o, o < m → ∀ k, k < o → qZ q k ≠ qZ q o) → sumTo (fun i => if qZ q i = z then M else 0) m ≤ M
  | 0, _ => hM
  | m + 1, h => by
    rw [sumTo_succ]
    by_cases e : qZ q m = z
    · rw [sumTo_zero m fun i hi => if_neg fun hh => h m (by omega) i hi (by rw [hh, e]), if_pos e]; omega
    · have := hot_le (z := z) hM m fun o ho => h o (by omega)
      rw [if_neg e]; omega
theorem nd_le {l q : List Int} {R C : Int} {n m : Nat} (hv : VP n R C l) (hd : ∀ o, o < m → ∀ k, k < o → qZ q k ≠ qZ q o) : sumTo (ndS n R l q) m ≤ ((msum l R n 100 : Nat) : Int) := by
  have h1 : sumTo (ndS n R l q) m ≤ sumTo (fun i => sumTo (fun k => if qZ q i = (k : Int) then ((most l R n (k : Int) : Nat) : Int) else 0) 100) m := sum_leP m fun i hi => by
    by_cases h : ∃ j, j < n ∧ inC l R (qZ q i) (qA q i) j = true
    · obtain ⟨j, hj, hc⟩ := h
      have hw := hv.w j hj
      unfold okw at hw
      have hz := (inC_to.1 hc).1
      obtain ⟨k, hk⟩ := Int.eq_ofNat_of_zero_le (show 0 ≤ qZ q i by omega)
      have := hot_ge (f := fun k => ((most l R n (k : Int) : Nat) : Int)) hk (fun k => by omega) 100 (by omega)
      have hle : crw l R n (qZ q i) (qA q i) ≤ most l R n (qZ q i) := crw_le_most
      rw [hk] at hle
      unfold ndS
      rw [hk] at this ⊢
      omega
    · have : crw l R n (qZ q i) (qA q i) = 0 := cnt_zero n fun j hj => by
        cases hc : inC l R (qZ q i) (qA q i) j with
        | false => rfl
        | true => exact absurd ⟨j, hj, hc⟩ h
      unfold ndS
      rw [this]
      exact sumTo_nonneg _ fun k _ => by split <;> omega
  rw [sum_swap (fun i k => if qZ q i = (k : Int) then ((most l R n (k : Int) : Nat) : Int) else 0) 100 m] at h1
  rw [msum_sum]
  exact Int.le_trans h1 (sum_leP 100 fun k _ => hot_le (by omega) m hd)
/-! ### The assignment -/
theorem as_ck {l o : List Int} {R C : Int} {n : Nat} (hv : vpE n R C l = 0) (h : As l R n 100 o) : ckE n R C l n o = 0 := by
  have hV := vp_to hv
  have h100 : ∀ i, i < n → wZ l i < (100 : Nat) := fun i hi => by have := hV.w i hi; unfold okw at this; omega
  refine ck_ok hv rfl (fun i hi => (h.to i hi (h100 i hi)).1) (fun i hi k hk he => (h.apart i k hi (by omega) (h100 i hi) (h100 k (by omega)) (by omega) he).1) (fun i hi k hk he hc => ?_)
  obtain ⟨h1, h2⟩ := h.apart i k hi (by omega) (h100 i hi) (h100 k (by omega)) (by omega) he
  rcases hc with hc | hc
  · exact hc h1
  · unfold nr at hc; omega
theorem as_us {l o : List Int} {R C : Int} {n : Nat} (hv : vpE n R C l = 0) (h : As l R n 100 o) : usN o n = msum l R n 100 := by
  have hV := vp_to hv
  have h100 : ∀ i, i < n → wZ l i < (100 : Nat) := fun i hi => by have := hV.w i hi; unfold okw at this; omega
  rw [← fstL_len]
  have h1 := nodup_sub (fstL_nd o n) (l := (List.range (msum l R n 100)).map fun (i : Nat) => (i : Int)) fun x hx => by
    obtain ⟨i, hi, he⟩ := fstL_mem.1 hx
    have := h.to i hi (h100 i hi)
    exact List.mem_map.2 ⟨x.toNat, List.mem_range.2 (by omega), by omega⟩
  have h2 : ((List.range (msum l R n 100)).map fun (i : Nat) => (i : Int)).Nodup := List.pairwise_map.2 (List.nodup_range.imp fun {a b} hab he => hab (by omega))
  have h3 := nodup_sub h2 (l := fstL o n) fun x hx => by
    obtain ⟨t, ht, rfl⟩ := List.mem_map.1 hx
    obtain ⟨i, hi, _, he⟩ := h.onto t (List.mem_range.1 ht)
    exact fstL_mem.2 ⟨i, hi, he⟩
  simp only [List.length_map, List.length_range] at h1 h3
  omega
end Go.Proofs.Ytgcjddlcgpjlcaa
