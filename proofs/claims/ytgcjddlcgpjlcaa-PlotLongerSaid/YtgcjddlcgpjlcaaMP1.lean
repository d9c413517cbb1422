/- Wearings in plain words: crowds, and wigs given greedily. -/
import Derived.Test.YtgcjddlcgpjlcaaMStep
namespace Go.Proofs.Ytgcjddlcgpjlcaa
open Go.RowKit

def wA (l : List Int) (i : Nat) : Int := l.getD (i * 4) 0
def wZ (l : List Int) (i : Nat) : Int := l.getD (i * 4 + 1) 0
def wF (l : List Int) (i : Nat) : Int := l.getD (i * 4 + 2) 0
def wT (l : List Int) (i : Nat) : Int := l.getD (i * 4 + 3) 0
/-! ### Counting -/
def cnt (p : Nat → Bool) : Nat → Nat
  | 0 => 0
  | n + 1 => cnt p n + if p n then 1 else 0
theorem cnt_eq (p : Nat → Bool) : ∀ n, cnt p n = ((List.range n).filter p).length
  | 0 => rfl
  | n + 1 => by
    rw [cnt, cnt_eq p n, List.range_succ, List.filter_append, List.length_append]
    cases h : p n <;> simp [h]
theorem nodup_sub {α : Type} [BEq α] [LawfulBEq α] : ∀ {s l : List α}, s.Nodup → (∀ x ∈ s, x ∈ l) → s.length ≤ l.length
  | [], _, _, _ => Nat.zero_le _
  | x :: s, l, hs, h => by
    have hx := h x (.head _)
    rw [List.nodup_cons] at hs
    have ih := nodup_sub (l := l.erase x) hs.2 fun y hy => by
      have : y ≠ x := fun e => hs.1 (e ▸ hy)
      exact (List.mem_erase_of_ne this).2 (h y (.tail _ hy))
    rw [List.length_erase_of_mem hx] at ih
    have := List.length_pos_of_mem hx
    rw [List.length_cons]; omega
theorem cnt_ge {p : Nat → Bool} {n : Nat} {s : List Nat} (hs : s.Nodup) (h : ∀ x ∈ s, x < n ∧ p x = true) : s.length ≤ cnt p n := by
  rw [cnt_eq]
  exact nodup_sub hs fun x hx => List.mem_filter.2 ⟨List.mem_range.2 (h x hx).1, (h x hx).2⟩
theorem cnt_le {p : Nat → Bool} : ∀ n, cnt p n ≤ n
  | 0 => Nat.le_refl _
  | n + 1 => by have := cnt_le (p := p) n; rw [cnt]; split <;> omega
theorem cnt_mono {p q : Nat → Bool} : ∀ n, (∀ i, i < n → p i = true → q i = true) → cnt p n ≤ cnt q n
  | 0, _ => Nat.le_refl _
  | n + 1, h => by
    have ih := cnt_mono n fun i hi => h i (by omega)
    have := h n (by omega)
    rw [cnt, cnt]
    by_cases hp : p n = true
    · rw [if_pos hp, if_pos (this hp)]; omega
    · rw [if_neg hp]; split <;> omega
theorem nodup_map {f : Nat → Nat} : ∀ {s : List Nat}, s.Nodup → (∀ x ∈ s, ∀ y ∈ s, f x = f y → x = y) → (s.map f).Nodup
  | [], _, _ => List.nodup_nil
  | x :: s, hs, h => by
    rw [List.nodup_cons] at hs
    rw [List.map_cons, List.nodup_cons]
    refine ⟨fun hm => ?_, nodup_map hs.2 fun a ha b hb e => h a (.tail _ ha) b (.tail _ hb) e⟩
    obtain ⟨y, hy, e⟩ := List.mem_map.1 hm
    exact hs.1 (h y (.tail _ hy) x (.head _) e ▸ hy)
theorem nodup_range (n : Nat) : (List.range n).Nodup := List.nodup_range
theorem cnt_inj {p : Nat → Bool} {n c : Nat} (f : Nat → Nat) (h1 : ∀ x, x < n → p x = true → f x < c) (h2 : ∀ x y, x < n → y < n → p x = true → p y = true → f x = f y → x = y) : cnt p n ≤ c := by
  rw [cnt_eq]
  have e := nodup_sub (s := ((List.range n).filter p).map f) (l := List.range c) (nodup_map ((nodup_range n).sublist List.filter_sublist) fun x hx y hy e => by
    obtain ⟨a, b⟩ := List.mem_filter.1 hx
    obtain ⟨a', b'⟩ := List.mem_filter.1 hy
    exact h2 x y (List.mem_range.1 a) (List.mem_range.1 a') b b' e) fun x hx => by
      obtain ⟨y, hy, rfl⟩ := List.mem_map.1 hx
      obtain ⟨a, b⟩ := List.mem_filter.1 hy
      exact List.mem_range.2 (h1 y (List.mem_range.1 a) b)
  rwa [List.length_map, List.length_range] at e
/-! ### Crowds -/
def inC (l : List Int) (R z t : Int) (i : Nat) : Bool := decide (wZ l i = z ∧ wF l i ≤ t ∧ t < wT l i + R)
theorem inC_to {l : List Int} {R z t : Int} {i : Nat} : inC l R z t i = true ↔ wZ l i = z ∧ wF l i ≤ t ∧ t < wT l i + R := decide_eq_true_iff
def crw (l : List Int) (R : Int) (n : Nat) (z t : Int) : Nat := cnt (inC l R z t) n
def mostTo (l : List Int) (R : Int) (n : Nat) (z : Int) : Nat → Nat
  | 0 => 0
  | i + 1 => if wZ l i = z then max (mostTo l R n z i) (crw l R n z (wF l i)) else mostTo l R n z i
def most (l : List Int) (R : Int) (n : Nat) (z : Int) : Nat := mostTo l R n z n
theorem mostTo_le {l : List Int} {R : Int} {n : Nat} {z : Int} {M : Nat} : ∀ k, (∀ i, i < k → wZ l i = z → crw l R n z (wF l i) ≤ M) → mostTo l R n z k ≤ M
  | 0, _ => Nat.zero_le _
  | k + 1, h => by
    have ih := mostTo_le k fun i hi => h i (by omega)
    rw [mostTo]
    split
    · rename_i hz
      have := h k (by omega) hz
      omega
    · exact ih
theorem le_mostTo {l : List Int} {R : Int} {n : Nat} {z : Int} {i : Nat} (hz : wZ l i = z) : ∀ k, i < k → crw l R n z (wF l i) ≤ mostTo l R n z k
  | k + 1, h => by
    rw [mostTo]
    by_cases e : i = k
    · subst e; rw [if_pos hz]; omega
    · have := le_mostTo (n := n) (R := R) hz k (by omega)
      split <;> omega
theorem most_le {l : List Int} {R : Int} {n : Nat} {z : Int} {M : Nat} (h : ∀ i, i < n → wZ l i = z → crw l R n z (wF l i) ≤ M) : most l R n z ≤ M := mostTo_le n h
theorem le_most {l : List Int} {R : Int} {n : Nat} {z : Int} {i : Nat} (hi : i < n) (hz : wZ l i = z) : crw l R n z (wF l i) ≤ most l R n z := le_mostTo hz n hi
theorem mostTo_none {l : List Int} {R : Int} {n : Nat} {z : Int} : ∀ k, (∀ i, i < k → wZ l i ≠ z) → mostTo l R n z k = 0
  | 0, _ => rfl
  | k + 1, h => by rw [mostTo, if_neg (h k (by omega)), mostTo_none k fun i hi => h i (by omega)]
theorem most_some {l : List Int} {R : Int} {n : Nat} {z : Int} (h : ∃ i, i < n ∧ wZ l i = z) (hv : ∀ i, i < n → wF l i < wT l i + R) : 0 < most l R n z := by
  obtain ⟨i, hi, hz⟩ := h
  refine Nat.lt_of_lt_of_le ?_ (le_most hi hz)
  exact cnt_ge (s := [i]) (by simp) fun x hx => by
    obtain rfl : x = i := by simpa using hx
    exact ⟨hi, inC_to.2 ⟨hz, Int.le_refl _, hv x hi⟩⟩
/-! ### Wigs given greedily -/
/-- The wearings P of one size have been given c wigs, ready again at E, wearing a the wig wg a. -/
structure Gd (l : List Int) (R : Int) (n : Nat) (z : Int) (P : List Nat) (c : Nat) (E : List Int) (wg : Nat → Nat) : Prop where
  len : E.length = c
  lt : ∀ a ∈ P, a < n ∧ wZ l a = z ∧ wg a < c
  le : ∀ a ∈ P, wT l a + R ≤ E.getD (wg a) 0
  last : ∀ k, k < c → ∃ a ∈ P, wg a = k ∧ E.getD k 0 = wT l a + R
  apart : ∀ a ∈ P, ∀ b ∈ P, a ≠ b → wg a = wg b → wT l a + R ≤ wF l b ∨ wT l b + R ≤ wF l a
  few : c ≤ most l R n z
theorem Gd.nil (l : List Int) (R : Int) (n : Nat) (z : Int) (wg : Nat → Nat) : Gd l R n z [] 0 [] wg :=
  ⟨rfl, fun _ h => (by cases h), fun _ h => (by cases h), fun k h => absurd h (Nat.not_lt_zero _), fun _ h => (by cases h), Nat.zero_le _⟩
theorem gE_eq {E : List Int} {i : Nat} {x : Int} (h : i < E.length) : (E.set i x).getD i 0 = x := by
  rw [List.getD_eq_getElem?_getD, List.getElem?_set_self h]; rfl
theorem gE_ne {E : List Int} {i j : Nat} {x : Int} (h : i ≠ j) : (E.set i x).getD j 0 = E.getD j 0 := by
  rw [List.getD_eq_getElem?_getD, List.getElem?_set_ne h]; rfl
theorem gE_l {E : List Int} {i : Nat} {x : Int} (h : i < E.length) : (E ++ [x]).getD i 0 = E.getD i 0 := by
  rw [List.getD_eq_getElem?_getD, List.getD_eq_getElem?_getD, List.getElem?_append_left h]
theorem gE_r {E : List Int} {x : Int} : (E ++ [x]).getD E.length 0 = x := by
  rw [List.getD_eq_getElem?_getD, List.getElem?_append_right (Nat.le_refl _)]; simp
/-- An old wig is taken. -/
theorem Gd.old {l : List Int} {R : Int} {n : Nat} {z : Int} {P : List Nat} {c : Nat} {E : List Int} {wg wg' : Nat → Nat} (h : Gd l R n z P c E wg) {w i : Nat} (hw : w < n) (hz : wZ l w = z) (hv : wF l w < wT l w + R) (hP : w ∉ P) (hi : i < c) (he : E.getD i 0 ≤ wF l w)
    (e1 : wg' w = i) (e2 : ∀ a ∈ P, wg' a = wg a) : Gd l R n z (P ++ [w]) c (E.set i (wT l w + R)) wg' := by
  have hl := h.len
  refine ⟨by rw [List.length_set, hl], fun a ha => ?_, fun a ha => ?_, fun k hk => ?_, fun a ha b hb hab hwg => ?_, h.few⟩
  · rcases List.mem_append.1 ha with ha | ha
    · rw [e2 a ha]; exact h.lt a ha
    · obtain rfl : a = w := by simpa using ha
      exact ⟨hw, hz, by rw [e1]; exact hi⟩
  · rcases List.mem_append.1 ha with ha | ha
    · rw [e2 a ha]
      have := h.le a ha
      by_cases hk : wg a = i
      · rw [hk, gE_eq (by omega)]; rw [hk] at this; omega
      · rw [gE_ne (fun e => hk e.symm)]; exact this
    · obtain rfl : a = w := by simpa using ha
      rw [e1, gE_eq (by omega)]; exact Int.le_refl _
  · by_cases hki : k = i
    · subst hki
      exact ⟨w, by simp, e1, gE_eq (by omega)⟩
    · obtain ⟨a, ha, q1, q2⟩ := h.last k hk
      exact ⟨a, List.mem_append_left _ ha, by rw [e2 a ha]; exact q1, by rw [gE_ne (fun e => hki e.symm)]; exact q2⟩
  · have key : ∀ a ∈ P, wg' a = wg' w → wT l a + R ≤ wF l w := fun a ha e => by
      rw [e2 a ha, e1] at e
      have := h.le a ha
      rw [e] at this; omega
    rcases List.mem_append.1 ha with hA | hA
    · rcases List.mem_append.1 hb with hB | hB
      · rw [e2 a hA, e2 b hB] at hwg
        exact h.apart a hA b hB hab hwg
      · obtain rfl : b = w := by simpa using hB
        exact .inl (key a hA hwg)
    · obtain rfl : a = w := by simpa using hA
      rcases List.mem_append.1 hb with hB | hB
      · exact .inr (key b hB hwg.symm)
      · obtain rfl : b = a := by simpa using hB
        exact absurd rfl hab
/-- A new wig is taken: none is ready. -/
theorem Gd.new {l : List Int} {R : Int} {n : Nat} {z : Int} {P : List Nat} {c : Nat} {E : List Int} {wg wg' : Nat → Nat} (h : Gd l R n z P c E wg) {w : Nat} (hw : w < n) (hz : wZ l w = z) (hv : wF l w < wT l w + R) (hP : w ∉ P) (hs : ∀ a ∈ P, wF l a ≤ wF l w) (he : ∀ k, k < c → wF l w < E.getD k 0)
    (e1 : wg' w = c) (e2 : ∀ a ∈ P, wg' a = wg a) : Gd l R n z (P ++ [w]) (c + 1) (E ++ [wT l w + R]) wg' := by
  have hl := h.len
  have fewer : c + 1 ≤ most l R n z := by
    refine Nat.le_trans ?_ (le_most hw hz)
    have hch : ∀ k : Nat, ∃ a, k < c → a ∈ P ∧ wg a = k ∧ E.getD k 0 = wT l a + R := fun k => by
      by_cases hk : k < c
      · obtain ⟨a, h1, h2⟩ := h.last k hk
        exact ⟨a, fun _ => ⟨h1, h2⟩⟩
      · exact ⟨0, fun h => absurd h hk⟩
    have hch := Classical.axiomOfChoice hch
    obtain ⟨f, hf⟩ := hch
    have := cnt_ge (p := inC l R z (wF l w)) (n := n) (s := (List.range c).map f ++ [w]) (by
      rw [List.nodup_append]
      refine ⟨nodup_map (nodup_range c) fun x hx y hy e => ?_, by simp, fun a ha b hb e => ?_⟩
      · have a1 := (hf x (List.mem_range.1 hx)).2.1
        have a2 := (hf y (List.mem_range.1 hy)).2.1
        rw [e] at a1; omega
      · obtain ⟨k, hk, rfl⟩ := List.mem_map.1 ha
        obtain rfl : b = w := by simpa using hb
        exact hP (e ▸ (hf k (List.mem_range.1 hk)).1)) (fun x hx => by
      rcases List.mem_append.1 hx with hx | hx
      · obtain ⟨k, hk, rfl⟩ := List.mem_map.1 hx
        obtain ⟨a1, _, a3⟩ := hf k (List.mem_range.1 hk)
        have b1 := h.lt _ a1
        have b2 := hs _ a1
        have b3 := he k (List.mem_range.1 hk)
        exact ⟨b1.1, inC_to.2 ⟨b1.2.1, b2, by omega⟩⟩
      · obtain rfl : x = w := by simpa using hx
        exact ⟨hw, inC_to.2 ⟨hz, Int.le_refl _, hv⟩⟩)
    rw [List.length_append, List.length_map, List.length_range] at this
    exact this
  refine ⟨by rw [List.length_append, hl]; rfl, fun a ha => ?_, fun a ha => ?_, fun k hk => ?_, fun a ha b hb hab hwg => ?_, fewer⟩
  · rcases List.mem_append.1 ha with ha | ha
    · rw [e2 a ha]
      have := h.lt a ha
      exact ⟨this.1, this.2.1, by omega⟩
    · obtain rfl : a = w := by simpa using ha
      exact ⟨hw, hz, by omega⟩
  · rcases List.mem_append.1 ha with ha | ha
    · rw [e2 a ha, gE_l (by have := (h.lt a ha).2.2; omega)]; exact h.le a ha
    · obtain rfl : a = w := by simpa using ha
      rw [e1, ← hl, gE_r]; exact Int.le_refl _
  · by_cases hkc : k < c
    · obtain ⟨a, ha, q1, q2⟩ := h.last k hkc
      exact ⟨a, List.mem_append_left _ ha, by rw [e2 a ha]; exact q1, by rw [gE_l (by omega)]; exact q2⟩
    · obtain rfl : k = c := by omega
      exact ⟨w, by simp, e1, by rw [← hl, gE_r]⟩
  · rcases List.mem_append.1 ha with hA | hA
    · rcases List.mem_append.1 hb with hB | hB
      · rw [e2 a hA, e2 b hB] at hwg
        exact h.apart a hA b hB hab hwg
      · obtain rfl : b = w := by simpa using hB
        rw [e2 a hA, e1] at hwg
        have := (h.lt a hA).2.2
        omega
    · obtain rfl : a = w := by simpa using hA
      rcases List.mem_append.1 hb with hB | hB
      · rw [e2 b hB, e1] at hwg
        have := (h.lt b hB).2.2
        omega
      · obtain rfl : b = a := by simpa using hB
        exact absurd rfl hab
/-- All wearings of a size have wigs: as few as can be. -/
theorem Gd.fin {l : List Int} {R : Int} {n : Nat} {z : Int} {P : List Nat} {c : Nat} {E : List Int} {wg : Nat → Nat} (h : Gd l R n z P c E wg) (hP : ∀ i, i < n → wZ l i = z → i ∈ P) : c = most l R n z := by
  refine Nat.le_antisymm h.few (most_le fun i hi hz => cnt_inj wg (fun x hx hp => ?_) (fun x y hx hy hpx hpy e => ?_))
  · exact (h.lt x (hP x hx (inC_to.1 hp).1)).2.2
  · obtain ⟨a1, a2, a3⟩ := inC_to.1 hpx
    obtain ⟨b1, b2, b3⟩ := inC_to.1 hpy
    apply Classical.byContradiction
    intro hne
    have := h.apart x (hP x hx a1) y (hP y hy b1) hne e
    omega
end Go.Proofs.Ytgcjddlcgpjlcaa
