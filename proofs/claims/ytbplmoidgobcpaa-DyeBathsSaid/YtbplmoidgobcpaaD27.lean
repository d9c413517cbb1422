/- Shades that are some baths away (plain). -/
import Derived.Test.YtbplmoidgobcpaaD25
import Derived.Test.YtbplmoidgobcpaaD19
namespace Go.Proofs.Ytbplmoidgobcpaa
open Go.RowKit

theorem pigeon : ∀ (N m : Nat) (f : Nat → Nat), (∀ i, i < m → f i < N) → (∀ i j, i < j → j < m → f i ≠ f j) → m ≤ N
  | 0, m, f, h, _ => by
    rcases Nat.eq_zero_or_pos m with h0 | h0
    · omega
    · have := h 0 h0; omega
  | N + 1, m, f, h, hd => by
    by_cases hx : ∃ i, i < m ∧ f i = N
    · obtain ⟨i, hi, he⟩ := hx
      have := pigeon N (m - 1) (fun k => if k < i then f k else f (k + 1)) (fun k hk => by
        by_cases h1 : k < i
        · rw [if_pos h1]
          have a := h k (by omega)
          have b := hd k i h1 hi
          omega
        · rw [if_neg h1]
          have a := h (k + 1) (by omega)
          have b := hd i (k + 1) (by omega) (by omega)
          omega) (fun a b hab hb => by
        by_cases h1 : b < i
        · rw [if_pos (show a < i by omega), if_pos h1]; exact hd a b hab (by omega)
        · rw [if_neg h1]
          by_cases h2 : a < i
          · rw [if_pos h2]; exact hd a (b + 1) (by omega) (by omega)
          · rw [if_neg h2]; exact hd (a + 1) (b + 1) (by omega) (by omega))
      omega
    · have := pigeon N m f (fun i hi => by
        have a := h i hi
        have b : f i ≠ N := fun e => hx ⟨i, hi, e⟩
        omega) hd
      omega
def isE (l : List Int) (i : Nat) (x y z : Int) : Bool := decide (gW l i = x ∧ gL l i = y ∧ gX l i = z)
def hasB (l : List Int) (m : Nat) (x y z : Int) : Bool := (List.range m).any fun i => isE l i x y z
theorem hasB_to {l : List Int} {m : Nat} {x y z : Int} : hasB l m x y z = true ↔ ∃ i, i < m ∧ gW l i = x ∧ gL l i = y ∧ gX l i = z := by
  unfold hasB
  rw [List.any_eq_true]
  constructor
  · rintro ⟨i, hi, h⟩
    exact ⟨i, List.mem_range.1 hi, of_decide_eq_true h⟩
  · rintro ⟨i, hi, h⟩
    exact ⟨i, List.mem_range.2 hi, decide_eq_true h⟩
/-- A list of shades, each once. -/
structure KL (l : List Int) (m : Nat) (O : Int → Int → Int → Prop) : Prop where
  len : l.length = m * 3
  mem : ∀ x y z, hasB l m x y z = true ↔ O x y z
  nd : ∀ i j, i < j → j < m → ¬ (gW l i = gW l j ∧ gL l i = gL l j ∧ gX l i = gX l j)
  val : ∀ i, i < m → sdB (gW l i) (gL l i) (gX l i) = true
theorem KL.nil : KL [] 0 (fun _ _ _ => False) := ⟨rfl, fun x y z => by simp [hasB], fun i j _ hj => absurd hj (Nat.not_lt_zero j), fun i hi => absurd hi (Nat.not_lt_zero i)⟩
theorem KL.one {L T C : Int} (h : sdB L T C = true) : KL [L, T, C] 1 (fun x y z => L = x ∧ T = y ∧ C = z) := by
  refine ⟨rfl, fun x y z => ?_, fun i j hij hj => by omega, fun i hi => ?_⟩
  · rw [hasB_to]
    constructor
    · rintro ⟨i, hi, h⟩
      obtain rfl : i = 0 := by omega
      exact h
    · exact fun h => ⟨0, by omega, h⟩
  · obtain rfl : i = 0 := by omega
    exact h
theorem KL.small {l : List Int} {m : Nat} {O : Int → Int → Int → Prop} (h : KL l m O) : m ≤ 240 := by
  refine pigeon 240 m (fun i => (((gW l i - 1) * 6 + gL l i) * 4 + gX l i).toNat) (fun i hi => ?_) (fun i j hij hj e => ?_)
  · have := sdB_to.1 (h.val i hi)
    omega
  · have a := sdB_to.1 (h.val i (by omega))
    have b := sdB_to.1 (h.val j hj)
    exact h.nd i j hij hj ⟨by omega, by omega, by omega⟩
theorem KL.congr {l : List Int} {m : Nat} {O O' : Int → Int → Int → Prop} (h : KL l m O) (e : ∀ x y z, O x y z ↔ O' x y z) : KL l m O' := ⟨h.len, fun x y z => (h.mem x y z).trans (e x y z), h.nd, h.val⟩
theorem KL.add {l : List Int} {m : Nat} {O : Int → Int → Int → Prop} (h : KL l m O) {a b c : Int} (hv : sdB a b c = true) (hn : hasB l m a b c = false) : KL (l ++ [a, b, c]) (m + 1) (fun x y z => O x y z ∨ (a = x ∧ b = y ∧ c = z)) := by
  have hnew := tr_new (x := a) (y := b) (z := c) h.len
  have hold := fun j (hj : j < m) => tr_old (x := a) (y := b) (z := c) h.len hj
  refine ⟨by rw [List.length_append, h.len]; simp only [List.length_cons, List.length_nil]; omega, fun x y z => ?_, fun i j hij hj hh => ?_, fun i hi => ?_⟩
  · rw [← h.mem x y z, hasB_to, hasB_to]
    constructor
    · rintro ⟨i, hi, h1⟩
      by_cases e : i = m
      · subst e
        rw [hnew.1, hnew.2.1, hnew.2.2] at h1
        exact .inr h1
      · obtain ⟨e1, e2, e3⟩ := hold i (by omega)
        rw [e1, e2, e3] at h1
        exact .inl ⟨i, by omega, h1⟩
    · rintro (⟨i, hi, h1⟩ | h1)
      · obtain ⟨e1, e2, e3⟩ := hold i hi
        exact ⟨i, by omega, by rw [e1, e2, e3]; exact h1⟩
      · exact ⟨m, by omega, by rw [hnew.1, hnew.2.1, hnew.2.2]; exact h1⟩
  · by_cases e : j = m
    · subst e
      obtain ⟨e1, e2, e3⟩ := hold i hij
      rw [e1, e2, e3, hnew.1, hnew.2.1, hnew.2.2] at hh
      rw [hasB_to.2 ⟨i, hij, hh⟩] at hn
      cases hn
    · obtain ⟨e1, e2, e3⟩ := hold i (by omega)
      obtain ⟨f1, f2, f3⟩ := hold j (by omega)
      rw [e1, e2, e3, f1, f2, f3] at hh
      exact h.nd i j hij (by omega) hh
  · by_cases e : i = m
    · subst e; rw [hnew.1, hnew.2.1, hnew.2.2]; exact hv
    · obtain ⟨e1, e2, e3⟩ := hold i (by omega)
      rw [e1, e2, e3]; exact h.val i (by omega)
theorem KL.same {l : List Int} {m : Nat} {O : Int → Int → Int → Prop} (h : KL l m O) {a b c : Int} (hn : hasB l m a b c = true) : KL l m (fun x y z => O x y z ∨ (a = x ∧ b = y ∧ c = z)) := h.congr fun x y z => ⟨.inl, fun hh => hh.elim id (fun ⟨e1, e2, e3⟩ => by subst e1 e2 e3; exact (h.mem a b c).1 hn)⟩
/-- What is some baths away. -/
def Away (L T C : Int) : Nat → Int → Int → Int → Prop
  | 0, x, y, z => L = x ∧ T = y ∧ C = z
  | n + 1, x, y, z => ∃ a b c, Away L T C n a b c ∧ stB a b c x y z
theorem rch_val {L T C : Int} (h : sdB L T C = true) : ∀ n x y z, Away L T C n x y z → sdB x y z = true
  | 0, x, y, z, ⟨e1, e2, e3⟩ => by subst e1 e2 e3; exact h
  | n + 1, x, y, z, ⟨a, b, c, h1, h2⟩ => sdB_step (rch_val h n a b c h1) h2
theorem rch_le {L T C : Int} (h : sdB L T C = true) (l t : Int) : ∀ n x y z, Away L T C n x y z → le1 (btn 4 L T C l t) (btn 4 x y z l t) n
  | 0, x, y, z, ⟨e1, e2, e3⟩ => by subst e1 e2 e3; exact fun n hn => ⟨n, hn, by omega⟩
  | n + 1, x, y, z, ⟨a, b, c, h1, h2⟩ => by
    have v := sdB_to.1 (rch_val h n a b c h1)
    refine (rch_le h l t n a b c h1).trans ?_
    rcases h2 with ⟨e1, e2, e3, e4⟩ | ⟨e1, e2, e3, e4, e5⟩
    · rw [← e2, ← e3, ← e4]
      exact bt_bleach4 (by omega) (by omega) e1
    · rw [← e5]
      exact bt_dye4 e2
theorem way_rch {L T C a b : Int} (hv : sdB L T C = true) (hb : paB L T C a b = true) (ho : paO L T C a b = true) : ∃ z, Away L T C ((paL L T C a b).length / 3) a b z := by
  obtain ⟨p1, p2, p3⟩ := pa_steps hv hb ho
  have key : ∀ i, i ≤ (paL L T C a b).length / 3 → Away L T C i (wyL L (paL L T C a b) i) (wyT T (paL L T C a b) i) (wyC C (paL L T C a b) i) := by
    intro i
    induction i with
    | zero => exact fun _ => ⟨rfl, rfl, rfl⟩
    | succ i ih => exact fun hi => ⟨_, _, _, ih (by omega), p1 i (by omega)⟩
  have := key _ (Nat.le_refl _)
  rw [p2, p3] at this
  exact ⟨_, this⟩
theorem pth_len4 : ∀ f L T C l t, (pth f L T C l t).1.length ≤ 3 * f
  | 0, _, _, _, _, _ => by simp [pth]
  | f + 1, L, T, C, l, t => by
    have := pth_len4 f (min (L + 2) 10) 0 (C + 1) l t
    unfold pth
    by_cases a : L = l ∧ T = t
    · rw [if_pos a]; simp
    · rw [if_neg a]
      by_cases b : l ≤ L
      · rw [if_pos b]
        split <;> simp <;> omega
      · rw [if_neg b]
        by_cases c : C = 3
        · rw [if_pos c]; simp
        · rw [if_neg c]
          split
          · simp; omega
          · simp
/-- The first number of baths that leads there is that of the way. -/
theorem first_is {L T C a b z : Int} {n : Nat} (hv : sdB L T C = true) (hb : paB L T C a b = true) (hr : Away L T C n a b z) (hno : ∀ k, k < n → ∀ z, ¬ Away L T C k a b z) : paO L T C a b = true ∧ paN L T C a b = n := by
  obtain ⟨w1, w2, w3⟩ := way_here hv (rch_val hv n a b z hr) (fun l t => rch_le hv l t n a b z hr)
  obtain ⟨z', h1⟩ := way_rch hv w1 w2
  refine ⟨w2, ?_⟩
  unfold paN
  by_cases e : (paL L T C a b).length / 3 = n
  · rw [e]
  · exact absurd h1 (hno _ (by omega) z')
theorem none_is {L T C a b : Int} (hv : sdB L T C = true) (hb : paB L T C a b = true) (hno : ∀ k, k ≤ 4 → ∀ z, ¬ Away L T C k a b z) : paO L T C a b = false ∧ paN L T C a b = 0 := by
  have h1 : paO L T C a b = false := by
    cases e : paO L T C a b with
    | false => rfl
    | true =>
      obtain ⟨z, h1⟩ := way_rch hv hb e
      have e2 : paL L T C a b = (pth 4 L T C a b).1 := if_pos hb
      have h2 := pth_len4 4 L T C a b
      rw [← e2] at h2
      exact absurd h1 (hno _ (by omega) z)
  refine ⟨h1, ?_⟩
  have e2 : paL L T C a b = (pth 4 L T C a b).1 := if_pos hb
  have e3 : paO L T C a b = (pth 4 L T C a b).2 := if_pos hb
  unfold paN
  rw [e2, pth_nil 4 L T C a b (by rw [← e3]; exact h1)]
  rfl
end Go.Proofs.Ytbplmoidgobcpaa
