/- How many baths a way takes (plain). -/
import Derived.Test.YtbplmoidgobcpaaD13
namespace Go.Proofs.Ytbplmoidgobcpaa
open Go.RowKit

def btn : Nat → Int → Int → Int → Int → Int → Option Nat
  | 0, _, _, _, _, _ => none
  | f + 1, L, T, C, l, t =>
    if L = l ∧ T = t then some 0
    else if l ≤ L then some 1
    else if C = 3 then none
    else (btn f (min (L + 2) 10) 0 (C + 1) l t).map (· + 1)
def le1 (x y : Option Nat) (k : Nat) : Prop := ∀ n, y = some n → ∃ m, x = some m ∧ m ≤ n + k
theorem le1.trans {x y z : Option Nat} {j k : Nat} (h : le1 x y j) (h2 : le1 y z k) : le1 x z (j + k) := fun n hn => by
  obtain ⟨m, hm, h3⟩ := h2 n hn
  obtain ⟨m', hm', h4⟩ := h m hm
  exact ⟨m', hm', by omega⟩
theorem bt_fuel : ∀ (f g : Nat) (L T C l t : Int), 4 ≤ C + f → 4 ≤ C + g → C ≤ 3 → btn f L T C l t = btn g L T C l t
  | 0, _, L, T, C, l, t, h, _, h3 => by omega
  | f + 1, 0, L, T, C, l, t, _, h, h3 => by omega
  | f + 1, g + 1, L, T, C, l, t, h1, h2, h3 => by
    unfold btn
    by_cases a : L = l ∧ T = t
    · rw [if_pos a, if_pos a]
    · rw [if_neg a, if_neg a]
      by_cases b : l ≤ L
      · rw [if_pos b, if_pos b]
      · rw [if_neg b, if_neg b]
        by_cases c : C = 3
        · rw [if_pos c, if_pos c]
        · rw [if_neg c, if_neg c, bt_fuel f g _ _ _ _ _ (by omega) (by omega) (by omega)]
theorem bt_pth : ∀ f L T C l t, btn f L T C l t = if (pth f L T C l t).2 = true then some ((pth f L T C l t).1.length / 3) else none
  | 0, _, _, _, _, _ => rfl
  | f + 1, L, T, C, l, t => by
    unfold btn pth
    by_cases a : L = l ∧ T = t
    · rw [if_pos a, if_pos a]; rfl
    · rw [if_neg a, if_neg a]
      by_cases b : l ≤ L
      · rw [if_pos b, if_pos b, if_pos rfl]
        split <;> simp only [List.length_cons, List.length_nil]
      · rw [if_neg b, if_neg b]
        by_cases c : C = 3
        · rw [if_pos c, if_pos c]; rfl
        · rw [if_neg c, if_neg c, bt_pth f]
          by_cases d : (pth f (min (L + 2) 10) 0 (C + 1) l t).2 = true
          · rw [if_pos d, if_pos d, if_pos rfl]
            show some _ = some _
            congr 1
            rw [List.length_append]
            simp only [List.length_cons, List.length_nil]; omega
          · rw [if_neg d, if_neg d]; rfl
theorem bt_bleach {f : Nat} {L T C l t : Int} (hc : C ≠ 3) : le1 (btn (f + 1) L T C l t) (btn f (min (L + 2) 10) 0 (C + 1) l t) 1 := fun n hn => by
  unfold btn
  by_cases a : L = l ∧ T = t
  · rw [if_pos a]; exact ⟨0, rfl, by omega⟩
  · rw [if_neg a]
    by_cases b : l ≤ L
    · rw [if_pos b]; exact ⟨1, rfl, by omega⟩
    · rw [if_neg b, if_neg hc, hn]
      exact ⟨n + 1, rfl, by omega⟩
theorem bt_dye : ∀ (f : Nat) (L T C l' t' l t : Int), l' ≤ L → le1 (btn f L T C l t) (btn f l' t' C l t) 1
  | 0, _, _, _, _, _, _, _, _ => fun n hn => by cases hn
  | f + 1, L, T, C, l', t', l, t, hl => fun n hn => by
    unfold btn
    by_cases a : L = l ∧ T = t
    · rw [if_pos a]; exact ⟨0, rfl, by omega⟩
    · rw [if_neg a]
      by_cases b : l ≤ L
      · rw [if_pos b]; exact ⟨1, rfl, by omega⟩
      · unfold btn at hn
        rw [if_neg (by omega), if_neg (by omega)] at hn
        rw [if_neg b]
        by_cases c : C = 3
        · rw [if_pos c] at hn; cases hn
        · rw [if_neg c] at hn ⊢
          cases hb : btn f (min (l' + 2) 10) 0 (C + 1) l t with
          | none => rw [hb] at hn; cases hn
          | some k =>
            rw [hb] at hn
            have hk : k + 1 = n := by simpa using hn
            obtain ⟨m, h1, h2⟩ := bt_dye f (min (L + 2) 10) 0 (C + 1) (min (l' + 2) 10) 0 l t (by omega) k hb
            rw [h1]
            exact ⟨m + 1, rfl, by omega⟩
theorem bt_dye4 {L T C l' t' l t : Int} (h : l' ≤ L) : le1 (btn 4 L T C l t) (btn 4 l' t' C l t) 1 := bt_dye 4 L T C l' t' l t h
theorem bt_bleach4 {L T C l t : Int} (h0 : 0 ≤ C) (h3 : C ≤ 3) (hc : C ≠ 3) : le1 (btn 4 L T C l t) (btn 4 (min (L + 2) 10) 0 (C + 1) l t) 1 := by
  rw [bt_fuel 4 5 L T C l t (by omega) (by omega) h3]
  exact bt_bleach hc
/-- Each shade on the way. -/
theorem pth_way : ∀ (f : Nat) (L T C a b : Int), sdB L T C = true → tB a b = true → 4 ≤ C + f → ∀ i, i * 3 + 2 < (pth f L T C a b).1.length →
    sdB ((pth f L T C a b).1.getD (i * 3) 0) ((pth f L T C a b).1.getD (i * 3 + 1) 0) ((pth f L T C a b).1.getD (i * 3 + 2) 0) = true ∧
    ∀ l t, le1 (btn 4 L T C l t) (btn 4 ((pth f L T C a b).1.getD (i * 3) 0) ((pth f L T C a b).1.getD (i * 3 + 1) 0) ((pth f L T C a b).1.getD (i * 3 + 2) 0) l t) (i + 1)
  | 0, _, _, _, _, _, _, _, _ => fun i h => by simp [pth] at h
  | f + 1, L, T, C, a, b, hv, hab, hf => fun i h => by
    have v := sdB_to.1 hv
    have w := tB_to.1 hab
    unfold pth at h ⊢
    by_cases h1 : L = a ∧ T = b
    · rw [if_pos h1] at h; simp at h
    · rw [if_neg h1] at h ⊢
      by_cases h2 : a ≤ L
      · rw [if_pos h2] at h ⊢
        by_cases h4 : C ≠ 3 ∧ min (L + 2) 10 = a ∧ 0 = b
        · rw [if_pos h4] at h ⊢
          simp at h
          obtain rfl : i = 0 := by omega
          exact ⟨sdB_to.2 (by simp only [Nat.zero_mul, Nat.zero_add, List.getD_cons_zero, List.getD_cons_succ]; omega), fun l t => bt_bleach4 (by omega) (by omega) h4.1⟩
        · rw [if_neg h4] at h ⊢
          simp at h
          obtain rfl : i = 0 := by omega
          exact ⟨sdB_to.2 (by simp only [Nat.zero_mul, Nat.zero_add, List.getD_cons_zero, List.getD_cons_succ]; omega), fun l t => bt_dye4 h2⟩
      · rw [if_neg h2] at h ⊢
        by_cases h3 : C = 3
        · rw [if_pos h3] at h; simp at h
        · rw [if_neg h3] at h ⊢
          by_cases h5 : (pth f (min (L + 2) 10) 0 (C + 1) a b).2 = true
          · rw [if_pos h5] at h ⊢
            cases i with
            | zero => exact ⟨sdB_to.2 (by simp only [Nat.zero_mul, Nat.zero_add, List.cons_append, List.getD_cons_zero, List.getD_cons_succ]; omega), fun l t => bt_bleach4 (by omega) (by omega) h3⟩
            | succ i =>
              have e : ∀ j, ([min (L + 2) 10, 0, C + 1] ++ (pth f (min (L + 2) 10) 0 (C + 1) a b).1).getD ((i + 1) * 3 + j) 0 = (pth f (min (L + 2) 10) 0 (C + 1) a b).1.getD (i * 3 + j) 0 := fun j => by
                rw [show (i + 1) * 3 + j = (i * 3 + j) + 1 + 1 + 1 by omega]
                simp only [List.cons_append, List.nil_append, List.getD_cons_succ]
              have e0 := e 0
              simp only [Nat.add_zero] at e0
              simp only [e0, e 1, e 2]
              have hl : i * 3 + 2 < (pth f (min (L + 2) 10) 0 (C + 1) a b).1.length := by
                rw [List.length_append] at h
                simp only [List.length_cons, List.length_nil] at h; omega
              obtain ⟨p1, p2⟩ := pth_way f (min (L + 2) 10) 0 (C + 1) a b (sdB_to.2 (by omega)) hab (by omega) i hl
              exact ⟨p1, fun l t => by
                have := (bt_bleach4 (L := L) (T := T) (l := l) (t := t) (by omega) (by omega) h3).trans (p2 l t)
                rwa [Nat.add_comm 1] at this⟩
          · rw [if_neg h5] at h; simp at h
theorem pa_bt {L T C l t : Int} (h : paB L T C l t = true) : btn 4 L T C l t = if paO L T C l t = true then some ((paL L T C l t).length / 3) else none := by
  unfold paO paL
  rw [if_pos h, if_pos h, bt_pth]
/-- What is reached from a shade on the way is reached, by no more baths. -/
theorem pa_reach {L T C a b l t : Int} (hp : paB L T C a b = true) {i : Nat} (hi : i * 3 + 2 < (paL L T C a b).length) :
    paE ((paL L T C a b).getD (i * 3) 0) ((paL L T C a b).getD (i * 3 + 1) 0) ((paL L T C a b).getD (i * 3 + 2) 0) l t = paE L T C l t ∧
    (paE L T C l t = 0 → paO ((paL L T C a b).getD (i * 3) 0) ((paL L T C a b).getD (i * 3 + 1) 0) ((paL L T C a b).getD (i * 3 + 2) 0) l t = true → paO L T C l t = true ∧ paN L T C l t ≤ i + 1 + paN ((paL L T C a b).getD (i * 3) 0) ((paL L T C a b).getD (i * 3 + 1) 0) ((paL L T C a b).getD (i * 3 + 2) 0) l t) := by
  have e : paL L T C a b = (pth 4 L T C a b).1 := by unfold paL; rw [if_pos hp]
  have hp' := hp
  unfold paB at hp'
  rw [Bool.and_eq_true] at hp'
  have hv := sdB_to.1 hp'.1
  rw [e] at hi ⊢
  obtain ⟨w1, w2⟩ := pth_way 4 L T C a b hp'.1 hp'.2 (by omega) i hi
  generalize (pth 4 L T C a b).1.getD (i * 3) 0 = x at *
  generalize (pth 4 L T C a b).1.getD (i * 3 + 1) 0 = y at *
  generalize (pth 4 L T C a b).1.getD (i * 3 + 2) 0 = z at *
  have eB : paB x y z l t = paB L T C l t := by unfold paB; rw [w1, hp'.1]
  refine ⟨by unfold paE; rw [eB], fun h0 h1 => ?_⟩
  have hb : paB L T C l t = true := by
    unfold paE at h0
    by_cases h : paB L T C l t = true
    · exact h
    · rw [if_neg h] at h0; cases h0
  have h2 := pa_bt hb
  have h3 := pa_bt (eB.trans hb)
  rw [if_pos h1] at h3
  obtain ⟨m, h4, h5⟩ := w2 l t _ h3
  rw [h4] at h2
  by_cases h6 : paO L T C l t = true
  · rw [if_pos h6] at h2
    refine ⟨h6, ?_⟩
    unfold paN
    have : m = (paL L T C l t).length / 3 := by simpa using h2
    omega
  · rw [if_neg h6] at h2; cases h2
end Go.Proofs.Ytbplmoidgobcpaa
