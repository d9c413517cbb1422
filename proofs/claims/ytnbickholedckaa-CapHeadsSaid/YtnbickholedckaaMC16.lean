/- The loops as lists, and what has been seen while they are gathered. Plain: no program. -/
import Derived.Test.YtnbickholedckaaMC3
namespace Go.Proofs.Ytnbickholedckaa

def lpGo (f : Nat → Nat) (x0 : Nat) : Nat → Nat → List Nat
  | 0, _ => []
  | k + 1, y => y :: (if f y = x0 then [] else lpGo f x0 k (f y))
def loopOf (n : Nat) (nx mu : Nat → Nat) (x : Nat) : List Nat := lpGo (hpN n nx mu) x n x
theorem lpGo_eq {f : Nat → Nat} {x p : Nat} (hp : itn f p x = x) (hf : ∀ j, 1 ≤ j → j < p → itn f j x ≠ x) : ∀ (r k j : Nat), j + r = p → 1 ≤ r → r ≤ k → lpGo f x k (itn f j x) = (List.range r).map fun t => itn f (j + t) x
  | 0, k, j, _, h1, _ => by omega
  | r + 1, 0, j, _, _, h2 => by omega
  | r + 1, k + 1, j, h0, _, h2 => by
    simp only [lpGo]
    have e : f (itn f j x) = itn f (j + 1) x := rfl
    rw [e, List.range_succ_eq_map, List.map_cons, List.map_map]
    congr 1
    by_cases hr : r = 0
    · subst hr
      rw [if_pos (by rw [show j + 1 = p by omega]; exact hp)]
      simp
    · rw [if_neg (hf _ (by omega) (by omega)), lpGo_eq hp hf r k (j + 1) (by omega) (by omega) (by omega)]
      refine List.map_congr_left fun t _ => ?_
      show itn f (j + 1 + t) x = itn f (j + (t + 1)) x
      rw [show j + 1 + t = j + (t + 1) by omega]
theorem LoopN.list {n : Nat} {nx mu : Nat → Nat} {x p : Nat} (l : LoopN n nx mu x p) : loopOf n nx mu x = loopL n nx mu x p := by
  have := lpGo_eq l.ret l.fst p n 0 (by omega) l.p1 l.pn
  unfold loopOf loopL
  rw [show itn (hpN n nx mu) 0 x = x from rfl] at this
  rw [this]
  refine List.map_congr_left fun t _ => ?_
  rw [Nat.zero_add]
/-- The loops whose first sides are below i. -/
def lpsL (n : Nat) (nx mu : Nat → Nat) (i : Nat) : List (List Nat) := ((List.range i).filter (fstB n nx mu)).map (loopOf n nx mu)
theorem lpsL_yes {n : Nat} {nx mu : Nat → Nat} {i : Nat} (h : fstB n nx mu i = true) : lpsL n nx mu (i + 1) = lpsL n nx mu i ++ [loopOf n nx mu i] := by
  simp [lpsL, List.range_succ, h]
theorem lpsL_no {n : Nat} {nx mu : Nat → Nat} {i : Nat} (h : fstB n nx mu i = false) : lpsL n nx mu (i + 1) = lpsL n nx mu i := by
  simp [lpsL, List.range_succ, h]
theorem lpsL_len (n : Nat) (nx mu : Nat → Nat) : (lpsL n nx mu n).length = lpN n nx mu := by
  unfold lpsL lpN
  rw [List.length_map, cnN_filter]
/-- What has been seen when the sides below i are done. -/
def seen1 (n : Nat) (nx mu : Nat → Nat) (i y : Nat) : Prop := y < n ∧ mu y = y ∧ ∃ j, j < i ∧ mu j = j ∧ rpE (orE n (psN nx mu)) j = rpE (orE n (psN nx mu)) y
section
variable {n : Nat} {nx pv mu : Nat → Nat} {i : Nat}
theorem seen1_fst (hf : mu i = i) (hi : i < n) : fstB n nx mu i = true ↔ ¬ seen1 n nx mu i i := by
  rw [fstB_iff]
  constructor
  · rintro ⟨_, h⟩ ⟨_, _, j, hj, hfj, he⟩
    exact h j hj hfj he
  · intro h
    exact ⟨hf, fun j hj hfj he => h ⟨hi, hf, j, hj, hfj, he⟩⟩
theorem seen1_no (h : fstB n nx mu i = false) (hi : i < n) (y : Nat) : seen1 n nx mu (i + 1) y ↔ seen1 n nx mu i y := by
  constructor
  · rintro ⟨h1, h2, j, hj, hfj, he⟩
    by_cases e : j = i
    · subst e
      have hs : seen1 n nx mu j j := by
        by_cases hs : seen1 n nx mu j j
        · exact hs
        · rw [(seen1_fst hfj hi).2 hs] at h; cases h
      obtain ⟨_, _, t, ht, hft, het⟩ := hs
      exact ⟨h1, h2, t, ht, hft, het.trans he⟩
    · exact ⟨h1, h2, j, by omega, hfj, he⟩
  · rintro ⟨h1, h2, j, hj, hfj, he⟩
    exact ⟨h1, h2, j, by omega, hfj, he⟩
theorem seen1_yes (h : NetN n nx pv mu) (hf : mu i = i) (hi : i < n) {p : Nat} (l : LoopN n nx mu i p) (y : Nat) : seen1 n nx mu (i + 1) y ↔ seen1 n nx mu i y ∨ ∃ t, t < p ∧ itn (hpN n nx mu) t i = y := by
  constructor
  · rintro ⟨h1, h2, j, hj, hfj, he⟩
    by_cases e : j = i
    · subst e
      have := (l.mem h hi hf h1).2 ⟨h2, he.symm⟩
      simp only [loopL, List.mem_map, List.mem_range] at this
      exact .inr this
    · exact .inl ⟨h1, h2, j, by omega, hfj, he⟩
  · rintro (⟨h1, h2, j, hj, hfj, he⟩ | ⟨t, ht, rfl⟩)
    · exact ⟨h1, h2, j, by omega, hfj, he⟩
    · obtain ⟨a, b, c⟩ := h.hp_it hi hf t
      exact ⟨a, b, i, by omega, hf, c.symm⟩
/-- While a loop is gathered: nothing of it has been seen. -/
theorem loop_new (h : NetN n nx pv mu) (hf : mu i = i) (hi : i < n) (hfst : fstB n nx mu i = true) {p j : Nat} (l : LoopN n nx mu i p) (hj : j < p) : ¬ (seen1 n nx mu i (itn (hpN n nx mu) j i) ∨ ∃ t, t < j ∧ itn (hpN n nx mu) t i = itn (hpN n nx mu) j i) := by
  rintro (⟨_, _, t, ht, hft, he⟩ | ⟨t, ht, he⟩)
  · obtain ⟨_, _, c⟩ := h.hp_it hi hf j
    exact (fstB_iff.1 hfst).2 t ht hft (he.trans c)
  · rw [show j = (j - t) + t by omega, itn_add] at he
    exact l.fst (j - t) (by omega) (by omega) (h.hp_perm.itn_inj hi (h.hp_perm.itn_lt hi _) t he).symm
/-- From one free side to the next, step by step. -/
theorem hp_steps (h : NetN n nx pv mu) {x : Nat} (hx : x < n) (hf : mu x = x) : ∃ k, 1 ≤ k ∧ hpN n nx mu x = itn (psN nx mu) k x ∧ mu (itn (psN nx mu) k x) = itn (psN nx mu) k x ∧ (∀ j, 1 ≤ j → j < k → mu (itn (psN nx mu) j x) ≠ itn (psN nx mu) j x) ∧ nx x = itn (psN nx mu) 1 x := by
  obtain ⟨k, k1, _, k2, k3, k4⟩ := h.hop hx hf
  refine ⟨k, k1, ?_, k3, k4, ?_⟩
  · unfold hpN; rw [if_pos hf, k2]
  · show nx x = nx (mu x); rw [hf]
end
end Go.Proofs.Ytnbickholedckaa
