/- The points as a list: corners, inside or not, sums of angles. Plain: no program. -/
import Derived.Test.YtnbickholedckaaMC16
namespace Go.Proofs.Ytnbickholedckaa

def asum (ag : Nat → Int) (l : List Nat) : Int := (l.map ag).foldr (· + ·) 0
theorem asum_perm {ag : Nat → Int} {l l' : List Nat} (h : l.Perm l') : asum ag l = asum ag l' := by
  unfold asum
  induction h with
  | nil => rfl
  | cons x _ ih => simp only [List.map_cons, List.foldr_cons, ih]
  | swap x y l => simp only [List.map_cons, List.foldr_cons]; omega
  | trans _ _ h1 h2 => exact h1.trans h2
theorem asum_app (ag : Nat → Int) : ∀ l l' : List Nat, asum ag (l ++ l') = asum ag l + asum ag l'
  | [], l' => by simp [asum]
  | x :: l, l' => by
    have := asum_app ag l l'
    simp only [asum, List.cons_append, List.map_cons, List.foldr_cons] at this ⊢
    omega
theorem asum_in {ag : Nat → Int} : ∀ {l : List Nat}, (∀ x ∈ l, 0 ≤ ag x ∧ ag x ≤ 359) → 0 ≤ asum ag l ∧ asum ag l ≤ 359 * (l.length : Int)
  | [], _ => by simp [asum]
  | x :: l, h => by
    have h1 := asum_in (l := l) (fun y hy => h y (.tail _ hy))
    have h2 := h x (.head _)
    simp only [asum, List.map_cons, List.foldr_cons, List.length_cons] at h1 ⊢
    omega
theorem take_snoc {α : Type} {l : List α} {j : Nat} {x : α} (h : l[j]? = some x) : l.take (j + 1) = l.take j ++ [x] := by
  rw [List.take_add_one, h]; rfl
def clsL (n : Nat) (nx mu : Nat → Nat) (c : Nat) : List Nat := (List.range n).filter fun y => decide (rpE (ptE n nx mu) y = rpE (ptE n nx mu) c)
def ptF (n : Nat) (nx mu : Nat → Nat) (i : Nat) : Bool := decide (rpE (ptE n nx mu) i = i)
structure Pt where
  cs : List Nat
  inn : Bool
  an : Int
  df : Int
def ptO (n : Nat) (nx mu : Nat → Nat) (ag : Nat → Int) (i : Nat) : Pt := ⟨clsL n nx mu i, innB n nx mu i, asum ag (clsL n nx mu i), (if innB n nx mu i then 360 else 180) - asum ag (clsL n nx mu i)⟩
def ptsL (n : Nat) (nx mu : Nat → Nat) (ag : Nat → Int) (i : Nat) : List Pt := ((List.range i).filter (ptF n nx mu)).map (ptO n nx mu ag)
def seen2 (n : Nat) (nx mu : Nat → Nat) (i y : Nat) : Prop := y < n ∧ ∃ j, j < i ∧ rpE (ptE n nx mu) j = rpE (ptE n nx mu) y
/-- No corner of the row begins or ends a free side. -/
def innT (pv mu : Nat → Nat) (l : List Nat) : Bool := l.all fun x => decide (mu x ≠ x) && decide (mu (pv x) ≠ pv x)
theorem innT_snoc (pv mu : Nat → Nat) (l : List Nat) (x : Nat) : innT pv mu (l ++ [x]) = (innT pv mu l && (decide (mu x ≠ x) && decide (mu (pv x) ≠ pv x))) := by simp [innT]
section
variable {n : Nat} {nx pv mu : Nat → Nat} {ag : Nat → Int} {i c k m : Nat} {cl : Bool}
theorem ptsL_yes (h : ptF n nx mu i = true) : ptsL n nx mu ag (i + 1) = ptsL n nx mu ag i ++ [ptO n nx mu ag i] := by
  simp [ptsL, List.range_succ, h]
theorem ptsL_no (h : ptF n nx mu i = false) : ptsL n nx mu ag (i + 1) = ptsL n nx mu ag i := by
  simp [ptsL, List.range_succ, h]
theorem ptsL_len : (ptsL n nx mu ag n).length = ccE n (ptE n nx mu) := by
  unfold ptsL ccE
  rw [List.length_map, cnN_filter]; rfl
theorem seen2_fst (hi : i < n) : ptF n nx mu i = true ↔ ¬ seen2 n nx mu i i := by
  unfold ptF
  rw [decide_eq_true_eq, rpE_first]
  exact ⟨fun h ⟨_, j, hj, he⟩ => h j hj he, fun h j hj he => h ⟨hi, j, hj, he⟩⟩
theorem seen2_no (h : ptF n nx mu i = false) (hi : i < n) (y : Nat) : seen2 n nx mu (i + 1) y ↔ seen2 n nx mu i y := by
  constructor
  · rintro ⟨h1, j, hj, he⟩
    by_cases e : j = i
    · subst e
      have hs : seen2 n nx mu j j := by
        by_cases hs : seen2 n nx mu j j
        · exact hs
        · rw [(seen2_fst hi).2 hs] at h; cases h
      obtain ⟨_, t, ht, het⟩ := hs
      exact ⟨h1, t, ht, het.trans he⟩
    · exact ⟨h1, j, by omega, he⟩
  · rintro ⟨h1, j, hj, he⟩
    exact ⟨h1, j, by omega, he⟩
theorem WayN.lt (w : WayN n nx pv mu c k m cl) (h : NetN n nx pv mu) (hc : c < n) {x : Nat} (hx : x ∈ wayL nx pv mu c k m) : x < n := by
  rcases mem_wayL.1 hx with ⟨j, _, rfl⟩ | ⟨j, _, _, rfl⟩
  · exact h.perm.itn_lt hc j
  · exact h.qit hc j
theorem WayN.cls (w : WayN n nx pv mu c k m cl) (h : NetN n nx pv mu) (hc : c < n) : (wayL nx pv mu c k m).Perm (clsL n nx mu c) := by
  refine (List.perm_ext_iff_of_nodup (w.nodup h hc) (nodup_range_filter _ _)).2 fun x => ?_
  simp only [List.mem_filter, List.mem_range, decide_eq_true_eq]
  exact ⟨fun hx => ⟨w.lt h hc hx, (w.mem h hc (w.lt h hc hx)).1 hx⟩, fun ⟨h1, h2⟩ => (w.mem h hc h1).2 h2⟩
theorem WayN.len (w : WayN n nx pv mu c k m cl) (h : NetN n nx pv mu) (hc : c < n) : (wayL nx pv mu c k m).length ≤ n := by
  rw [(w.cls h hc).length_eq]
  have := List.length_filter_le (fun y => decide (rpE (ptE n nx mu) y = rpE (ptE n nx mu) c)) (List.range n)
  rw [List.length_range] at this
  exact this
theorem seen2_yes (w : WayN n nx pv mu i k m cl) (h : NetN n nx pv mu) (hi : i < n) (y : Nat) : seen2 n nx mu (i + 1) y ↔ seen2 n nx mu i y ∨ y ∈ wayL nx pv mu i k m := by
  constructor
  · rintro ⟨h1, j, hj, he⟩
    by_cases e : j = i
    · subst e
      exact .inr ((w.mem h hi h1).2 he.symm)
    · exact .inl ⟨h1, j, by omega, he⟩
  · rintro (⟨h1, j, hj, he⟩ | hx)
    · exact ⟨h1, j, by omega, he⟩
    · have h1 := w.lt h hi hx
      exact ⟨h1, i, by omega, ((w.mem h hi h1).1 hx).symm⟩
/-- Sorted, the corners around are those of the class in their order. -/
theorem WayN.sorted (w : WayN n nx pv mu c k m cl) (h : NetN n nx pv mu) (hc : c < n) {l : List Int} (hp : l.Perm ((wayL nx pv mu c k m).map fun x : Nat => ((x : Nat) : Int))) (ho : l.Pairwise (· ≤ ·)) : l = (clsL n nx mu c).map fun x : Nat => ((x : Nat) : Int) := by
  refine List.Perm.eq_of_pairwise (fun a b _ _ h1 h2 => Int.le_antisymm h1 h2) ho ?_ (hp.trans ((w.cls h hc).map _))
  rw [List.pairwise_map]
  exact (List.pairwise_lt_range.filter _).imp (fun {a b} h => by omega)
theorem WayN.inn (w : WayN n nx pv mu c k m cl) (h : NetN n nx pv mu) (hc : c < n) : innT pv mu (wayL nx pv mu c k m) = innB n nx mu c := by
  cases hb : innB n nx mu c with
  | true =>
    refine List.all_eq_true.2 fun x hx => ?_
    have h1 := w.lt h hc hx
    have h2 := (w.mem h hc h1).1 hx
    simp only [Bool.and_eq_true, decide_eq_true_eq]
    exact ⟨innB_iff.1 hb x h1 h2, h.inn_prev hc hb x h1 h2⟩
  | false =>
    obtain ⟨x, h1, h2, h3⟩ := innB_false.1 hb
    rw [← Bool.not_eq_true]
    intro ht
    have := List.all_eq_true.1 ht x ((w.mem h hc h1).2 h2)
    simp only [Bool.and_eq_true, decide_eq_true_eq] at this
    exact this.1 h3
theorem WayN.asum (w : WayN n nx pv mu c k m cl) (h : NetN n nx pv mu) (hc : c < n) : asum ag (wayL nx pv mu c k m) = asum ag (clsL n nx mu c) := asum_perm (w.cls h hc)
end
end Go.Proofs.Ytnbickholedckaa
