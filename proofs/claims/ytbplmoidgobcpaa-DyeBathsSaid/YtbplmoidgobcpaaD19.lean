/- The best gifts are right (plain). -/
import Derived.Test.YtbplmoidgobcpaaD17
namespace Go.Proofs.Ytbplmoidgobcpaa
open Go.RowKit

/-- A sum over the triples of a list. -/
def trs (F : Int → Int → Int → Int) (l : List Int) : Int := sumTo (fun j => F (gW l j) (gL l j) (gX l j)) (l.length / 3)
def trA (Q : Int → Int → Int → Prop) (l : List Int) : Prop := ∀ j, j < l.length / 3 → Q (gW l j) (gL l j) (gX l j)
theorem gd_app {l r : List Int} {i : Nat} (h : i < l.length) : (l ++ r).getD i 0 = l.getD i 0 := by
  simp only [List.getD_eq_getElem?_getD, List.getElem?_append_left h]
theorem gd_app2 {l r : List Int} {i j : Nat} (h : l.length + j = i) : (l ++ r).getD i 0 = r.getD j 0 := by
  simp only [List.getD_eq_getElem?_getD, List.getElem?_append_right (show l.length ≤ i by omega), show i - l.length = j by omega]
section
variable {l : List Int} {m : Nat} {x y z : Int}
theorem tr_len (hl : l.length = m * 3) : (l ++ [x, y, z]).length / 3 = m + 1 := by rw [List.length_append, hl]; simp only [List.length_cons, List.length_nil]; omega
theorem tr_old (hl : l.length = m * 3) {j : Nat} (hj : j < m) : gW (l ++ [x, y, z]) j = gW l j ∧ gL (l ++ [x, y, z]) j = gL l j ∧ gX (l ++ [x, y, z]) j = gX l j := ⟨gd_app (by omega), gd_app (by omega), gd_app (by omega)⟩
theorem tr_new (hl : l.length = m * 3) : gW (l ++ [x, y, z]) m = x ∧ gL (l ++ [x, y, z]) m = y ∧ gX (l ++ [x, y, z]) m = z := ⟨gd_app2 (j := 0) (by omega), gd_app2 (j := 1) (by omega), gd_app2 (j := 2) (by omega)⟩
theorem trs_snoc (F : Int → Int → Int → Int) (hl : l.length = m * 3) : trs F (l ++ [x, y, z]) = trs F l + F x y z := by
  unfold trs
  rw [tr_len hl, show l.length / 3 = m by omega, sumTo_succ]
  obtain ⟨e1, e2, e3⟩ := tr_new (x := x) (y := y) (z := z) hl
  rw [e1, e2, e3]
  congr 1
  refine sumTo_congr m fun j hj => ?_
  obtain ⟨e1, e2, e3⟩ := tr_old (x := x) (y := y) (z := z) hl hj
  rw [e1, e2, e3]
theorem trA_snoc {Q : Int → Int → Int → Prop} (hl : l.length = m * 3) (h : trA Q l) (hq : Q x y z) : trA Q (l ++ [x, y, z]) := fun j hj => by
  rw [tr_len hl] at hj
  by_cases e : j = m
  · subst e
    obtain ⟨e1, e2, e3⟩ := tr_new (x := x) (y := y) (z := z) hl
    rw [e1, e2, e3]; exact hq
  · obtain ⟨e1, e2, e3⟩ := tr_old (x := x) (y := y) (z := z) hl (show j < m by omega)
    rw [e1, e2, e3]; exact h j (by omega)
end
theorem trs_gr (F : Int → Int → Int → Int) (Q : Int → Int → Int → Prop) (g : Nat → Nat → Int) (o : Nat) (l : List Int) (h3 : l.length % 3 = 0) (hA : trA Q l) : ∀ k, (∀ i, i < k → 0 < g o i → Q o i (g o i)) →
    (l ++ gr g o k).length % 3 = 0 ∧ trA Q (l ++ gr g o k) ∧ trs F (l ++ gr g o k) = trs F l + sumTo (fun i => if 0 < g o i then F o i (g o i) else 0) k
  | 0, _ => by
    unfold gr
    rw [List.append_nil]
    exact ⟨h3, hA, by simp [sumTo]⟩
  | k + 1, hq => by
    obtain ⟨h1, h2, h4⟩ := trs_gr F Q g o l h3 hA k (fun i hi => hq i (by omega))
    unfold gr
    rw [← List.append_assoc, sumTo_succ]
    by_cases e : 0 < g o k
    · rw [if_pos e, if_pos e]
      have hl : (l ++ gr g o k).length = (l ++ gr g o k).length / 3 * 3 := by omega
      refine ⟨?_, trA_snoc hl h2 (hq k (by omega) e), ?_⟩
      · rw [List.length_append]; simp only [List.length_cons, List.length_nil]; omega
      · rw [trs_snoc F hl, h4]; omega
    · rw [if_neg e, if_neg e, List.append_nil]
      exact ⟨h1, h2, by rw [h4]; omega⟩
theorem trs_ga (F : Int → Int → Int → Int) (Q : Int → Int → Int → Prop) (g : Nat → Nat → Int) (N : Nat) : ∀ M, (∀ o i, o < M → i < N → 0 < g o i → Q o i (g o i)) →
    (ga g N M).length % 3 = 0 ∧ trA Q (ga g N M) ∧ trs F (ga g N M) = sumTo (fun o => sumTo (fun i => if 0 < g o i then F o i (g o i) else 0) N) M
  | 0, _ => ⟨rfl, fun j hj => by simp [ga] at hj, by simp [ga, trs, sumTo]⟩
  | M + 1, hq => by
    obtain ⟨h1, h2, h4⟩ := trs_ga F Q g N M (fun o i ho hi => hq o i (by omega) hi)
    obtain ⟨p1, p2, p4⟩ := trs_gr F Q g M (ga g N M) h1 h2 N (fun i hi => hq M i (by omega) hi)
    unfold ga
    exact ⟨p1, p2, by rw [p4, h4, sumTo_succ]⟩
theorem sum_one (f : Nat → Int) {k n : Nat} (hk : k < n) : sumTo (fun i => if i = k then f i else 0) n = f k := by
  have := sumTo_put (fun _ => 0) k (f k) n
  rw [if_pos hk, sumTo_zero n (fun _ _ => rfl)] at this
  rw [← show sumTo (fun j => if j = k then f k else 0) n = f k by omega]
  refine sumTo_congr n fun i _ => ?_
  by_cases e : i = k
  · subst e; rfl
  · rw [if_neg e, if_neg e]
/-- The gifts that were found are right, and have the sum. -/
theorem best_right {N M n : Nat} {lz wz : List Int} (hv : vlE N M lz wz = 0) (hn : (bsL N M lz wz).length = n * 3) : ckE N M n lz wz (bsL N M lz wz) = 0 ∧ ckV N M n lz wz (bsL N M lz wz) = bsS N M lz wz := by
  obtain ⟨h, _⟩ := fill_fed hv
  obtain ⟨_, f2, f3, f4, f5⟩ := fed_start hv
  have e1 : bsL N M lz wz = ga (fillR N M lz wz).2.g N M := if_pos hv
  have e2 : bsS N M lz wz = tot N M (fillR N M lz wz).2 := if_pos hv
  rw [e1] at hn ⊢
  rw [e2]
  generalize (fillR N M lz wz).2 = t at h hn
  generalize (fillR N M lz wz).1 = lk at h
  have hle := fun o k (ho : o < M) (hk : k < N) => h.le (fun k hk => (f2 k hk).2) (o := o) (k := k) ho hk
  have hsum := fun F => (trs_ga F (fun w l x => 0 ≤ w ∧ w < M ∧ 0 ≤ l ∧ l < N ∧ 1 ≤ x ∧ x ≤ 1000 ∧ nrF lz wz l.toNat w.toNat = true) t.g N M (fun o i ho hi h0 => by
    have := hle o i ho hi
    refine ⟨by omega, by omega, by omega, by omega, by omega, by omega, ?_⟩
    rw [Int.toNat_natCast, Int.toNat_natCast]
    exact h.near o i ho hi (by omega)))
  have hdiv : (ga t.g N M).length / 3 = n := by omega
  have hall : ∀ j, j < n → gfE N M lz wz (ga t.g N M) j = 0 := fun j hj => by
    obtain ⟨q1, q2, q3, q4, q5, q6, q7⟩ := (hsum (fun _ _ _ => 0)).2.1 j (by omega)
    unfold gfE
    rw [if_neg (by omega), if_neg (by omega), if_pos q7]
  have hpos : ∀ o i, o < M → i < N → ∀ c : Int, (if 0 < t.g o i then (if c = 0 then t.g o i else 0) else 0) = if c = 0 then t.g o i else 0 := fun o i ho hi c => by
    have := hle o i ho hi
    by_cases e : 0 < t.g o i
    · rw [if_pos e]
    · rw [if_neg e]; split <;> omega
  have s1 : ∀ k, k < N → gvS (ga t.g N M) n k = sumTo (fun o => t.g o k) M := fun k hk => by
    have h1 := (hsum (fun _ l x => if l = k then x else 0)).2.2
    unfold trs at h1
    rw [hdiv] at h1
    show sumTo _ n = _
    rw [h1]
    refine sumTo_congr M fun o ho => ?_
    rw [← sum_one (fun i => t.g o i) hk]
    refine sumTo_congr N fun i hi => ?_
    have := hle o i ho hi
    by_cases e : i = k
    · subst e; rw [if_pos rfl, if_pos rfl]; split <;> omega
    · rw [if_neg (show ¬ (i : Int) = k by omega), if_neg e]; split <;> rfl
  have s2 : ∀ o, o < M → gtS (ga t.g N M) n o = sumTo (t.g o) N := fun o ho => by
    have h1 := (hsum (fun w _ x => if w = o then x else 0)).2.2
    unfold trs at h1
    rw [hdiv] at h1
    show sumTo _ n = _
    rw [h1, ← sum_one (fun i => sumTo (t.g i) N) ho]
    refine sumTo_congr M fun i hi => ?_
    by_cases e : i = o
    · subst e
      rw [if_pos rfl]
      refine sumTo_congr N fun k hk => ?_
      have := hle i k hi hk
      rw [if_pos rfl]; split <;> omega
    · rw [if_neg e]
      refine sumTo_zero N fun k hk => ?_
      rw [if_neg (show ¬ (i : Int) = o by omega)]; split <;> rfl
  have s3 : smS (ga t.g N M) n = tot N M t := by
    have h1 := (hsum (fun _ _ x => x)).2.2
    unfold trs at h1
    rw [hdiv] at h1
    show sumTo _ n = _
    rw [h1]
    refine sumTo_congr M fun o ho => sumTo_congr N fun k hk => ?_
    have := hle o k ho hk
    split <;> omega
  obtain ⟨r1, r2⟩ := ck_ok hv hall (fun k hk => by
    unfold fitL
    refine decide_eq_true ?_
    have a1 := h.lot k hk
    have a2 := (h.ok k hk).1
    rw [s1 k hk]; omega) (fun o ho => by
    unfold fitW
    refine decide_eq_true ?_
    have a1 := h.want o ho
    have a2 := h.lk o ho
    rw [s2 o ho]; omega)
  exact ⟨r1, by rw [r2, s3]⟩
end Go.Proofs.Ytbplmoidgobcpaa
