/- Seams one after another: the parts, the cycles and the handles. Plain: no program. -/
import Derived.Test.YtnbickholedckaaMC3
namespace Go.Proofs.Ytnbickholedckaa

def updM (f : Nat → Nat) (e : Nat × Nat) (x : Nat) : Nat := if x = e.1 then e.2 else if x = e.2 then e.1 else f x
/-- To what a side is sewn. -/
def muS (S : List (Nat × Nat)) : Nat → Nat := S.foldl updM id
theorem muS_snoc (S : List (Nat × Nat)) (e : Nat × Nat) : muS (S ++ [e]) = updM (muS S) e := by simp [muS]
/-- Seams that join free sides. -/
inductive OkS (n : Nat) : List (Nat × Nat) → Prop
  | nil : OkS n []
  | snoc {S : List (Nat × Nat)} {a b : Nat} (h : OkS n S) (ha : a < n) (hb : b < n) (hne : a ≠ b) (fa : muS S a = a) (fb : muS S b = b) : OkS n (S ++ [(a, b)])
section
variable {n : Nat} {nx pv : Nat → Nat}
theorem updM_sw {f : Nat → Nat} {a b : Nat} (fa : f a = a) (fb : f b = b) : updM f (a, b) = fun x => f (swN a b x) := by
  funext x
  unfold updM
  by_cases h1 : x = a
  · simp only [h1, if_true, swN_a]; exact fb.symm
  · by_cases h2 : x = b
    · simp only [h2, if_true, swN_b]
      rw [if_neg (fun e => h1 (h2.trans e))]; exact fa.symm
    · simp only [h1, h2, if_false, swN_o h1 h2]
theorem OkS.ml {S : List (Nat × Nat)} (h : OkS n S) : ∀ i, i < n → muS S i < n := by
  induction h with
  | nil => intro i hi; exact hi
  | snoc h ha hb hne fa fb ih =>
    intro i hi
    rw [muS_snoc, updM_sw fa fb]
    exact ih _ (swN_lt ha hb hi)
theorem OkS.mm {S : List (Nat × Nat)} (h : OkS n S) : ∀ i, i < n → muS S (muS S i) = i := by
  induction h with
  | nil => intro i hi; rfl
  | @snoc S a b h ha hb hne fa fb ih =>
    intro i hi
    rw [muS_snoc, updM_sw fa fb]
    by_cases h1 : i = a
    · subst h1; simp only [swN_a, fb, swN_b, fa]
    · by_cases h2 : i = b
      · subst h2; simp only [swN_b, fa, swN_a, fb]
      · simp only [swN_o h1 h2]
        rw [swN_o (fun e => h1 (by rw [← ih i hi, e, fa])) (fun e => h2 (by rw [← ih i hi, e, fb]))]
        exact ih i hi
theorem OkS.net {S : List (Nat × Nat)} (h : OkS n S) (h0 : NetN n nx pv id) : NetN n nx pv (muS S) := ⟨h0.nl, h0.pl, h.ml, h0.np, h0.pn, h.mm⟩
theorem OkS.free {S : List (Nat × Nat)} (h : OkS n S) : frN n (muS S) + 2 * S.length = n := by
  induction h with
  | nil =>
    unfold frN muS
    simp only [List.foldl_nil, id, decide_true, List.length_nil, Nat.mul_zero, Nat.add_zero]
    induction n with
    | zero => rfl
    | succ n ih => simp [cnN, ih]
  | @snoc S a b h ha hb hne fa fb ih =>
    have e1 := cnN_rm (p := fun i => decide (muS S i = i)) (k := a) (by simp [fa]) n ha
    have e2 := cnN_rm (p := fun i => decide (muS S i = i) && decide (i ≠ a)) (k := b) (by simp [fb, Ne.symm hne]) n hb
    have e3 : frN n (muS (S ++ [(a, b)])) = cnN (fun i => decide (muS S i = i) && decide (i ≠ a) && decide (i ≠ b)) n := by
      unfold frN
      refine cnN_congr n fun i _ => ?_
      rw [muS_snoc]
      unfold updM
      by_cases h1 : i = a
      · subst h1; simp; exact fun e => hne e.symm
      · by_cases h2 : i = b
        · subst h2; simp [h1]; exact fun e => hne e
        · simp [h1, h2]
    unfold frN at ih
    rw [e3]
    simp only [List.length_append, List.length_cons, List.length_nil]
    omega
/-- The parts: classes of pieces. -/
def cmpE (pc : Nat → Nat) (S : List (Nat × Nat)) : List (Nat × Nat) := S.reverse.map fun e => (pc e.1, pc e.2)
theorem cmpE_snoc (pc : Nat → Nat) (S : List (Nat × Nat)) (e : Nat × Nat) : cmpE pc (S ++ [e]) = (pc e.1, pc e.2) :: cmpE pc S := by simp [cmpE]
theorem cmp_mu (pc : Nat → Nat) {S : List (Nat × Nat)} (h : OkS n S) : ∀ x, rpE (cmpE pc S) (pc (muS S x)) = rpE (cmpE pc S) (pc x) := by
  induction h with
  | nil => intro x; rfl
  | @snoc S a b h ha hb hne fa fb ih =>
    intro x
    rw [muS_snoc, cmpE_snoc]
    have he : rpE ((pc a, pc b) :: cmpE pc S) (pc a) = rpE ((pc a, pc b) :: cmpE pc S) (pc b) := rpE_edge (.head _)
    unfold updM
    by_cases h1 : x = a
    · subst h1; simp only [if_true]; exact he.symm
    · by_cases h2 : x = b
      · subst h2; simp only [h1, if_true, if_false]; exact he
      · simp only [h1, h2, if_false]
        exact rpE_step _ _ (ih x)
theorem cmp_cyc {pc : Nat → Nat} (hpc : ∀ i, i < n → pc (nx i) = pc i) {S : List (Nat × Nat)} (h : OkS n S) {x y : Nat} (he : rpE (orE n (psN nx (muS S))) x = rpE (orE n (psN nx (muS S))) y) : rpE (cmpE pc S) (pc x) = rpE (cmpE pc S) (pc y) :=
  rpE_congr (fun z => rpE (cmpE pc S) (pc z)) (fun p hp => by
    obtain ⟨h1, h2⟩ := mem_orE.1 hp
    rw [h2]
    show _ = rpE (cmpE pc S) (pc (nx (muS S p.1)))
    rw [hpc _ (h.ml _ h1), cmp_mu pc h]) he
/-- Twice the parts and the seams: the cycles, the pieces and twice the handles. -/
def HdN (n : Nat) (nx pc : Nat → Nat) (P : Nat) (S : List (Nat × Nat)) (g : Nat) : Prop := 2 * ccE P (cmpE pc S) + S.length = ccE n (orE n (psN nx (muS S))) + P + 2 * g
theorem HdN.snoc {pc : Nat → Nat} {P g a b : Nat} {S : List (Nat × Nat)} (h0 : NetN n nx pv id) (hpc : ∀ i, i < n → pc (nx i) = pc i) (hP : ∀ i, i < n → pc i < P) (hs : OkS n S) (ha : a < n) (hb : b < n) (hne : a ≠ b) (fa : muS S a = a) (fb : muS S b = b)
    (hg : HdN n nx pc P S g) : ∃ g', HdN n nx pc P (S ++ [(a, b)]) g' ∧ g ≤ g' ∧ g' ≤ g + 1 ∧ ccE P (cmpE pc (S ++ [(a, b)])) ≤ ccE P (cmpE pc S) ∧ ccE P (cmpE pc S) ≤ ccE P (cmpE pc (S ++ [(a, b)])) + 1 := by
  have hpm := (hs.net h0).perm
  have hps : psN nx (muS (S ++ [(a, b)])) = fun x => psN nx (muS S) (swN a b x) := by
    funext x; unfold psN; rw [muS_snoc, updM_sw fa fb]
  unfold HdN at hg ⊢
  rw [hps, cmpE_snoc, List.length_append, List.length_cons, List.length_nil]
  simp only
  by_cases hd : rpE (orE n (psN nx (muS S))) a = rpE (orE n (psN nx (muS S))) b
  · have h1 := (hpm.swap_cut ha hb hne hd).2
    have h2 : ccE P ((pc a, pc b) :: cmpE pc S) = ccE P (cmpE pc S) := ccE_same (e := (pc a, pc b)) (cmp_cyc hpc hs hd)
    rw [h1, h2]
    exact ⟨g, by omega, by omega, by omega, by omega, by omega⟩
  · have h1 := (hpm.swap_join ha hb hd).2
    by_cases hc : rpE (cmpE pc S) (pc a) = rpE (cmpE pc S) (pc b)
    · have h2 : ccE P ((pc a, pc b) :: cmpE pc S) = ccE P (cmpE pc S) := ccE_same (e := (pc a, pc b)) hc
      rw [h2]
      exact ⟨g + 1, by omega, by omega, by omega, by omega, by omega⟩
    · have h2 : ccE P ((pc a, pc b) :: cmpE pc S) + 1 = ccE P (cmpE pc S) := ccE_join (e := (pc a, pc b)) hc (hP a ha) (hP b hb)
      exact ⟨g, by omega, by omega, by omega, by omega, by omega⟩
/-- Without seams: each piece is a cycle. -/
theorem HdN.zero {pc : Nat → Nat} {P : Nat} (h1 : ∀ x y, x < n → y < n → (rpE (orE n nx) x = rpE (orE n nx) y ↔ pc x = pc y)) (h2 : ∀ i, i < n → pc i < P) (h3 : ∀ p, p < P → ∃ x, x < n ∧ pc x = p) : HdN n nx pc P [] 0 := by
  have hps : psN nx (muS []) = nx := by funext x; rfl
  have e : ccE n (orE n nx) = P := by
    unfold ccE
    rw [← cnN_filter, ← List.length_map (f := pc), ← List.length_range (n := P)]
    refine len_of_mem (nodup_map_on (nodup_range_filter _ _) ?_) List.nodup_range (fun y => ?_)
    · intro x hx y hy he
      simp only [List.mem_filter, List.mem_range, decide_eq_true_eq] at hx hy
      rw [← hx.2, ← hy.2]
      exact (h1 x y hx.1 hy.1).2 he
    · simp only [List.mem_map, List.mem_filter, List.mem_range, decide_eq_true_eq]
      constructor
      · rintro ⟨x, hx, rfl⟩; exact h2 x hx.1
      · intro hy
        obtain ⟨x, hx, rfl⟩ := h3 y hy
        have hr := rpE_le (orE n nx) x
        exact ⟨rpE (orE n nx) x, ⟨by omega, rpE_idem _ _⟩, (h1 _ _ (by omega) hx).1 (rpE_idem _ _)⟩
  unfold HdN
  rw [hps, e]
  simp [cmpE, ccE_nil]
  omega
theorem OkS.handles {pc : Nat → Nat} {P : Nat} (h0 : NetN n nx pv id) (hpc : ∀ i, i < n → pc (nx i) = pc i) (hP : ∀ i, i < n → pc i < P) (hz : HdN n nx pc P [] 0) {S : List (Nat × Nat)} (hs : OkS n S) : ∃ g, HdN n nx pc P S g := by
  induction hs with
  | nil => exact ⟨0, hz⟩
  | snoc h ha hb hne fa fb ih =>
    obtain ⟨g, hg⟩ := ih
    obtain ⟨g', h1, _⟩ := hg.snoc h0 hpc hP h ha hb hne fa fb
    exact ⟨g', h1⟩
/-- Points, loops, seams: what the measures say. -/
theorem HdN.sum {pc : Nat → Nat} {P g : Nat} (h0 : NetN n nx pv id) {S : List (Nat × Nat)} (hs : OkS n S) (hg : HdN n nx pc P S g) :
    2 * ccE P (cmpE pc S) + n = ccE n (ptE n nx (muS S)) + lpN n nx (muS S) + P + S.length + 2 * g := by
  have h1 := (hs.net h0).count
  have h2 := hs.free
  unfold HdN at hg
  omega
end
end Go.Proofs.Ytnbickholedckaa
