/- A net of sides: next, previous, and the side to which a side is sewn (itself where it is free). Its points are walked around. Plain: no program. -/
import Derived.Test.YtnbickholedckaaMC1
namespace Go.Proofs.Ytnbickholedckaa

structure NetN (n : Nat) (nx pv mu : Nat → Nat) : Prop where
  nl : ∀ i, i < n → nx i < n
  pl : ∀ i, i < n → pv i < n
  ml : ∀ i, i < n → mu i < n
  np : ∀ i, i < n → nx (pv i) = i
  pn : ∀ i, i < n → pv (nx i) = i
  mm : ∀ i, i < n → mu (mu i) = i
/-- The corner that is met next at a point; at a free side, the next corner of the edge. -/
def psN (nx mu : Nat → Nat) (x : Nat) : Nat := nx (mu x)
def qsN (pv mu : Nat → Nat) (x : Nat) : Nat := mu (pv x)
def ptE (n : Nat) (nx mu : Nat → Nat) : List (Nat × Nat) := ((List.range n).filter fun a => decide (mu a ≠ a)).map fun a => (a, nx (mu a))
section
variable {n : Nat} {nx pv mu : Nat → Nat}
theorem mem_ptE {p : Nat × Nat} : p ∈ ptE n nx mu ↔ p.1 < n ∧ mu p.1 ≠ p.1 ∧ p.2 = psN nx mu p.1 := by
  simp only [ptE, List.mem_map, List.mem_filter, List.mem_range, decide_eq_true_eq, psN]
  constructor
  · rintro ⟨i, ⟨h1, h2⟩, rfl⟩; exact ⟨h1, h2, rfl⟩
  · rintro ⟨h1, h2, h3⟩; exact ⟨p.1, ⟨h1, h2⟩, by rw [← h3]⟩
theorem NetN.perm (h : NetN n nx pv mu) : PmN n (psN nx mu) :=
  ⟨fun i hi => h.nl _ (h.ml _ hi), fun i j hi hj e => by
    have := congrArg pv e
    simp only [psN, h.pn _ (h.ml _ hi), h.pn _ (h.ml _ hj)] at this
    rw [← h.mm i hi, this, h.mm j hj]⟩
theorem NetN.ql (h : NetN n nx pv mu) {x : Nat} (hx : x < n) : qsN pv mu x < n := h.ml _ (h.pl _ hx)
theorem NetN.pq (h : NetN n nx pv mu) {x : Nat} (hx : x < n) : psN nx mu (qsN pv mu x) = x := by
  unfold psN qsN; rw [h.mm _ (h.pl _ hx), h.np _ hx]
theorem NetN.qp (h : NetN n nx pv mu) {x : Nat} (hx : x < n) : qsN pv mu (psN nx mu x) = x := by
  unfold psN qsN; rw [h.pn _ (h.ml _ hx), h.mm _ hx]
theorem NetN.inv (h : NetN n nx pv mu) {x y : Nat} (hx : x < n) (e : psN nx mu x = y) : x = qsN pv mu y := by rw [← e, h.qp hx]
theorem NetN.qfree (h : NetN n nx pv mu) {x : Nat} (hx : x < n) : mu (qsN pv mu x) = qsN pv mu x ↔ mu (pv x) = pv x := by
  unfold qsN
  rw [h.mm _ (h.pl _ hx)]
  exact eq_comm

/-- A way around a point: forward k times, and, where the end is free, backward m times. -/
structure WayN (n : Nat) (nx pv mu : Nat → Nat) (c k m : Nat) (cl : Bool) : Prop where
  fw : ∀ j, j < k → mu (itn (psN nx mu) j c) ≠ itn (psN nx mu) j c ∧ itn (psN nx mu) (j + 1) c ≠ c
  en : cl = true → mu (itn (psN nx mu) k c) ≠ itn (psN nx mu) k c ∧ itn (psN nx mu) (k + 1) c = c
  op : cl = false → mu (itn (psN nx mu) k c) = itn (psN nx mu) k c
  bw : ∀ j, j < m → mu (pv (itn (qsN pv mu) j c)) ≠ pv (itn (qsN pv mu) j c)
  be : cl = false → mu (pv (itn (qsN pv mu) m c)) = pv (itn (qsN pv mu) m c)
  b0 : cl = true → m = 0
  kn : k < n
  mn : m ≤ n
theorem minN {p : Nat → Prop} {k : Nat} (hk : p k) : ∃ k', k' ≤ k ∧ p k' ∧ ∀ j, j < k' → ¬ p j := by
  have : ∀ m k, k ≤ m → p k → ∃ k', k' ≤ k ∧ p k' ∧ ∀ j, j < k' → ¬ p j := by
    intro m
    induction m with
    | zero => intro k h0 h1; exact ⟨k, Nat.le_refl _, h1, fun j hj => by omega⟩
    | succ m ih =>
      intro k h0 h1
      by_cases hj : ∃ j, j < k ∧ p j
      · obtain ⟨j, q1, q2⟩ := hj
        obtain ⟨k', a, b, c⟩ := ih j (by omega) q2
        exact ⟨k', by omega, b, c⟩
      · exact ⟨k, Nat.le_refl _, h1, fun j q1 q2 => hj ⟨j, q1, q2⟩⟩
  exact this k k (Nat.le_refl _) hk
theorem NetN.back (h : NetN n nx pv mu) {c : Nat} (hc : c < n) : ∀ (i j : Nat), i ≤ j → itn (psN nx mu) i (itn (qsN pv mu) j c) = itn (qsN pv mu) (j - i) c := by
  have hl : ∀ j, itn (qsN pv mu) j c < n := fun j => by
    induction j with
    | zero => exact hc
    | succ j ih => exact h.ql ih
  intro i
  induction i with
  | zero => intro j _; rfl
  | succ i ih =>
    intro j hj
    show psN nx mu (itn (psN nx mu) i _) = _
    rw [ih j (by omega), show j - i = (j - (i + 1)) + 1 by omega]
    exact h.pq (hl _)
theorem NetN.way (h : NetN n nx pv mu) {c : Nat} (hc : c < n) : ∃ k m cl, WayN n nx pv mu c k m cl := by
  obtain ⟨p, p1, p2, p3, p4⟩ := h.perm.ret1 hc
  have h0 : ∃ k, k < n ∧ (mu (itn (psN nx mu) k c) = itn (psN nx mu) k c ∨ itn (psN nx mu) (k + 1) c = c) := ⟨p - 1, by omega, .inr (by rw [show p - 1 + 1 = p by omega]; exact p3)⟩
  obtain ⟨k0, hk0, hk1⟩ := h0
  obtain ⟨k, hkk, hk, hmin⟩ := minN (p := fun k => mu (itn (psN nx mu) k c) = itn (psN nx mu) k c ∨ itn (psN nx mu) (k + 1) c = c) hk1
  by_cases hf : mu (itn (psN nx mu) k c) = itn (psN nx mu) k c
  · have hkp : k < p := by
      by_cases hh : k < p
      · exact hh
      · exact absurd (Or.inr (by rw [show p - 1 + 1 = p by omega]; exact p3)) (hmin (p - 1) (by omega))
    have hb : itn (qsN pv mu) (p - k) c = itn (psN nx mu) k c := by
      have e1 := h.back hc (p - k) (p - k) (Nat.le_refl _)
      rw [Nat.sub_self] at e1
      have e2 : itn (psN nx mu) (p - k) (itn (psN nx mu) k c) = c := by rw [← itn_add, show k + (p - k) = p by omega, p3]
      have hl : ∀ j, itn (qsN pv mu) j c < n := fun j => by
        induction j with
        | zero => exact hc
        | succ j ih => exact h.ql ih
      exact h.perm.itn_inj (hl _) (h.perm.itn_lt hc _) (p - k) (by rw [e1, e2]; rfl)
    have hq : mu (pv (itn (qsN pv mu) (p - k - 1) c)) = pv (itn (qsN pv mu) (p - k - 1) c) := by
      have hl : ∀ j, itn (qsN pv mu) j c < n := fun j => by
        induction j with
        | zero => exact hc
        | succ j ih => exact h.ql ih
      rw [← h.qfree (hl _)]
      have : qsN pv mu (itn (qsN pv mu) (p - k - 1) c) = itn (qsN pv mu) (p - k) c := by
        rw [show p - k = (p - k - 1) + 1 by omega]; rfl
      rw [this, hb]; exact hf
    obtain ⟨m, hmm, hm, hmmin⟩ := minN (p := fun j => mu (pv (itn (qsN pv mu) j c)) = pv (itn (qsN pv mu) j c)) hq
    exact ⟨k, m, false, fun j hj => ⟨fun e => hmin j hj (.inl e), fun e => hmin j hj (.inr e)⟩, fun e => (by cases e), fun _ => hf, fun j hj => hmmin j hj, fun _ => hm, fun e => (by cases e), by omega, by omega⟩
  · exact ⟨k, 0, true, fun j hj => ⟨fun e => hmin j hj (.inl e), fun e => hmin j hj (.inr e)⟩, fun _ => ⟨hf, hk.resolve_left hf⟩, fun e => (by cases e), fun j hj => (by omega), fun e => (by cases e), fun _ => rfl, by omega, by omega⟩
/-- The corners, in the order in which they come. -/
def wayL (nx pv mu : Nat → Nat) (c k m : Nat) : List Nat := (List.range (k + 1)).map (fun j => itn (psN nx mu) j c) ++ (List.range m).map (fun j => itn (qsN pv mu) (j + 1) c)
theorem mem_wayL {c k m x : Nat} : x ∈ wayL nx pv mu c k m ↔ (∃ j, j ≤ k ∧ itn (psN nx mu) j c = x) ∨ (∃ j, 1 ≤ j ∧ j ≤ m ∧ itn (qsN pv mu) j c = x) := by
  simp only [wayL, List.mem_append, List.mem_map, List.mem_range]
  constructor
  · rintro (⟨j, hj, e⟩ | ⟨j, hj, e⟩)
    · exact .inl ⟨j, by omega, e⟩
    · exact .inr ⟨j + 1, by omega, by omega, e⟩
  · rintro (⟨j, hj, e⟩ | ⟨j, h1, hj, e⟩)
    · exact .inl ⟨j, by omega, e⟩
    · exact .inr ⟨j - 1, by omega, by rw [show j - 1 + 1 = j by omega]; exact e⟩
section
variable {c k m : Nat} {cl : Bool}
theorem NetN.qit (h : NetN n nx pv mu) (hc : c < n) : ∀ j, itn (qsN pv mu) j c < n
  | 0 => hc
  | j + 1 => h.ql (h.qit hc j)
theorem WayN.back_nf (w : WayN n nx pv mu c k m cl) (h : NetN n nx pv mu) (hc : c < n) {j : Nat} (h1 : 1 ≤ j) (h2 : j ≤ m) : mu (itn (qsN pv mu) j c) ≠ itn (qsN pv mu) j c := by
  have := w.bw (j - 1) (by omega)
  have hh := h.qfree (h.qit hc (j - 1))
  rw [show j = (j - 1) + 1 by omega]
  exact fun e => this (hh.1 e)
/-- Only the last one ahead is free. -/
theorem WayN.free (w : WayN n nx pv mu c k m cl) (h : NetN n nx pv mu) (hc : c < n) {x : Nat} (hx : x ∈ wayL nx pv mu c k m) : mu x = x ↔ cl = false ∧ x = itn (psN nx mu) k c := by
  constructor
  · intro hf
    rcases mem_wayL.1 hx with ⟨j, hj, rfl⟩ | ⟨j, h1, h2, rfl⟩
    · by_cases hjk : j = k
      · subst hjk
        cases cl with
        | true => exact absurd hf (w.en rfl).1
        | false => exact ⟨rfl, rfl⟩
      · exact absurd hf (w.fw j (by omega)).1
    · exact absurd hf (w.back_nf h hc h1 h2)
  · rintro ⟨h1, rfl⟩
    exact w.op h1
/-- The way holds the whole class. -/
theorem WayN.mem (w : WayN n nx pv mu c k m cl) (h : NetN n nx pv mu) (hc : c < n) {x : Nat} (hx : x < n) : x ∈ wayL nx pv mu c k m ↔ rpE (ptE n nx mu) x = rpE (ptE n nx mu) c := by
  constructor
  · intro hm
    rcases mem_wayL.1 hm with ⟨j, hj, rfl⟩ | ⟨j, h1, h2, rfl⟩
    · clear hm hx
      induction j with
      | zero => rfl
      | succ j ih =>
        rw [← ih (by omega)]
        exact (rpE_edge (mem_ptE.2 ⟨h.perm.itn_lt hc j, (w.fw j (by omega)).1, rfl⟩)).symm
    · clear hm hx h1
      induction j with
      | zero => rfl
      | succ j ih =>
        rw [← ih (by omega)]
        refine rpE_edge (mem_ptE.2 ⟨h.qit hc (j + 1), w.back_nf h hc (by omega) h2, ?_⟩)
        exact (h.pq (h.qit hc j)).symm
  · intro he
    have key : (x ∈ wayL nx pv mu c k m) = (c ∈ wayL nx pv mu c k m) := rpE_congr (fun z => z ∈ wayL nx pv mu c k m) (fun p hp => by
      obtain ⟨h1, h2, h3⟩ := mem_ptE.1 hp
      refine propext ⟨fun hm => ?_, fun hm => ?_⟩
      · rw [h3]
        rcases mem_wayL.1 hm with ⟨j, hj, e⟩ | ⟨j, j1, j2, e⟩
        · by_cases hjk : j = k
          · subst hjk
            cases cl with
            | true => exact mem_wayL.2 (.inl ⟨0, by omega, by rw [← e]; exact (w.en rfl).2.symm⟩)
            | false => exact absurd (by rw [← e]; exact w.op rfl) h2
          · exact mem_wayL.2 (.inl ⟨j + 1, by omega, by rw [← e]; rfl⟩)
        · have : psN nx mu p.1 = itn (qsN pv mu) (j - 1) c := by
            rw [← e, show j = (j - 1) + 1 by omega]; exact h.pq (h.qit hc _)
          rw [this]
          by_cases hj1 : j = 1
          · exact mem_wayL.2 (.inl ⟨0, by omega, by rw [hj1]; rfl⟩)
          · exact mem_wayL.2 (.inr ⟨j - 1, by omega, by omega, rfl⟩)
      · rw [h3] at hm
        have atc : psN nx mu p.1 = c → p.1 ∈ wayL nx pv mu c k m := fun e => by
          have hq := h.inv h1 e
          cases cl with
          | true =>
            have h5 := (w.en rfl).2
            have : p.1 = itn (psN nx mu) k c := h.perm.inj _ _ h1 (h.perm.itn_lt hc k) (by rw [e]; exact h5.symm)
            exact mem_wayL.2 (.inl ⟨k, Nat.le_refl _, this.symm⟩)
          | false =>
            by_cases hm0 : m = 0
            · have := w.be rfl
              rw [hm0] at this
              refine absurd ?_ h2
              rw [hq]
              exact (h.qfree hc).2 this
            · exact mem_wayL.2 (.inr ⟨1, Nat.le_refl _, by omega, hq.symm⟩)
        rcases mem_wayL.1 hm with ⟨j, hj, e⟩ | ⟨j, j1, j2, e⟩
        · rcases Nat.eq_zero_or_pos j with h0 | h0
          · subst h0; exact atc e.symm
          · have : p.1 = itn (psN nx mu) (j - 1) c := h.perm.inj _ _ h1 (h.perm.itn_lt hc _) (by rw [← e, show j = (j - 1) + 1 by omega]; rfl)
            exact mem_wayL.2 (.inl ⟨j - 1, by omega, this.symm⟩)
        · have hq := h.inv h1 e.symm
          by_cases hjm : j = m
          · subst hjm
            cases cl with
            | true => have := w.b0 rfl; omega
            | false =>
              refine absurd ?_ h2
              rw [hq]
              exact (h.qfree (h.qit hc j)).2 (w.be rfl)
          · exact mem_wayL.2 (.inr ⟨j + 1, by omega, by omega, hq.symm⟩)) he
    rw [key]
    exact mem_wayL.2 (.inl ⟨0, by omega, rfl⟩)
theorem nodup_map_range {f : Nat → Nat} : ∀ n, (∀ i j, i < j → j < n → f i ≠ f j) → ((List.range n).map f).Nodup
  | 0, _ => by simp
  | n + 1, h => by
    rw [List.range_succ, List.map_append, List.nodup_append]
    refine ⟨nodup_map_range n (fun i j hij hj => h i j hij (by omega)), by simp, ?_⟩
    intro a ha b hb
    simp only [List.mem_map, List.mem_range, List.map_cons, List.map_nil, List.mem_singleton] at ha hb
    obtain ⟨i, hi, rfl⟩ := ha
    subst hb
    exact h i n hi (by omega)
theorem WayN.nodup (w : WayN n nx pv mu c k m cl) (h : NetN n nx pv mu) (hc : c < n) : (wayL nx pv mu c k m).Nodup := by
  have hno : ∀ j, 1 ≤ j → j ≤ k → itn (psN nx mu) j c ≠ c := fun j j1 j2 => by
    have := (w.fw (j - 1) (by omega)).2
    rwa [show j - 1 + 1 = j by omega] at this
  have hgf : ∀ i j, 1 ≤ i → i ≤ m → j ≤ k → itn (qsN pv mu) i c ≠ itn (psN nx mu) j c := by
    intro i j i1 i2 j2 e
    have hcl : cl = false := by
      cases cl with
      | true => have := w.b0 rfl; omega
      | false => rfl
    by_cases hik : i ≤ k - j
    · have e1 := h.back hc i i (Nat.le_refl _)
      rw [Nat.sub_self, e, ← itn_add] at e1
      exact hno (j + i) (by omega) (by omega) e1
    · have e1 := h.back hc (k - j) i (by omega)
      rw [e, ← itn_add, show j + (k - j) = k by omega] at e1
      have := w.back_nf h hc (j := i - (k - j)) (by omega) (by omega)
      rw [← e1] at this
      exact this (w.op hcl)
  unfold wayL
  rw [List.nodup_append]
  refine ⟨nodup_map_range _ (fun i j hij hj e => ?_), nodup_map_range _ (fun i j hij hj e => ?_), fun a ha b hb => ?_⟩
  · rw [show j = (j - i) + i by omega, itn_add] at e
    exact hno (j - i) (by omega) (by omega) (h.perm.itn_inj hc (h.perm.itn_lt hc _) i e).symm
  · have e1 := h.back hc (i + 1) (i + 1) (Nat.le_refl _)
    have e2 := h.back hc (i + 1) (j + 1) (by omega)
    rw [Nat.sub_self] at e1
    rw [← e, e1] at e2
    exact hgf (j + 1 - (i + 1)) 0 (by omega) (by omega) (by omega) e2.symm
  · simp only [List.mem_map, List.mem_range] at ha hb
    obtain ⟨j, hj, rfl⟩ := ha
    obtain ⟨i, hi, rfl⟩ := hb
    exact fun e => hgf (i + 1) j (by omega) (by omega) (by omega) e.symm
end
end
end Go.Proofs.Ytnbickholedckaa
