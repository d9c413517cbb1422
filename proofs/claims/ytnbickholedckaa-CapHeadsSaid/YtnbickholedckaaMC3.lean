/- How many points, cycles and loops a net has. Plain: no program. -/
import Derived.Test.YtnbickholedckaaMC2
namespace Go.Proofs.Ytnbickholedckaa

theorem nodup_map_on {α β : Type} {f : α → β} {l : List α} (hl : l.Nodup) (h : ∀ x ∈ l, ∀ y ∈ l, f x = f y → x = y) : (l.map f).Nodup := by
  unfold List.Nodup
  rw [List.pairwise_map]
  exact List.Pairwise.imp_of_mem (fun {a b} ha hb hne e => hne (h a ha b hb e)) hl
theorem nodup_range_filter (p : Nat → Bool) (n : Nat) : ((List.range n).filter p).Nodup := List.Pairwise.filter _ List.nodup_range
theorem len_of_mem {α : Type} {l l' : List α} (h1 : l.Nodup) (h2 : l'.Nodup) (h : ∀ x, x ∈ l ↔ x ∈ l') : l.length = l'.length := ((List.perm_ext_iff_of_nodup h1 h2).2 h).length_eq
section
variable {n : Nat} {nx pv mu : Nat → Nat}
/-- Two free corners of one point are one. -/
theorem NetN.free1 (h : NetN n nx pv mu) {x y : Nat} (hx : x < n) (hy : y < n) (fx : mu x = x) (fy : mu y = y) (he : rpE (ptE n nx mu) y = rpE (ptE n nx mu) x) : x = y := by
  obtain ⟨k, m, cl, w⟩ := h.way hx
  have a1 := (w.free h hx ((w.mem h hx hx).2 rfl)).1 fx
  have a2 := (w.free h hx ((w.mem h hx hy).2 he)).1 fy
  rw [a1.2, a2.2]
/-- No corner of the point begins a free side. -/
def innB (n : Nat) (nx mu : Nat → Nat) (i : Nat) : Bool := decide (∀ x, x < n → rpE (ptE n nx mu) x = rpE (ptE n nx mu) i → mu x ≠ x)
theorem innB_iff {i : Nat} : innB n nx mu i = true ↔ ∀ x, x < n → rpE (ptE n nx mu) x = rpE (ptE n nx mu) i → mu x ≠ x := by simp [innB]
theorem innB_false {i : Nat} : innB n nx mu i = false ↔ ∃ x, x < n ∧ rpE (ptE n nx mu) x = rpE (ptE n nx mu) i ∧ mu x = x := by
  rw [← Bool.not_eq_true, innB_iff]
  simp only [Classical.not_forall, Decidable.not_not]
  exact ⟨fun ⟨x, a, b, c⟩ => ⟨x, a, b, c⟩, fun ⟨x, a, b, c⟩ => ⟨x, a, b, c⟩⟩
theorem innB_congr {i j : Nat} (he : rpE (ptE n nx mu) i = rpE (ptE n nx mu) j) : innB n nx mu i = innB n nx mu j := by unfold innB; rw [he]
def frN (n : Nat) (mu : Nat → Nat) : Nat := cnN (fun i => decide (mu i = i)) n
/-- There are as many points at the edge as there are free sides. -/
theorem NetN.outer (h : NetN n nx pv mu) : cnN (fun i => decide (rpE (ptE n nx mu) i = i) && !innB n nx mu i) n = frN n mu := by
  unfold frN
  rw [← cnN_filter, ← cnN_filter, ← List.length_map (f := rpE (ptE n nx mu)) (as := (List.range n).filter fun i => decide (mu i = i))]
  refine len_of_mem (nodup_range_filter _ _) (nodup_map_on (nodup_range_filter _ _) ?_) ?_
  · intro x hx y hy e
    simp only [List.mem_filter, List.mem_range, decide_eq_true_eq] at hx hy
    exact h.free1 hx.1 hy.1 hx.2 hy.2 e.symm
  · intro y
    simp only [List.mem_filter, List.mem_range, decide_eq_true_eq, List.mem_map, Bool.and_eq_true, Bool.not_eq_true', innB_false]
    constructor
    · rintro ⟨_, h2, x, h3, h4, h5⟩
      exact ⟨x, ⟨h3, h5⟩, by rw [h4, h2]⟩
    · rintro ⟨x, ⟨h3, h5⟩, rfl⟩
      have := rpE_le (ptE n nx mu) x
      exact ⟨by omega, rpE_idem _ _, x, h3, (rpE_idem _ _).symm, h5⟩
/-- Inside: none of the corners begins a free side, or ends one. -/
theorem NetN.inn_prev (h : NetN n nx pv mu) {i : Nat} (hi : i < n) (hn : innB n nx mu i = true) : ∀ x, x < n → rpE (ptE n nx mu) x = rpE (ptE n nx mu) i → mu (pv x) ≠ pv x := by
  intro x hx he hf
  rw [innB_iff] at hn
  obtain ⟨k, m, cl, w⟩ := h.way hx
  have hk : itn (psN nx mu) k x < n := h.perm.itn_lt hx k
  have hm : itn (psN nx mu) k x ∈ wayL nx pv mu x k m := mem_wayL.2 (.inl ⟨k, Nat.le_refl _, rfl⟩)
  have hne := hn _ hk (((w.mem h hx hk).1 hm).trans he)
  cases cl with
  | false => exact hne (w.op rfl)
  | true =>
    have h5 := (w.en rfl).2
    have := h.inv (x := itn (psN nx mu) k x) hk h5
    rw [← h.qfree hx, ← this] at hf
    exact hne hf

/-! ### Cycles -/
def nofB (n : Nat) (nx mu : Nat → Nat) (i : Nat) : Bool := decide (∀ x, x < n → rpE (orE n (psN nx mu)) x = rpE (orE n (psN nx mu)) i → mu x ≠ x)
theorem nofB_iff {i : Nat} : nofB n nx mu i = true ↔ ∀ x, x < n → rpE (orE n (psN nx mu)) x = rpE (orE n (psN nx mu)) i → mu x ≠ x := by simp [nofB]
theorem nofB_false {i : Nat} : nofB n nx mu i = false ↔ ∃ x, x < n ∧ rpE (orE n (psN nx mu)) x = rpE (orE n (psN nx mu)) i ∧ mu x = x := by
  rw [← Bool.not_eq_true, nofB_iff]
  simp only [Classical.not_forall, Decidable.not_not]
  exact ⟨fun ⟨x, a, b, c⟩ => ⟨x, a, b, c⟩, fun ⟨x, a, b, c⟩ => ⟨x, a, b, c⟩⟩
theorem pt_or {x y : Nat} (h : rpE (ptE n nx mu) x = rpE (ptE n nx mu) y) : rpE (orE n (psN nx mu)) x = rpE (orE n (psN nx mu)) y :=
  rpE_ker (fun p hp => by
    obtain ⟨h1, _, h3⟩ := mem_ptE.1 hp
    rw [h3]; exact orE_step h1) h
theorem NetN.or_pt (h : NetN n nx pv mu) {i : Nat} (hi : i < n) (hn : innB n nx mu i = true) {x : Nat} (he : rpE (orE n (psN nx mu)) x = rpE (orE n (psN nx mu)) i) : rpE (ptE n nx mu) x = rpE (ptE n nx mu) i := by
  obtain ⟨k, rfl⟩ := (h.perm.orb hi).1 he.symm
  clear he
  induction k with
  | zero => rfl
  | succ k ih =>
    rw [← ih]
    exact (rpE_edge (mem_ptE.2 ⟨h.perm.itn_lt hi k, innB_iff.1 hn _ (h.perm.itn_lt hi k) ih, rfl⟩)).symm
theorem NetN.nof_inn (h : NetN n nx pv mu) {i : Nat} (hi : i < n) : nofB n nx mu i = true ↔ innB n nx mu i = true := by
  constructor
  · intro hn
    rw [nofB_iff] at hn
    exact innB_iff.2 fun x hx he => hn x hx (pt_or he)
  · intro hn
    exact nofB_iff.2 fun x hx he => innB_iff.1 hn x hx (h.or_pt hi hn he)
/-- A point inside is a cycle. -/
theorem NetN.inner (h : NetN n nx pv mu) : cnN (fun i => decide (rpE (ptE n nx mu) i = i) && innB n nx mu i) n = cnN (fun i => decide (rpE (orE n (psN nx mu)) i = i) && nofB n nx mu i) n := by
  refine cnN_congr n fun i hi => ?_
  have hb : nofB n nx mu i = innB n nx mu i := by
    have := h.nof_inn hi
    cases a : nofB n nx mu i <;> cases b : innB n nx mu i <;> simp_all
  rw [hb]
  cases hn : innB n nx mu i with
  | false => simp
  | true =>
    congr 1
    rw [decide_eq_decide, rpE_first, rpE_first]
    constructor
    · intro h1 j hj he; exact h1 j hj (h.or_pt hi hn he)
    · intro h1 j hj he; exact h1 j hj (pt_or he)
/-- The loops: the first free sides of the cycles. -/
def fstB (n : Nat) (nx mu : Nat → Nat) (i : Nat) : Bool := decide (mu i = i) && decide (∀ j, j < i → mu j = j → rpE (orE n (psN nx mu)) j ≠ rpE (orE n (psN nx mu)) i)
theorem fstB_iff {i : Nat} : fstB n nx mu i = true ↔ mu i = i ∧ ∀ j, j < i → mu j = j → rpE (orE n (psN nx mu)) j ≠ rpE (orE n (psN nx mu)) i := by simp [fstB]
def lpN (n : Nat) (nx mu : Nat → Nat) : Nat := cnN (fstB n nx mu) n
theorem fst_map (n : Nat) (nx mu : Nat → Nat) : (((List.range n).filter (fstB n nx mu)).map (rpE (orE n (psN nx mu)))).Nodup ∧ ∀ y, y ∈ ((List.range n).filter (fstB n nx mu)).map (rpE (orE n (psN nx mu))) ↔ ∃ x, x < n ∧ mu x = x ∧ rpE (orE n (psN nx mu)) x = y := by
  constructor
  · refine nodup_map_on (nodup_range_filter _ _) ?_
    intro x hx y hy e
    simp only [List.mem_filter, List.mem_range, fstB_iff] at hx hy
    by_cases h1 : x < y
    · exact absurd e (hy.2.2 x h1 hx.2.1)
    · by_cases h2 : y < x
      · exact absurd e.symm (hx.2.2 y h2 hy.2.1)
      · omega
  · intro y
    simp only [List.mem_map, List.mem_filter, List.mem_range, fstB_iff]
    constructor
    · rintro ⟨x, ⟨h1, h2, _⟩, h4⟩; exact ⟨x, h1, h2, h4⟩
    · rintro ⟨x, h1, h2, h3⟩
      obtain ⟨x', a, b, c⟩ := minN (p := fun x => x < n ∧ mu x = x ∧ rpE (orE n (psN nx mu)) x = y) ⟨h1, h2, h3⟩
      exact ⟨x', ⟨b.1, b.2.1, fun j hj hf he => c j hj ⟨by omega, hf, by rw [he, b.2.2]⟩⟩, b.2.2⟩
theorem lpN_cyc : lpN n nx mu = cnN (fun i => decide (rpE (orE n (psN nx mu)) i = i) && !nofB n nx mu i) n := by
  unfold lpN
  rw [← cnN_filter, ← cnN_filter, ← List.length_map (f := rpE (orE n (psN nx mu))) (as := (List.range n).filter (fstB n nx mu))]
  obtain ⟨h1, h2⟩ := fst_map n nx mu
  refine len_of_mem h1 (nodup_range_filter _ _) (fun y => ?_)
  rw [h2]
  simp only [List.mem_filter, List.mem_range, Bool.and_eq_true, decide_eq_true_eq, Bool.not_eq_true', nofB_false]
  constructor
  · rintro ⟨x, a, b, rfl⟩
    have := rpE_le (orE n (psN nx mu)) x
    exact ⟨by omega, rpE_idem _ _, x, a, (rpE_idem _ _).symm, b⟩
  · rintro ⟨_, b, x, c, d, e⟩
    exact ⟨x, c, e, by rw [d, b]⟩
/-- The points and the loops: the cycles and the free sides. -/
theorem NetN.count (h : NetN n nx pv mu) : ccE n (ptE n nx mu) + lpN n nx mu = ccE n (orE n (psN nx mu)) + frN n mu := by
  have e1 := cnN_split (fun i => decide (rpE (ptE n nx mu) i = i)) (innB n nx mu) n
  have e2 := cnN_split (fun i => decide (rpE (orE n (psN nx mu)) i = i)) (nofB n nx mu) n
  have e3 := h.outer
  have e4 := h.inner
  have e5 := lpN_cyc (n := n) (nx := nx) (mu := mu)
  unfold ccE
  omega

/-! ### The way along the edge -/
def hopN (nx mu : Nat → Nat) : Nat → Nat → Nat
  | 0, x => x
  | k + 1, x => if mu x = x then x else hopN nx mu k (psN nx mu x)
theorem hopN_it : ∀ (k x j : Nat), j ≤ k → mu (itn (psN nx mu) j x) = itn (psN nx mu) j x → (∀ i, i < j → mu (itn (psN nx mu) i x) ≠ itn (psN nx mu) i x) → hopN nx mu k x = itn (psN nx mu) j x
  | 0, x, j, hj, _, _ => by rw [show j = 0 by omega]; rfl
  | k + 1, x, 0, _, h1, _ => by simp only [hopN]; exact if_pos h1
  | k + 1, x, j + 1, hj, h1, h2 => by
    have h3 : ¬ mu x = x := h2 0 (by omega)
    simp only [hopN, if_neg h3]
    rw [itn_succ] at h1
    rw [hopN_it k (psN nx mu x) j (by omega) h1 (fun i hi => by have := h2 (i + 1) (by omega); rwa [itn_succ] at this), itn_succ]
/-- The next free side. -/
theorem NetN.hop (h : NetN n nx pv mu) {x : Nat} (hx : x < n) (hf : mu x = x) : ∃ k, 1 ≤ k ∧ k ≤ n ∧ hopN nx mu n (nx x) = itn (psN nx mu) k x ∧ mu (itn (psN nx mu) k x) = itn (psN nx mu) k x ∧ ∀ j, 1 ≤ j → j < k → mu (itn (psN nx mu) j x) ≠ itn (psN nx mu) j x := by
  obtain ⟨p, p1, p2, p3, _⟩ := h.perm.ret1 hx
  obtain ⟨k, hk1, hk2, hk3⟩ := minN (p := fun k => 1 ≤ k ∧ mu (itn (psN nx mu) k x) = itn (psN nx mu) k x) (k := p) ⟨p1, by rw [p3]; exact hf⟩
  have e : nx x = psN nx mu x := by unfold psN; rw [hf]
  refine ⟨k, hk2.1, by omega, ?_, hk2.2, fun j j1 j2 hh => hk3 j j2 ⟨j1, hh⟩⟩
  rw [e, show k = (k - 1) + 1 by omega, itn_succ]
  refine hopN_it n _ (k - 1) (by omega) ?_ (fun i hi => ?_)
  · rw [← itn_succ, show k - 1 + 1 = k by omega]; exact hk2.2
  · rw [← itn_succ]; exact fun hh => hk3 (i + 1) (by omega) ⟨by omega, hh⟩
def hpN (n : Nat) (nx mu : Nat → Nat) (x : Nat) : Nat := if mu x = x then hopN nx mu n (nx x) else x
theorem NetN.hp_free (h : NetN n nx pv mu) {x : Nat} (hx : x < n) (hf : mu x = x) : hpN n nx mu x < n ∧ mu (hpN n nx mu x) = hpN n nx mu x ∧ rpE (orE n (psN nx mu)) (hpN n nx mu x) = rpE (orE n (psN nx mu)) x := by
  obtain ⟨k, k1, _, k2, k3, _⟩ := h.hop hx hf
  unfold hpN
  rw [if_pos hf, k2]
  exact ⟨h.perm.itn_lt hx k, k3, (h.perm.orE_it hx k).symm⟩
theorem NetN.hp_inj (h : NetN n nx pv mu) {x y : Nat} (hx : x < n) (hy : y < n) (fx : mu x = x) (fy : mu y = y) (e : hpN n nx mu x = hpN n nx mu y) : x = y := by
  obtain ⟨k, k1, _, k2, k3, k4⟩ := h.hop hx fx
  obtain ⟨l, l1, _, l2, l3, l4⟩ := h.hop hy fy
  unfold hpN at e
  rw [if_pos fx, if_pos fy, k2, l2] at e
  have key : ∀ {x y k l : Nat}, x < n → y < n → mu x = x → 1 ≤ k → k ≤ l → (∀ j, 1 ≤ j → j < l → mu (itn (psN nx mu) j y) ≠ itn (psN nx mu) j y) → itn (psN nx mu) k x = itn (psN nx mu) l y → x = y := by
    intro x y k l hx hy fx k1 hkl l4 e
    rw [show l = (l - k) + k by omega, itn_add] at e
    have e2 := h.perm.itn_inj hx (h.perm.itn_lt hy _) k e
    rcases Nat.eq_zero_or_pos (l - k) with h0 | h0
    · rw [h0] at e2; exact e2
    · have := l4 (l - k) h0 (by omega)
      rw [← e2] at this
      exact absurd fx this
  rcases Nat.le_total k l with hkl | hkl
  · exact key hx hy fx k1 hkl l4 e
  · exact (key hy hx fy l1 hkl k4 e.symm).symm
theorem NetN.hp_perm (h : NetN n nx pv mu) : PmN n (hpN n nx mu) := by
  refine ⟨fun i hi => ?_, fun i j hi hj e => ?_⟩
  · by_cases hf : mu i = i
    · exact (h.hp_free hi hf).1
    · unfold hpN; rw [if_neg hf]; exact hi
  · by_cases fi : mu i = i
    · by_cases fj : mu j = j
      · exact h.hp_inj hi hj fi fj e
      · have := (h.hp_free hi fi).2.1
        rw [e] at this
        unfold hpN at this
        rw [if_neg fj] at this
        exact absurd this fj
    · by_cases fj : mu j = j
      · have := (h.hp_free hj fj).2.1
        rw [← e] at this
        unfold hpN at this
        rw [if_neg fi] at this
        exact absurd this fi
      · unfold hpN at e; rwa [if_neg fi, if_neg fj] at e
theorem NetN.hp_it (h : NetN n nx pv mu) {x : Nat} (hx : x < n) (hf : mu x = x) : ∀ j, itn (hpN n nx mu) j x < n ∧ mu (itn (hpN n nx mu) j x) = itn (hpN n nx mu) j x ∧ rpE (orE n (psN nx mu)) (itn (hpN n nx mu) j x) = rpE (orE n (psN nx mu)) x
  | 0 => ⟨hx, hf, rfl⟩
  | j + 1 => by
    obtain ⟨h1, h2, h3⟩ := h.hp_it hx hf j
    obtain ⟨a, b, c⟩ := h.hp_free h1 h2
    exact ⟨a, b, c.trans h3⟩
/-- Each free side of the cycle comes. -/
theorem NetN.hp_all (h : NetN n nx pv mu) : ∀ (k : Nat) {x : Nat}, x < n → mu x = x → mu (itn (psN nx mu) k x) = itn (psN nx mu) k x → ∃ j, itn (hpN n nx mu) j x = itn (psN nx mu) k x := by
  intro k
  induction k using Nat.strongRecOn with
  | _ k ih =>
    intro x hx hf hk
    rcases Nat.eq_zero_or_pos k with h0 | h0
    · subst h0; exact ⟨0, rfl⟩
    · obtain ⟨l, l1, _, l2, l3, l4⟩ := h.hop hx hf
      have hle : l ≤ k := by
        by_cases hh : l ≤ k
        · exact hh
        · exact absurd hk (l4 k h0 (by omega))
      have hp : hpN n nx mu x = itn (psN nx mu) l x := by unfold hpN; rw [if_pos hf, l2]
      have he : itn (psN nx mu) k x = itn (psN nx mu) (k - l) (hpN n nx mu x) := by rw [hp, ← itn_add, show l + (k - l) = k by omega]
      obtain ⟨a, b, _⟩ := h.hp_free hx hf
      rw [he] at hk
      obtain ⟨j, hj⟩ := ih (k - l) (by omega) a b hk
      exact ⟨j + 1, by rw [itn_succ, hj, he]⟩
/-- A loop: from its first side until it comes back. -/
structure LoopN (n : Nat) (nx mu : Nat → Nat) (x p : Nat) : Prop where
  p1 : 1 ≤ p
  pn : p ≤ n
  ret : itn (hpN n nx mu) p x = x
  fst : ∀ j, 1 ≤ j → j < p → itn (hpN n nx mu) j x ≠ x
theorem NetN.loop (h : NetN n nx pv mu) {x : Nat} (hx : x < n) : ∃ p, LoopN n nx mu x p := by
  obtain ⟨p, a, b, c, d⟩ := h.hp_perm.ret1 hx
  exact ⟨p, a, b, c, d⟩
def loopL (n : Nat) (nx mu : Nat → Nat) (x p : Nat) : List Nat := (List.range p).map fun j => itn (hpN n nx mu) j x
theorem LoopN.nodup {x p : Nat} (l : LoopN n nx mu x p) (h : NetN n nx pv mu) (hx : x < n) : (loopL n nx mu x p).Nodup :=
  nodup_map_range _ (fun i j hij hj e => by
    rw [show j = (j - i) + i by omega, itn_add] at e
    exact l.fst (j - i) (by omega) (by omega) (h.hp_perm.itn_inj hx (h.hp_perm.itn_lt hx _) i e).symm)
theorem LoopN.mem {x p y : Nat} (l : LoopN n nx mu x p) (h : NetN n nx pv mu) (hx : x < n) (hf : mu x = x) (hy : y < n) : y ∈ loopL n nx mu x p ↔ mu y = y ∧ rpE (orE n (psN nx mu)) y = rpE (orE n (psN nx mu)) x := by
  simp only [loopL, List.mem_map, List.mem_range]
  constructor
  · rintro ⟨j, hj, rfl⟩
    exact (h.hp_it hx hf j).2
  · rintro ⟨h1, h2⟩
    obtain ⟨k, rfl⟩ := (h.perm.orb hx).1 h2.symm
    obtain ⟨j, hj⟩ := h.hp_all k hx hf h1
    refine ⟨j % p, Nat.mod_lt _ l.p1, ?_⟩
    rw [← hj]
    conv => rhs; rw [← Nat.div_add_mod j p, itn_add, itn_mod l.ret]
end
end Go.Proofs.Ytnbickholedckaa
