/- Texts of this claim, put together; the parts that it needs. -/
import Derived.Test.YtnbickholedckaaGreatDoorQ5
namespace Go.Proofs.YtnbickholedckaaGreatDoor
/-- How many numbers below n have the property. -/
def cnN (p : Nat → Bool) : Nat → Nat
  | 0 => 0
  | n + 1 => cnN p n + (p n).toNat
theorem cnN_congr {p q : Nat → Bool} : ∀ n, (∀ i, i < n → p i = q i) → cnN p n = cnN q n
  | 0, _ => rfl
  | n + 1, h => by simp only [cnN, cnN_congr n (fun i hi => h i (by omega)), h n (by omega)]
theorem cnN_rm {p : Nat → Bool} {k : Nat} (hp : p k = true) : ∀ n, k < n → cnN (fun i => p i && decide (i ≠ k)) n + 1 = cnN p n
  | 0, h => by omega
  | n + 1, h => by
    simp only [cnN]
    by_cases hk : k = n
    · subst hk
      have : cnN (fun i => p i && decide (i ≠ k)) k = cnN p k := cnN_congr k (fun i hi => by simp [show i ≠ k by omega])
      rw [this, hp]; simp
    · have h1 := cnN_rm hp n (by omega)
      have : (p n && decide (n ≠ k)) = p n := by simp [Ne.symm hk]
      rw [this]; omega
theorem cnN_le (p : Nat → Bool) : ∀ n, cnN p n ≤ n
  | 0 => Nat.le_refl _
  | n + 1 => by have := cnN_le p n; simp only [cnN]; cases p n <;> simp <;> omega
theorem cnN_filter (p : Nat → Bool) : ∀ n, ((List.range n).filter p).length = cnN p n
  | 0 => rfl
  | n + 1 => by
    rw [List.range_succ, List.filter_append, List.length_append, cnN_filter p n, cnN]
    cases h : p n <;> simp [h]
theorem cnN_split (p q : Nat → Bool) : ∀ n, cnN p n = cnN (fun i => p i && q i) n + cnN (fun i => p i && !q i) n
  | 0 => rfl
  | n + 1 => by
    have := cnN_split p q n
    simp only [cnN]
    cases p n <;> cases q n <;> simp <;> omega
/-- The smallest member of a class; the edges are joined one after another. -/
def rpE : List (Nat × Nat) → Nat → Nat
  | [], i => i
  | e :: E, i => if rpE E i = rpE E e.1 ∨ rpE E i = rpE E e.2 then min (rpE E e.1) (rpE E e.2) else rpE E i
theorem rpE_le : ∀ (E : List (Nat × Nat)) (i : Nat), rpE E i ≤ i
  | [], i => Nat.le_refl _
  | e :: E, i => by
    have := rpE_le E i
    simp only [rpE]
    split
    · rename_i h; rcases h with h | h <;> omega
    · exact this
theorem rpE_idem : ∀ (E : List (Nat × Nat)) (i : Nat), rpE E (rpE E i) = rpE E i
  | [], i => rfl
  | e :: E, i => by
    have h1 := rpE_idem E e.1
    have h2 := rpE_idem E e.2
    have h3 := rpE_idem E i
    by_cases h : rpE E i = rpE E e.1 ∨ rpE E i = rpE E e.2
    · have hi : rpE (e :: E) i = min (rpE E e.1) (rpE E e.2) := by simp only [rpE]; exact if_pos h
      rw [hi]
      have hm : rpE E (min (rpE E e.1) (rpE E e.2)) = min (rpE E e.1) (rpE E e.2) := by
        by_cases hh : rpE E e.1 ≤ rpE E e.2
        · rw [Nat.min_eq_left hh, h1]
        · rw [Nat.min_eq_right (by omega), h2]
      simp only [rpE]
      rw [hm]
      exact if_pos (by omega)
    · have hi : rpE (e :: E) i = rpE E i := by simp only [rpE]; exact if_neg h
      rw [hi]
      simp only [rpE]
      rw [h3]
      exact if_neg h
theorem rpE_step (e : Nat × Nat) (E : List (Nat × Nat)) {i j : Nat} (h : rpE E i = rpE E j) : rpE (e :: E) i = rpE (e :: E) j := by
  simp only [rpE, h]
theorem rpE_edge : ∀ {E : List (Nat × Nat)} {u v : Nat}, (u, v) ∈ E → rpE E u = rpE E v
  | e :: E, u, v, h => by
    rcases List.mem_cons.1 h with h | h
    · subst h; simp [rpE]
    · exact rpE_step e E (rpE_edge h)
theorem rpE_univ {α : Type} (g : Nat → α) : ∀ {E : List (Nat × Nat)}, (∀ p ∈ E, g p.1 = g p.2) → ∀ i, g (rpE E i) = g i
  | [], _, i => rfl
  | e :: E, h, i => by
    have ih := rpE_univ g (fun p hp => h p (.tail _ hp))
    have he := h e (.head _)
    simp only [rpE]
    split
    · rename_i hc
      have : g (min (rpE E e.1) (rpE E e.2)) = g e.1 := by
        by_cases hh : rpE E e.1 ≤ rpE E e.2
        · rw [Nat.min_eq_left hh, ih]
        · rw [Nat.min_eq_right (by omega), ih, he]
      rw [this]
      rcases hc with hc | hc
      · rw [← ih e.1, ← hc, ih]
      · rw [he, ← ih e.2, ← hc, ih]
    · exact ih i
theorem rpE_congr {α : Type} (g : Nat → α) {E : List (Nat × Nat)} (h : ∀ p ∈ E, g p.1 = g p.2) {i j : Nat} (hij : rpE E i = rpE E j) : g i = g j := by
  rw [← rpE_univ g h i, hij, rpE_univ g h j]
theorem rpE_first (E : List (Nat × Nat)) (i : Nat) : rpE E i = i ↔ ∀ j, j < i → rpE E j ≠ rpE E i := by
  constructor
  · intro h j hj he
    have := rpE_le E j
    omega
  · intro h
    have h1 := rpE_le E i
    by_cases h2 : rpE E i = i
    · exact h2
    · exact absurd (rpE_idem E i) (h _ (by omega))
/-- What is true of all edges' ends is true of the classes. -/
theorem rpE_ker {E E' : List (Nat × Nat)} (h : ∀ p ∈ E, rpE E' p.1 = rpE E' p.2) {i j : Nat} (hij : rpE E i = rpE E j) : rpE E' i = rpE E' j := rpE_congr (rpE E') h hij
/-- The number of classes. -/
def ccE (n : Nat) (E : List (Nat × Nat)) : Nat := cnN (fun i => decide (rpE E i = i)) n
theorem cnN_all {p : Nat → Bool} : ∀ n, (∀ i, i < n → p i = true) → cnN p n = n
  | 0, _ => rfl
  | n + 1, h => by simp only [cnN, cnN_all n (fun i hi => h i (by omega)), h n (by omega)]; rfl
theorem ccE_nil (n : Nat) : ccE n [] = n := cnN_all n fun i _ => by simp [rpE]
theorem ccE_same {n : Nat} {e : Nat × Nat} {E : List (Nat × Nat)} (h : rpE E e.1 = rpE E e.2) : ccE n (e :: E) = ccE n E := by
  refine cnN_congr n fun i _ => ?_
  have : rpE (e :: E) i = rpE E i := by
    simp only [rpE]
    split
    · rename_i hc; rcases hc with hc | hc <;> omega
    · rfl
  rw [this]
theorem ccE_join {n : Nat} {e : Nat × Nat} {E : List (Nat × Nat)} (h : rpE E e.1 ≠ rpE E e.2) (h1 : e.1 < n) (h2 : e.2 < n) : ccE n (e :: E) + 1 = ccE n E := by
  have hk : ∃ k, k < n ∧ rpE E k = k ∧ ∀ i, (rpE (e :: E) i = i ↔ (rpE E i = i ∧ i ≠ k)) := by
    have l1 := rpE_le E e.1
    have l2 := rpE_le E e.2
    have i1 := rpE_idem E e.1
    have i2 := rpE_idem E e.2
    by_cases hle : rpE E e.1 ≤ rpE E e.2
    · refine ⟨rpE E e.2, by omega, i2, fun i => ?_⟩
      have i3 := rpE_idem E i
      simp only [rpE, Nat.min_eq_left hle]
      constructor
      · intro hi
        split at hi
        · rename_i hc
          subst hi
          exact ⟨i1, h⟩
        · rename_i hc
          exact ⟨hi, fun he => hc (.inr (by rw [he, i2]))⟩
      · rintro ⟨hi, hne⟩
        rw [hi]
        split
        · rename_i hc; rcases hc with hc | hc
          · exact hc.symm
          · exact absurd hc hne
        · rfl
    · refine ⟨rpE E e.1, by omega, i1, fun i => ?_⟩
      simp only [rpE, Nat.min_eq_right (show rpE E e.2 ≤ rpE E e.1 by omega)]
      constructor
      · intro hi
        split at hi
        · rename_i hc
          subst hi
          exact ⟨i2, fun he => h he.symm⟩
        · rename_i hc
          exact ⟨hi, fun he => hc (.inl (by rw [he, i1]))⟩
      · rintro ⟨hi, hne⟩
        rw [hi]
        split
        · rename_i hc; rcases hc with hc | hc
          · exact absurd hc hne
          · exact hc.symm
        · rfl
  obtain ⟨k, hk1, hk2, hk3⟩ := hk
  have h4 : ccE n (e :: E) = cnN (fun i => decide (rpE E i = i) && decide (i ≠ k)) n := cnN_congr n fun i _ => by
    simp only [decide_eq_decide.2 (hk3 i), Bool.decide_and]
  rw [h4]
  exact cnN_rm (p := fun i => decide (rpE E i = i)) (by simp [hk2]) n hk1
/-- The numbers of classes are the same where the classes are. -/
theorem ccE_ker {n : Nat} {E E' : List (Nat × Nat)} (h : ∀ i j, i < n → j < n → (rpE E i = rpE E j ↔ rpE E' i = rpE E' j)) : ccE n E = ccE n E' := by
  refine cnN_congr n fun i hi => ?_
  rw [decide_eq_decide, rpE_first, rpE_first]
  constructor
  · intro h1 j hj he; exact h1 j hj ((h j i (by omega) hi).2 he)
  · intro h1 j hj he; exact h1 j hj ((h j i (by omega) hi).1 he)
/-! ### Steps -/
def itn (f : Nat → Nat) : Nat → Nat → Nat
  | 0, x => x
  | k + 1, x => f (itn f k x)
theorem itn_add (f : Nat → Nat) (x : Nat) (i : Nat) : ∀ j, itn f (i + j) x = itn f j (itn f i x)
  | 0 => rfl
  | j + 1 => by show f (itn f (i + j) x) = _; rw [itn_add f x i j]; rfl
theorem itn_succ (f : Nat → Nat) (k x : Nat) : itn f (k + 1) x = itn f k (f x) := by rw [Nat.add_comm, itn_add]; rfl
/-- A permutation of the numbers below n. -/
structure PmN (n : Nat) (f : Nat → Nat) : Prop where
  mp : ∀ i, i < n → f i < n
  inj : ∀ i j, i < n → j < n → f i = f j → i = j
theorem pigeonN : ∀ (N m : Nat) (f : Nat → Nat), (∀ i, i < m → f i < N) → (∀ i j, i < j → j < m → f i ≠ f j) → m ≤ N
  | 0, m, f, h, _ => by
    rcases Nat.eq_zero_or_pos m with h0 | h0
    · omega
    · have := h 0 h0; omega
  | N + 1, m, f, h, hd => by
    by_cases hx : ∃ i, i < m ∧ f i = N
    · obtain ⟨i, hi, he⟩ := hx
      have := pigeonN N (m - 1) (fun k => if k < i then f k else f (k + 1)) (fun k hk => by
        by_cases h1 : k < i
        · simp only [if_pos h1]
          have a := h k (by omega)
          have b := hd k i h1 hi
          omega
        · simp only [if_neg h1]
          have a := h (k + 1) (by omega)
          have b := hd i (k + 1) (by omega) (by omega)
          omega) (fun j k hjk hk => by
        by_cases h1 : k < i
        · simp only [if_pos h1, if_pos (show j < i by omega)]; exact hd j k hjk (by omega)
        · by_cases h2 : j < i
          · simp only [if_neg h1, if_pos h2]; exact hd j (k + 1) (by omega) (by omega)
          · simp only [if_neg h1, if_neg h2]; exact hd (j + 1) (k + 1) (by omega) (by omega))
      omega
    · have := pigeonN N m f (fun k hk => by
        have := h k hk
        have : f k ≠ N := fun e => hx ⟨k, hk, e⟩
        omega) hd
      omega
theorem PmN.itn_lt {n : Nat} {f : Nat → Nat} (h : PmN n f) {x : Nat} (hx : x < n) : ∀ k, itn f k x < n
  | 0 => hx
  | k + 1 => h.mp _ (h.itn_lt hx k)
theorem PmN.itn_inj {n : Nat} {f : Nat → Nat} (h : PmN n f) {x y : Nat} (hx : x < n) (hy : y < n) : ∀ k, itn f k x = itn f k y → x = y
  | 0, e => e
  | k + 1, e => h.itn_inj hx hy k (h.inj _ _ (h.itn_lt hx k) (h.itn_lt hy k) e)
/-- Each number comes back. -/
theorem PmN.ret {n : Nat} {f : Nat → Nat} (h : PmN n f) {x : Nat} (hx : x < n) : ∃ k, 1 ≤ k ∧ k ≤ n ∧ itn f k x = x := by
  by_cases hh : ∀ i j, i < j → j < n + 1 → itn f i x ≠ itn f j x
  · have := pigeonN n (n + 1) (fun i => itn f i x) (fun i _ => h.itn_lt hx i) hh
    omega
  · simp only [Classical.not_forall, Decidable.not_not] at hh
    obtain ⟨i, j, hij, hj, he⟩ := hh
    refine ⟨j - i, by omega, by omega, ?_⟩
    rw [show j = (j - i) + i by omega, itn_add] at he
    exact (h.itn_inj hx (h.itn_lt hx _) i he).symm
/-- The first time that a number comes back. -/
theorem PmN.ret1 {n : Nat} {f : Nat → Nat} (h : PmN n f) {x : Nat} (hx : x < n) : ∃ k, 1 ≤ k ∧ k ≤ n ∧ itn f k x = x ∧ ∀ j, 1 ≤ j → j < k → itn f j x ≠ x := by
  obtain ⟨k, h1, h2, h3⟩ := h.ret hx
  have : ∀ m k, k ≤ m → 1 ≤ k → k ≤ n → itn f k x = x → ∃ k, 1 ≤ k ∧ k ≤ n ∧ itn f k x = x ∧ ∀ j, 1 ≤ j → j < k → itn f j x ≠ x := by
    intro m
    induction m with
    | zero => intro k h0 h1; omega
    | succ m ih =>
      intro k h0 h1 h2 h3
      by_cases hj : ∃ j, 1 ≤ j ∧ j < k ∧ itn f j x = x
      · obtain ⟨j, a, b, c⟩ := hj
        exact ih j (by omega) a (by omega) c
      · exact ⟨k, h1, h2, h3, fun j a b c => hj ⟨j, a, b, c⟩⟩
  exact this k k (Nat.le_refl _) h1 h2 h3
theorem itn_mod {f : Nat → Nat} {x k : Nat} (hk : itn f k x = x) : ∀ q, itn f (k * q) x = x
  | 0 => rfl
  | q + 1 => by rw [Nat.mul_succ, itn_add, itn_mod hk q, hk]
def orE (n : Nat) (f : Nat → Nat) : List (Nat × Nat) := (List.range n).map fun i => (i, f i)
theorem mem_orE {n : Nat} {f : Nat → Nat} {p : Nat × Nat} : p ∈ orE n f ↔ p.1 < n ∧ p.2 = f p.1 := by
  simp only [orE, List.mem_map, List.mem_range]
  constructor
  · rintro ⟨i, hi, rfl⟩; exact ⟨hi, rfl⟩
  · rintro ⟨h1, h2⟩; exact ⟨p.1, h1, by rw [← h2]⟩
theorem orE_step {n : Nat} {f : Nat → Nat} {x : Nat} (hx : x < n) : rpE (orE n f) x = rpE (orE n f) (f x) := rpE_edge (mem_orE.2 ⟨hx, rfl⟩)
theorem PmN.orE_it {n : Nat} {f : Nat → Nat} (h : PmN n f) {x : Nat} (hx : x < n) : ∀ k, rpE (orE n f) x = rpE (orE n f) (itn f k x)
  | 0 => rfl
  | k + 1 => (h.orE_it hx k).trans (orE_step (h.itn_lt hx k))
/-- A class is a cycle. -/
theorem PmN.orb {n : Nat} {f : Nat → Nat} (h : PmN n f) {x y : Nat} (hx : x < n) : rpE (orE n f) x = rpE (orE n f) y ↔ ∃ k, itn f k x = y := by
  constructor
  · intro he
    have : (∃ k, itn f k x = x) = (∃ k, itn f k x = y) := rpE_congr (fun z => ∃ k, itn f k x = z) (fun p hp => by
      obtain ⟨h1, h2⟩ := mem_orE.1 hp
      rw [h2]
      refine propext ⟨fun ⟨k, hk⟩ => ⟨k + 1, by show f (itn f k x) = _; rw [hk]⟩, fun ⟨k, hk⟩ => ?_⟩
      obtain ⟨m, m1, _, m3⟩ := h.ret h1
      refine ⟨k + (m - 1), ?_⟩
      rw [itn_add, hk, ← itn_succ, show m - 1 + 1 = m by omega, m3]) he
    exact this ▸ ⟨0, rfl⟩
  · rintro ⟨k, rfl⟩
    exact h.orE_it hx k
/-- Two numbers are swapped. -/
def swN (a b x : Nat) : Nat := if x = a then b else if x = b then a else x
theorem swN_a (a b : Nat) : swN a b a = b := by simp [swN]
theorem swN_b (a b : Nat) : swN a b b = a := by unfold swN; split <;> simp_all
theorem swN_o {a b x : Nat} (h1 : x ≠ a) (h2 : x ≠ b) : swN a b x = x := by simp [swN, h1, h2]
theorem swN_sw (a b x : Nat) : swN a b (swN a b x) = x := by
  by_cases h1 : x = a
  · subst h1; rw [swN_a, swN_b]
  · by_cases h2 : x = b
    · subst h2; rw [swN_b, swN_a]
    · rw [swN_o h1 h2, swN_o h1 h2]
theorem swN_lt {n a b x : Nat} (ha : a < n) (hb : b < n) (hx : x < n) : swN a b x < n := by unfold swN; split <;> (try split) <;> assumption
theorem PmN.swap {n : Nat} {f : Nat → Nat} (h : PmN n f) {a b : Nat} (ha : a < n) (hb : b < n) : PmN n (fun x => f (swN a b x)) :=
  ⟨fun i hi => h.mp _ (swN_lt ha hb hi), fun i j hi hj e => by
    have := h.inj _ _ (swN_lt ha hb hi) (swN_lt ha hb hj) e
    rw [← swN_sw a b i, this, swN_sw]⟩
/-- Two cycles become one. -/
theorem PmN.swap_join {n : Nat} {f : Nat → Nat} (h : PmN n f) {a b : Nat} (ha : a < n) (hb : b < n) (hd : rpE (orE n f) a ≠ rpE (orE n f) b) :
    rpE (orE n fun x => f (swN a b x)) a = rpE (orE n fun x => f (swN a b x)) b ∧ ccE n (orE n fun x => f (swN a b x)) + 1 = ccE n (orE n f) := by
  have hne : a ≠ b := fun e => hd (by rw [e])
  have key : ∀ (a b : Nat), a < n → b < n → rpE (orE n f) a ≠ rpE (orE n f) b → ∀ (s : Nat → Nat), (∀ x, x ≠ a → x ≠ b → s x = x) → s a = b → s b = a → PmN n (fun x => f (s x)) → rpE (orE n fun x => f (s x)) a = rpE (orE n fun x => f (s x)) b := by
    intro a b ha hb hd s hs hsa hsb h'
    obtain ⟨k, k1, _, k3, k4⟩ := h.ret1 hb
    have hna : ∀ j, itn f j b ≠ a := fun j e => hd ((h.orb hb).2 ⟨j, e⟩).symm
    have step : ∀ j, j + 1 ≤ k → itn (fun x => f (s x)) (j + 1) a = itn f (j + 1) b := by
      intro j
      induction j with
      | zero => intro _; show f (s a) = f b; rw [hsa]
      | succ j ih =>
        intro hj
        show f (s (itn (fun x => f (s x)) (j + 1) a)) = f (itn f (j + 1) b)
        rw [ih (by omega), hs _ (hna _) (k4 _ (by omega) (by omega))]
    have := step (k - 1) (by omega)
    rw [show k - 1 + 1 = k by omega, k3] at this
    exact (h'.orb ha).2 ⟨k, this⟩
  have h' := h.swap ha hb
  have hab := key a b ha hb hd (swN a b) (fun x h1 h2 => swN_o h1 h2) (swN_a a b) (swN_b a b) h'
  refine ⟨hab, ?_⟩
  have hker : ∀ i j, i < n → j < n → (rpE (orE n fun x => f (swN a b x)) i = rpE (orE n fun x => f (swN a b x)) j ↔ rpE ((a, b) :: orE n f) i = rpE ((a, b) :: orE n f) j) := by
    intro i j hi hj
    constructor
    · refine rpE_ker (fun p hp => ?_)
      obtain ⟨h1, h2⟩ := mem_orE.1 hp
      rw [h2]
      have e0 : rpE ((a, b) :: orE n f) a = rpE ((a, b) :: orE n f) b := rpE_edge (.head _)
      have es : ∀ x, x < n → rpE ((a, b) :: orE n f) x = rpE ((a, b) :: orE n f) (f x) := fun x hx => rpE_step _ _ (orE_step hx)
      by_cases q1 : p.1 = a
      · rw [q1, swN_a, e0]; exact es b hb
      · by_cases q2 : p.1 = b
        · rw [q2, swN_b, ← e0]; exact es a ha
        · rw [swN_o q1 q2]; exact es _ h1
    · refine rpE_ker (fun p hp => ?_)
      rcases List.mem_cons.1 hp with rfl | hp
      · exact hab
      · obtain ⟨h1, h2⟩ := mem_orE.1 hp
        rw [h2]
        have es : ∀ x, x < n → rpE (orE n fun x => f (swN a b x)) x = rpE (orE n fun x => f (swN a b x)) (f (swN a b x)) := fun x hx => orE_step hx
        by_cases q1 : p.1 = a
        · rw [q1, hab]; have := es b hb; rwa [swN_b] at this
        · by_cases q2 : p.1 = b
          · rw [q2, ← hab]; have := es a ha; rwa [swN_a] at this
          · have := es _ h1; rwa [swN_o q1 q2] at this
  rw [ccE_ker hker]
  exact ccE_join (e := (a, b)) hd ha hb
/-- One cycle becomes two. -/
theorem PmN.swap_cut {n : Nat} {f : Nat → Nat} (h : PmN n f) {a b : Nat} (ha : a < n) (hb : b < n) (hne : a ≠ b) (hd : rpE (orE n f) a = rpE (orE n f) b) :
    rpE (orE n fun x => f (swN a b x)) a ≠ rpE (orE n fun x => f (swN a b x)) b ∧ ccE n (orE n fun x => f (swN a b x)) = ccE n (orE n f) + 1 := by
  have h' := h.swap ha hb
  have hd' : rpE (orE n fun x => f (swN a b x)) a ≠ rpE (orE n fun x => f (swN a b x)) b := by
    obtain ⟨k0, hk0⟩ := (h.orb ha).1 hd
    have hmin : ∃ k, itn f k a = b ∧ ∀ j, j < k → itn f j a ≠ b := by
      have : ∀ m k, k ≤ m → itn f k a = b → ∃ k, itn f k a = b ∧ ∀ j, j < k → itn f j a ≠ b := by
        intro m
        induction m with
        | zero => intro k h0 h1; exact ⟨0, by rwa [show k = 0 by omega] at h1, fun j hj => by omega⟩
        | succ m ih =>
          intro k h0 h1
          by_cases hj : ∃ j, j < k ∧ itn f j a = b
          · obtain ⟨j, q1, q2⟩ := hj; exact ih j (by omega) q2
          · exact ⟨k, h1, fun j q1 q2 => hj ⟨j, q1, q2⟩⟩
      exact this k0 k0 (Nat.le_refl _) hk0
    obtain ⟨k, hk, hkm⟩ := hmin
    have hk1 : 1 ≤ k := by
      rcases Nat.eq_zero_or_pos k with h0 | h0
      · rw [h0] at hk; exact absurd hk hne
      · exact h0
    have hka : ∀ j, 1 ≤ j → j < k → itn f j a ≠ a := fun j j1 j2 e => by
      have : itn f (k - j) a = b := by rw [← hk, show k = j + (k - j) by omega, itn_add, e, show j + (k - j) - j = k - j by omega]
      exact hkm _ (by omega) this
    have step : ∀ j, j + 1 ≤ k → itn (fun x => f (swN a b x)) (j + 1) b = itn f (j + 1) a := by
      intro j
      induction j with
      | zero => intro _; show f (swN a b b) = f a; rw [swN_b]
      | succ j ih =>
        intro hj
        show f (swN a b (itn (fun x => f (swN a b x)) (j + 1) b)) = f (itn f (j + 1) a)
        rw [ih (by omega), swN_o (hka _ (by omega) (by omega)) (hkm _ (by omega))]
    intro he
    obtain ⟨m, hm⟩ := (h'.orb hb).1 he.symm
    have hret : itn (fun x => f (swN a b x)) k b = b := by
      have := step (k - 1) (by omega)
      rw [show k - 1 + 1 = k by omega] at this
      rw [this, hk]
    have hm2 : itn (fun x => f (swN a b x)) (m % k) b = a := by
      have := Nat.div_add_mod m k
      rw [← this, itn_add, itn_mod hret] at hm
      exact hm
    have hlt : m % k < k := Nat.mod_lt _ (by omega)
    rcases Nat.eq_zero_or_pos (m % k) with h0 | h0
    · rw [h0] at hm2; exact hne hm2.symm
    · have := step (m % k - 1) (by omega)
      rw [show m % k - 1 + 1 = m % k by omega, hm2] at this
      exact hka _ h0 hlt this.symm
  refine ⟨hd', ?_⟩
  have := (h'.swap_join ha hb hd').2
  have he : (fun x => (fun x => f (swN a b x)) (swN a b x)) = f := funext fun x => by simp only [swN_sw]
  rw [he] at this
  exact this.symm
end Go.Proofs.YtnbickholedckaaGreatDoor
namespace Go.Proofs.YtnbickholedckaaGreatDoor
structure NetN (n : Nat) (nx pv mu : Nat → Nat) : Prop where
  nl : ∀ i, i < n → nx i < n
  pl : ∀ i, i < n → pv i < n
  ml : ∀ i, i < n → mu i < n
  np : ∀ i, i < n → nx (pv i) = i
  pn : ∀ i, i < n → pv (nx i) = i
  mm : ∀ i, i < n → mu (mu i) = i
/-- The corner that is met next at a point; at a free side, the next corner of the edge. -/
def psN (nx mu : Nat → Nat) (x : Nat) : Nat := nx (mu x)
def qsN (pv mu : Nat → Nat) (x : Nat) : Nat := mu (pv x)
def ptE (n : Nat) (nx mu : Nat → Nat) : List (Nat × Nat) := ((List.range n).filter fun a => decide (mu a ≠ a)).map fun a => (a, nx (mu a))
section
variable {n : Nat} {nx pv mu : Nat → Nat}
theorem mem_ptE {p : Nat × Nat} : p ∈ ptE n nx mu ↔ p.1 < n ∧ mu p.1 ≠ p.1 ∧ p.2 = psN nx mu p.1 := by
  simp only [ptE, List.mem_map, List.mem_filter, List.mem_range, decide_eq_true_eq, psN]
  constructor
  · rintro ⟨i, ⟨h1, h2⟩, rfl⟩; exact ⟨h1, h2, rfl⟩
  · rintro ⟨h1, h2, h3⟩; exact ⟨p.1, ⟨h1, h2⟩, by rw [← h3]⟩
theorem NetN.perm (h : NetN n nx pv mu) : PmN n (psN nx mu) :=
  ⟨fun i hi => h.nl _ (h.ml _ hi), fun i j hi hj e => by
    have := congrArg pv e
    simp only [psN, h.pn _ (h.ml _ hi), h.pn _ (h.ml _ hj)] at this
    rw [← h.mm i hi, this, h.mm j hj]⟩
theorem NetN.ql (h : NetN n nx pv mu) {x : Nat} (hx : x < n) : qsN pv mu x < n := h.ml _ (h.pl _ hx)
theorem NetN.pq (h : NetN n nx pv mu) {x : Nat} (hx : x < n) : psN nx mu (qsN pv mu x) = x := by
  unfold psN qsN; rw [h.mm _ (h.pl _ hx), h.np _ hx]
theorem NetN.qp (h : NetN n nx pv mu) {x : Nat} (hx : x < n) : qsN pv mu (psN nx mu x) = x := by
  unfold psN qsN; rw [h.pn _ (h.ml _ hx), h.mm _ hx]
theorem NetN.inv (h : NetN n nx pv mu) {x y : Nat} (hx : x < n) (e : psN nx mu x = y) : x = qsN pv mu y := by rw [← e, h.qp hx]
theorem NetN.qfree (h : NetN n nx pv mu) {x : Nat} (hx : x < n) : mu (qsN pv mu x) = qsN pv mu x ↔ mu (pv x) = pv x := by
  unfold qsN
  rw [h.mm _ (h.pl _ hx)]
  exact eq_comm
/-- A way around a point: forward k times, and, where the end is free, backward m times. -/
structure WayN (n : Nat) (nx pv mu : Nat → Nat) (c k m : Nat) (cl : Bool) : Prop where
  fw : ∀ j, j < k → mu (itn (psN nx mu) j c) ≠ itn (psN nx mu) j c ∧ itn (psN nx mu) (j + 1) c ≠ c
  en : cl = true → mu (itn (psN nx mu) k c) ≠ itn (psN nx mu) k c ∧ itn (psN nx mu) (k + 1) c = c
  op : cl = false → mu (itn (psN nx mu) k c) = itn (psN nx mu) k c
  bw : ∀ j, j < m → mu (pv (itn (qsN pv mu) j c)) ≠ pv (itn (qsN pv mu) j c)
  be : cl = false → mu (pv (itn (qsN pv mu) m c)) = pv (itn (qsN pv mu) m c)
  b0 : cl = true → m = 0
  kn : k < n
  mn : m ≤ n
theorem minN {p : Nat → Prop} {k : Nat} (hk : p k) : ∃ k', k' ≤ k ∧ p k' ∧ ∀ j, j < k' → ¬ p j := by
  have : ∀ m k, k ≤ m → p k → ∃ k', k' ≤ k ∧ p k' ∧ ∀ j, j < k' → ¬ p j := by
    intro m
    induction m with
    | zero => intro k h0 h1; exact ⟨k, Nat.le_refl _, h1, fun j hj => by omega⟩
    | succ m ih =>
      intro k h0 h1
      by_cases hj : ∃ j, j < k ∧ p j
      · obtain ⟨j, q1, q2⟩ := hj
        obtain ⟨k', a, b, c⟩ := ih j (by omega) q2
        exact ⟨k', by omega, b, c⟩
      · exact ⟨k, Nat.le_refl _, h1, fun j q1 q2 => hj ⟨j, q1, q2⟩⟩
  exact this k k (Nat.le_refl _) hk
theorem NetN.back (h : NetN n nx pv mu) {c : Nat} (hc : c < n) : ∀ (i j : Nat), i ≤ j → itn (psN nx mu) i (itn (qsN pv mu) j c) = itn (qsN pv mu) (j - i) c := by
  have hl : ∀ j, itn (qsN pv mu) j c < n := fun j => by
    induction j with
    | zero => exact hc
    | succ j ih => exact h.ql ih
  intro i
  induction i with
  | zero => intro j _; rfl
  | succ i ih =>
    intro j hj
    show psN nx mu (itn (psN nx mu) i _) = _
    rw [ih j (by omega), show j - i = (j - (i + 1)) + 1 by omega]
    exact h.pq (hl _)
theorem NetN.way (h : NetN n nx pv mu) {c : Nat} (hc : c < n) : ∃ k m cl, WayN n nx pv mu c k m cl := by
  obtain ⟨p, p1, p2, p3, p4⟩ := h.perm.ret1 hc
  have h0 : ∃ k, k < n ∧ (mu (itn (psN nx mu) k c) = itn (psN nx mu) k c ∨ itn (psN nx mu) (k + 1) c = c) := ⟨p - 1, by omega, .inr (by rw [show p - 1 + 1 = p by omega]; exact p3)⟩
  obtain ⟨k0, hk0, hk1⟩ := h0
  obtain ⟨k, hkk, hk, hmin⟩ := minN (p := fun k => mu (itn (psN nx mu) k c) = itn (psN nx mu) k c ∨ itn (psN nx mu) (k + 1) c = c) hk1
  by_cases hf : mu (itn (psN nx mu) k c) = itn (psN nx mu) k c
  · have hkp : k < p := by
      by_cases hh : k < p
      · exact hh
      · exact absurd (Or.inr (by rw [show p - 1 + 1 = p by omega]; exact p3)) (hmin (p - 1) (by omega))
    have hb : itn (qsN pv mu) (p - k) c = itn (psN nx mu) k c := by
      have e1 := h.back hc (p - k) (p - k) (Nat.le_refl _)
      rw [Nat.sub_self] at e1
      have e2 : itn (psN nx mu) (p - k) (itn (psN nx mu) k c) = c := by rw [← itn_add, show k + (p - k) = p by omega, p3]
      have hl : ∀ j, itn (qsN pv mu) j c < n := fun j => by
        induction j with
        | zero => exact hc
        | succ j ih => exact h.ql ih
      exact h.perm.itn_inj (hl _) (h.perm.itn_lt hc _) (p - k) (by rw [e1, e2]; rfl)
    have hq : mu (pv (itn (qsN pv mu) (p - k - 1) c)) = pv (itn (qsN pv mu) (p - k - 1) c) := by
      have hl : ∀ j, itn (qsN pv mu) j c < n := fun j => by
        induction j with
        | zero => exact hc
        | succ j ih => exact h.ql ih
      rw [← h.qfree (hl _)]
      have : qsN pv mu (itn (qsN pv mu) (p - k - 1) c) = itn (qsN pv mu) (p - k) c := by
        rw [show p - k = (p - k - 1) + 1 by omega]; rfl
      rw [this, hb]; exact hf
    obtain ⟨m, hmm, hm, hmmin⟩ := minN (p := fun j => mu (pv (itn (qsN pv mu) j c)) = pv (itn (qsN pv mu) j c)) hq
    exact ⟨k, m, false, fun j hj => ⟨fun e => hmin j hj (.inl e), fun e => hmin j hj (.inr e)⟩, fun e => (by cases e), fun _ => hf, fun j hj => hmmin j hj, fun _ => hm, fun e => (by cases e), by omega, by omega⟩
  · exact ⟨k, 0, true, fun j hj => ⟨fun e => hmin j hj (.inl e), fun e => hmin j hj (.inr e)⟩, fun _ => ⟨hf, hk.resolve_left hf⟩, fun e => (by cases e), fun j hj => (by omega), fun e => (by cases e), fun _ => rfl, by omega, by omega⟩
/-- The corners, in the order in which they come. -/
def wayL (nx pv mu : Nat → Nat) (c k m : Nat) : List Nat := (List.range (k + 1)).map (fun j => itn (psN nx mu) j c) ++ (List.range m).map (fun j => itn (qsN pv mu) (j + 1) c)
theorem mem_wayL {c k m x : Nat} : x ∈ wayL nx pv mu c k m ↔ (∃ j, j ≤ k ∧ itn (psN nx mu) j c = x) ∨ (∃ j, 1 ≤ j ∧ j ≤ m ∧ itn (qsN pv mu) j c = x) := by
  simp only [wayL, List.mem_append, List.mem_map, List.mem_range]
  constructor
  · rintro (⟨j, hj, e⟩ | ⟨j, hj, e⟩)
    · exact .inl ⟨j, by omega, e⟩
    · exact .inr ⟨j + 1, by omega, by omega, e⟩
  · rintro (⟨j, hj, e⟩ | ⟨j, h1, hj, e⟩)
    · exact .inl ⟨j, by omega, e⟩
    · exact .inr ⟨j - 1, by omega, by rw [show j - 1 + 1 = j by omega]; exact e⟩
section
variable {c k m : Nat} {cl : Bool}
theorem NetN.qit (h : NetN n nx pv mu) (hc : c < n) : ∀ j, itn (qsN pv mu) j c < n
  | 0 => hc
  | j + 1 => h.ql (h.qit hc j)
theorem WayN.back_nf (w : WayN n nx pv mu c k m cl) (h : NetN n nx pv mu) (hc : c < n) {j : Nat} (h1 : 1 ≤ j) (h2 : j ≤ m) : mu (itn (qsN pv mu) j c) ≠ itn (qsN pv mu) j c := by
  have := w.bw (j - 1) (by omega)
  have hh := h.qfree (h.qit hc (j - 1))
  rw [show j = (j - 1) + 1 by omega]
  exact fun e => this (hh.1 e)
/-- Only the last one ahead is free. -/
theorem WayN.free (w : WayN n nx pv mu c k m cl) (h : NetN n nx pv mu) (hc : c < n) {x : Nat} (hx : x ∈ wayL nx pv mu c k m) : mu x = x ↔ cl = false ∧ x = itn (psN nx mu) k c := by
  constructor
  · intro hf
    rcases mem_wayL.1 hx with ⟨j, hj, rfl⟩ | ⟨j, h1, h2, rfl⟩
    · by_cases hjk : j = k
      · subst hjk
        cases cl with
        | true => exact absurd hf (w.en rfl).1
        | false => exact ⟨rfl, rfl⟩
      · exact absurd hf (w.fw j (by omega)).1
    · exact absurd hf (w.back_nf h hc h1 h2)
  · rintro ⟨h1, rfl⟩
    exact w.op h1
/-- The way holds the whole class. -/
theorem WayN.mem (w : WayN n nx pv mu c k m cl) (h : NetN n nx pv mu) (hc : c < n) {x : Nat} (hx : x < n) : x ∈ wayL nx pv mu c k m ↔ rpE (ptE n nx mu) x = rpE (ptE n nx mu) c := by
  constructor
  · intro hm
    rcases mem_wayL.1 hm with ⟨j, hj, rfl⟩ | ⟨j, h1, h2, rfl⟩
    · clear hm hx
      induction j with
      | zero => rfl
      | succ j ih =>
        rw [← ih (by omega)]
        exact (rpE_edge (mem_ptE.2 ⟨h.perm.itn_lt hc j, (w.fw j (by omega)).1, rfl⟩)).symm
    · clear hm hx h1
      induction j with
      | zero => rfl
      | succ j ih =>
        rw [← ih (by omega)]
        refine rpE_edge (mem_ptE.2 ⟨h.qit hc (j + 1), w.back_nf h hc (by omega) h2, ?_⟩)
        exact (h.pq (h.qit hc j)).symm
  · intro he
    have key : (x ∈ wayL nx pv mu c k m) = (c ∈ wayL nx pv mu c k m) := rpE_congr (fun z => z ∈ wayL nx pv mu c k m) (fun p hp => by
      obtain ⟨h1, h2, h3⟩ := mem_ptE.1 hp
      refine propext ⟨fun hm => ?_, fun hm => ?_⟩
      · rw [h3]
        rcases mem_wayL.1 hm with ⟨j, hj, e⟩ | ⟨j, j1, j2, e⟩
        · by_cases hjk : j = k
          · subst hjk
            cases cl with
            | true => exact mem_wayL.2 (.inl ⟨0, by omega, by rw [← e]; exact (w.en rfl).2.symm⟩)
            | false => exact absurd (by rw [← e]; exact w.op rfl) h2
          · exact mem_wayL.2 (.inl ⟨j + 1, by omega, by rw [← e]; rfl⟩)
        · have : psN nx mu p.1 = itn (qsN pv mu) (j - 1) c := by
            rw [← e, show j = (j - 1) + 1 by omega]; exact h.pq (h.qit hc _)
          rw [this]
          by_cases hj1 : j = 1
          · exact mem_wayL.2 (.inl ⟨0, by omega, by rw [hj1]; rfl⟩)
          · exact mem_wayL.2 (.inr ⟨j - 1, by omega, by omega, rfl⟩)
      · rw [h3] at hm
        have atc : psN nx mu p.1 = c → p.1 ∈ wayL nx pv mu c k m := fun e => by
          have hq := h.inv h1 e
          cases cl with
          | true =>
            have h5 := (w.en rfl).2
            have : p.1 = itn (psN nx mu) k c := h.perm.inj _ _ h1 (h.perm.itn_lt hc k) (by rw [e]; exact h5.symm)
            exact mem_wayL.2 (.inl ⟨k, Nat.le_refl _, this.symm⟩)
          | false =>
            by_cases hm0 : m = 0
            · have := w.be rfl
              rw [hm0] at this
              refine absurd ?_ h2
              rw [hq]
              exact (h.qfree hc).2 this
            · exact mem_wayL.2 (.inr ⟨1, Nat.le_refl _, by omega, hq.symm⟩)
        rcases mem_wayL.1 hm with ⟨j, hj, e⟩ | ⟨j, j1, j2, e⟩
        · rcases Nat.eq_zero_or_pos j with h0 | h0
          · subst h0; exact atc e.symm
          · have : p.1 = itn (psN nx mu) (j - 1) c := h.perm.inj _ _ h1 (h.perm.itn_lt hc _) (by rw [← e, show j = (j - 1) + 1 by omega]; rfl)
            exact mem_wayL.2 (.inl ⟨j - 1, by omega, this.symm⟩)
        · have hq := h.inv h1 e.symm
          by_cases hjm : j = m
          · subst hjm
            cases cl with
            | true => have := w.b0 rfl; omega
            | false =>
              refine absurd ?_ h2
              rw [hq]
              exact (h.qfree (h.qit hc j)).2 (w.be rfl)
          · exact mem_wayL.2 (.inr ⟨j + 1, by omega, by omega, hq.symm⟩)) he
    rw [key]
    exact mem_wayL.2 (.inl ⟨0, by omega, rfl⟩)
theorem nodup_map_range {f : Nat → Nat} : ∀ n, (∀ i j, i < j → j < n → f i ≠ f j) → ((List.range n).map f).Nodup
  | 0, _ => by simp
  | n + 1, h => by
    rw [List.range_succ, List.map_append, List.nodup_append]
    refine ⟨nodup_map_range n (fun i j hij hj => h i j hij (by omega)), by simp, ?_⟩
    intro a ha b hb
    simp only [List.mem_map, List.mem_range, List.map_cons, List.map_nil, List.mem_singleton] at ha hb
    obtain ⟨i, hi, rfl⟩ := ha
    subst hb
    exact h i n hi (by omega)
theorem WayN.nodup (w : WayN n nx pv mu c k m cl) (h : NetN n nx pv mu) (hc : c < n) : (wayL nx pv mu c k m).Nodup := by
  have hno : ∀ j, 1 ≤ j → j ≤ k → itn (psN nx mu) j c ≠ c := fun j j1 j2 => by
    have := (w.fw (j - 1) (by omega)).2
    rwa [show j - 1 + 1 = j by omega] at this
  have hgf : ∀ i j, 1 ≤ i → i ≤ m → j ≤ k → itn (qsN pv mu) i c ≠ itn (psN nx mu) j c := by
    intro i j i1 i2 j2 e
    have hcl : cl = false := by
      cases cl with
      | true => have := w.b0 rfl; omega
      | false => rfl
    by_cases hik : i ≤ k - j
    · have e1 := h.back hc i i (Nat.le_refl _)
      rw [Nat.sub_self, e, ← itn_add] at e1
      exact hno (j + i) (by omega) (by omega) e1
    · have e1 := h.back hc (k - j) i (by omega)
      rw [e, ← itn_add, show j + (k - j) = k by omega] at e1
      have := w.back_nf h hc (j := i - (k - j)) (by omega) (by omega)
      rw [← e1] at this
      exact this (w.op hcl)
  unfold wayL
  rw [List.nodup_append]
  refine ⟨nodup_map_range _ (fun i j hij hj e => ?_), nodup_map_range _ (fun i j hij hj e => ?_), fun a ha b hb => ?_⟩
  · rw [show j = (j - i) + i by omega, itn_add] at e
    exact hno (j - i) (by omega) (by omega) (h.perm.itn_inj hc (h.perm.itn_lt hc _) i e).symm
  · have e1 := h.back hc (i + 1) (i + 1) (Nat.le_refl _)
    have e2 := h.back hc (i + 1) (j + 1) (by omega)
    rw [Nat.sub_self] at e1
    rw [← e, e1] at e2
    exact hgf (j + 1 - (i + 1)) 0 (by omega) (by omega) (by omega) e2.symm
  · simp only [List.mem_map, List.mem_range] at ha hb
    obtain ⟨j, hj, rfl⟩ := ha
    obtain ⟨i, hi, rfl⟩ := hb
    exact fun e => hgf (i + 1) j (by omega) (by omega) (by omega) e.symm
end
end
end Go.Proofs.YtnbickholedckaaGreatDoor
namespace Go.Proofs.YtnbickholedckaaGreatDoor
theorem nodup_map_on {α β : Type} {f : α → β} {l : List α} (hl : l.Nodup) (h : ∀ x ∈ l, ∀ y ∈ l, f x = f y → x = y) : (l.map f).Nodup := by
  unfold List.Nodup
  rw [List.pairwise_map]
  exact List.Pairwise.imp_of_mem (fun {a b} ha hb hne e => hne (h a ha b hb e)) hl
theorem nodup_range_filter (p : Nat → Bool) (n : Nat) : ((List.range n).filter p).Nodup := List.Pairwise.filter _ List.nodup_range
theorem len_of_mem {α : Type} {l l' : List α} (h1 : l.Nodup) (h2 : l'.Nodup) (h : ∀ x, x ∈ l ↔ x ∈ l') : l.length = l'.length := ((List.perm_ext_iff_of_nodup h1 h2).2 h).length_eq
section
variable {n : Nat} {nx pv mu : Nat → Nat}
/-- Two free corners of one point are one. -/
theorem NetN.free1 (h : NetN n nx pv mu) {x y : Nat} (hx : x < n) (hy : y < n) (fx : mu x = x) (fy : mu y = y) (he : rpE (ptE n nx mu) y = rpE (ptE n nx mu) x) : x = y := by
  obtain ⟨k, m, cl, w⟩ := h.way hx
  have a1 := (w.free h hx ((w.mem h hx hx).2 rfl)).1 fx
  have a2 := (w.free h hx ((w.mem h hx hy).2 he)).1 fy
  rw [a1.2, a2.2]
/-- No corner of the point begins a free side. -/
def innB (n : Nat) (nx mu : Nat → Nat) (i : Nat) : Bool := decide (∀ x, x < n → rpE (ptE n nx mu) x = rpE (ptE n nx mu) i → mu x ≠ x)
theorem innB_iff {i : Nat} : innB n nx mu i = true ↔ ∀ x, x < n → rpE (ptE n nx mu) x = rpE (ptE n nx mu) i → mu x ≠ x := by simp [innB]
theorem innB_false {i : Nat} : innB n nx mu i = false ↔ ∃ x, x < n ∧ rpE (ptE n nx mu) x = rpE (ptE n nx mu) i ∧ mu x = x := by
  rw [← Bool.not_eq_true, innB_iff]
  simp only [Classical.not_forall, Decidable.not_not]
  exact ⟨fun ⟨x, a, b, c⟩ => ⟨x, a, b, c⟩, fun ⟨x, a, b, c⟩ => ⟨x, a, b, c⟩⟩
def frN (n : Nat) (mu : Nat → Nat) : Nat := cnN (fun i => decide (mu i = i)) n
/-- There are as many points at the edge as there are free sides. -/
theorem NetN.outer (h : NetN n nx pv mu) : cnN (fun i => decide (rpE (ptE n nx mu) i = i) && !innB n nx mu i) n = frN n mu := by
  unfold frN
  rw [← cnN_filter, ← cnN_filter, ← @List.length_map _ _ ((List.range n).filter fun i => decide (mu i = i)) (rpE (ptE n nx mu))]
  refine len_of_mem (nodup_range_filter _ _) (nodup_map_on (nodup_range_filter _ _) ?_) ?_
  · intro x hx y hy e
    simp only [List.mem_filter, List.mem_range, decide_eq_true_eq] at hx hy
    exact h.free1 hx.1 hy.1 hx.2 hy.2 e.symm
  · intro y
    simp only [List.mem_filter, List.mem_range, decide_eq_true_eq, List.mem_map, Bool.and_eq_true, Bool.not_eq_true', innB_false]
    constructor
    · rintro ⟨_, h2, x, h3, h4, h5⟩
      exact ⟨x, ⟨h3, h5⟩, by rw [h4, h2]⟩
    · rintro ⟨x, ⟨h3, h5⟩, rfl⟩
      have := rpE_le (ptE n nx mu) x
      exact ⟨by omega, rpE_idem _ _, x, h3, (rpE_idem _ _).symm, h5⟩
/-- Inside: none of the corners begins a free side, or ends one. -/
theorem NetN.inn_prev (h : NetN n nx pv mu) {i : Nat} (hi : i < n) (hn : innB n nx mu i = true) : ∀ x, x < n → rpE (ptE n nx mu) x = rpE (ptE n nx mu) i → mu (pv x) ≠ pv x := by
  intro x hx he hf
  rw [innB_iff] at hn
  obtain ⟨k, m, cl, w⟩ := h.way hx
  have hk : itn (psN nx mu) k x < n := h.perm.itn_lt hx k
  have hm : itn (psN nx mu) k x ∈ wayL nx pv mu x k m := mem_wayL.2 (.inl ⟨k, Nat.le_refl _, rfl⟩)
  have hne := hn _ hk (((w.mem h hx hk).1 hm).trans he)
  cases cl with
  | false => exact hne (w.op rfl)
  | true =>
    have h5 := (w.en rfl).2
    have := h.inv (x := itn (psN nx mu) k x) hk h5
    rw [← h.qfree hx, ← this] at hf
    exact hne hf
/-! ### Cycles -/
def nofB (n : Nat) (nx mu : Nat → Nat) (i : Nat) : Bool := decide (∀ x, x < n → rpE (orE n (psN nx mu)) x = rpE (orE n (psN nx mu)) i → mu x ≠ x)
theorem nofB_iff {i : Nat} : nofB n nx mu i = true ↔ ∀ x, x < n → rpE (orE n (psN nx mu)) x = rpE (orE n (psN nx mu)) i → mu x ≠ x := by simp [nofB]
theorem nofB_false {i : Nat} : nofB n nx mu i = false ↔ ∃ x, x < n ∧ rpE (orE n (psN nx mu)) x = rpE (orE n (psN nx mu)) i ∧ mu x = x := by
  rw [← Bool.not_eq_true, nofB_iff]
  simp only [Classical.not_forall, Decidable.not_not]
  exact ⟨fun ⟨x, a, b, c⟩ => ⟨x, a, b, c⟩, fun ⟨x, a, b, c⟩ => ⟨x, a, b, c⟩⟩
theorem pt_or {x y : Nat} (h : rpE (ptE n nx mu) x = rpE (ptE n nx mu) y) : rpE (orE n (psN nx mu)) x = rpE (orE n (psN nx mu)) y :=
  rpE_ker (fun p hp => by
    obtain ⟨h1, _, h3⟩ := mem_ptE.1 hp
    rw [h3]; exact orE_step h1) h
theorem NetN.or_pt (h : NetN n nx pv mu) {i : Nat} (hi : i < n) (hn : innB n nx mu i = true) {x : Nat} (he : rpE (orE n (psN nx mu)) x = rpE (orE n (psN nx mu)) i) : rpE (ptE n nx mu) x = rpE (ptE n nx mu) i := by
  obtain ⟨k, rfl⟩ := (h.perm.orb hi).1 he.symm
  clear he
  induction k with
  | zero => rfl
  | succ k ih =>
    rw [← ih]
    exact (rpE_edge (mem_ptE.2 ⟨h.perm.itn_lt hi k, innB_iff.1 hn _ (h.perm.itn_lt hi k) ih, rfl⟩)).symm
theorem NetN.nof_inn (h : NetN n nx pv mu) {i : Nat} (hi : i < n) : nofB n nx mu i = true ↔ innB n nx mu i = true := by
  constructor
  · intro hn
    rw [nofB_iff] at hn
    exact innB_iff.2 fun x hx he => hn x hx (pt_or he)
  · intro hn
    exact nofB_iff.2 fun x hx he => innB_iff.1 hn x hx (h.or_pt hi hn he)
/-- A point inside is a cycle. -/
theorem NetN.inner (h : NetN n nx pv mu) : cnN (fun i => decide (rpE (ptE n nx mu) i = i) && innB n nx mu i) n = cnN (fun i => decide (rpE (orE n (psN nx mu)) i = i) && nofB n nx mu i) n := by
  refine cnN_congr n fun i hi => ?_
  have hb : nofB n nx mu i = innB n nx mu i := by
    have := h.nof_inn hi
    cases a : nofB n nx mu i <;> cases b : innB n nx mu i <;> simp_all
  rw [hb]
  cases hn : innB n nx mu i with
  | false => simp
  | true =>
    congr 1
    rw [decide_eq_decide, rpE_first, rpE_first]
    constructor
    · intro h1 j hj he; exact h1 j hj (h.or_pt hi hn he)
    · intro h1 j hj he; exact h1 j hj (pt_or he)
/-- The loops: the first free sides of the cycles. -/
def fstB (n : Nat) (nx mu : Nat → Nat) (i : Nat) : Bool := decide (mu i = i) && decide (∀ j, j < i → mu j = j → rpE (orE n (psN nx mu)) j ≠ rpE (orE n (psN nx mu)) i)
theorem fstB_iff {i : Nat} : fstB n nx mu i = true ↔ mu i = i ∧ ∀ j, j < i → mu j = j → rpE (orE n (psN nx mu)) j ≠ rpE (orE n (psN nx mu)) i := by simp [fstB]
def lpN (n : Nat) (nx mu : Nat → Nat) : Nat := cnN (fstB n nx mu) n
theorem fst_map (n : Nat) (nx mu : Nat → Nat) : (((List.range n).filter (fstB n nx mu)).map (rpE (orE n (psN nx mu)))).Nodup ∧ ∀ y, y ∈ ((List.range n).filter (fstB n nx mu)).map (rpE (orE n (psN nx mu))) ↔ ∃ x, x < n ∧ mu x = x ∧ rpE (orE n (psN nx mu)) x = y := by
  constructor
  · refine nodup_map_on (nodup_range_filter _ _) ?_
    intro x hx y hy e
    simp only [List.mem_filter, List.mem_range, fstB_iff] at hx hy
    by_cases h1 : x < y
    · exact absurd e (hy.2.2 x h1 hx.2.1)
    · by_cases h2 : y < x
      · exact absurd e.symm (hx.2.2 y h2 hy.2.1)
      · omega
  · intro y
    simp only [List.mem_map, List.mem_filter, List.mem_range, fstB_iff]
    constructor
    · rintro ⟨x, ⟨h1, h2, _⟩, h4⟩; exact ⟨x, h1, h2, h4⟩
    · rintro ⟨x, h1, h2, h3⟩
      obtain ⟨x', a, b, c⟩ := minN (p := fun x => x < n ∧ mu x = x ∧ rpE (orE n (psN nx mu)) x = y) ⟨h1, h2, h3⟩
      exact ⟨x', ⟨b.1, b.2.1, fun j hj hf he => c j hj ⟨by omega, hf, by rw [he, b.2.2]⟩⟩, b.2.2⟩
theorem lpN_cyc : lpN n nx mu = cnN (fun i => decide (rpE (orE n (psN nx mu)) i = i) && !nofB n nx mu i) n := by
  unfold lpN
  rw [← cnN_filter, ← cnN_filter, ← @List.length_map _ _ ((List.range n).filter (fstB n nx mu)) (rpE (orE n (psN nx mu)))]
  obtain ⟨h1, h2⟩ := fst_map n nx mu
  refine len_of_mem h1 (nodup_range_filter _ _) (fun y => ?_)
  rw [h2]
  simp only [List.mem_filter, List.mem_range, Bool.and_eq_true, decide_eq_true_eq, Bool.not_eq_true', nofB_false]
  constructor
  · rintro ⟨x, a, b, rfl⟩
    have := rpE_le (orE n (psN nx mu)) x
    exact ⟨by omega, rpE_idem _ _, x, a, (rpE_idem _ _).symm, b⟩
  · rintro ⟨_, b, x, c, d, e⟩
    exact ⟨x, c, e, by rw [d, b]⟩
/-- The points and the loops: the cycles and the free sides. -/
theorem NetN.count (h : NetN n nx pv mu) : ccE n (ptE n nx mu) + lpN n nx mu = ccE n (orE n (psN nx mu)) + frN n mu := by
  have e1 := cnN_split (fun i => decide (rpE (ptE n nx mu) i = i)) (innB n nx mu) n
  have e2 := cnN_split (fun i => decide (rpE (orE n (psN nx mu)) i = i)) (nofB n nx mu) n
  have e3 := h.outer
  have e4 := h.inner
  have e5 := lpN_cyc (n := n) (nx := nx) (mu := mu)
  unfold ccE
  omega
/-! ### The way along the edge -/
def hopN (nx mu : Nat → Nat) : Nat → Nat → Nat
  | 0, x => x
  | k + 1, x => if mu x = x then x else hopN nx mu k (psN nx mu x)
theorem hopN_it : ∀ (k x j : Nat), j ≤ k → mu (itn (psN nx mu) j x) = itn (psN nx mu) j x → (∀ i, i < j → mu (itn (psN nx mu) i x) ≠ itn (psN nx mu) i x) → hopN nx mu k x = itn (psN nx mu) j x
  | 0, x, j, hj, _, _ => by rw [show j = 0 by omega]; rfl
  | k + 1, x, 0, _, h1, _ => by simp only [hopN]; exact if_pos h1
  | k + 1, x, j + 1, hj, h1, h2 => by
    have h3 : ¬ mu x = x := h2 0 (by omega)
    simp only [hopN, if_neg h3]
    rw [itn_succ] at h1
    rw [hopN_it k (psN nx mu x) j (by omega) h1 (fun i hi => by have := h2 (i + 1) (by omega); rwa [itn_succ] at this), itn_succ]
/-- The next free side. -/
theorem NetN.hop (h : NetN n nx pv mu) {x : Nat} (hx : x < n) (hf : mu x = x) : ∃ k, 1 ≤ k ∧ k ≤ n ∧ hopN nx mu n (nx x) = itn (psN nx mu) k x ∧ mu (itn (psN nx mu) k x) = itn (psN nx mu) k x ∧ ∀ j, 1 ≤ j → j < k → mu (itn (psN nx mu) j x) ≠ itn (psN nx mu) j x := by
  obtain ⟨p, p1, p2, p3, _⟩ := h.perm.ret1 hx
  obtain ⟨k, hk1, hk2, hk3⟩ := minN (p := fun k => 1 ≤ k ∧ mu (itn (psN nx mu) k x) = itn (psN nx mu) k x) (k := p) ⟨p1, by rw [p3]; exact hf⟩
  have e : nx x = psN nx mu x := by unfold psN; rw [hf]
  refine ⟨k, hk2.1, by omega, ?_, hk2.2, fun j j1 j2 hh => hk3 j j2 ⟨j1, hh⟩⟩
  rw [e, show k = (k - 1) + 1 by omega, itn_succ]
  refine hopN_it n _ (k - 1) (by omega) ?_ (fun i hi => ?_)
  · rw [← itn_succ, show k - 1 + 1 = k by omega]; exact hk2.2
  · rw [← itn_succ]; exact fun hh => hk3 (i + 1) (by omega) ⟨by omega, hh⟩
def hpN (n : Nat) (nx mu : Nat → Nat) (x : Nat) : Nat := if mu x = x then hopN nx mu n (nx x) else x
theorem NetN.hp_free (h : NetN n nx pv mu) {x : Nat} (hx : x < n) (hf : mu x = x) : hpN n nx mu x < n ∧ mu (hpN n nx mu x) = hpN n nx mu x ∧ rpE (orE n (psN nx mu)) (hpN n nx mu x) = rpE (orE n (psN nx mu)) x := by
  obtain ⟨k, k1, _, k2, k3, _⟩ := h.hop hx hf
  unfold hpN
  rw [if_pos hf, k2]
  exact ⟨h.perm.itn_lt hx k, k3, (h.perm.orE_it hx k).symm⟩
theorem NetN.hp_inj (h : NetN n nx pv mu) {x y : Nat} (hx : x < n) (hy : y < n) (fx : mu x = x) (fy : mu y = y) (e : hpN n nx mu x = hpN n nx mu y) : x = y := by
  obtain ⟨k, k1, _, k2, k3, k4⟩ := h.hop hx fx
  obtain ⟨l, l1, _, l2, l3, l4⟩ := h.hop hy fy
  unfold hpN at e
  rw [if_pos fx, if_pos fy, k2, l2] at e
  have key : ∀ {x y k l : Nat}, x < n → y < n → mu x = x → 1 ≤ k → k ≤ l → (∀ j, 1 ≤ j → j < l → mu (itn (psN nx mu) j y) ≠ itn (psN nx mu) j y) → itn (psN nx mu) k x = itn (psN nx mu) l y → x = y := by
    intro x y k l hx hy fx k1 hkl l4 e
    rw [show l = (l - k) + k by omega, itn_add] at e
    have e2 := h.perm.itn_inj hx (h.perm.itn_lt hy _) k e
    rcases Nat.eq_zero_or_pos (l - k) with h0 | h0
    · rw [h0] at e2; exact e2
    · have := l4 (l - k) h0 (by omega)
      rw [← e2] at this
      exact absurd fx this
  rcases Nat.le_total k l with hkl | hkl
  · exact key hx hy fx k1 hkl l4 e
  · exact (key hy hx fy l1 hkl k4 e.symm).symm
theorem NetN.hp_perm (h : NetN n nx pv mu) : PmN n (hpN n nx mu) := by
  refine ⟨fun i hi => ?_, fun i j hi hj e => ?_⟩
  · by_cases hf : mu i = i
    · exact (h.hp_free hi hf).1
    · unfold hpN; rw [if_neg hf]; exact hi
  · by_cases fi : mu i = i
    · by_cases fj : mu j = j
      · exact h.hp_inj hi hj fi fj e
      · have := (h.hp_free hi fi).2.1
        rw [e] at this
        unfold hpN at this
        rw [if_neg fj] at this
        exact absurd this fj
    · by_cases fj : mu j = j
      · have := (h.hp_free hj fj).2.1
        rw [← e] at this
        unfold hpN at this
        rw [if_neg fi] at this
        exact absurd this fi
      · unfold hpN at e; rwa [if_neg fi, if_neg fj] at e
theorem NetN.hp_it (h : NetN n nx pv mu) {x : Nat} (hx : x < n) (hf : mu x = x) : ∀ j, itn (hpN n nx mu) j x < n ∧ mu (itn (hpN n nx mu) j x) = itn (hpN n nx mu) j x ∧ rpE (orE n (psN nx mu)) (itn (hpN n nx mu) j x) = rpE (orE n (psN nx mu)) x
  | 0 => ⟨hx, hf, rfl⟩
  | j + 1 => by
    obtain ⟨h1, h2, h3⟩ := h.hp_it hx hf j
    obtain ⟨a, b, c⟩ := h.hp_free h1 h2
    exact ⟨a, b, c.trans h3⟩
/-- Each free side of the cycle comes. -/
theorem NetN.hp_all (h : NetN n nx pv mu) : ∀ (k : Nat) {x : Nat}, x < n → mu x = x → mu (itn (psN nx mu) k x) = itn (psN nx mu) k x → ∃ j, itn (hpN n nx mu) j x = itn (psN nx mu) k x := by
  intro k
  induction k using Nat.strongRecOn with
  | _ k ih =>
    intro x hx hf hk
    rcases Nat.eq_zero_or_pos k with h0 | h0
    · subst h0; exact ⟨0, rfl⟩
    · obtain ⟨l, l1, _, l2, l3, l4⟩ := h.hop hx hf
      have hle : l ≤ k := by
        by_cases hh : l ≤ k
        · exact hh
        · exact absurd hk (l4 k h0 (by omega))
      have hp : hpN n nx mu x = itn (psN nx mu) l x := by unfold hpN; rw [if_pos hf, l2]
      have he : itn (psN nx mu) k x = itn (psN nx mu) (k - l) (hpN n nx mu x) := by rw [hp, ← itn_add, show l + (k - l) = k by omega]
      obtain ⟨a, b, _⟩ := h.hp_free hx hf
      rw [he] at hk
      obtain ⟨j, hj⟩ := ih (k - l) (by omega) a b hk
      exact ⟨j + 1, by rw [itn_succ, hj, he]⟩
/-- A loop: from its first side until it comes back. -/
structure LoopN (n : Nat) (nx mu : Nat → Nat) (x p : Nat) : Prop where
  p1 : 1 ≤ p
  pn : p ≤ n
  ret : itn (hpN n nx mu) p x = x
  fst : ∀ j, 1 ≤ j → j < p → itn (hpN n nx mu) j x ≠ x
theorem NetN.loop (h : NetN n nx pv mu) {x : Nat} (hx : x < n) : ∃ p, LoopN n nx mu x p := by
  obtain ⟨p, a, b, c, d⟩ := h.hp_perm.ret1 hx
  exact ⟨p, a, b, c, d⟩
def loopL (n : Nat) (nx mu : Nat → Nat) (x p : Nat) : List Nat := (List.range p).map fun j => itn (hpN n nx mu) j x
theorem LoopN.nodup {x p : Nat} (l : LoopN n nx mu x p) (h : NetN n nx pv mu) (hx : x < n) : (loopL n nx mu x p).Nodup :=
  nodup_map_range _ (fun i j hij hj e => by
    rw [show j = (j - i) + i by omega, itn_add] at e
    exact l.fst (j - i) (by omega) (by omega) (h.hp_perm.itn_inj hx (h.hp_perm.itn_lt hx _) i e).symm)
theorem LoopN.mem {x p y : Nat} (l : LoopN n nx mu x p) (h : NetN n nx pv mu) (hx : x < n) (hf : mu x = x) (hy : y < n) : y ∈ loopL n nx mu x p ↔ mu y = y ∧ rpE (orE n (psN nx mu)) y = rpE (orE n (psN nx mu)) x := by
  simp only [loopL, List.mem_map, List.mem_range]
  constructor
  · rintro ⟨j, hj, rfl⟩
    exact (h.hp_it hx hf j).2
  · rintro ⟨h1, h2⟩
    obtain ⟨k, rfl⟩ := (h.perm.orb hx).1 h2.symm
    obtain ⟨j, hj⟩ := h.hp_all k hx hf h1
    refine ⟨j % p, Nat.mod_lt _ l.p1, ?_⟩
    rw [← hj]
    conv => rhs; rw [← Nat.div_add_mod j p, itn_add, itn_mod l.ret]
end
end Go.Proofs.YtnbickholedckaaGreatDoor
namespace Go.Proofs.YtnbickholedckaaGreatDoor
def updM (f : Nat → Nat) (e : Nat × Nat) (x : Nat) : Nat := if x = e.1 then e.2 else if x = e.2 then e.1 else f x
/-- To what a side is sewn. -/
def muS (S : List (Nat × Nat)) : Nat → Nat := S.foldl updM id
theorem muS_snoc (S : List (Nat × Nat)) (e : Nat × Nat) : muS (S ++ [e]) = updM (muS S) e := by simp [muS]
/-- Seams that join free sides. -/
inductive OkS (n : Nat) : List (Nat × Nat) → Prop
  | nil : OkS n []
  | snoc {S : List (Nat × Nat)} {a b : Nat} (h : OkS n S) (ha : a < n) (hb : b < n) (hne : a ≠ b) (fa : muS S a = a) (fb : muS S b = b) : OkS n (S ++ [(a, b)])
section
variable {n : Nat} {nx pv : Nat → Nat}
theorem updM_sw {f : Nat → Nat} {a b : Nat} (fa : f a = a) (fb : f b = b) : updM f (a, b) = fun x => f (swN a b x) := by
  funext x
  unfold updM
  by_cases h1 : x = a
  · simp only [h1, if_true, swN_a]; exact fb.symm
  · by_cases h2 : x = b
    · simp only [h2, if_true, swN_b]
      rw [if_neg (fun e => h1 (h2.trans e))]; exact fa.symm
    · simp only [h1, h2, if_false, swN_o h1 h2]
theorem OkS.ml {S : List (Nat × Nat)} (h : OkS n S) : ∀ i, i < n → muS S i < n := by
  induction h with
  | nil => intro i hi; exact hi
  | snoc h ha hb hne fa fb ih =>
    intro i hi
    rw [muS_snoc, updM_sw fa fb]
    exact ih _ (swN_lt ha hb hi)
theorem OkS.mm {S : List (Nat × Nat)} (h : OkS n S) : ∀ i, i < n → muS S (muS S i) = i := by
  induction h with
  | nil => intro i hi; rfl
  | @snoc S a b h ha hb hne fa fb ih =>
    intro i hi
    rw [muS_snoc, updM_sw fa fb]
    by_cases h1 : i = a
    · subst h1; simp only [swN_a, fb, swN_b, fa]
    · by_cases h2 : i = b
      · subst h2; simp only [swN_b, fa, swN_a, fb]
      · simp only [swN_o h1 h2]
        rw [swN_o (fun e => h1 (by rw [← ih i hi, e, fa])) (fun e => h2 (by rw [← ih i hi, e, fb]))]
        exact ih i hi
theorem OkS.net {S : List (Nat × Nat)} (h : OkS n S) (h0 : NetN n nx pv id) : NetN n nx pv (muS S) := ⟨h0.nl, h0.pl, h.ml, h0.np, h0.pn, h.mm⟩
theorem OkS.free {S : List (Nat × Nat)} (h : OkS n S) : frN n (muS S) + 2 * S.length = n := by
  induction h with
  | nil =>
    unfold frN muS
    simp only [List.foldl_nil, id, decide_true, List.length_nil, Nat.mul_zero, Nat.add_zero]
    induction n with
    | zero => rfl
    | succ n ih => simp [cnN, ih]
  | @snoc S a b h ha hb hne fa fb ih =>
    have e1 := cnN_rm (p := fun i => decide (muS S i = i)) (k := a) (by simp [fa]) n ha
    have e2 := cnN_rm (p := fun i => decide (muS S i = i) && decide (i ≠ a)) (k := b) (by simp [fb, Ne.symm hne]) n hb
    have e3 : frN n (muS (S ++ [(a, b)])) = cnN (fun i => decide (muS S i = i) && decide (i ≠ a) && decide (i ≠ b)) n := by
      unfold frN
      refine cnN_congr n fun i _ => ?_
      rw [muS_snoc]
      unfold updM
      by_cases h1 : i = a
      · subst h1; simp; exact fun e => hne e.symm
      · by_cases h2 : i = b
        · subst h2; simp [h1]; exact fun e => hne e
        · simp [h1, h2]
    unfold frN at ih
    rw [e3]
    simp only [List.length_append, List.length_cons, List.length_nil]
    omega
/-- The parts: classes of pieces. -/
def cmpE (pc : Nat → Nat) (S : List (Nat × Nat)) : List (Nat × Nat) := S.reverse.map fun e => (pc e.1, pc e.2)
theorem cmpE_snoc (pc : Nat → Nat) (S : List (Nat × Nat)) (e : Nat × Nat) : cmpE pc (S ++ [e]) = (pc e.1, pc e.2) :: cmpE pc S := by simp [cmpE]
theorem cmp_mu (pc : Nat → Nat) {S : List (Nat × Nat)} (h : OkS n S) : ∀ x, rpE (cmpE pc S) (pc (muS S x)) = rpE (cmpE pc S) (pc x) := by
  induction h with
  | nil => intro x; rfl
  | @snoc S a b h ha hb hne fa fb ih =>
    intro x
    rw [muS_snoc, cmpE_snoc]
    have he : rpE ((pc a, pc b) :: cmpE pc S) (pc a) = rpE ((pc a, pc b) :: cmpE pc S) (pc b) := rpE_edge (.head _)
    unfold updM
    by_cases h1 : x = a
    · subst h1; simp only [if_true]; exact he.symm
    · by_cases h2 : x = b
      · subst h2; simp only [h1, if_true, if_false]; exact he
      · simp only [h1, h2, if_false]
        exact rpE_step _ _ (ih x)
theorem cmp_cyc {pc : Nat → Nat} (hpc : ∀ i, i < n → pc (nx i) = pc i) {S : List (Nat × Nat)} (h : OkS n S) {x y : Nat} (he : rpE (orE n (psN nx (muS S))) x = rpE (orE n (psN nx (muS S))) y) : rpE (cmpE pc S) (pc x) = rpE (cmpE pc S) (pc y) :=
  rpE_congr (fun z => rpE (cmpE pc S) (pc z)) (fun p hp => by
    obtain ⟨h1, h2⟩ := mem_orE.1 hp
    rw [h2]
    show _ = rpE (cmpE pc S) (pc (nx (muS S p.1)))
    rw [hpc _ (h.ml _ h1), cmp_mu pc h]) he
/-- Twice the parts and the seams: the cycles, the pieces and twice the handles. -/
def HdN (n : Nat) (nx pc : Nat → Nat) (P : Nat) (S : List (Nat × Nat)) (g : Nat) : Prop := 2 * ccE P (cmpE pc S) + S.length = ccE n (orE n (psN nx (muS S))) + P + 2 * g
theorem HdN.snoc {pc : Nat → Nat} {P g a b : Nat} {S : List (Nat × Nat)} (h0 : NetN n nx pv id) (hpc : ∀ i, i < n → pc (nx i) = pc i) (hP : ∀ i, i < n → pc i < P) (hs : OkS n S) (ha : a < n) (hb : b < n) (hne : a ≠ b) (fa : muS S a = a) (fb : muS S b = b)
    (hg : HdN n nx pc P S g) : ∃ g', HdN n nx pc P (S ++ [(a, b)]) g' ∧ g ≤ g' ∧ g' ≤ g + 1 ∧ ccE P (cmpE pc (S ++ [(a, b)])) ≤ ccE P (cmpE pc S) ∧ ccE P (cmpE pc S) ≤ ccE P (cmpE pc (S ++ [(a, b)])) + 1 := by
  have hpm := (hs.net h0).perm
  have hps : psN nx (muS (S ++ [(a, b)])) = fun x => psN nx (muS S) (swN a b x) := by
    funext x; unfold psN; rw [muS_snoc, updM_sw fa fb]
  unfold HdN at hg ⊢
  rw [hps, cmpE_snoc, List.length_append, List.length_cons, List.length_nil]
  simp only
  by_cases hd : rpE (orE n (psN nx (muS S))) a = rpE (orE n (psN nx (muS S))) b
  · have h1 := (hpm.swap_cut ha hb hne hd).2
    have h2 : ccE P ((pc a, pc b) :: cmpE pc S) = ccE P (cmpE pc S) := ccE_same (e := (pc a, pc b)) (cmp_cyc hpc hs hd)
    rw [h1, h2]
    exact ⟨g, by omega, by omega, by omega, by omega, by omega⟩
  · have h1 := (hpm.swap_join ha hb hd).2
    by_cases hc : rpE (cmpE pc S) (pc a) = rpE (cmpE pc S) (pc b)
    · have h2 : ccE P ((pc a, pc b) :: cmpE pc S) = ccE P (cmpE pc S) := ccE_same (e := (pc a, pc b)) hc
      rw [h2]
      exact ⟨g + 1, by omega, by omega, by omega, by omega, by omega⟩
    · have h2 : ccE P ((pc a, pc b) :: cmpE pc S) + 1 = ccE P (cmpE pc S) := ccE_join (e := (pc a, pc b)) hc (hP a ha) (hP b hb)
      exact ⟨g, by omega, by omega, by omega, by omega, by omega⟩
/-- Without seams: each piece is a cycle. -/
theorem HdN.zero {pc : Nat → Nat} {P : Nat} (h1 : ∀ x y, x < n → y < n → (rpE (orE n nx) x = rpE (orE n nx) y ↔ pc x = pc y)) (h2 : ∀ i, i < n → pc i < P) (h3 : ∀ p, p < P → ∃ x, x < n ∧ pc x = p) : HdN n nx pc P [] 0 := by
  have hps : psN nx (muS []) = nx := by funext x; rfl
  have e : ccE n (orE n nx) = P := by
    unfold ccE
    rw [← cnN_filter, ← List.length_map (f := pc), ← List.length_range (n := P)]
    refine len_of_mem (nodup_map_on (nodup_range_filter _ _) ?_) List.nodup_range (fun y => ?_)
    · intro x hx y hy he
      simp only [List.mem_filter, List.mem_range, decide_eq_true_eq] at hx hy
      rw [← hx.2, ← hy.2]
      exact (h1 x y hx.1 hy.1).2 he
    · simp only [List.mem_map, List.mem_filter, List.mem_range, decide_eq_true_eq]
      constructor
      · rintro ⟨x, hx, rfl⟩; exact h2 x hx.1
      · intro hy
        obtain ⟨x, hx, rfl⟩ := h3 y hy
        have hr := rpE_le (orE n nx) x
        exact ⟨rpE (orE n nx) x, ⟨by omega, rpE_idem _ _⟩, (h1 _ _ (by omega) hx).1 (rpE_idem _ _)⟩
  unfold HdN
  rw [hps, e]
  simp [cmpE, ccE_nil]
  omega
theorem OkS.handles {pc : Nat → Nat} {P : Nat} (h0 : NetN n nx pv id) (hpc : ∀ i, i < n → pc (nx i) = pc i) (hP : ∀ i, i < n → pc i < P) (hz : HdN n nx pc P [] 0) {S : List (Nat × Nat)} (hs : OkS n S) : ∃ g, HdN n nx pc P S g := by
  induction hs with
  | nil => exact ⟨0, hz⟩
  | snoc h ha hb hne fa fb ih =>
    obtain ⟨g, hg⟩ := ih
    obtain ⟨g', h1, _⟩ := hg.snoc h0 hpc hP h ha hb hne fa fb
    exact ⟨g', h1⟩
/-- Points, loops, seams: what the measures say. -/
theorem HdN.sum {pc : Nat → Nat} {P g : Nat} (h0 : NetN n nx pv id) {S : List (Nat × Nat)} (hs : OkS n S) (hg : HdN n nx pc P S g) :
    2 * ccE P (cmpE pc S) + n = ccE n (ptE n nx (muS S)) + lpN n nx (muS S) + P + S.length + 2 * g := by
  have h1 := (hs.net h0).count
  have h2 := hs.free
  unfold HdN at hg
  omega
end
end Go.Proofs.YtnbickholedckaaGreatDoor
namespace Go.Proofs.YtnbickholedckaaGreatDoor
def lpGo (f : Nat → Nat) (x0 : Nat) : Nat → Nat → List Nat
  | 0, _ => []
  | k + 1, y => y :: (if f y = x0 then [] else lpGo f x0 k (f y))
def loopOf (n : Nat) (nx mu : Nat → Nat) (x : Nat) : List Nat := lpGo (hpN n nx mu) x n x
theorem lpGo_eq {f : Nat → Nat} {x p : Nat} (hp : itn f p x = x) (hf : ∀ j, 1 ≤ j → j < p → itn f j x ≠ x) : ∀ (r k j : Nat), j + r = p → 1 ≤ r → r ≤ k → lpGo f x k (itn f j x) = (List.range r).map fun t => itn f (j + t) x
  | 0, k, j, _, h1, _ => by omega
  | r + 1, 0, j, _, _, h2 => by omega
  | r + 1, k + 1, j, h0, _, h2 => by
    simp only [lpGo]
    have e : f (itn f j x) = itn f (j + 1) x := rfl
    rw [e, List.range_succ_eq_map, List.map_cons, List.map_map]
    congr 1
    by_cases hr : r = 0
    · subst hr
      rw [if_pos (by rw [show j + 1 = p by omega]; exact hp)]
      simp
    · rw [if_neg (hf _ (by omega) (by omega)), lpGo_eq hp hf r k (j + 1) (by omega) (by omega) (by omega)]
      refine List.map_congr_left fun t _ => ?_
      show itn f (j + 1 + t) x = itn f (j + (t + 1)) x
      rw [show j + 1 + t = j + (t + 1) by omega]
theorem LoopN.list {n : Nat} {nx mu : Nat → Nat} {x p : Nat} (l : LoopN n nx mu x p) : loopOf n nx mu x = loopL n nx mu x p := by
  have := lpGo_eq l.ret l.fst p n 0 (by omega) l.p1 l.pn
  unfold loopOf loopL
  rw [show itn (hpN n nx mu) 0 x = x from rfl] at this
  rw [this]
  refine List.map_congr_left fun t _ => ?_
  rw [Nat.zero_add]
/-- The loops whose first sides are below i. -/
def lpsL (n : Nat) (nx mu : Nat → Nat) (i : Nat) : List (List Nat) := ((List.range i).filter (fstB n nx mu)).map (loopOf n nx mu)
theorem lpsL_yes {n : Nat} {nx mu : Nat → Nat} {i : Nat} (h : fstB n nx mu i = true) : lpsL n nx mu (i + 1) = lpsL n nx mu i ++ [loopOf n nx mu i] := by
  simp [lpsL, List.range_succ, h]
theorem lpsL_no {n : Nat} {nx mu : Nat → Nat} {i : Nat} (h : fstB n nx mu i = false) : lpsL n nx mu (i + 1) = lpsL n nx mu i := by
  simp [lpsL, List.range_succ, h]
theorem lpsL_len (n : Nat) (nx mu : Nat → Nat) : (lpsL n nx mu n).length = lpN n nx mu := by
  unfold lpsL lpN
  rw [List.length_map, cnN_filter]
/-- What has been seen when the sides below i are done. -/
def seen1 (n : Nat) (nx mu : Nat → Nat) (i y : Nat) : Prop := y < n ∧ mu y = y ∧ ∃ j, j < i ∧ mu j = j ∧ rpE (orE n (psN nx mu)) j = rpE (orE n (psN nx mu)) y
section
variable {n : Nat} {nx pv mu : Nat → Nat} {i : Nat}
theorem seen1_fst (hf : mu i = i) (hi : i < n) : fstB n nx mu i = true ↔ ¬ seen1 n nx mu i i := by
  rw [fstB_iff]
  constructor
  · rintro ⟨_, h⟩ ⟨_, _, j, hj, hfj, he⟩
    exact h j hj hfj he
  · intro h
    exact ⟨hf, fun j hj hfj he => h ⟨hi, hf, j, hj, hfj, he⟩⟩
theorem seen1_no (h : fstB n nx mu i = false) (hi : i < n) (y : Nat) : seen1 n nx mu (i + 1) y ↔ seen1 n nx mu i y := by
  constructor
  · rintro ⟨h1, h2, j, hj, hfj, he⟩
    by_cases e : j = i
    · subst e
      have hs : seen1 n nx mu j j := by
        by_cases hs : seen1 n nx mu j j
        · exact hs
        · rw [(seen1_fst hfj hi).2 hs] at h; cases h
      obtain ⟨_, _, t, ht, hft, het⟩ := hs
      exact ⟨h1, h2, t, ht, hft, het.trans he⟩
    · exact ⟨h1, h2, j, by omega, hfj, he⟩
  · rintro ⟨h1, h2, j, hj, hfj, he⟩
    exact ⟨h1, h2, j, by omega, hfj, he⟩
theorem seen1_yes (h : NetN n nx pv mu) (hf : mu i = i) (hi : i < n) {p : Nat} (l : LoopN n nx mu i p) (y : Nat) : seen1 n nx mu (i + 1) y ↔ seen1 n nx mu i y ∨ ∃ t, t < p ∧ itn (hpN n nx mu) t i = y := by
  constructor
  · rintro ⟨h1, h2, j, hj, hfj, he⟩
    by_cases e : j = i
    · subst e
      have := (l.mem h hi hf h1).2 ⟨h2, he.symm⟩
      simp only [loopL, List.mem_map, List.mem_range] at this
      exact .inr this
    · exact .inl ⟨h1, h2, j, by omega, hfj, he⟩
  · rintro (⟨h1, h2, j, hj, hfj, he⟩ | ⟨t, ht, rfl⟩)
    · exact ⟨h1, h2, j, by omega, hfj, he⟩
    · obtain ⟨a, b, c⟩ := h.hp_it hi hf t
      exact ⟨a, b, i, by omega, hf, c.symm⟩
/-- While a loop is gathered: nothing of it has been seen. -/
theorem loop_new (h : NetN n nx pv mu) (hf : mu i = i) (hi : i < n) (hfst : fstB n nx mu i = true) {p j : Nat} (l : LoopN n nx mu i p) (hj : j < p) : ¬ (seen1 n nx mu i (itn (hpN n nx mu) j i) ∨ ∃ t, t < j ∧ itn (hpN n nx mu) t i = itn (hpN n nx mu) j i) := by
  rintro (⟨_, _, t, ht, hft, he⟩ | ⟨t, ht, he⟩)
  · obtain ⟨_, _, c⟩ := h.hp_it hi hf j
    exact (fstB_iff.1 hfst).2 t ht hft (he.trans c)
  · rw [show j = (j - t) + t by omega, itn_add] at he
    exact l.fst (j - t) (by omega) (by omega) (h.hp_perm.itn_inj hi (h.hp_perm.itn_lt hi _) t he).symm
/-- From one free side to the next, step by step. -/
theorem hp_steps (h : NetN n nx pv mu) {x : Nat} (hx : x < n) (hf : mu x = x) : ∃ k, 1 ≤ k ∧ hpN n nx mu x = itn (psN nx mu) k x ∧ mu (itn (psN nx mu) k x) = itn (psN nx mu) k x ∧ (∀ j, 1 ≤ j → j < k → mu (itn (psN nx mu) j x) ≠ itn (psN nx mu) j x) ∧ nx x = itn (psN nx mu) 1 x := by
  obtain ⟨k, k1, _, k2, k3, k4⟩ := h.hop hx hf
  refine ⟨k, k1, ?_, k3, k4, ?_⟩
  · unfold hpN; rw [if_pos hf, k2]
  · show nx x = nx (mu x); rw [hf]
end
end Go.Proofs.YtnbickholedckaaGreatDoor
namespace Go.Proofs.YtnbickholedckaaGreatDoor
def asum (ag : Nat → Int) (l : List Nat) : Int := (l.map ag).foldr (· + ·) 0
theorem asum_perm {ag : Nat → Int} {l l' : List Nat} (h : l.Perm l') : asum ag l = asum ag l' := by
  unfold asum
  induction h with
  | nil => rfl
  | cons x _ ih => simp only [List.map_cons, List.foldr_cons, ih]
  | swap x y l => simp only [List.map_cons, List.foldr_cons]; omega
  | trans _ _ h1 h2 => exact h1.trans h2
theorem asum_app (ag : Nat → Int) : ∀ l l' : List Nat, asum ag (l ++ l') = asum ag l + asum ag l'
  | [], l' => by simp [asum]
  | x :: l, l' => by
    have := asum_app ag l l'
    simp only [asum, List.cons_append, List.map_cons, List.foldr_cons] at this ⊢
    omega
theorem asum_in {ag : Nat → Int} : ∀ {l : List Nat}, (∀ x ∈ l, 0 ≤ ag x ∧ ag x ≤ 359) → 0 ≤ asum ag l ∧ asum ag l ≤ 359 * (l.length : Int)
  | [], _ => by simp [asum]
  | x :: l, h => by
    have h1 := asum_in (l := l) (fun y hy => h y (.tail _ hy))
    have h2 := h x (.head _)
    simp only [asum, List.map_cons, List.foldr_cons, List.length_cons] at h1 ⊢
    omega
theorem take_snoc {α : Type} {l : List α} {j : Nat} {x : α} (h : l[j]? = some x) : l.take (j + 1) = l.take j ++ [x] := by
  rw [List.take_add_one, h]; rfl
def clsL (n : Nat) (nx mu : Nat → Nat) (c : Nat) : List Nat := (List.range n).filter fun y => decide (rpE (ptE n nx mu) y = rpE (ptE n nx mu) c)
def ptF (n : Nat) (nx mu : Nat → Nat) (i : Nat) : Bool := decide (rpE (ptE n nx mu) i = i)
structure Pt where
  cs : List Nat
  inn : Bool
  an : Int
  df : Int
def ptO (n : Nat) (nx mu : Nat → Nat) (ag : Nat → Int) (i : Nat) : Pt := ⟨clsL n nx mu i, innB n nx mu i, asum ag (clsL n nx mu i), (if innB n nx mu i then 360 else 180) - asum ag (clsL n nx mu i)⟩
def ptsL (n : Nat) (nx mu : Nat → Nat) (ag : Nat → Int) (i : Nat) : List Pt := ((List.range i).filter (ptF n nx mu)).map (ptO n nx mu ag)
def seen2 (n : Nat) (nx mu : Nat → Nat) (i y : Nat) : Prop := y < n ∧ ∃ j, j < i ∧ rpE (ptE n nx mu) j = rpE (ptE n nx mu) y
/-- No corner of the row begins or ends a free side. -/
def innT (pv mu : Nat → Nat) (l : List Nat) : Bool := l.all fun x => decide (mu x ≠ x) && decide (mu (pv x) ≠ pv x)
theorem innT_snoc (pv mu : Nat → Nat) (l : List Nat) (x : Nat) : innT pv mu (l ++ [x]) = (innT pv mu l && (decide (mu x ≠ x) && decide (mu (pv x) ≠ pv x))) := by simp [innT]
section
variable {n : Nat} {nx pv mu : Nat → Nat} {ag : Nat → Int} {i c k m : Nat} {cl : Bool}
theorem ptsL_yes (h : ptF n nx mu i = true) : ptsL n nx mu ag (i + 1) = ptsL n nx mu ag i ++ [ptO n nx mu ag i] := by
  simp [ptsL, List.range_succ, h]
theorem ptsL_no (h : ptF n nx mu i = false) : ptsL n nx mu ag (i + 1) = ptsL n nx mu ag i := by
  simp [ptsL, List.range_succ, h]
theorem ptsL_len : (ptsL n nx mu ag n).length = ccE n (ptE n nx mu) := by
  unfold ptsL ccE
  rw [List.length_map, cnN_filter]; rfl
theorem seen2_fst (hi : i < n) : ptF n nx mu i = true ↔ ¬ seen2 n nx mu i i := by
  unfold ptF
  rw [decide_eq_true_eq, rpE_first]
  exact ⟨fun h ⟨_, j, hj, he⟩ => h j hj he, fun h j hj he => h ⟨hi, j, hj, he⟩⟩
theorem seen2_no (h : ptF n nx mu i = false) (hi : i < n) (y : Nat) : seen2 n nx mu (i + 1) y ↔ seen2 n nx mu i y := by
  constructor
  · rintro ⟨h1, j, hj, he⟩
    by_cases e : j = i
    · subst e
      have hs : seen2 n nx mu j j := by
        by_cases hs : seen2 n nx mu j j
        · exact hs
        · rw [(seen2_fst hi).2 hs] at h; cases h
      obtain ⟨_, t, ht, het⟩ := hs
      exact ⟨h1, t, ht, het.trans he⟩
    · exact ⟨h1, j, by omega, he⟩
  · rintro ⟨h1, j, hj, he⟩
    exact ⟨h1, j, by omega, he⟩
theorem WayN.lt (w : WayN n nx pv mu c k m cl) (h : NetN n nx pv mu) (hc : c < n) {x : Nat} (hx : x ∈ wayL nx pv mu c k m) : x < n := by
  rcases mem_wayL.1 hx with ⟨j, _, rfl⟩ | ⟨j, _, _, rfl⟩
  · exact h.perm.itn_lt hc j
  · exact h.qit hc j
theorem WayN.cls (w : WayN n nx pv mu c k m cl) (h : NetN n nx pv mu) (hc : c < n) : (wayL nx pv mu c k m).Perm (clsL n nx mu c) := by
  refine (List.perm_ext_iff_of_nodup (w.nodup h hc) (nodup_range_filter _ _)).2 fun x => ?_
  simp only [List.mem_filter, List.mem_range, decide_eq_true_eq]
  exact ⟨fun hx => ⟨w.lt h hc hx, (w.mem h hc (w.lt h hc hx)).1 hx⟩, fun ⟨h1, h2⟩ => (w.mem h hc h1).2 h2⟩
theorem WayN.len (w : WayN n nx pv mu c k m cl) (h : NetN n nx pv mu) (hc : c < n) : (wayL nx pv mu c k m).length ≤ n := by
  rw [(w.cls h hc).length_eq]
  have := List.length_filter_le (fun y => decide (rpE (ptE n nx mu) y = rpE (ptE n nx mu) c)) (List.range n)
  rw [List.length_range] at this
  exact this
theorem seen2_yes (w : WayN n nx pv mu i k m cl) (h : NetN n nx pv mu) (hi : i < n) (y : Nat) : seen2 n nx mu (i + 1) y ↔ seen2 n nx mu i y ∨ y ∈ wayL nx pv mu i k m := by
  constructor
  · rintro ⟨h1, j, hj, he⟩
    by_cases e : j = i
    · subst e
      exact .inr ((w.mem h hi h1).2 he.symm)
    · exact .inl ⟨h1, j, by omega, he⟩
  · rintro (⟨h1, j, hj, he⟩ | hx)
    · exact ⟨h1, j, by omega, he⟩
    · have h1 := w.lt h hi hx
      exact ⟨h1, i, by omega, ((w.mem h hi h1).1 hx).symm⟩
/-- Sorted, the corners around are those of the class in their order. -/
theorem WayN.sorted (w : WayN n nx pv mu c k m cl) (h : NetN n nx pv mu) (hc : c < n) {l : List Int} (hp : l.Perm ((wayL nx pv mu c k m).map fun x : Nat => ((x : Nat) : Int))) (ho : l.Pairwise (· ≤ ·)) : l = (clsL n nx mu c).map fun x : Nat => ((x : Nat) : Int) := by
  refine List.Perm.eq_of_pairwise (fun a b _ _ h1 h2 => Int.le_antisymm h1 h2) ho ?_ (hp.trans ((w.cls h hc).map _))
  rw [List.pairwise_map]
  exact (List.pairwise_lt_range.filter _).imp (fun {a b} h => by omega)
theorem WayN.inn (w : WayN n nx pv mu c k m cl) (h : NetN n nx pv mu) (hc : c < n) : innT pv mu (wayL nx pv mu c k m) = innB n nx mu c := by
  cases hb : innB n nx mu c with
  | true =>
    refine List.all_eq_true.2 fun x hx => ?_
    have h1 := w.lt h hc hx
    have h2 := (w.mem h hc h1).1 hx
    simp only [Bool.and_eq_true, decide_eq_true_eq]
    exact ⟨innB_iff.1 hb x h1 h2, h.inn_prev hc hb x h1 h2⟩
  | false =>
    obtain ⟨x, h1, h2, h3⟩ := innB_false.1 hb
    rw [← Bool.not_eq_true]
    intro ht
    have := List.all_eq_true.1 ht x ((w.mem h hc h1).2 h2)
    simp only [Bool.and_eq_true, decide_eq_true_eq] at this
    exact this.1 h3
theorem WayN.asum (w : WayN n nx pv mu c k m cl) (h : NetN n nx pv mu) (hc : c < n) : asum ag (wayL nx pv mu c k m) = asum ag (clsL n nx mu c) := asum_perm (w.cls h hc)
end
end Go.Proofs.YtnbickholedckaaGreatDoor
namespace Go.Proofs.YtnbickholedckaaGreatDoor
/-- Both ends of an edge get the smaller number. -/
def lwS (F : Nat → Nat) (u v : Nat) (x : Nat) : Nat := if x = v then min (F u) (F v) else if x = u then min (F u) (F v) else F x
structure Lw (n : Nat) (E : List (Nat × Nat)) (F : Nat → Nat) : Prop where
  le : ∀ x, x < n → F x ≤ x
  cl : ∀ x, x < n → rpE E (F x) = rpE E x
section
variable {n : Nat} {E : List (Nat × Nat)} {F : Nat → Nat} {u v : Nat}
theorem Lw.id (n : Nat) (E : List (Nat × Nat)) : Lw n E (fun x => x) := ⟨fun _ _ => Nat.le_refl _, fun _ _ => rfl⟩
theorem lwS_le (F : Nat → Nat) (u v x : Nat) : lwS F u v x ≤ F x := by
  unfold lwS
  split
  · rename_i h; subst h; omega
  · split
    · rename_i h; subst h; omega
    · exact Nat.le_refl _
theorem Lw.step (h : Lw n E F) (hu : u < n) (hv : v < n) (he : rpE E u = rpE E v) : Lw n E (lwS F u v) := by
  refine ⟨fun x hx => Nat.le_trans (lwS_le F u v x) (h.le x hx), fun x hx => ?_⟩
  have hm : rpE E (min (F u) (F v)) = rpE E u := by
    by_cases hh : F u ≤ F v
    · rw [Nat.min_eq_left hh]; exact h.cl u hu
    · rw [Nat.min_eq_right (by omega), h.cl v hv]; exact he.symm
  unfold lwS
  split
  · rename_i e; subst e; rw [hm]; exact he
  · split
    · rename_i e; subst e; exact hm
    · exact h.cl x hx
theorem Lw.done (h : Lw n E F) (he : ∀ p ∈ E, F p.1 = F p.2) {x : Nat} (hx : x < n) : F x = rpE E x := by
  have h1 := rpE_univ F he x
  have h2 := rpE_le E x
  have h3 := h.le (rpE E x) (by omega)
  have h4 := h.cl x hx
  have h5 := rpE_le E (F x)
  omega
def lwR (l : List (Nat × Nat)) (F : Nat → Nat) : Nat → Nat := l.foldl (fun F e => lwS F e.1 e.2) F
theorem Lw.round {F : Nat → Nat} : ∀ {l : List (Nat × Nat)}, (∀ e ∈ l, e.1 < n ∧ e.2 < n ∧ rpE E e.1 = rpE E e.2) → ∀ {F : Nat → Nat}, Lw n E F → Lw n E (lwR l F)
  | [], _, F, h => h
  | e :: l, hl, F, h => by
    obtain ⟨h1, h2, h3⟩ := hl e (.head _)
    exact Lw.round (F := F) (l := l) (fun e he => hl e (.tail _ he)) (h.step h1 h2 h3)
end
/-! ### The parts by the partners -/
theorem OkS.at {n : Nat} {S : List (Nat × Nat)} (h : OkS n S) : ∀ e ∈ S, e.1 < n ∧ e.2 < n ∧ e.1 ≠ e.2 ∧ muS S e.1 = e.2 ∧ muS S e.2 = e.1 := by
  induction h with
  | nil => intro e he; cases he
  | @snoc S a b h ha hb hne fa fb ih =>
    intro e he
    rw [muS_snoc]
    unfold updM
    rcases List.mem_append.1 he with he | he
    · obtain ⟨h1, h2, h3, h4, h5⟩ := ih e he
      have n1 : e.1 ≠ a := fun hh => h3 (by rw [← h4, hh, fa])
      have n2 : e.1 ≠ b := fun hh => h3 (by rw [← h4, hh, fb])
      have n3 : e.2 ≠ a := fun hh => h3 (by rw [← h5, hh, fa])
      have n4 : e.2 ≠ b := fun hh => h3 (by rw [← h5, hh, fb])
      refine ⟨h1, h2, h3, ?_, ?_⟩
      · simp only [n1, n2, if_false]; exact h4
      · simp only [n3, n4, if_false]; exact h5
    · rw [List.mem_singleton] at he
      subst he
      refine ⟨ha, hb, hne, by simp, ?_⟩
      simp only [Ne.symm hne, if_false, if_true]
def rlS (G : Nat → Nat) (a b : Nat) (x : Nat) : Nat := if G x = G a then G b else G x
def rlR (pc : Nat → Nat) (S : List (Nat × Nat)) : Nat → Nat := S.foldl (fun G e => rlS G (pc e.1) (pc e.2)) id
theorem rlR_snoc (pc : Nat → Nat) (S : List (Nat × Nat)) (e : Nat × Nat) : rlR pc (S ++ [e]) = rlS (rlR pc S) (pc e.1) (pc e.2) := by simp [rlR]
theorem rlS_ker {G : Nat → Nat} {E : List (Nat × Nat)} {a b : Nat} (h : ∀ x y, G x = G y ↔ rpE E x = rpE E y) (x y : Nat) : rlS G a b x = rlS G a b y ↔ rpE ((a, b) :: E) x = rpE ((a, b) :: E) y := by
  have hxa := h x a
  have hxb := h x b
  have hya := h y a
  have hyb := h y b
  have hxy := h x y
  have hab := h a b
  have ia := rpE_idem E a
  have ib := rpE_idem E b
  unfold rlS
  simp only [rpE]
  by_cases c1 : G x = G a
  · have d1 := hxa.1 c1
    rw [if_pos c1, if_pos (Or.inl d1)]
    by_cases c2 : G y = G a
    · rw [if_pos c2, if_pos (Or.inl (hya.1 c2))]; exact ⟨fun _ => rfl, fun _ => rfl⟩
    · rw [if_neg c2]
      by_cases c3 : G y = G b
      · rw [if_pos (Or.inr (hyb.1 c3))]; exact ⟨fun _ => rfl, fun _ => c3.symm⟩
      · rw [if_neg (show ¬ (rpE E y = rpE E a ∨ rpE E y = rpE E b) from fun h => h.elim (fun h => c2 (hya.2 h)) (fun h => c3 (hyb.2 h)))]
        constructor
        · intro hh; exact absurd hh.symm c3
        · intro hh
          exfalso
          have iy := rpE_idem E y
          rw [← hh] at iy
          by_cases hle : rpE E a ≤ rpE E b
          · rw [Nat.min_eq_left hle, ia] at iy
            rw [Nat.min_eq_left hle] at hh
            exact c2 (hya.2 hh.symm)
          · rw [Nat.min_eq_right (by omega), ib] at iy
            rw [Nat.min_eq_right (by omega)] at hh
            exact c3 (hyb.2 hh.symm)
  · rw [if_neg c1]
    by_cases c3 : G x = G b
    · rw [if_pos (Or.inr (hxb.1 c3))]
      by_cases c2 : G y = G a
      · rw [if_pos c2, if_pos (Or.inl (hya.1 c2))]; exact ⟨fun _ => rfl, fun _ => c3⟩
      · rw [if_neg c2]
        by_cases c4 : G y = G b
        · rw [if_pos (Or.inr (hyb.1 c4))]; exact ⟨fun _ => rfl, fun _ => by rw [c3, c4]⟩
        · rw [if_neg (show ¬ (rpE E y = rpE E a ∨ rpE E y = rpE E b) from fun h => h.elim (fun h => c2 (hya.2 h)) (fun h => c4 (hyb.2 h)))]
          constructor
          · intro hh; exact absurd (hh.symm.trans c3) c4
          · intro hh
            exfalso
            by_cases hle : rpE E a ≤ rpE E b
            · rw [Nat.min_eq_left hle] at hh
              exact c2 (hya.2 hh.symm)
            · rw [Nat.min_eq_right (by omega)] at hh
              exact c4 (hyb.2 hh.symm)
    · rw [if_neg (show ¬ (rpE E x = rpE E a ∨ rpE E x = rpE E b) from fun h => h.elim (fun h => c1 (hxa.2 h)) (fun h => c3 (hxb.2 h)))]
      by_cases c2 : G y = G a
      · rw [if_pos c2, if_pos (Or.inl (hya.1 c2))]
        constructor
        · intro hh; exact absurd hh c3
        · intro hh
          exfalso
          by_cases hle : rpE E a ≤ rpE E b
          · rw [Nat.min_eq_left hle] at hh
            exact c1 (hxa.2 hh)
          · rw [Nat.min_eq_right (by omega)] at hh
            exact c3 (hxb.2 hh)
      · rw [if_neg c2]
        by_cases c4 : G y = G b
        · rw [if_pos (Or.inr (hyb.1 c4))]
          constructor
          · intro hh; exact absurd (hh.trans c4) c3
          · intro hh
            exfalso
            by_cases hle : rpE E a ≤ rpE E b
            · rw [Nat.min_eq_left hle] at hh
              exact c1 (hxa.2 hh)
            · rw [Nat.min_eq_right (by omega)] at hh
              exact c3 (hxb.2 hh)
        · rw [if_neg (show ¬ (rpE E y = rpE E a ∨ rpE E y = rpE E b) from fun h => h.elim (fun h => c2 (hya.2 h)) (fun h => c4 (hyb.2 h)))]
          exact hxy
theorem rlR_ker (pc : Nat → Nat) : ∀ (S : List (Nat × Nat)) {G : Nat → Nat} {E : List (Nat × Nat)}, (∀ x y, G x = G y ↔ rpE E x = rpE E y) → ∀ x y, S.foldl (fun G e => rlS G (pc e.1) (pc e.2)) G x = S.foldl (fun G e => rlS G (pc e.1) (pc e.2)) G y ↔ rpE (cmpE pc S ++ E) x = rpE (cmpE pc S ++ E) y
  | [], G, E, h, x, y => h x y
  | e :: S, G, E, h, x, y => by
    have h1 := rlR_ker pc S (rlS_ker (a := pc e.1) (b := pc e.2) h) x y
    have e1 : cmpE pc (e :: S) ++ E = cmpE pc S ++ ((pc e.1, pc e.2) :: E) := by simp [cmpE]
    rw [e1]
    exact h1
/-- As many different numbers as parts. -/
theorem rlR_cc {P : Nat} {pc : Nat → Nat} {S : List (Nat × Nat)} {l : List Int} (hd : l.Nodup) (hm : ∀ z, z ∈ l ↔ ∃ x, x < P ∧ z = (rlR pc S x : Int)) : l.length = ccE P (cmpE pc S) := by
  have hk : ∀ x y, rlR pc S x = rlR pc S y ↔ rpE (cmpE pc S) x = rpE (cmpE pc S) y := fun x y => by
    have := rlR_ker pc S (G := id) (E := []) (fun x y => Iff.rfl) x y
    rwa [List.append_nil] at this
  unfold ccE
  rw [← cnN_filter, ← List.length_map (f := fun x => (rlR pc S x : Int))]
  refine len_of_mem hd (nodup_map_on (nodup_range_filter _ _) ?_) (fun z => ?_)
  · intro x hx y hy he
    simp only [List.mem_filter, List.mem_range, decide_eq_true_eq] at hx hy
    rw [← hx.2, ← hy.2]
    exact (hk x y).1 (by omega)
  · rw [hm]
    simp only [List.mem_map, List.mem_filter, List.mem_range, decide_eq_true_eq]
    constructor
    · rintro ⟨x, hx, rfl⟩
      have := rpE_le (cmpE pc S) x
      exact ⟨rpE (cmpE pc S) x, ⟨by omega, rpE_idem _ _⟩, by rw [(hk _ x).2 (rpE_idem _ _)]⟩
    · rintro ⟨x, ⟨hx, _⟩, rfl⟩
      exact ⟨x, hx, rfl⟩
end Go.Proofs.YtnbickholedckaaGreatDoor
namespace Go.Proofs.YtnbickholedckaaGreatDoor
section
variable {n : Nat} {nx pv mu : Nat → Nat} {ag : Nat → Int}
theorem NetN.loopOf_mem (h : NetN n nx pv mu) {x : Nat} (hx : x < n) (hf : mu x = x) {y : Nat} : y ∈ loopOf n nx mu x ↔ y < n ∧ mu y = y ∧ rpE (orE n (psN nx mu)) y = rpE (orE n (psN nx mu)) x := by
  obtain ⟨p, l⟩ := h.loop hx
  rw [l.list]
  constructor
  · intro hy
    have hl : y < n := by
      simp only [loopL, List.mem_map, List.mem_range] at hy
      obtain ⟨j, _, rfl⟩ := hy
      exact h.hp_perm.itn_lt hx j
    exact ⟨hl, (l.mem h hx hf hl).1 hy⟩
  · rintro ⟨h1, h2⟩; exact (l.mem h hx hf h1).2 h2
theorem NetN.lps_mem (h : NetN n nx pv mu) {y : Nat} : y ∈ (lpsL n nx mu n).flatten ↔ y < n ∧ mu y = y := by
  unfold lpsL
  simp only [List.mem_flatten, List.mem_map, List.mem_filter, List.mem_range]
  constructor
  · rintro ⟨_, ⟨x, ⟨h1, h2⟩, rfl⟩, hy⟩
    have := (h.loopOf_mem h1 (fstB_iff.1 h2).1).1 hy
    exact ⟨this.1, this.2.1⟩
  · rintro ⟨h1, h2⟩
    have := (fst_map n nx mu).2 (rpE (orE n (psN nx mu)) y)
    obtain ⟨x, hx, e⟩ := List.mem_map.1 (this.2 ⟨y, h1, h2, rfl⟩)
    simp only [List.mem_filter, List.mem_range] at hx
    exact ⟨_, ⟨x, hx, rfl⟩, (h.loopOf_mem hx.1 (fstB_iff.1 hx.2).1).2 ⟨h1, h2, e.symm⟩⟩
theorem clsL_mem {c y : Nat} : y ∈ clsL n nx mu c ↔ y < n ∧ rpE (ptE n nx mu) y = rpE (ptE n nx mu) c := by simp [clsL]
end
end Go.Proofs.YtnbickholedckaaGreatDoor
namespace Go.Proofs.YtnbickholedckaaGreatDoor
/-- What a loop is as long as. -/
def hrS (n : Nat) (nx mu : Nat → Nat) (ln : Nat → Int) (c : Nat) : Int := asum ln ((List.range n).filter fun y => decide (mu y = y) && decide (rpE (orE n (psN nx mu)) y = c))
def hrL (n : Nat) (nx mu : Nat → Nat) (ln : Nat → Int) : List Int := (lpsL n nx mu n).map (asum ln)
section
variable {n : Nat} {nx pv mu : Nat → Nat} {ln : Nat → Int}
end
/-- The net with one more line. -/
structure CutN (n : Nat) (nx mu nx' mu' : Nat → Nat) (f : Nat → Nat) (x y a1 a2 : Nat) : Prop where
  fl : ∀ a, a < n → f a < n + 2
  fi : ∀ a b, a < n → b < n → f a = f b → a = b
  xl : x < n + 2
  yl : y < n + 2
  xy : x ≠ y
  fx : ∀ a, a < n → f a ≠ x
  fy : ∀ a, a < n → f a ≠ y
  co : ∀ z, z < n + 2 → z = x ∨ z = y ∨ ∃ a, a < n ∧ f a = z
  l1 : a1 < n
  l2 : a2 < n
  ne : a1 ≠ a2
  mf : ∀ a, a < n → mu' (f a) = f (mu a)
  mx : mu' x = y
  my : mu' y = x
  nf : ∀ a, a < n → a ≠ a1 → a ≠ a2 → nx' (f a) = f (nx a)
  n1 : nx' (f a1) = x
  n2 : nx' (f a2) = y
  nX : nx' x = f (nx a2)
  nY : nx' y = f (nx a1)
section
variable {n : Nat} {nx pv mu nx' pv' mu' : Nat → Nat} {f : Nat → Nat} {x y a1 a2 : Nat}
theorem CutN.free (c : CutN n nx mu nx' mu' f x y a1 a2) (h : NetN n nx pv mu) {z : Nat} (hz : z < n + 2) : mu' z = z ↔ ∃ a, a < n ∧ f a = z ∧ mu a = a := by
  constructor
  · intro hm
    rcases c.co z hz with rfl | rfl | ⟨a, ha, rfl⟩
    · rw [c.mx] at hm; exact absurd hm.symm c.xy
    · rw [c.my] at hm; exact absurd hm c.xy
    · rw [c.mf a ha] at hm
      exact ⟨a, ha, rfl, c.fi _ _ (h.ml a ha) ha hm⟩
  · rintro ⟨a, ha, rfl, hm⟩
    rw [c.mf a ha, hm]
theorem CutN.ps_x (c : CutN n nx mu nx' mu' f x y a1 a2) : psN nx' mu' x = f (nx a1) := by unfold psN; rw [c.mx, c.nY]
theorem CutN.ps_y (c : CutN n nx mu nx' mu' f x y a1 a2) : psN nx' mu' y = f (nx a2) := by unfold psN; rw [c.my, c.nX]
theorem CutN.ps_f (c : CutN n nx mu nx' mu' f x y a1 a2) (h : NetN n nx pv mu) {a : Nat} (ha : a < n) : psN nx' mu' (f a) = if mu a = a1 then x else if mu a = a2 then y else f (psN nx mu a) := by
  unfold psN
  rw [c.mf a ha]
  by_cases h1 : mu a = a1
  · rw [if_pos h1, h1, c.n1]
  · rw [if_neg h1]
    by_cases h2 : mu a = a2
    · rw [if_pos h2, h2, c.n2]
    · rw [if_neg h2, c.nf _ (h.ml a ha) h1 h2]
/-- The classes of sides are the same. -/
theorem CutN.ker (c : CutN n nx mu nx' mu' f x y a1 a2) (h : NetN n nx pv mu) {a b : Nat} (ha : a < n) (hb : b < n) :
    rpE (orE (n + 2) (psN nx' mu')) (f a) = rpE (orE (n + 2) (psN nx' mu')) (f b) ↔ rpE (orE n (psN nx mu)) a = rpE (orE n (psN nx mu)) b := by
  constructor
  · intro hh
    -- the class of an old side
    let g : Nat → Nat → Prop := fun z w => (∃ a, a < n ∧ f a = z ∧ rpE (orE n (psN nx mu)) a = w) ∨ (z = x ∧ rpE (orE n (psN nx mu)) (nx a1) = w) ∨ (z = y ∧ rpE (orE n (psN nx mu)) (nx a2) = w)
    have gf : ∀ a, a < n → ∀ w, g (f a) w ↔ rpE (orE n (psN nx mu)) a = w := fun a ha w => by
      constructor
      · rintro (⟨b, hb, e, hw⟩ | ⟨e, _⟩ | ⟨e, _⟩)
        · rw [← c.fi b a hb ha e]; exact hw
        · exact absurd e (c.fx a ha)
        · exact absurd e (c.fy a ha)
      · exact fun hw => .inl ⟨a, ha, rfl, hw⟩
    have gx : ∀ w, g x w ↔ rpE (orE n (psN nx mu)) (nx a1) = w := fun w => by
      constructor
      · rintro (⟨b, hb, e, hw⟩ | ⟨_, hw⟩ | ⟨e, _⟩)
        · exact absurd e (c.fx b hb)
        · exact hw
        · exact absurd e c.xy
      · exact fun hw => .inr (.inl ⟨rfl, hw⟩)
    have gy : ∀ w, g y w ↔ rpE (orE n (psN nx mu)) (nx a2) = w := fun w => by
      constructor
      · rintro (⟨b, hb, e, hw⟩ | ⟨e, _⟩ | ⟨_, hw⟩)
        · exact absurd e (c.fy b hb)
        · exact absurd e.symm c.xy
        · exact hw
      · exact fun hw => .inr (.inr ⟨rfl, hw⟩)
    have key := rpE_congr (E := orE (n + 2) (psN nx' mu')) g (fun p hp => by
      obtain ⟨h1, h2⟩ := mem_orE.1 hp
      rw [h2]
      funext w
      refine propext ?_
      rcases c.co p.1 h1 with e | e | ⟨a, ha, e⟩
      · rw [e, c.ps_x, gx, gf _ (h.nl _ c.l1)]
      · rw [e, c.ps_y, gy, gf _ (h.nl _ c.l2)]
      · rw [← e, gf a ha, c.ps_f h ha]
        have hs := orE_step (f := psN nx mu) ha
        by_cases h1 : mu a = a1
        · rw [if_pos h1, gx, hs]; unfold psN; rw [h1]
        · rw [if_neg h1]
          by_cases h2 : mu a = a2
          · rw [if_pos h2, gy, hs]; unfold psN; rw [h2]
          · rw [if_neg h2, gf _ (h.perm.mp a ha), hs]) hh
    have := congrFun key (rpE (orE n (psN nx mu)) b)
    have h3 : g (f a) (rpE (orE n (psN nx mu)) b) := by rw [this]; exact (gf b hb _).2 rfl
    exact (gf a ha _).1 h3
  · intro hh
    have hx := orE_step (n := n + 2) (f := psN nx' mu') c.xl
    have hy := orE_step (n := n + 2) (f := psN nx' mu') c.yl
    rw [c.ps_x] at hx
    rw [c.ps_y] at hy
    exact rpE_congr (fun z => rpE (orE (n + 2) (psN nx' mu')) (f z)) (fun p hp => by
      obtain ⟨h1, h2⟩ := mem_orE.1 hp
      show rpE _ (f p.1) = rpE _ (f p.2)
      rw [h2]
      have hs := orE_step (n := n + 2) (f := psN nx' mu') (c.fl _ h1)
      rw [c.ps_f h h1] at hs
      rw [hs]
      by_cases g1 : mu p.1 = a1
      · rw [if_pos g1, hx]; unfold psN; rw [g1]
      · rw [if_neg g1]
        by_cases g2 : mu p.1 = a2
        · rw [if_pos g2, hy]; unfold psN; rw [g2]
        · rw [if_neg g2]) hh
/-- The classes of the loops. -/
theorem CutN.cls (c : CutN n nx mu nx' mu' f x y a1 a2) (h : NetN n nx pv mu) :
    ((((List.range n).filter (fstB n nx mu)).map (rpE (orE n (psN nx mu)))).map (fun w => rpE (orE (n + 2) (psN nx' mu')) (f w))).Perm (((List.range (n + 2)).filter (fstB (n + 2) nx' mu')).map (rpE (orE (n + 2) (psN nx' mu')))) := by
  obtain ⟨h1, h2⟩ := fst_map n nx mu
  obtain ⟨h3, h4⟩ := fst_map (n + 2) nx' mu'
  have hl : ∀ w, w ∈ ((List.range n).filter (fstB n nx mu)).map (rpE (orE n (psN nx mu))) → w < n ∧ rpE (orE n (psN nx mu)) w = w := fun w hw => by
    obtain ⟨a, ha, _, rfl⟩ := (h2 w).1 hw
    have := rpE_le (orE n (psN nx mu)) a
    exact ⟨by omega, rpE_idem _ _⟩
  refine (List.perm_ext_iff_of_nodup (nodup_map_on h1 ?_) h3).2 fun z => ?_
  · intro w hw v hv e
    obtain ⟨w1, w2⟩ := hl w hw
    obtain ⟨v1, v2⟩ := hl v hv
    rw [← w2, ← v2]
    exact (c.ker h w1 v1).1 e
  · rw [h4, List.mem_map]
    constructor
    · rintro ⟨w, hw, rfl⟩
      obtain ⟨a, ha, hm, rfl⟩ := (h2 w).1 hw
      have := rpE_le (orE n (psN nx mu)) a
      exact ⟨f a, c.fl a ha, (c.free h (c.fl a ha)).2 ⟨a, ha, rfl, hm⟩, (c.ker h ha (by omega)).2 (rpE_idem _ _).symm⟩
    · rintro ⟨z', hz, hm, rfl⟩
      obtain ⟨a, ha, rfl, hma⟩ := (c.free h hz).1 hm
      have := rpE_le (orE n (psN nx mu)) a
      exact ⟨rpE (orE n (psN nx mu)) a, (h2 _).2 ⟨a, ha, hma, rfl⟩, (c.ker h (by omega) ha).2 (rpE_idem _ _)⟩
end
end Go.Proofs.YtnbickholedckaaGreatDoor
