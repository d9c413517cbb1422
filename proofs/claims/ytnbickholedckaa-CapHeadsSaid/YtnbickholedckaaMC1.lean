/- Classes made by edges, their smallest members and their number; cycles of permutations, and what a swap does to them. Plain: no program. -/
namespace Go.Proofs.Ytnbickholedckaa

/-- How many numbers below n have the property. -/
def cnN (p : Nat → Bool) : Nat → Nat
  | 0 => 0
  | n + 1 => cnN p n + (p n).toNat
theorem cnN_congr {p q : Nat → Bool} : ∀ n, (∀ i, i < n → p i = q i) → cnN p n = cnN q n
  | 0, _ => rfl
  | n + 1, h => by simp only [cnN, cnN_congr n (fun i hi => h i (by omega)), h n (by omega)]
theorem cnN_rm {p : Nat → Bool} {k : Nat} (hp : p k = true) : ∀ n, k < n → cnN (fun i => p i && decide (i ≠ k)) n + 1 = cnN p n
  | 0, h => by omega
  | n + 1, h => by
    simp only [cnN]
    by_cases hk : k = n
    · subst hk
      have : cnN (fun i => p i && decide (i ≠ k)) k = cnN p k := cnN_congr k (fun i hi => by simp [show i ≠ k by omega])
      rw [this, hp]; simp
    · have h1 := cnN_rm hp n (by omega)
      have : (p n && decide (n ≠ k)) = p n := by simp [Ne.symm hk]
      rw [this]; omega
theorem cnN_le (p : Nat → Bool) : ∀ n, cnN p n ≤ n
  | 0 => Nat.le_refl _
  | n + 1 => by have := cnN_le p n; simp only [cnN]; cases p n <;> simp <;> omega
theorem cnN_filter (p : Nat → Bool) : ∀ n, ((List.range n).filter p).length = cnN p n
  | 0 => rfl
  | n + 1 => by
    rw [List.range_succ, List.filter_append, List.length_append, cnN_filter p n, cnN]
    cases h : p n <;> simp [h]
theorem cnN_split (p q : Nat → Bool) : ∀ n, cnN p n = cnN (fun i => p i && q i) n + cnN (fun i => p i && !q i) n
  | 0 => rfl
  | n + 1 => by
    have := cnN_split p q n
    simp only [cnN]
    cases p n <;> cases q n <;> simp <;> omega

/-- The smallest member of a class; the edges are joined one after another. -/
def rpE : List (Nat × Nat) → Nat → Nat
  | [], i => i
  | e :: E, i => if rpE E i = rpE E e.1 ∨ rpE E i = rpE E e.2 then min (rpE E e.1) (rpE E e.2) else rpE E i
theorem rpE_le : ∀ (E : List (Nat × Nat)) (i : Nat), rpE E i ≤ i
  | [], i => Nat.le_refl _
  | e :: E, i => by
    have := rpE_le E i
    simp only [rpE]
    split
    · rename_i h; rcases h with h | h <;> omega
    · exact this
theorem rpE_idem : ∀ (E : List (Nat × Nat)) (i : Nat), rpE E (rpE E i) = rpE E i
  | [], i => rfl
  | e :: E, i => by
    have h1 := rpE_idem E e.1
    have h2 := rpE_idem E e.2
    have h3 := rpE_idem E i
    by_cases h : rpE E i = rpE E e.1 ∨ rpE E i = rpE E e.2
    · have hi : rpE (e :: E) i = min (rpE E e.1) (rpE E e.2) := by simp only [rpE]; exact if_pos h
      rw [hi]
      have hm : rpE E (min (rpE E e.1) (rpE E e.2)) = min (rpE E e.1) (rpE E e.2) := by
        by_cases hh : rpE E e.1 ≤ rpE E e.2
        · rw [Nat.min_eq_left hh, h1]
        · rw [Nat.min_eq_right (by omega), h2]
      simp only [rpE]
      rw [hm]
      exact if_pos (by omega)
    · have hi : rpE (e :: E) i = rpE E i := by simp only [rpE]; exact if_neg h
      rw [hi]
      simp only [rpE]
      rw [h3]
      exact if_neg h
theorem rpE_step (e : Nat × Nat) (E : List (Nat × Nat)) {i j : Nat} (h : rpE E i = rpE E j) : rpE (e :: E) i = rpE (e :: E) j := by
  simp only [rpE, h]
theorem rpE_edge : ∀ {E : List (Nat × Nat)} {u v : Nat}, (u, v) ∈ E → rpE E u = rpE E v
  | e :: E, u, v, h => by
    rcases List.mem_cons.1 h with h | h
    · subst h; simp [rpE]
    · exact rpE_step e E (rpE_edge h)
theorem rpE_univ {α : Type} (g : Nat → α) : ∀ {E : List (Nat × Nat)}, (∀ p ∈ E, g p.1 = g p.2) → ∀ i, g (rpE E i) = g i
  | [], _, i => rfl
  | e :: E, h, i => by
    have ih := rpE_univ g (fun p hp => h p (.tail _ hp))
    have he := h e (.head _)
    simp only [rpE]
    split
    · rename_i hc
      have : g (min (rpE E e.1) (rpE E e.2)) = g e.1 := by
        by_cases hh : rpE E e.1 ≤ rpE E e.2
        · rw [Nat.min_eq_left hh, ih]
        · rw [Nat.min_eq_right (by omega), ih, he]
      rw [this]
      rcases hc with hc | hc
      · rw [← ih e.1, ← hc, ih]
      · rw [he, ← ih e.2, ← hc, ih]
    · exact ih i
theorem rpE_congr {α : Type} (g : Nat → α) {E : List (Nat × Nat)} (h : ∀ p ∈ E, g p.1 = g p.2) {i j : Nat} (hij : rpE E i = rpE E j) : g i = g j := by
  rw [← rpE_univ g h i, hij, rpE_univ g h j]
theorem rpE_first (E : List (Nat × Nat)) (i : Nat) : rpE E i = i ↔ ∀ j, j < i → rpE E j ≠ rpE E i := by
  constructor
  · intro h j hj he
    have := rpE_le E j
    omega
  · intro h
    have h1 := rpE_le E i
    by_cases h2 : rpE E i = i
    · exact h2
    · exact absurd (rpE_idem E i) (h _ (by omega))
/-- What is true of all edges' ends is true of the classes. -/
theorem rpE_ker {E E' : List (Nat × Nat)} (h : ∀ p ∈ E, rpE E' p.1 = rpE E' p.2) {i j : Nat} (hij : rpE E i = rpE E j) : rpE E' i = rpE E' j := rpE_congr (rpE E') h hij

/-- The number of classes. -/
def ccE (n : Nat) (E : List (Nat × Nat)) : Nat := cnN (fun i => decide (rpE E i = i)) n
theorem cnN_all {p : Nat → Bool} : ∀ n, (∀ i, i < n → p i = true) → cnN p n = n
  | 0, _ => rfl
  | n + 1, h => by simp only [cnN, cnN_all n (fun i hi => h i (by omega)), h n (by omega)]; rfl
theorem ccE_nil (n : Nat) : ccE n [] = n := cnN_all n fun i _ => by simp [rpE]
theorem ccE_same {n : Nat} {e : Nat × Nat} {E : List (Nat × Nat)} (h : rpE E e.1 = rpE E e.2) : ccE n (e :: E) = ccE n E := by
  refine cnN_congr n fun i _ => ?_
  have : rpE (e :: E) i = rpE E i := by
    simp only [rpE]
    split
    · rename_i hc; rcases hc with hc | hc <;> omega
    · rfl
  rw [this]
theorem ccE_join {n : Nat} {e : Nat × Nat} {E : List (Nat × Nat)} (h : rpE E e.1 ≠ rpE E e.2) (h1 : e.1 < n) (h2 : e.2 < n) : ccE n (e :: E) + 1 = ccE n E := by
  have hk : ∃ k, k < n ∧ rpE E k = k ∧ ∀ i, (rpE (e :: E) i = i ↔ (rpE E i = i ∧ i ≠ k)) := by
    have l1 := rpE_le E e.1
    have l2 := rpE_le E e.2
    have i1 := rpE_idem E e.1
    have i2 := rpE_idem E e.2
    by_cases hle : rpE E e.1 ≤ rpE E e.2
    · refine ⟨rpE E e.2, by omega, i2, fun i => ?_⟩
      have i3 := rpE_idem E i
      simp only [rpE, Nat.min_eq_left hle]
      constructor
      · intro hi
        split at hi
        · rename_i hc
          subst hi
          exact ⟨i1, h⟩
        · rename_i hc
          exact ⟨hi, fun he => hc (.inr (by rw [he, i2]))⟩
      · rintro ⟨hi, hne⟩
        rw [hi]
        split
        · rename_i hc; rcases hc with hc | hc
          · exact hc.symm
          · exact absurd hc hne
        · rfl
    · refine ⟨rpE E e.1, by omega, i1, fun i => ?_⟩
      simp only [rpE, Nat.min_eq_right (show rpE E e.2 ≤ rpE E e.1 by omega)]
      constructor
      · intro hi
        split at hi
        · rename_i hc
          subst hi
          exact ⟨i2, fun he => h he.symm⟩
        · rename_i hc
          exact ⟨hi, fun he => hc (.inl (by rw [he, i1]))⟩
      · rintro ⟨hi, hne⟩
        rw [hi]
        split
        · rename_i hc; rcases hc with hc | hc
          · exact absurd hc hne
          · exact hc.symm
        · rfl
  obtain ⟨k, hk1, hk2, hk3⟩ := hk
  have h4 : ccE n (e :: E) = cnN (fun i => decide (rpE E i = i) && decide (i ≠ k)) n := cnN_congr n fun i _ => by
    simp only [decide_eq_decide.2 (hk3 i), Bool.decide_and]
  rw [h4]
  exact cnN_rm (p := fun i => decide (rpE E i = i)) (by simp [hk2]) n hk1
/-- The numbers of classes are the same where the classes are. -/
theorem ccE_ker {n : Nat} {E E' : List (Nat × Nat)} (h : ∀ i j, i < n → j < n → (rpE E i = rpE E j ↔ rpE E' i = rpE E' j)) : ccE n E = ccE n E' := by
  refine cnN_congr n fun i hi => ?_
  rw [decide_eq_decide, rpE_first, rpE_first]
  constructor
  · intro h1 j hj he; exact h1 j hj ((h j i (by omega) hi).2 he)
  · intro h1 j hj he; exact h1 j hj ((h j i (by omega) hi).1 he)

/-! ### Steps -/
def itn (f : Nat → Nat) : Nat → Nat → Nat
  | 0, x => x
  | k + 1, x => f (itn f k x)
theorem itn_add (f : Nat → Nat) (x : Nat) (i : Nat) : ∀ j, itn f (i + j) x = itn f j (itn f i x)
  | 0 => rfl
  | j + 1 => by show f (itn f (i + j) x) = _; rw [itn_add f x i j]; rfl
theorem itn_succ (f : Nat → Nat) (k x : Nat) : itn f (k + 1) x = itn f k (f x) := by rw [Nat.add_comm, itn_add]; rfl
/-- A permutation of the numbers below n. -/
structure PmN (n : Nat) (f : Nat → Nat) : Prop where
  mp : ∀ i, i < n → f i < n
  inj : ∀ i j, i < n → j < n → f i = f j → i = j
theorem pigeonN : ∀ (N m : Nat) (f : Nat → Nat), (∀ i, i < m → f i < N) → (∀ i j, i < j → j < m → f i ≠ f j) → m ≤ N
  | 0, m, f, h, _ => by
    rcases Nat.eq_zero_or_pos m with h0 | h0
    · omega
    · have := h 0 h0; omega
  | N + 1, m, f, h, hd => by
    by_cases hx : ∃ i, i < m ∧ f i = N
    · obtain ⟨i, hi, he⟩ := hx
      have := pigeonN N (m - 1) (fun k => if k < i then f k else f (k + 1)) (fun k hk => by
        by_cases h1 : k < i
        · simp only [if_pos h1]
          have a := h k (by omega)
          have b := hd k i h1 hi
          omega
        · simp only [if_neg h1]
          have a := h (k + 1) (by omega)
          have b := hd i (k + 1) (by omega) (by omega)
          omega) (fun j k hjk hk => by
        by_cases h1 : k < i
        · simp only [if_pos h1, if_pos (show j < i by omega)]; exact hd j k hjk (by omega)
        · by_cases h2 : j < i
          · simp only [if_neg h1, if_pos h2]; exact hd j (k + 1) (by omega) (by omega)
          · simp only [if_neg h1, if_neg h2]; exact hd (j + 1) (k + 1) (by omega) (by omega))
      omega
    · have := pigeonN N m f (fun k hk => by
        have := h k hk
        have : f k ≠ N := fun e => hx ⟨k, hk, e⟩
        omega) hd
      omega
theorem PmN.itn_lt {n : Nat} {f : Nat → Nat} (h : PmN n f) {x : Nat} (hx : x < n) : ∀ k, itn f k x < n
  | 0 => hx
  | k + 1 => h.mp _ (h.itn_lt hx k)
theorem PmN.itn_inj {n : Nat} {f : Nat → Nat} (h : PmN n f) {x y : Nat} (hx : x < n) (hy : y < n) : ∀ k, itn f k x = itn f k y → x = y
  | 0, e => e
  | k + 1, e => h.itn_inj hx hy k (h.inj _ _ (h.itn_lt hx k) (h.itn_lt hy k) e)
/-- Each number comes back. -/
theorem PmN.ret {n : Nat} {f : Nat → Nat} (h : PmN n f) {x : Nat} (hx : x < n) : ∃ k, 1 ≤ k ∧ k ≤ n ∧ itn f k x = x := by
  by_cases hh : ∀ i j, i < j → j < n + 1 → itn f i x ≠ itn f j x
  · have := pigeonN n (n + 1) (fun i => itn f i x) (fun i _ => h.itn_lt hx i) hh
    omega
  · simp only [Classical.not_forall, Decidable.not_not] at hh
    obtain ⟨i, j, hij, hj, he⟩ := hh
    refine ⟨j - i, by omega, by omega, ?_⟩
    rw [show j = (j - i) + i by omega, itn_add] at he
    exact (h.itn_inj hx (h.itn_lt hx _) i he).symm
/-- The first time that a number comes back. -/
theorem PmN.ret1 {n : Nat} {f : Nat → Nat} (h : PmN n f) {x : Nat} (hx : x < n) : ∃ k, 1 ≤ k ∧ k ≤ n ∧ itn f k x = x ∧ ∀ j, 1 ≤ j → j < k → itn f j x ≠ x := by
  obtain ⟨k, h1, h2, h3⟩ := h.ret hx
  have : ∀ m k, k ≤ m → 1 ≤ k → k ≤ n → itn f k x = x → ∃ k, 1 ≤ k ∧ k ≤ n ∧ itn f k x = x ∧ ∀ j, 1 ≤ j → j < k → itn f j x ≠ x := by
    intro m
    induction m with
    | zero => intro k h0 h1; omega
    | succ m ih =>
      intro k h0 h1 h2 h3
      by_cases hj : ∃ j, 1 ≤ j ∧ j < k ∧ itn f j x = x
      · obtain ⟨j, a, b, c⟩ := hj
        exact ih j (by omega) a (by omega) c
      · exact ⟨k, h1, h2, h3, fun j a b c => hj ⟨j, a, b, c⟩⟩
  exact this k k (Nat.le_refl _) h1 h2 h3
theorem itn_mod {f : Nat → Nat} {x k : Nat} (hk : itn f k x = x) : ∀ q, itn f (k * q) x = x
  | 0 => rfl
  | q + 1 => by rw [Nat.mul_succ, itn_add, itn_mod hk q, hk]
def orE (n : Nat) (f : Nat → Nat) : List (Nat × Nat) := (List.range n).map fun i => (i, f i)
theorem mem_orE {n : Nat} {f : Nat → Nat} {p : Nat × Nat} : p ∈ orE n f ↔ p.1 < n ∧ p.2 = f p.1 := by
  simp only [orE, List.mem_map, List.mem_range]
  constructor
  · rintro ⟨i, hi, rfl⟩; exact ⟨hi, rfl⟩
  · rintro ⟨h1, h2⟩; exact ⟨p.1, h1, by rw [← h2]⟩
theorem orE_step {n : Nat} {f : Nat → Nat} {x : Nat} (hx : x < n) : rpE (orE n f) x = rpE (orE n f) (f x) := rpE_edge (mem_orE.2 ⟨hx, rfl⟩)
theorem PmN.orE_it {n : Nat} {f : Nat → Nat} (h : PmN n f) {x : Nat} (hx : x < n) : ∀ k, rpE (orE n f) x = rpE (orE n f) (itn f k x)
  | 0 => rfl
  | k + 1 => (h.orE_it hx k).trans (orE_step (h.itn_lt hx k))
/-- A class is a cycle. -/
theorem PmN.orb {n : Nat} {f : Nat → Nat} (h : PmN n f) {x y : Nat} (hx : x < n) : rpE (orE n f) x = rpE (orE n f) y ↔ ∃ k, itn f k x = y := by
  constructor
  · intro he
    have : (∃ k, itn f k x = x) = (∃ k, itn f k x = y) := rpE_congr (fun z => ∃ k, itn f k x = z) (fun p hp => by
      obtain ⟨h1, h2⟩ := mem_orE.1 hp
      rw [h2]
      refine propext ⟨fun ⟨k, hk⟩ => ⟨k + 1, by show f (itn f k x) = _; rw [hk]⟩, fun ⟨k, hk⟩ => ?_⟩
      obtain ⟨m, m1, _, m3⟩ := h.ret h1
      refine ⟨k + (m - 1), ?_⟩
      rw [itn_add, hk, ← itn_succ, show m - 1 + 1 = m by omega, m3]) he
    exact this ▸ ⟨0, rfl⟩
  · rintro ⟨k, rfl⟩
    exact h.orE_it hx k
/-- Two numbers are swapped. -/
def swN (a b x : Nat) : Nat := if x = a then b else if x = b then a else x
theorem swN_a (a b : Nat) : swN a b a = b := by simp [swN]
theorem swN_b (a b : Nat) : swN a b b = a := by unfold swN; split <;> simp_all
theorem swN_o {a b x : Nat} (h1 : x ≠ a) (h2 : x ≠ b) : swN a b x = x := by simp [swN, h1, h2]
theorem swN_sw (a b x : Nat) : swN a b (swN a b x) = x := by
  by_cases h1 : x = a
  · subst h1; rw [swN_a, swN_b]
  · by_cases h2 : x = b
    · subst h2; rw [swN_b, swN_a]
    · rw [swN_o h1 h2, swN_o h1 h2]
theorem swN_lt {n a b x : Nat} (ha : a < n) (hb : b < n) (hx : x < n) : swN a b x < n := by unfold swN; split <;> (try split) <;> assumption
theorem PmN.swap {n : Nat} {f : Nat → Nat} (h : PmN n f) {a b : Nat} (ha : a < n) (hb : b < n) : PmN n (fun x => f (swN a b x)) :=
  ⟨fun i hi => h.mp _ (swN_lt ha hb hi), fun i j hi hj e => by
    have := h.inj _ _ (swN_lt ha hb hi) (swN_lt ha hb hj) e
    rw [← swN_sw a b i, this, swN_sw]⟩
/-- Two cycles become one. -/
theorem PmN.swap_join {n : Nat} {f : Nat → Nat} (h : PmN n f) {a b : Nat} (ha : a < n) (hb : b < n) (hd : rpE (orE n f) a ≠ rpE (orE n f) b) :
    rpE (orE n fun x => f (swN a b x)) a = rpE (orE n fun x => f (swN a b x)) b ∧ ccE n (orE n fun x => f (swN a b x)) + 1 = ccE n (orE n f) := by
  have hne : a ≠ b := fun e => hd (by rw [e])
  have key : ∀ (a b : Nat), a < n → b < n → rpE (orE n f) a ≠ rpE (orE n f) b → ∀ (s : Nat → Nat), (∀ x, x ≠ a → x ≠ b → s x = x) → s a = b → s b = a → PmN n (fun x => f (s x)) → rpE (orE n fun x => f (s x)) a = rpE (orE n fun x => f (s x)) b := by
    intro a b ha hb hd s hs hsa hsb h'
    obtain ⟨k, k1, _, k3, k4⟩ := h.ret1 hb
    have hna : ∀ j, itn f j b ≠ a := fun j e => hd ((h.orb hb).2 ⟨j, e⟩).symm
    have step : ∀ j, j + 1 ≤ k → itn (fun x => f (s x)) (j + 1) a = itn f (j + 1) b := by
      intro j
      induction j with
      | zero => intro _; show f (s a) = f b; rw [hsa]
      | succ j ih =>
        intro hj
        show f (s (itn (fun x => f (s x)) (j + 1) a)) = f (itn f (j + 1) b)
        rw [ih (by omega), hs _ (hna _) (k4 _ (by omega) (by omega))]
    have := step (k - 1) (by omega)
    rw [show k - 1 + 1 = k by omega, k3] at this
    exact (h'.orb ha).2 ⟨k, this⟩
  have h' := h.swap ha hb
  have hab := key a b ha hb hd (swN a b) (fun x h1 h2 => swN_o h1 h2) (swN_a a b) (swN_b a b) h'
  refine ⟨hab, ?_⟩
  have hker : ∀ i j, i < n → j < n → (rpE (orE n fun x => f (swN a b x)) i = rpE (orE n fun x => f (swN a b x)) j ↔ rpE ((a, b) :: orE n f) i = rpE ((a, b) :: orE n f) j) := by
    intro i j hi hj
    constructor
    · refine rpE_ker (fun p hp => ?_)
      obtain ⟨h1, h2⟩ := mem_orE.1 hp
      rw [h2]
      have e0 : rpE ((a, b) :: orE n f) a = rpE ((a, b) :: orE n f) b := rpE_edge (.head _)
      have es : ∀ x, x < n → rpE ((a, b) :: orE n f) x = rpE ((a, b) :: orE n f) (f x) := fun x hx => rpE_step _ _ (orE_step hx)
      by_cases q1 : p.1 = a
      · rw [q1, swN_a, e0]; exact es b hb
      · by_cases q2 : p.1 = b
        · rw [q2, swN_b, ← e0]; exact es a ha
        · rw [swN_o q1 q2]; exact es _ h1
    · refine rpE_ker (fun p hp => ?_)
      rcases List.mem_cons.1 hp with rfl | hp
      · exact hab
      · obtain ⟨h1, h2⟩ := mem_orE.1 hp
        rw [h2]
        have es : ∀ x, x < n → rpE (orE n fun x => f (swN a b x)) x = rpE (orE n fun x => f (swN a b x)) (f (swN a b x)) := fun x hx => orE_step hx
        by_cases q1 : p.1 = a
        · rw [q1, hab]; have := es b hb; rwa [swN_b] at this
        · by_cases q2 : p.1 = b
          · rw [q2, ← hab]; have := es a ha; rwa [swN_a] at this
          · have := es _ h1; rwa [swN_o q1 q2] at this
  rw [ccE_ker hker]
  exact ccE_join (e := (a, b)) hd ha hb
/-- One cycle becomes two. -/
theorem PmN.swap_cut {n : Nat} {f : Nat → Nat} (h : PmN n f) {a b : Nat} (ha : a < n) (hb : b < n) (hne : a ≠ b) (hd : rpE (orE n f) a = rpE (orE n f) b) :
    rpE (orE n fun x => f (swN a b x)) a ≠ rpE (orE n fun x => f (swN a b x)) b ∧ ccE n (orE n fun x => f (swN a b x)) = ccE n (orE n f) + 1 := by
  have h' := h.swap ha hb
  have hd' : rpE (orE n fun x => f (swN a b x)) a ≠ rpE (orE n fun x => f (swN a b x)) b := by
    obtain ⟨k0, hk0⟩ := (h.orb ha).1 hd
    have hmin : ∃ k, itn f k a = b ∧ ∀ j, j < k → itn f j a ≠ b := by
      have : ∀ m k, k ≤ m → itn f k a = b → ∃ k, itn f k a = b ∧ ∀ j, j < k → itn f j a ≠ b := by
        intro m
        induction m with
        | zero => intro k h0 h1; exact ⟨0, by rwa [show k = 0 by omega] at h1, fun j hj => by omega⟩
        | succ m ih =>
          intro k h0 h1
          by_cases hj : ∃ j, j < k ∧ itn f j a = b
          · obtain ⟨j, q1, q2⟩ := hj; exact ih j (by omega) q2
          · exact ⟨k, h1, fun j q1 q2 => hj ⟨j, q1, q2⟩⟩
      exact this k0 k0 (Nat.le_refl _) hk0
    obtain ⟨k, hk, hkm⟩ := hmin
    have hk1 : 1 ≤ k := by
      rcases Nat.eq_zero_or_pos k with h0 | h0
      · rw [h0] at hk; exact absurd hk hne
      · exact h0
    have hka : ∀ j, 1 ≤ j → j < k → itn f j a ≠ a := fun j j1 j2 e => by
      have : itn f (k - j) a = b := by rw [← hk, show k = j + (k - j) by omega, itn_add, e, show j + (k - j) - j = k - j by omega]
      exact hkm _ (by omega) this
    have step : ∀ j, j + 1 ≤ k → itn (fun x => f (swN a b x)) (j + 1) b = itn f (j + 1) a := by
      intro j
      induction j with
      | zero => intro _; show f (swN a b b) = f a; rw [swN_b]
      | succ j ih =>
        intro hj
        show f (swN a b (itn (fun x => f (swN a b x)) (j + 1) b)) = f (itn f (j + 1) a)
        rw [ih (by omega), swN_o (hka _ (by omega) (by omega)) (hkm _ (by omega))]
    intro he
    obtain ⟨m, hm⟩ := (h'.orb hb).1 he.symm
    have hret : itn (fun x => f (swN a b x)) k b = b := by
      have := step (k - 1) (by omega)
      rw [show k - 1 + 1 = k by omega] at this
      rw [this, hk]
    have hm2 : itn (fun x => f (swN a b x)) (m % k) b = a := by
      have := Nat.div_add_mod m k
      rw [← this, itn_add, itn_mod hret] at hm
      exact hm
    have hlt : m % k < k := Nat.mod_lt _ (by omega)
    rcases Nat.eq_zero_or_pos (m % k) with h0 | h0
    · rw [h0] at hm2; exact hne hm2.symm
    · have := step (m % k - 1) (by omega)
      rw [show m % k - 1 + 1 = m % k by omega, hm2] at this
      exact hka _ h0 hlt this.symm
  refine ⟨hd', ?_⟩
  have := (h'.swap_join ha hb hd').2
  have he : (fun x => (fun x => f (swN a b x)) (swN a b x)) = f := funext fun x => by simp only [swN_sw]
  rw [he] at this
  exact this.symm
end Go.Proofs.Ytnbickholedckaa
