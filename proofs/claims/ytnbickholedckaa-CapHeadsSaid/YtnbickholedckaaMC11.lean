/- The sides of a cap numbered through; the seams as pairs of sides. Plain: no program. -/
import Derived.Test.YtnbickholedckaaMC4
import Derived.Test.YtnbickholedckaaMC7
namespace Go.Proofs.Ytnbickholedckaa

/-- The first side of a piece. -/
def fsN (sd : Nat → List Int) : Nat → Nat
  | 0 => 0
  | p + 1 => fsN sd p + (sd p).length
theorem fsN_mono {sd : Nat → List Int} {p q : Nat} (h : p ≤ q) : fsN sd p ≤ fsN sd q := by
  induction h with
  | refl => exact Nat.le_refl _
  | step _ ih => simp only [fsN]; omega
/-- The piece of a side. -/
def pcG (sd : Nat → List Int) : Nat → Nat → Nat
  | 0, _ => 0
  | p + 1, x => if fsN sd p ≤ x then p else pcG sd p x
theorem pcG_spec {sd : Nat → List Int} : ∀ {P x : Nat}, x < fsN sd P → pcG sd P x < P ∧ fsN sd (pcG sd P x) ≤ x ∧ x < fsN sd (pcG sd P x + 1)
  | 0, x, h => by simp [fsN] at h
  | P + 1, x, h => by
    simp only [pcG]
    split
    · rename_i h1; exact ⟨by omega, h1, h⟩
    · rename_i h1
      obtain ⟨a, b, c⟩ := pcG_spec (sd := sd) (P := P) (x := x) (by omega)
      exact ⟨by omega, b, c⟩
theorem pcG_uniq {sd : Nat → List Int} {P x q : Nat} (h1 : fsN sd q ≤ x) (h2 : x < fsN sd (q + 1)) (hq : q < P) : pcG sd P x = q := by
  have hx : x < fsN sd P := Nat.lt_of_lt_of_le h2 (fsN_mono (by omega))
  obtain ⟨a, b, c⟩ := pcG_spec hx
  rcases Nat.lt_trichotomy (pcG sd P x) q with h | h | h
  · have := fsN_mono (sd := sd) (p := pcG sd P x + 1) (q := q) (by omega); omega
  · exact h
  · have := fsN_mono (sd := sd) (p := q + 1) (q := pcG sd P x) (by omega); omega
/-- The next side of the same piece, and the one before. -/
def nxN (sd : Nat → List Int) (P x : Nat) : Nat := if x + 1 = fsN sd (pcG sd P x + 1) then fsN sd (pcG sd P x) else x + 1
def pvN (sd : Nat → List Int) (P x : Nat) : Nat := if x = fsN sd (pcG sd P x) then fsN sd (pcG sd P x + 1) - 1 else x - 1
section
variable {sd : Nat → List Int} {P : Nat}
theorem nx_pc {x : Nat} (hx : x < fsN sd P) : pcG sd P (nxN sd P x) = pcG sd P x ∧ nxN sd P x < fsN sd P := by
  obtain ⟨a, b, c⟩ := pcG_spec hx
  have hm := fsN_mono (sd := sd) (p := pcG sd P x + 1) (q := P) (by omega)
  unfold nxN
  split
  · exact ⟨pcG_uniq (Nat.le_refl _) (by omega) a, by omega⟩
  · exact ⟨pcG_uniq (by omega) (by omega) a, by omega⟩
theorem pv_pc {x : Nat} (hx : x < fsN sd P) : pcG sd P (pvN sd P x) = pcG sd P x ∧ pvN sd P x < fsN sd P := by
  obtain ⟨a, b, c⟩ := pcG_spec hx
  have hm := fsN_mono (sd := sd) (p := pcG sd P x + 1) (q := P) (by omega)
  unfold pvN
  split
  · exact ⟨pcG_uniq (by omega) (by omega) a, by omega⟩
  · exact ⟨pcG_uniq (by omega) (by omega) a, by omega⟩
theorem cap_net (sd : Nat → List Int) (P : Nat) : NetN (fsN sd P) (nxN sd P) (pvN sd P) id where
  nl := fun i hi => (nx_pc hi).2
  pl := fun i hi => (pv_pc hi).2
  ml := fun i hi => hi
  np := fun i hi => by
    obtain ⟨a, b, c⟩ := pcG_spec hi
    unfold nxN
    rw [(pv_pc hi).1]
    unfold pvN
    split
    · rename_i h; rw [if_pos (by omega)]; exact h.symm
    · rw [if_neg (by omega)]; omega
  pn := fun i hi => by
    obtain ⟨a, b, c⟩ := pcG_spec hi
    unfold pvN
    rw [(nx_pc hi).1]
    unfold nxN
    split
    · rename_i h; rw [if_pos rfl]; omega
    · rw [if_neg (by omega)]; omega
  mm := fun i _ => rfl
theorem cyc_pc {x y : Nat} (hx : x < fsN sd P) (hy : y < fsN sd P) : rpE (orE (fsN sd P) (nxN sd P)) x = rpE (orE (fsN sd P) (nxN sd P)) y ↔ pcG sd P x = pcG sd P y := by
  constructor
  · exact fun h => rpE_congr (pcG sd P) (fun p hp => by
      obtain ⟨h1, h2⟩ := mem_orE.1 hp
      rw [h2, (nx_pc h1).1]) h
  · have key : ∀ r x, x < fsN sd P → x = fsN sd (pcG sd P x) + r → rpE (orE (fsN sd P) (nxN sd P)) x = rpE (orE (fsN sd P) (nxN sd P)) (fsN sd (pcG sd P x)) := by
      intro r
      induction r with
      | zero => intro x _ hr; rw [Nat.add_zero] at hr; exact congrArg _ hr
      | succ r ih =>
        intro x hx hr
        obtain ⟨a, b, c⟩ := pcG_spec hx
        have hp : pcG sd P (x - 1) = pcG sd P x := pcG_uniq (by omega) (by omega) a
        have h1 := ih (x - 1) (by omega) (by rw [hp]; omega)
        rw [hp] at h1
        rw [← h1]
        have h2 := orE_step (f := nxN sd P) (x := x - 1) (n := fsN sd P) (by omega)
        have h3 : nxN sd P (x - 1) = x := by unfold nxN; rw [hp, if_neg (by omega)]; omega
        rw [h3] at h2
        exact h2.symm
    intro h
    obtain ⟨_, b1, _⟩ := pcG_spec hx
    obtain ⟨_, b2, _⟩ := pcG_spec hy
    rw [key (x - fsN sd (pcG sd P x)) x hx (by omega), key (y - fsN sd (pcG sd P y)) y hy (by omega), h]
theorem cap_zero (hk : ∀ p, p < P → 1 ≤ (sd p).length) : HdN (fsN sd P) (nxN sd P) (pcG sd P) P [] 0 :=
  HdN.zero (fun x y hx hy => cyc_pc hx hy) (fun i hi => (pcG_spec hi).1) (fun p hp => by
    have h1 := hk p hp
    have h2 := fsN_mono (sd := sd) (p := p + 1) (q := P) (by omega)
    have h3 : fsN sd (p + 1) = fsN sd p + (sd p).length := rfl
    exact ⟨fsN sd p, by omega, pcG_uniq (Nat.le_refl _) (by omega) hp⟩)
/-- A side by its piece and its place. -/
def adS (sd : Nat → List Int) (a i : Int) : Nat := fsN sd a.toNat + i.toNat
theorem adS_lt {a i : Int} (h : hsP P sd a i) : adS sd a i < fsN sd P ∧ pcG sd P (adS sd a i) = a.toNat ∧ adS sd a i - fsN sd a.toNat = i.toNat := by
  obtain ⟨⟨a0, a1⟩, i0, i1⟩ := h
  have h3 : fsN sd (a.toNat + 1) = fsN sd a.toNat + (sd a.toNat).length := rfl
  have h2 := fsN_mono (sd := sd) (p := a.toNat + 1) (q := P) (by omega)
  unfold adS
  exact ⟨by omega, pcG_uniq (by omega) (by omega) (by omega), by omega⟩
theorem adS_inj {a i b j : Int} (h : hsP P sd a i) (h' : hsP P sd b j) (e : adS sd a i = adS sd b j) : a = b ∧ i = j := by
  obtain ⟨_, p1, q1⟩ := adS_lt h
  obtain ⟨_, p2, q2⟩ := adS_lt h'
  rw [e, p2] at p1
  rw [e, ← p1, q2] at q1
  obtain ⟨⟨a0, a1⟩, i0, i1⟩ := h
  obtain ⟨⟨b0, b1⟩, j0, j1⟩ := h'
  omega
/-- The seams as pairs of sides. -/
def smL (sd : Nat → List Int) (sm : List Int) (m : Nat) : List (Nat × Nat) := (List.range m).map fun t => (adS sd (smA sm t) (smI sm t), adS sd (smB sm t) (smJ sm t))
theorem smL_succ (sd : Nat → List Int) (sm : List Int) (m : Nat) : smL sd sm (m + 1) = smL sd sm m ++ [(adS sd (smA sm m) (smI sm m), adS sd (smB sm m) (smJ sm m))] := by simp [smL, List.range_succ]
theorem smL_len (sd : Nat → List Int) (sm : List Int) (m : Nat) : (smL sd sm m).length = m := by simp [smL]
theorem seE_z {n : Nat} {sd : Nat → List Int} {sm : List Int} {e : Int} {k : Nat} (h : seE n sd sm e k = 0) : (hsP n sd (smA sm k) (smI sm k) ∧ hsP n sd (smB sm k) (smJ sm k)) ∧ ¬ ((smA sm k = smB sm k ∧ smI sm k = smJ sm k) ∨ usD sm k (smA sm k) (smI sm k) ∨ usD sm k (smB sm k) (smJ sm k)) ∧
    (-e ≤ lnS sd (smA sm k) (smI sm k) - lnS sd (smB sm k) (smJ sm k) ∧ lnS sd (smA sm k) (smI sm k) - lnS sd (smB sm k) (smJ sm k) ≤ e) := by
  by_cases h1 : hsP n sd (smA sm k) (smI sm k) ∧ hsP n sd (smB sm k) (smJ sm k)
  · by_cases h2 : (smA sm k = smB sm k ∧ smI sm k = smJ sm k) ∨ usD sm k (smA sm k) (smI sm k) ∨ usD sm k (smB sm k) (smJ sm k)
    · rw [seE_7 h1 h2] at h; cases h
    · by_cases h3 : -e ≤ lnS sd (smA sm k) (smI sm k) - lnS sd (smB sm k) (smJ sm k) ∧ lnS sd (smA sm k) (smI sm k) - lnS sd (smB sm k) (smJ sm k) ≤ e
      · exact ⟨h1, h2, h3⟩
      · rw [seE_8 h1 h2 h3] at h; cases h
  · rw [seE_5 h1] at h; cases h
theorem mu_used {sm : List Int} : ∀ {m x : Nat}, muS (smL sd sm m) x ≠ x → ∃ t, t < m ∧ (x = adS sd (smA sm t) (smI sm t) ∨ x = adS sd (smB sm t) (smJ sm t))
  | 0, x, h => absurd rfl h
  | m + 1, x, h => by
    rw [smL_succ, muS_snoc] at h
    unfold updM at h
    by_cases h1 : x = adS sd (smA sm m) (smI sm m)
    · exact ⟨m, by omega, .inl h1⟩
    · by_cases h2 : x = adS sd (smB sm m) (smJ sm m)
      · exact ⟨m, by omega, .inr h2⟩
      · simp only [h1, h2, if_false] at h
        obtain ⟨t, ht, hh⟩ := mu_used h
        exact ⟨t, by omega, hh⟩
/-- Valid seams join free sides. -/
theorem smL_ok {sm : List Int} {e : Int} : ∀ {m : Nat}, (∀ t, t < m → seE P sd sm e t = 0) → OkS (fsN sd P) (smL sd sm m)
  | 0, _ => .nil
  | m + 1, h => by
    obtain ⟨⟨hA, hB⟩, hn, _⟩ := seE_z (h m (by omega))
    rw [smL_succ]
    have key : ∀ {a i : Int}, hsP P sd a i → ¬ usD sm m a i → muS (smL sd sm m) (adS sd a i) = adS sd a i := by
      intro a i hs hu
      by_cases hf : muS (smL sd sm m) (adS sd a i) = adS sd a i
      · exact hf
      · obtain ⟨t, ht, hh⟩ := mu_used hf
        obtain ⟨⟨tA, tB⟩, _⟩ := seE_z (h t (by omega))
        refine absurd (usD_iff.2 ⟨t, ht, ?_⟩) hu
        rcases hh with hh | hh
        · obtain ⟨e1, e2⟩ := adS_inj hs tA hh; exact .inl ⟨e1.symm, e2.symm⟩
        · obtain ⟨e1, e2⟩ := adS_inj hs tB hh; exact .inr ⟨e1.symm, e2.symm⟩
    refine .snoc (smL_ok fun t ht => h t (by omega)) (adS_lt hA).1 (adS_lt hB).1 (fun e => hn (.inl (adS_inj hA hB e))) (key hA fun hu => hn (.inr (.inl hu))) (key hB fun hu => hn (.inr (.inr hu)))
/-- The partners as numbers; -1 where a side is free. -/
def mtF (mu : Nat → Nat) (x : Nat) : Int := if mu x = x then -1 else (mu x : Int)
theorem mtF_step {S : List (Nat × Nat)} {a b x : Nat} (hne : a ≠ b) : mtF (muS (S ++ [(a, b)])) x = if x = b then (a : Int) else if x = a then (b : Int) else mtF (muS S) x := by
  unfold mtF
  rw [muS_snoc]
  unfold updM
  by_cases h1 : x = a
  · subst h1; simp [hne, Ne.symm hne]
  · by_cases h2 : x = b
    · subst h2; simp [h1, hne]
    · simp [h1, h2]
end
end Go.Proofs.Ytnbickholedckaa
