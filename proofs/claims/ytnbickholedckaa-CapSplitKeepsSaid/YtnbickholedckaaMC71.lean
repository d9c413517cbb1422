/- A cut, plain: the pieces, the seams, and that the new cap is valid. -/
import Derived.Test.YtnbickholedckaaMC67
namespace Go.Proofs.Ytnbickholedckaa
open Go.RowKit
theorem mv_ok {sd : Nat → List Int} {P p i s j : Nat} {z : Int} (c : CutQ sd P p i s) (hj : j = (i + s) % (sd p).length) {A I : Nat} (hA : A < P) (hI : I < (sd A).length) :
    mv1 A I p i (sd p).length s P ≤ P ∧ mv2 A I p i j (sd p).length s < (sdS sd P p i s z (mv1 A I p i (sd p).length s P)).length
      ∧ fsN (sdS sd P p i s z) (mv1 A I p i (sd p).length s P) + mv2 A I p i j (sd p).length s = nwS sd P p i s z (fsN sd A + I)
      ∧ (sdS sd P p i s z (mv1 A I p i (sd p).length s P)).getD (mv2 A I p i j (sd p).length s) 0 = (sd A).getD I 0 := by
  have hp := c.hp
  have hi := c.hi
  have h2 := c.h2
  have hs := c.hs
  have e1 : pcG sd P (fsN sd A + I) = A := pcG_uniq (by omega) (by show fsN sd A + I < fsN sd A + (sd A).length; omega) hA
  have e2 : fsN sd A + I - fsN sd A = I := by omega
  have hx : fsN sd A + I < fsN sd P := by
    have := fsN_mono (sd := sd) (show A + 1 ≤ P by omega)
    have e : fsN sd (A + 1) = fsN sd A + (sd A).length := rfl
    omega
  unfold mv1 mv2
  by_cases hap : A = p
  · have hne : ¬ (A ≠ p) := fun h => h hap
    rw [if_neg hne, if_neg hne]
    subst hap
    obtain ⟨u, hu, hI'⟩ : ∃ u, u < (sd A).length ∧ I = (i + u) % (sd A).length := ⟨(I + (sd A).length - i) % (sd A).length, (md_fwd hi hI).2, (md_fwd hi hI).1.symm⟩
    have hbk : (I + (sd A).length - i) % (sd A).length = u := by rw [hI']; exact md_back hi hu
    have hau : fsN sd A + I = auS sd A i u := by unfold auS; rw [hI']
    rw [hau, nw_au c hu, hbk]
    by_cases hus : u < s
    · rw [if_pos hus, if_pos hus, if_pos hus]
      refine ⟨by omega, by rw [sdS_len c, if_pos rfl]; omega, rfl, ?_⟩
      unfold sdS
      rw [if_pos rfl, ptl_at hus, hI']
    · rw [if_neg hus, if_neg hus, if_neg hus]
      have hjb : (I + (sd A).length - j) % (sd A).length = u - s := by
        have := md_back (i := j) (u := u - s) (k := (sd A).length) (by rw [hj]; exact Nat.mod_lt _ (by omega)) (by omega)
        rw [← this, hI', hj]
        congr 3
        rw [Nat.mod_add_mod]
        congr 1
        omega
      rw [hjb]
      have hPp : ¬ P = A := by omega
      refine ⟨Nat.le_refl _, by rw [sdS_len c, if_neg hPp, if_pos rfl]; omega, rfl, ?_⟩
      unfold sdS
      rw [if_neg hPp, if_pos rfl, ptl_at (by omega), hI', Nat.mod_add_mod]
      congr 2
      omega
  · rw [if_pos hap, if_pos hap]
    have h3 : ¬ A = P := by omega
    have e3 : (sdS sd P p i s z A).length = (sd A).length := by rw [sdS_len c, if_neg hap, if_neg h3]
    refine ⟨by omega, by rw [e3]; exact hI, ?_, ?_⟩
    · rw [nw_o c (by rw [e1]; exact hap), e1, e2]
    · unfold sdS
      rw [if_neg hap, if_neg h3]
/-- What is known of a cut that is made. -/
structure SpX (ps : List Pc) (sm : List Int) (m : Nat) (e : Int) (p i j s : Nat) (z w : Int) : Prop where
  V : VdC ps sm m e
  sl : sm.length = m * 4
  c : CutQ (sdF ps) ps.length p i s
  hj : j < (pcA ps p).sd.length
  js : s = (j + (pcA ps p).sd.length - i) % (pcA ps p).sd.length
  z1 : 1 ≤ z ∧ z ≤ 200
  w1 : 1 ≤ w ∧ w < (pcA ps p).an.getD i 0
  L1 : 1 ≤ hvL (pcA ps p).an i s w ∧ hvL (pcA ps p).an i s w ≤ 359
  R1 : 1 ≤ (pcA ps p).an.getD j 0 - hvL (pcA ps p).an i s w ∧ (pcA ps p).an.getD j 0 - hvL (pcA ps p).an i s w ≤ 359
  n7 : ps.length < 8
theorem spE_0 {ps : List Pc} {sm : List Int} {m : Nat} {e p i j z w : Int} (hsm : sm.length = m * 4) (h : spE ps sm m e p i j z w = 0) : (0 ≤ p ∧ 0 ≤ i ∧ 0 ≤ j) ∧ ∃ s, SpX ps sm m e p.toNat i.toNat j.toNat s z w := by
  unfold spE at h
  by_cases hv : vdC ps sm m e = 0
  · rw [if_neg (fun h => h hv)] at h
    by_cases hs : hsP ps.length (sdF ps) p i ∧ hsP ps.length (sdF ps) p j
    · rw [if_neg (fun h => h hs)] at h
      split at h
      · exact absurd h (by decide)
      · rename_i h1
        split at h
        · exact absurd h (by decide)
        · rename_i h2
          split at h
          · exact absurd h (by decide)
          · rename_i h3
            have V := vdC_0 hv
            obtain ⟨⟨⟨a1, a2⟩, a3, a4⟩, _, a5, a6⟩ := hs
            have e1 : (sdF ps p.toNat).length = (pcA ps p.toNat).sd.length := rfl
            rw [e1] at a4 a6
            have h8 := V.n8
            refine ⟨⟨a1, a3, a5⟩, (j.toNat + (pcA ps p.toNat).sd.length - i.toNat) % (pcA ps p.toNat).sd.length, V, hsm, ⟨by omega, by rw [e1]; omega, by omega, by rw [e1]; omega⟩, by omega, rfl, by omega, by omega, by omega, by omega, by omega⟩
    · rw [if_pos hs] at h
      exact absurd h (by decide)
  · rw [if_pos hv] at h
    exact absurd h hv
section
variable {ps : List Pc} {sm : List Int} {m : Nat} {e : Int} {p i j s : Nat} {z w : Int}
theorem SpX.jm (X : SpX ps sm m e p i j s z w) : j = (i + s) % (pcA ps p).sd.length := by
  have hi : i < (pcA ps p).sd.length := X.c.hi
  rw [X.js]
  exact (md_fwd hi X.hj).1.symm
theorem SpX.sd (X : SpX ps sm m e p i j s z w) : sdF (spP ps p i j z w) = sdS (sdF ps) ps.length p i s z := funext fun q => by
  have hp := X.c.hp
  have hj := X.jm
  have e1 : (sdF ps p).length = (pcA ps p).sd.length := rfl
  unfold spP
  rw [← X.js]
  have hl : (ps.set p (spA ps p i s z w)).length = ps.length := List.length_set
  have hset : ∀ (x : Pc) (r : Nat), pcA (ps.set p x) r = if r = p then x else pcA ps r := fun x r => by
    unfold pcA
    rw [List.getD_eq_getElem?_getD, List.getD_eq_getElem?_getD, List.getElem?_set]
    by_cases h : p = r
    · subst h; rw [if_pos rfl, if_pos rfl, if_pos hp]; rfl
    · rw [if_neg h, if_neg (fun g => h g.symm)]
  by_cases hq : q < ps.length
  · unfold sdF
    rw [pcA_lt (by rw [hl]; exact hq), hset]
    show _ = sdS (sdF ps) ps.length p i s z q
    unfold sdS
    split
    · rename_i h
      subst h
      rfl
    · rw [if_neg (by omega)]
      rfl
  · by_cases hq2 : q = ps.length
    · have := pcA_eq (ps.set p (spA ps p i s z w)) (spB ps p i j s ((pcA ps p).sd.length - s) z w)
      rw [hl] at this
      rw [hq2]
      unfold sdF
      rw [this]
      show _ = sdS (sdF ps) ps.length p i s z ps.length
      unfold sdS
      rw [if_neg (by omega), if_pos rfl]
      show ptl (pcA ps p).sd j ((pcA ps p).sd.length - s) z = _
      rw [hj]
      rfl
    · have g1 : pcA (ps.set p (spA ps p i s z w) ++ [spB ps p i j s ((pcA ps p).sd.length - s) z w]) q = default := by
        unfold pcA
        rw [List.getD_eq_getElem?_getD, List.getElem?_eq_none (by rw [List.length_append, hl]; simp only [List.length_cons, List.length_nil]; omega)]
        rfl
      have g2 : pcA ps q = default := by
        unfold pcA
        rw [List.getD_eq_getElem?_getD, List.getElem?_eq_none (by omega)]
        rfl
      unfold sdF
      rw [g1]
      show _ = sdS (sdF ps) ps.length p i s z q
      unfold sdS
      rw [if_neg (by omega), if_neg hq2]
      unfold sdF
      rw [g2]
theorem SpX.an (X : SpX ps sm m e p i j s z w) (q : Nat) : anF (spP ps p i j z w) q = if q = p then (spA ps p i s z w).an else if q = ps.length then (spB ps p i j s ((pcA ps p).sd.length - s) z w).an else anF ps q := by
  have hp := X.c.hp
  unfold spP
  rw [← X.js]
  have hl : (ps.set p (spA ps p i s z w)).length = ps.length := List.length_set
  have hset : ∀ (x : Pc) (r : Nat), pcA (ps.set p x) r = if r = p then x else pcA ps r := fun x r => by
    unfold pcA
    rw [List.getD_eq_getElem?_getD, List.getD_eq_getElem?_getD, List.getElem?_set]
    by_cases h : p = r
    · subst h; rw [if_pos rfl, if_pos rfl, if_pos hp]; rfl
    · rw [if_neg h, if_neg (fun g => h g.symm)]
  unfold anF
  by_cases hq : q < ps.length
  · rw [pcA_lt (by rw [hl]; exact hq), hset]
    split
    · rfl
    · rw [if_neg (by omega)]
  · by_cases hq2 : q = ps.length
    · have := pcA_eq (ps.set p (spA ps p i s z w)) (spB ps p i j s ((pcA ps p).sd.length - s) z w)
      rw [hl] at this
      rw [hq2, this, if_neg (by omega), if_pos rfl]
    · have g1 : pcA (ps.set p (spA ps p i s z w) ++ [spB ps p i j s ((pcA ps p).sd.length - s) z w]) q = default := by
        unfold pcA
        rw [List.getD_eq_getElem?_getD, List.getElem?_eq_none (by rw [List.length_append, hl]; simp only [List.length_cons, List.length_nil]; omega)]
        rfl
      have g2 : pcA ps q = default := by
        unfold pcA
        rw [List.getD_eq_getElem?_getD, List.getElem?_eq_none (by omega)]
        rfl
      rw [g1, g2, if_neg (by omega), if_neg hq2]
theorem SpX.len (X : SpX ps sm m e p i j s z w) : (spP ps p i j z w).length = ps.length + 1 := by
  unfold spP
  rw [List.length_append, List.length_set]
  rfl
theorem spT_at {p i j k s P : Nat} : ∀ {T t : Nat}, t < T → (spT sm p i j k s P T).getD (t * 4) 0 = ((mv1 (smA sm t).toNat (smI sm t).toNat p i k s P : Nat) : Int) ∧ (spT sm p i j k s P T).getD (t * 4 + 1) 0 = ((mv2 (smA sm t).toNat (smI sm t).toNat p i j k s : Nat) : Int)
    ∧ (spT sm p i j k s P T).getD (t * 4 + 2) 0 = ((mv1 (smB sm t).toNat (smJ sm t).toNat p i k s P : Nat) : Int) ∧ (spT sm p i j k s P T).getD (t * 4 + 3) 0 = ((mv2 (smB sm t).toNat (smJ sm t).toNat p i j k s : Nat) : Int)
  | T + 1, t, h => by
    have hl := spT_len sm p i j k s P T
    unfold spT
    by_cases ht : t < T
    · have gl : ∀ (x : List Int) r, r < (spT sm p i j k s P T).length → (spT sm p i j k s P T ++ x).getD r 0 = (spT sm p i j k s P T).getD r 0 := fun x r hr => by
        rw [List.getD_eq_getElem?_getD, List.getD_eq_getElem?_getD, List.getElem?_append_left hr]
      rw [gl _ _ (by omega), gl _ _ (by omega), gl _ _ (by omega), gl _ _ (by omega)]
      exact spT_at ht
    · obtain rfl : t = T := by omega
      have gr : ∀ (x : List Int) r, (spT sm p i j k s P t ++ x).getD (t * 4 + r) 0 = x.getD r 0 := fun x r => by
        rw [List.getD_eq_getElem?_getD, List.getD_eq_getElem?_getD, List.getElem?_append_right (by omega), hl, Nat.add_sub_cancel_left]
      refine ⟨gr _ 0, gr _ 1, gr _ 2, gr _ 3⟩
/-- The seams behind a cut. -/
theorem SpX.smv (X : SpX ps sm m e p i j s z w) : (∀ t, t < m → smA (spM ps sm m p i j) t = ((mv1 (smA sm t).toNat (smI sm t).toNat p i (sdF ps p).length s ps.length : Nat) : Int) ∧ smI (spM ps sm m p i j) t = ((mv2 (smA sm t).toNat (smI sm t).toNat p i j (sdF ps p).length s : Nat) : Int)
    ∧ smB (spM ps sm m p i j) t = ((mv1 (smB sm t).toNat (smJ sm t).toNat p i (sdF ps p).length s ps.length : Nat) : Int) ∧ smJ (spM ps sm m p i j) t = ((mv2 (smB sm t).toNat (smJ sm t).toNat p i j (sdF ps p).length s : Nat) : Int))
    ∧ smA (spM ps sm m p i j) m = (p : Int) ∧ smI (spM ps sm m p i j) m = (s : Int) ∧ smB (spM ps sm m p i j) m = (ps.length : Int) ∧ smJ (spM ps sm m p i j) m = (((sdF ps p).length - s : Nat) : Int) := by
  have e1 : (sdF ps p).length = (pcA ps p).sd.length := rfl
  have hl := spT_len sm p i j (pcA ps p).sd.length s ps.length m
  unfold spM
  rw [← X.js, e1]
  unfold smA smI smB smJ
  constructor
  · intro t ht
    have gl : ∀ (x : List Int) r, r < (spT sm p i j (pcA ps p).sd.length s ps.length m).length → (spT sm p i j (pcA ps p).sd.length s ps.length m ++ x).getD r 0 = (spT sm p i j (pcA ps p).sd.length s ps.length m).getD r 0 := fun x r hr => by
      rw [List.getD_eq_getElem?_getD, List.getD_eq_getElem?_getD, List.getElem?_append_left hr]
    rw [gl _ _ (by omega), gl _ _ (by omega), gl _ _ (by omega), gl _ _ (by omega)]
    have := spT_at (sm := sm) (p := p) (i := i) (j := j) (k := (pcA ps p).sd.length) (s := s) (P := ps.length) ht
    unfold smA smI smB smJ at this
    exact this
  · have gr : ∀ (x : List Int) r, (spT sm p i j (pcA ps p).sd.length s ps.length m ++ x).getD (m * 4 + r) 0 = x.getD r 0 := fun x r => by
      rw [List.getD_eq_getElem?_getD, List.getD_eq_getElem?_getD, List.getElem?_append_right (by omega), hl, Nat.add_sub_cancel_left]
    exact ⟨gr _ 0, gr _ 1, gr _ 2, gr _ 3⟩
theorem spM_len (ps : List Pc) (sm : List Int) (m p i j : Nat) : (spM ps sm m p i j).length = (m + 1) * 4 := by
  unfold spM
  rw [List.length_append, spT_len]
  simp only [List.length_cons, List.length_nil]
  omega
/-- A side of a seam before, and behind. -/
theorem SpX.mv (X : SpX ps sm m e p i j s z w) {A I : Int} (h : hsP ps.length (sdF ps) A I) : hsP (ps.length + 1) (sdS (sdF ps) ps.length p i s z) ((mv1 A.toNat I.toNat p i (sdF ps p).length s ps.length : Nat) : Int) ((mv2 A.toNat I.toNat p i j (sdF ps p).length s : Nat) : Int)
    ∧ adS (sdS (sdF ps) ps.length p i s z) ((mv1 A.toNat I.toNat p i (sdF ps p).length s ps.length : Nat) : Int) ((mv2 A.toNat I.toNat p i j (sdF ps p).length s : Nat) : Int) = nwS (sdF ps) ps.length p i s z (adS (sdF ps) A I)
    ∧ lnS (sdS (sdF ps) ps.length p i s z) ((mv1 A.toNat I.toNat p i (sdF ps p).length s ps.length : Nat) : Int) ((mv2 A.toNat I.toNat p i j (sdF ps p).length s : Nat) : Int) = lnS (sdF ps) A I := by
  obtain ⟨⟨h1, h2⟩, h3, h4⟩ := h
  obtain ⟨q1, q2, q3, q4⟩ := mv_ok (z := z) X.c X.jm (A := A.toNat) (I := I.toNat) (by omega) (by omega)
  refine ⟨⟨⟨Int.natCast_nonneg _, by omega⟩, Int.natCast_nonneg _, ?_⟩, ?_, ?_⟩
  · rw [Int.toNat_natCast]; omega
  · unfold adS; rw [Int.toNat_natCast, Int.toNat_natCast]; exact q3
  · unfold lnS; rw [Int.toNat_natCast, Int.toNat_natCast]; exact q4
theorem SpX.lastP (X : SpX ps sm m e p i j s z w) : hsP (ps.length + 1) (sdS (sdF ps) ps.length p i s z) (p : Int) (s : Int) ∧ hsP (ps.length + 1) (sdS (sdF ps) ps.length p i s z) (ps.length : Int) (((sdF ps p).length - s : Nat) : Int)
    ∧ adS (sdS (sdF ps) ps.length p i s z) (p : Int) (s : Int) = nwX (sdF ps) ps.length p i s z ∧ adS (sdS (sdF ps) ps.length p i s z) (ps.length : Int) (((sdF ps p).length - s : Nat) : Int) = nwY (sdF ps) ps.length p i s z
    ∧ lnS (sdS (sdF ps) ps.length p i s z) (p : Int) (s : Int) = z ∧ lnS (sdS (sdF ps) ps.length p i s z) (ps.length : Int) (((sdF ps p).length - s : Nat) : Int) = z := by
  have hp := X.c.hp
  have hs := X.c.hs
  have hne : ¬ ps.length = p := by omega
  refine ⟨⟨⟨Int.natCast_nonneg _, by omega⟩, Int.natCast_nonneg _, ?_⟩, ⟨⟨Int.natCast_nonneg _, by omega⟩, Int.natCast_nonneg _, ?_⟩, ?_, ?_, ?_, ?_⟩
  · rw [Int.toNat_natCast, sdS_len X.c, if_pos rfl]; omega
  · rw [Int.toNat_natCast, sdS_len X.c, if_neg hne, if_pos rfl]; omega
  · unfold adS nwX; rw [Int.toNat_natCast, Int.toNat_natCast]
  · unfold adS nwY; rw [Int.toNat_natCast, Int.toNat_natCast]
  · unfold lnS sdS; rw [Int.toNat_natCast, Int.toNat_natCast, if_pos rfl]; exact ptl_last
  · unfold lnS sdS; rw [Int.toNat_natCast, Int.toNat_natCast, if_neg hne, if_pos rfl]; exact ptl_last
theorem map_range_congr {α : Type} {f g : Nat → α} {m : Nat} (h : ∀ t, t < m → f t = g t) : (List.range m).map f = (List.range m).map g :=
  List.map_congr_left fun t ht => h t (List.mem_range.1 ht)
theorem SpX.smL (X : SpX ps sm m e p i j s z w) : smL (sdS (sdF ps) ps.length p i s z) (spM ps sm m p i j) (m + 1) = smS (nwS (sdF ps) ps.length p i s z) (smL (sdF ps) sm m) ++ [(nwX (sdF ps) ps.length p i s z, nwY (sdF ps) ps.length p i s z)] := by
  obtain ⟨hm, l1, l2, l3, l4⟩ := X.smv
  obtain ⟨_, _, g1, g2, _, _⟩ := X.lastP
  rw [smL_succ, l1, l2, l3, l4, g1, g2]
  congr 1
  unfold Ytnbickholedckaa.smL smS
  rw [List.map_map]
  refine map_range_congr fun t ht => ?_
  obtain ⟨q1, q2, q3, q4⟩ := hm t ht
  obtain ⟨⟨hA, hB⟩, _⟩ := seE_z (X.V.se t ht)
  dsimp only [Function.comp]
  rw [q1, q2, q3, q4, (X.mv hA).2.1, (X.mv hB).2.1]
theorem SpX.se (X : SpX ps sm m e p i j s z w) : ∀ t, t < m + 1 → seE (ps.length + 1) (sdS (sdF ps) ps.length p i s z) (spM ps sm m p i j) e t = 0 := by
  obtain ⟨hm, l1, l2, l3, l4⟩ := X.smv
  obtain ⟨g5, g6, g1, g2, g3, g4⟩ := X.lastP
  have hp := X.c.hp
  have he := X.V.e0
  -- whether a side is used behind: it was used before
  have us : ∀ t, t ≤ m → ∀ A I : Int, hsP (ps.length + 1) (sdS (sdF ps) ps.length p i s z) A I → usD (spM ps sm m p i j) t A I → ∃ t', t' < t ∧ (adS (sdS (sdF ps) ps.length p i s z) A I = nwS (sdF ps) ps.length p i s z (adS (sdF ps) (smA sm t') (smI sm t')) ∨ adS (sdS (sdF ps) ps.length p i s z) A I = nwS (sdF ps) ps.length p i s z (adS (sdF ps) (smB sm t') (smJ sm t'))) := fun t ht A I _ hu => by
    obtain ⟨t', ht', hu'⟩ := usD_iff.1 hu
    obtain ⟨q1, q2, q3, q4⟩ := hm t' (by omega)
    obtain ⟨⟨hA, hB⟩, _⟩ := seE_z (X.V.se t' (by omega))
    refine ⟨t', ht', ?_⟩
    rcases hu' with ⟨u1, u2⟩ | ⟨u1, u2⟩
    · left
      rw [← u1, ← u2, q1, q2, (X.mv hA).2.1]
    · right
      rw [← u1, ← u2, q3, q4, (X.mv hB).2.1]
  have lt : ∀ {A I : Int}, hsP ps.length (sdF ps) A I → adS (sdF ps) A I < fsN (sdF ps) ps.length := fun h => (adS_lt h).1
  intro t ht
  by_cases htm : t < m
  · obtain ⟨⟨hA, hB⟩, hn, hd⟩ := seE_z (X.V.se t htm)
    obtain ⟨q1, q2, q3, q4⟩ := hm t htm
    obtain ⟨a1, a2, a3⟩ := X.mv hA
    obtain ⟨b1, b2, b3⟩ := X.mv hB
    have key : ∀ {A I C K : Int}, hsP ps.length (sdF ps) A I → hsP ps.length (sdF ps) C K → nwS (sdF ps) ps.length p i s z (adS (sdF ps) A I) = nwS (sdF ps) ps.length p i s z (adS (sdF ps) C K) → A = C ∧ I = K := fun h1 h2 he' => adS_inj h1 h2 (nw_inj X.c (lt h1) (lt h2) he')
    refine seE_0 (by rw [q1, q2, q3, q4]; exact ⟨a1, b1⟩) ?_ (by rw [q1, q2, q3, q4, a3, b3]; exact hd)
    rw [q1, q2, q3, q4]
    rintro (⟨h1, h2⟩ | h1 | h1)
    · refine hn (.inl (key hA hB ?_))
      rw [← a2, ← b2, h1, h2]
    · obtain ⟨t', ht', h1⟩ := us t (by omega) _ _ a1 h1
      obtain ⟨⟨hA', hB'⟩, _⟩ := seE_z (X.V.se t' (by omega))
      rw [a2] at h1
      refine hn (.inr (.inl (usD_iff.2 ⟨t', ht', ?_⟩)))
      rcases h1 with h1 | h1
      · obtain ⟨k1, k2⟩ := key hA hA' h1; exact .inl ⟨k1.symm, k2.symm⟩
      · obtain ⟨k1, k2⟩ := key hA hB' h1; exact .inr ⟨k1.symm, k2.symm⟩
    · obtain ⟨t', ht', h1⟩ := us t (by omega) _ _ b1 h1
      obtain ⟨⟨hA', hB'⟩, _⟩ := seE_z (X.V.se t' (by omega))
      rw [b2] at h1
      refine hn (.inr (.inr (usD_iff.2 ⟨t', ht', ?_⟩)))
      rcases h1 with h1 | h1
      · obtain ⟨k1, k2⟩ := key hB hA' h1; exact .inl ⟨k1.symm, k2.symm⟩
      · obtain ⟨k1, k2⟩ := key hB hB' h1; exact .inr ⟨k1.symm, k2.symm⟩
  · obtain rfl : t = m := by omega
    have nX := nw_x (z := z) X.c
    have nY := nw_y (z := z) X.c
    refine seE_0 (by rw [l1, l2, l3, l4]; exact ⟨g5, g6⟩) ?_ (by rw [l1, l2, l3, l4, g3, g4]; omega)
    rw [l1, l2, l3, l4]
    rintro (⟨h1, _⟩ | h1 | h1)
    · omega
    · obtain ⟨t', ht', h1⟩ := us t (Nat.le_refl _) _ _ g5 h1
      obtain ⟨⟨hA', hB'⟩, _⟩ := seE_z (X.V.se t' (by omega))
      rw [g1] at h1
      rcases h1 with h1 | h1
      · exact nX _ (lt hA') h1.symm
      · exact nX _ (lt hB') h1.symm
    · obtain ⟨t', ht', h1⟩ := us t (Nat.le_refl _) _ _ g6 h1
      obtain ⟨⟨hA', hB'⟩, _⟩ := seE_z (X.V.se t' (by omega))
      rw [g2] at h1
      rcases h1 with h1 | h1
      · exact nY _ (lt hA') h1.symm
      · exact nY _ (lt hB') h1.symm
end
end Go.Proofs.Ytnbickholedckaa
