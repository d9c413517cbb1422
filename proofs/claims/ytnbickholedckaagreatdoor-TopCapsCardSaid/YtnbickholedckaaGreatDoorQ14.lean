/- Texts of this claim, put together; the parts that it needs. -/
import Derived.Test.YtnbickholedckaaGreatDoorQ13
namespace Go.Proofs.YtnbickholedckaaGreatDoor
open Go.RowKit
theorem mv_ok {sd : Nat → List Int} {P p i s j : Nat} {z : Int} (c : CutQ sd P p i s) (hj : j = (i + s) % (sd p).length) {A I : Nat} (hA : A < P) (hI : I < (sd A).length) :
    mv1 A I p i (sd p).length s P ≤ P ∧ mv2 A I p i j (sd p).length s < (sdS sd P p i s z (mv1 A I p i (sd p).length s P)).length
      ∧ fsN (sdS sd P p i s z) (mv1 A I p i (sd p).length s P) + mv2 A I p i j (sd p).length s = nwS sd P p i s z (fsN sd A + I)
      ∧ (sdS sd P p i s z (mv1 A I p i (sd p).length s P)).getD (mv2 A I p i j (sd p).length s) 0 = (sd A).getD I 0 := by
  have hp := c.hp
  have hi := c.hi
  have h2 := c.h2
  have hs := c.hs
  have e1 : pcG sd P (fsN sd A + I) = A := pcG_uniq (by omega) (by show fsN sd A + I < fsN sd A + (sd A).length; omega) hA
  have e2 : fsN sd A + I - fsN sd A = I := by omega
  have hx : fsN sd A + I < fsN sd P := by
    have := fsN_mono (sd := sd) (show A + 1 ≤ P by omega)
    have e : fsN sd (A + 1) = fsN sd A + (sd A).length := rfl
    omega
  unfold mv1 mv2
  by_cases hap : A = p
  · have hne : ¬ (A ≠ p) := fun h => h hap
    rw [if_neg hne, if_neg hne]
    subst hap
    obtain ⟨u, hu, hI'⟩ : ∃ u, u < (sd A).length ∧ I = (i + u) % (sd A).length := ⟨(I + (sd A).length - i) % (sd A).length, (md_fwd hi hI).2, (md_fwd hi hI).1.symm⟩
    have hbk : (I + (sd A).length - i) % (sd A).length = u := by rw [hI']; exact md_back hi hu
    have hau : fsN sd A + I = auS sd A i u := by unfold auS; rw [hI']
    rw [hau, nw_au c hu, hbk]
    by_cases hus : u < s
    · rw [if_pos hus, if_pos hus, if_pos hus]
      refine ⟨by omega, by rw [sdS_len c, if_pos rfl]; omega, rfl, ?_⟩
      unfold sdS
      rw [if_pos rfl, ptl_at hus, hI']
    · rw [if_neg hus, if_neg hus, if_neg hus]
      have hjb : (I + (sd A).length - j) % (sd A).length = u - s := by
        have := md_back (i := j) (u := u - s) (k := (sd A).length) (by rw [hj]; exact Nat.mod_lt _ (by omega)) (by omega)
        rw [← this, hI', hj]
        congr 3
        rw [Nat.mod_add_mod]
        congr 1
        omega
      rw [hjb]
      have hPp : ¬ P = A := by omega
      refine ⟨Nat.le_refl _, by rw [sdS_len c, if_neg hPp, if_pos rfl]; omega, rfl, ?_⟩
      unfold sdS
      rw [if_neg hPp, if_pos rfl, ptl_at (by omega), hI', Nat.mod_add_mod]
      congr 2
      omega
  · rw [if_pos hap, if_pos hap]
    have h3 : ¬ A = P := by omega
    have e3 : (sdS sd P p i s z A).length = (sd A).length := by rw [sdS_len c, if_neg hap, if_neg h3]
    refine ⟨by omega, by rw [e3]; exact hI, ?_, ?_⟩
    · rw [nw_o c (by rw [e1]; exact hap), e1, e2]
    · unfold sdS
      rw [if_neg hap, if_neg h3]
/-- What is known of a cut that is made. -/
structure SpX (ps : List Pc) (sm : List Int) (m : Nat) (e : Int) (p i j s : Nat) (z w : Int) : Prop where
  V : VdC ps sm m e
  sl : sm.length = m * 4
  c : CutQ (sdF ps) ps.length p i s
  hj : j < (pcA ps p).sd.length
  js : s = (j + (pcA ps p).sd.length - i) % (pcA ps p).sd.length
  z1 : 1 ≤ z ∧ z ≤ 200
  w1 : 1 ≤ w ∧ w < (pcA ps p).an.getD i 0
  L1 : 1 ≤ hvL (pcA ps p).an i s w ∧ hvL (pcA ps p).an i s w ≤ 359
  R1 : 1 ≤ (pcA ps p).an.getD j 0 - hvL (pcA ps p).an i s w ∧ (pcA ps p).an.getD j 0 - hvL (pcA ps p).an i s w ≤ 359
  n7 : ps.length < 8
theorem spE_0 {ps : List Pc} {sm : List Int} {m : Nat} {e p i j z w : Int} (hsm : sm.length = m * 4) (h : spE ps sm m e p i j z w = 0) : (0 ≤ p ∧ 0 ≤ i ∧ 0 ≤ j) ∧ ∃ s, SpX ps sm m e p.toNat i.toNat j.toNat s z w := by
  unfold spE at h
  by_cases hv : vdC ps sm m e = 0
  · rw [if_neg (fun h => h hv)] at h
    by_cases hs : hsP ps.length (sdF ps) p i ∧ hsP ps.length (sdF ps) p j
    · rw [if_neg (fun h => h hs)] at h
      split at h
      · exact absurd h (by decide)
      · rename_i h1
        split at h
        · exact absurd h (by decide)
        · rename_i h2
          split at h
          · exact absurd h (by decide)
          · rename_i h3
            have V := vdC_0 hv
            obtain ⟨⟨⟨a1, a2⟩, a3, a4⟩, _, a5, a6⟩ := hs
            have e1 : (sdF ps p.toNat).length = (pcA ps p.toNat).sd.length := rfl
            rw [e1] at a4 a6
            have h8 := V.n8
            refine ⟨⟨a1, a3, a5⟩, (j.toNat + (pcA ps p.toNat).sd.length - i.toNat) % (pcA ps p.toNat).sd.length, V, hsm, ⟨by omega, by rw [e1]; omega, by omega, by rw [e1]; omega⟩, by omega, rfl, by omega, by omega, by omega, by omega, by omega⟩
    · rw [if_pos hs] at h
      exact absurd h (by decide)
  · rw [if_pos hv] at h
    exact absurd h hv
section
variable {ps : List Pc} {sm : List Int} {m : Nat} {e : Int} {p i j s : Nat} {z w : Int}
theorem SpX.jm (X : SpX ps sm m e p i j s z w) : j = (i + s) % (pcA ps p).sd.length := by
  have hi : i < (pcA ps p).sd.length := X.c.hi
  rw [X.js]
  exact (md_fwd hi X.hj).1.symm
theorem SpX.sd (X : SpX ps sm m e p i j s z w) : sdF (spP ps p i j z w) = sdS (sdF ps) ps.length p i s z := funext fun q => by
  have hp := X.c.hp
  have hj := X.jm
  have e1 : (sdF ps p).length = (pcA ps p).sd.length := rfl
  unfold spP
  rw [← X.js]
  have hl : (ps.set p (spA ps p i s z w)).length = ps.length := List.length_set
  have hset : ∀ (x : Pc) (r : Nat), pcA (ps.set p x) r = if r = p then x else pcA ps r := fun x r => by
    unfold pcA
    rw [List.getD_eq_getElem?_getD, List.getD_eq_getElem?_getD, List.getElem?_set]
    by_cases h : p = r
    · subst h; rw [if_pos rfl, if_pos rfl, if_pos hp]; rfl
    · rw [if_neg h, if_neg (fun g => h g.symm)]
  by_cases hq : q < ps.length
  · unfold sdF
    rw [pcA_lt (by rw [hl]; exact hq), hset]
    show _ = sdS (sdF ps) ps.length p i s z q
    unfold sdS
    split
    · rename_i h
      subst h
      rfl
    · rw [if_neg (by omega)]
      rfl
  · by_cases hq2 : q = ps.length
    · have := pcA_eq (ps.set p (spA ps p i s z w)) (spB ps p i j s ((pcA ps p).sd.length - s) z w)
      rw [hl] at this
      rw [hq2]
      unfold sdF
      rw [this]
      show _ = sdS (sdF ps) ps.length p i s z ps.length
      unfold sdS
      rw [if_neg (by omega), if_pos rfl]
      show ptl (pcA ps p).sd j ((pcA ps p).sd.length - s) z = _
      rw [hj]
      rfl
    · have g1 : pcA (ps.set p (spA ps p i s z w) ++ [spB ps p i j s ((pcA ps p).sd.length - s) z w]) q = default := by
        unfold pcA
        rw [List.getD_eq_getElem?_getD, List.getElem?_eq_none (by rw [List.length_append, hl]; simp only [List.length_cons, List.length_nil]; omega)]
        rfl
      have g2 : pcA ps q = default := by
        unfold pcA
        rw [List.getD_eq_getElem?_getD, List.getElem?_eq_none (by omega)]
        rfl
      unfold sdF
      rw [g1]
      show _ = sdS (sdF ps) ps.length p i s z q
      unfold sdS
      rw [if_neg (by omega), if_neg hq2]
      unfold sdF
      rw [g2]
theorem SpX.an (X : SpX ps sm m e p i j s z w) (q : Nat) : anF (spP ps p i j z w) q = if q = p then (spA ps p i s z w).an else if q = ps.length then (spB ps p i j s ((pcA ps p).sd.length - s) z w).an else anF ps q := by
  have hp := X.c.hp
  unfold spP
  rw [← X.js]
  have hl : (ps.set p (spA ps p i s z w)).length = ps.length := List.length_set
  have hset : ∀ (x : Pc) (r : Nat), pcA (ps.set p x) r = if r = p then x else pcA ps r := fun x r => by
    unfold pcA
    rw [List.getD_eq_getElem?_getD, List.getD_eq_getElem?_getD, List.getElem?_set]
    by_cases h : p = r
    · subst h; rw [if_pos rfl, if_pos rfl, if_pos hp]; rfl
    · rw [if_neg h, if_neg (fun g => h g.symm)]
  unfold anF
  by_cases hq : q < ps.length
  · rw [pcA_lt (by rw [hl]; exact hq), hset]
    split
    · rfl
    · rw [if_neg (by omega)]
  · by_cases hq2 : q = ps.length
    · have := pcA_eq (ps.set p (spA ps p i s z w)) (spB ps p i j s ((pcA ps p).sd.length - s) z w)
      rw [hl] at this
      rw [hq2, this, if_neg (by omega), if_pos rfl]
    · have g1 : pcA (ps.set p (spA ps p i s z w) ++ [spB ps p i j s ((pcA ps p).sd.length - s) z w]) q = default := by
        unfold pcA
        rw [List.getD_eq_getElem?_getD, List.getElem?_eq_none (by rw [List.length_append, hl]; simp only [List.length_cons, List.length_nil]; omega)]
        rfl
      have g2 : pcA ps q = default := by
        unfold pcA
        rw [List.getD_eq_getElem?_getD, List.getElem?_eq_none (by omega)]
        rfl
      rw [g1, g2, if_neg (by omega), if_neg hq2]
theorem SpX.len (X : SpX ps sm m e p i j s z w) : (spP ps p i j z w).length = ps.length + 1 := by
  unfold spP
  rw [List.length_append, List.length_set]
  rfl
theorem spT_at {p i j k s P : Nat} : ∀ {T t : Nat}, t < T → (spT sm p i j k s P T).getD (t * 4) 0 = ((mv1 (smA sm t).toNat (smI sm t).toNat p i k s P : Nat) : Int) ∧ (spT sm p i j k s P T).getD (t * 4 + 1) 0 = ((mv2 (smA sm t).toNat (smI sm t).toNat p i j k s : Nat) : Int)
    ∧ (spT sm p i j k s P T).getD (t * 4 + 2) 0 = ((mv1 (smB sm t).toNat (smJ sm t).toNat p i k s P : Nat) : Int) ∧ (spT sm p i j k s P T).getD (t * 4 + 3) 0 = ((mv2 (smB sm t).toNat (smJ sm t).toNat p i j k s : Nat) : Int)
  | T + 1, t, h => by
    have hl := spT_len sm p i j k s P T
    unfold spT
    by_cases ht : t < T
    · have gl : ∀ (x : List Int) r, r < (spT sm p i j k s P T).length → (spT sm p i j k s P T ++ x).getD r 0 = (spT sm p i j k s P T).getD r 0 := fun x r hr => by
        rw [List.getD_eq_getElem?_getD, List.getD_eq_getElem?_getD, List.getElem?_append_left hr]
      rw [gl _ _ (by omega), gl _ _ (by omega), gl _ _ (by omega), gl _ _ (by omega)]
      exact spT_at ht
    · obtain rfl : t = T := by omega
      have gr : ∀ (x : List Int) r, (spT sm p i j k s P t ++ x).getD (t * 4 + r) 0 = x.getD r 0 := fun x r => by
        rw [List.getD_eq_getElem?_getD, List.getD_eq_getElem?_getD, List.getElem?_append_right (by omega), hl, Nat.add_sub_cancel_left]
      refine ⟨gr _ 0, gr _ 1, gr _ 2, gr _ 3⟩
/-- The seams behind a cut. -/
theorem SpX.smv (X : SpX ps sm m e p i j s z w) : (∀ t, t < m → smA (spM ps sm m p i j) t = ((mv1 (smA sm t).toNat (smI sm t).toNat p i (sdF ps p).length s ps.length : Nat) : Int) ∧ smI (spM ps sm m p i j) t = ((mv2 (smA sm t).toNat (smI sm t).toNat p i j (sdF ps p).length s : Nat) : Int)
    ∧ smB (spM ps sm m p i j) t = ((mv1 (smB sm t).toNat (smJ sm t).toNat p i (sdF ps p).length s ps.length : Nat) : Int) ∧ smJ (spM ps sm m p i j) t = ((mv2 (smB sm t).toNat (smJ sm t).toNat p i j (sdF ps p).length s : Nat) : Int))
    ∧ smA (spM ps sm m p i j) m = (p : Int) ∧ smI (spM ps sm m p i j) m = (s : Int) ∧ smB (spM ps sm m p i j) m = (ps.length : Int) ∧ smJ (spM ps sm m p i j) m = (((sdF ps p).length - s : Nat) : Int) := by
  have e1 : (sdF ps p).length = (pcA ps p).sd.length := rfl
  have hl := spT_len sm p i j (pcA ps p).sd.length s ps.length m
  unfold spM
  rw [← X.js, e1]
  unfold smA smI smB smJ
  constructor
  · intro t ht
    have gl : ∀ (x : List Int) r, r < (spT sm p i j (pcA ps p).sd.length s ps.length m).length → (spT sm p i j (pcA ps p).sd.length s ps.length m ++ x).getD r 0 = (spT sm p i j (pcA ps p).sd.length s ps.length m).getD r 0 := fun x r hr => by
      rw [List.getD_eq_getElem?_getD, List.getD_eq_getElem?_getD, List.getElem?_append_left hr]
    rw [gl _ _ (by omega), gl _ _ (by omega), gl _ _ (by omega), gl _ _ (by omega)]
    have := spT_at (sm := sm) (p := p) (i := i) (j := j) (k := (pcA ps p).sd.length) (s := s) (P := ps.length) ht
    unfold smA smI smB smJ at this
    exact this
  · have gr : ∀ (x : List Int) r, (spT sm p i j (pcA ps p).sd.length s ps.length m ++ x).getD (m * 4 + r) 0 = x.getD r 0 := fun x r => by
      rw [List.getD_eq_getElem?_getD, List.getD_eq_getElem?_getD, List.getElem?_append_right (by omega), hl, Nat.add_sub_cancel_left]
    exact ⟨gr _ 0, gr _ 1, gr _ 2, gr _ 3⟩
theorem spM_len (ps : List Pc) (sm : List Int) (m p i j : Nat) : (spM ps sm m p i j).length = (m + 1) * 4 := by
  unfold spM
  rw [List.length_append, spT_len]
  simp only [List.length_cons, List.length_nil]
  omega
/-- A side of a seam before, and behind. -/
theorem SpX.mv (X : SpX ps sm m e p i j s z w) {A I : Int} (h : hsP ps.length (sdF ps) A I) : hsP (ps.length + 1) (sdS (sdF ps) ps.length p i s z) ((mv1 A.toNat I.toNat p i (sdF ps p).length s ps.length : Nat) : Int) ((mv2 A.toNat I.toNat p i j (sdF ps p).length s : Nat) : Int)
    ∧ adS (sdS (sdF ps) ps.length p i s z) ((mv1 A.toNat I.toNat p i (sdF ps p).length s ps.length : Nat) : Int) ((mv2 A.toNat I.toNat p i j (sdF ps p).length s : Nat) : Int) = nwS (sdF ps) ps.length p i s z (adS (sdF ps) A I)
    ∧ lnS (sdS (sdF ps) ps.length p i s z) ((mv1 A.toNat I.toNat p i (sdF ps p).length s ps.length : Nat) : Int) ((mv2 A.toNat I.toNat p i j (sdF ps p).length s : Nat) : Int) = lnS (sdF ps) A I := by
  obtain ⟨⟨h1, h2⟩, h3, h4⟩ := h
  obtain ⟨q1, q2, q3, q4⟩ := mv_ok (z := z) X.c X.jm (A := A.toNat) (I := I.toNat) (by omega) (by omega)
  refine ⟨⟨⟨Int.natCast_nonneg _, by omega⟩, Int.natCast_nonneg _, ?_⟩, ?_, ?_⟩
  · rw [Int.toNat_natCast]; omega
  · unfold adS; rw [Int.toNat_natCast, Int.toNat_natCast]; exact q3
  · unfold lnS; rw [Int.toNat_natCast, Int.toNat_natCast]; exact q4
theorem SpX.lastP (X : SpX ps sm m e p i j s z w) : hsP (ps.length + 1) (sdS (sdF ps) ps.length p i s z) (p : Int) (s : Int) ∧ hsP (ps.length + 1) (sdS (sdF ps) ps.length p i s z) (ps.length : Int) (((sdF ps p).length - s : Nat) : Int)
    ∧ adS (sdS (sdF ps) ps.length p i s z) (p : Int) (s : Int) = nwX (sdF ps) ps.length p i s z ∧ adS (sdS (sdF ps) ps.length p i s z) (ps.length : Int) (((sdF ps p).length - s : Nat) : Int) = nwY (sdF ps) ps.length p i s z
    ∧ lnS (sdS (sdF ps) ps.length p i s z) (p : Int) (s : Int) = z ∧ lnS (sdS (sdF ps) ps.length p i s z) (ps.length : Int) (((sdF ps p).length - s : Nat) : Int) = z := by
  have hp := X.c.hp
  have hs := X.c.hs
  have hne : ¬ ps.length = p := by omega
  refine ⟨⟨⟨Int.natCast_nonneg _, by omega⟩, Int.natCast_nonneg _, ?_⟩, ⟨⟨Int.natCast_nonneg _, by omega⟩, Int.natCast_nonneg _, ?_⟩, ?_, ?_, ?_, ?_⟩
  · rw [Int.toNat_natCast, sdS_len X.c, if_pos rfl]; omega
  · rw [Int.toNat_natCast, sdS_len X.c, if_neg hne, if_pos rfl]; omega
  · unfold adS nwX; rw [Int.toNat_natCast, Int.toNat_natCast]
  · unfold adS nwY; rw [Int.toNat_natCast, Int.toNat_natCast]
  · unfold lnS sdS; rw [Int.toNat_natCast, Int.toNat_natCast, if_pos rfl]; exact ptl_last
  · unfold lnS sdS; rw [Int.toNat_natCast, Int.toNat_natCast, if_neg hne, if_pos rfl]; exact ptl_last
theorem map_range_congr {α : Type} {f g : Nat → α} {m : Nat} (h : ∀ t, t < m → f t = g t) : (List.range m).map f = (List.range m).map g :=
  List.map_congr_left fun t ht => h t (List.mem_range.1 ht)
theorem SpX.smL (X : SpX ps sm m e p i j s z w) : smL (sdS (sdF ps) ps.length p i s z) (spM ps sm m p i j) (m + 1) = smS (nwS (sdF ps) ps.length p i s z) (smL (sdF ps) sm m) ++ [(nwX (sdF ps) ps.length p i s z, nwY (sdF ps) ps.length p i s z)] := by
  obtain ⟨hm, l1, l2, l3, l4⟩ := X.smv
  obtain ⟨_, _, g1, g2, _, _⟩ := X.lastP
  rw [smL_succ, l1, l2, l3, l4, g1, g2]
  congr 1
  unfold YtnbickholedckaaGreatDoor.smL smS
  rw [List.map_map]
  refine map_range_congr fun t ht => ?_
  obtain ⟨q1, q2, q3, q4⟩ := hm t ht
  obtain ⟨⟨hA, hB⟩, _⟩ := seE_z (X.V.se t ht)
  dsimp only [Function.comp]
  rw [q1, q2, q3, q4, (X.mv hA).2.1, (X.mv hB).2.1]
theorem SpX.se (X : SpX ps sm m e p i j s z w) : ∀ t, t < m + 1 → seE (ps.length + 1) (sdS (sdF ps) ps.length p i s z) (spM ps sm m p i j) e t = 0 := by
  obtain ⟨hm, l1, l2, l3, l4⟩ := X.smv
  obtain ⟨g5, g6, g1, g2, g3, g4⟩ := X.lastP
  have hp := X.c.hp
  have he := X.V.e0
  -- whether a side is used behind: it was used before
  have us : ∀ t, t ≤ m → ∀ A I : Int, hsP (ps.length + 1) (sdS (sdF ps) ps.length p i s z) A I → usD (spM ps sm m p i j) t A I → ∃ t', t' < t ∧ (adS (sdS (sdF ps) ps.length p i s z) A I = nwS (sdF ps) ps.length p i s z (adS (sdF ps) (smA sm t') (smI sm t')) ∨ adS (sdS (sdF ps) ps.length p i s z) A I = nwS (sdF ps) ps.length p i s z (adS (sdF ps) (smB sm t') (smJ sm t'))) := fun t ht A I _ hu => by
    obtain ⟨t', ht', hu'⟩ := usD_iff.1 hu
    obtain ⟨q1, q2, q3, q4⟩ := hm t' (by omega)
    obtain ⟨⟨hA, hB⟩, _⟩ := seE_z (X.V.se t' (by omega))
    refine ⟨t', ht', ?_⟩
    rcases hu' with ⟨u1, u2⟩ | ⟨u1, u2⟩
    · left
      rw [← u1, ← u2, q1, q2, (X.mv hA).2.1]
    · right
      rw [← u1, ← u2, q3, q4, (X.mv hB).2.1]
  have lt : ∀ {A I : Int}, hsP ps.length (sdF ps) A I → adS (sdF ps) A I < fsN (sdF ps) ps.length := fun h => (adS_lt h).1
  intro t ht
  by_cases htm : t < m
  · obtain ⟨⟨hA, hB⟩, hn, hd⟩ := seE_z (X.V.se t htm)
    obtain ⟨q1, q2, q3, q4⟩ := hm t htm
    obtain ⟨a1, a2, a3⟩ := X.mv hA
    obtain ⟨b1, b2, b3⟩ := X.mv hB
    have key : ∀ {A I C K : Int}, hsP ps.length (sdF ps) A I → hsP ps.length (sdF ps) C K → nwS (sdF ps) ps.length p i s z (adS (sdF ps) A I) = nwS (sdF ps) ps.length p i s z (adS (sdF ps) C K) → A = C ∧ I = K := fun h1 h2 he' => adS_inj h1 h2 (nw_inj X.c (lt h1) (lt h2) he')
    refine seE_0 (by rw [q1, q2, q3, q4]; exact ⟨a1, b1⟩) ?_ (by rw [q1, q2, q3, q4, a3, b3]; exact hd)
    rw [q1, q2, q3, q4]
    rintro (⟨h1, h2⟩ | h1 | h1)
    · refine hn (.inl (key hA hB ?_))
      rw [← a2, ← b2, h1, h2]
    · obtain ⟨t', ht', h1⟩ := us t (by omega) _ _ a1 h1
      obtain ⟨⟨hA', hB'⟩, _⟩ := seE_z (X.V.se t' (by omega))
      rw [a2] at h1
      refine hn (.inr (.inl (usD_iff.2 ⟨t', ht', ?_⟩)))
      rcases h1 with h1 | h1
      · obtain ⟨k1, k2⟩ := key hA hA' h1; exact .inl ⟨k1.symm, k2.symm⟩
      · obtain ⟨k1, k2⟩ := key hA hB' h1; exact .inr ⟨k1.symm, k2.symm⟩
    · obtain ⟨t', ht', h1⟩ := us t (by omega) _ _ b1 h1
      obtain ⟨⟨hA', hB'⟩, _⟩ := seE_z (X.V.se t' (by omega))
      rw [b2] at h1
      refine hn (.inr (.inr (usD_iff.2 ⟨t', ht', ?_⟩)))
      rcases h1 with h1 | h1
      · obtain ⟨k1, k2⟩ := key hB hA' h1; exact .inl ⟨k1.symm, k2.symm⟩
      · obtain ⟨k1, k2⟩ := key hB hB' h1; exact .inr ⟨k1.symm, k2.symm⟩
  · obtain rfl : t = m := by omega
    have nX := nw_x (z := z) X.c
    have nY := nw_y (z := z) X.c
    refine seE_0 (by rw [l1, l2, l3, l4]; exact ⟨g5, g6⟩) ?_ (by rw [l1, l2, l3, l4, g3, g4]; omega)
    rw [l1, l2, l3, l4]
    rintro (⟨h1, _⟩ | h1 | h1)
    · omega
    · obtain ⟨t', ht', h1⟩ := us t (Nat.le_refl _) _ _ g5 h1
      obtain ⟨⟨hA', hB'⟩, _⟩ := seE_z (X.V.se t' (by omega))
      rw [g1] at h1
      rcases h1 with h1 | h1
      · exact nX _ (lt hA') h1.symm
      · exact nX _ (lt hB') h1.symm
    · obtain ⟨t', ht', h1⟩ := us t (Nat.le_refl _) _ _ g6 h1
      obtain ⟨⟨hA', hB'⟩, _⟩ := seE_z (X.V.se t' (by omega))
      rw [g2] at h1
      rcases h1 with h1 | h1
      · exact nY _ (lt hA') h1.symm
      · exact nY _ (lt hB') h1.symm
end
end Go.Proofs.YtnbickholedckaaGreatDoor
namespace Go.Proofs.YtnbickholedckaaGreatDoor
open Go.RowKit
theorem sum_tabx (F : Nat → Int) (s : Nat) (x : Int) : sumTo (fun u => (tab s F ++ [x]).getD u 0) (s + 1) = sumTo F s + x := by
  rw [sumTo_succ]
  congr 1
  · refine sumTo_congr s fun u hu => ?_
    rw [List.getD_eq_getElem?_getD, List.getElem?_append_left (by rw [tab_length]; exact hu), ← List.getD_eq_getElem?_getD, tab_getD F hu]
  · rw [List.getD_eq_getElem?_getD, List.getElem?_append_right (by rw [tab_length]; exact Nat.le_refl _), tab_length, Nat.sub_self]
    rfl
theorem tabx_at {F : Nat → Int} {s u : Nat} {x : Int} (h : u < s + 1) : (tab s F ++ [x]).getD u 0 = if u < s then F u else x := by
  rw [List.getD_eq_getElem?_getD]
  split
  · rename_i hu
    rw [List.getElem?_append_left (by rw [tab_length]; exact hu), ← List.getD_eq_getElem?_getD, tab_getD F hu]
  · rename_i hu
    obtain rfl : u = s := by omega
    rw [List.getElem?_append_right (by rw [tab_length]; exact Nat.le_refl _), tab_length, Nat.sub_self]
    rfl
theorem hv_sum {g : List Int} {i : Nat} (c : Int) (hi : i < g.length) : ∀ n, 1 ≤ n → sumTo (hvF g i c) n = sumTo (fun u => g.getD ((i + u) % g.length) 0) n + c - g.getD i 0
  | 1, _ => by
    show sumTo (hvF g i c) 0 + hvF g i c 0 = sumTo (fun u => g.getD ((i + u) % g.length) 0) 0 + g.getD ((i + 0) % g.length) 0 + c - g.getD i 0
    have e1 : sumTo (hvF g i c) 0 = 0 := rfl
    have e2 : sumTo (fun u => g.getD ((i + u) % g.length) 0) 0 = 0 := rfl
    have e3 : hvF g i c 0 = c := by unfold hvF; rw [if_pos rfl]
    rw [e1, e2, e3, Nat.add_zero, Nat.mod_eq_of_lt hi]
    omega
  | n + 2, _ => by
    rw [sumTo_succ, sumTo_succ (fun u => g.getD ((i + u) % g.length) 0), hv_sum c hi (n + 1) (by omega)]
    have e3 : hvF g i c (n + 1) = g.getD ((i + (n + 1)) % g.length) 0 := by unfold hvF; rw [if_neg (by omega)]
    rw [e3]
    omega
section
variable {ps : List Pc} {sm : List Int} {m : Nat} {e : Int} {p i j s : Nat} {z w : Int}
theorem SpX.okA (X : SpX ps sm m e p i j s z w) : pcOK (spA ps p i s z w).sd (spA ps p i s z w).an := by
  obtain ⟨v1, v2, v3, v4⟩ := X.V.ok p X.c.hp
  have hi : i < (pcA ps p).sd.length := X.c.hi
  have h2 := X.c.h2
  have hs : s + 2 ≤ (pcA ps p).sd.length := X.c.hs
  have e1 : (sdF ps p).length = (pcA ps p).sd.length := rfl
  have e2 : (anF ps p).length = (pcA ps p).an.length := rfl
  rw [e1] at v1 v2
  rw [e2] at v2
  have hz := X.z1
  have hw := X.w1
  have hL := X.L1
  have vi := (v3 i hi).2
  have hh : (spA ps p i s z w).sd = ptl (pcA ps p).sd i s z := rfl
  have hg : (spA ps p i s z w).an = tab s (hvF (pcA ps p).an i w) ++ [hvL (pcA ps p).an i s w] := rfl
  rw [hh, hg]
  refine ⟨by rw [ptl_len]; omega, by rw [ptl_len, List.length_append, tab_length]; rfl, fun u hu => ?_, ?_⟩
  · rw [ptl_len] at hu
    have hm : (i + u) % (pcA ps p).sd.length < (pcA ps p).sd.length := Nat.mod_lt _ (by omega)
    have vu := v3 _ hm
    unfold sdOK
    rw [tabx_at hu]
    by_cases hus : u < s
    · rw [if_pos hus, ptl_at hus]
      refine ⟨vu.1, ?_⟩
      unfold hvF
      split
      · have : (anF ps p).getD i 0 = (pcA ps p).an.getD i 0 := rfl
        omega
      · rw [v2]; exact vu.2
    · obtain rfl : u = s := by omega
      rw [if_neg hus, ptl_last]
      exact ⟨hz, hL⟩
  · rw [ptl_len, sum_tabx]
    unfold hvL
    omega
theorem SpX.okB (X : SpX ps sm m e p i j s z w) : pcOK (spB ps p i j s ((pcA ps p).sd.length - s) z w).sd (spB ps p i j s ((pcA ps p).sd.length - s) z w).an := by
  obtain ⟨v1, v2, v3, v4⟩ := X.V.ok p X.c.hp
  have hi : i < (pcA ps p).sd.length := X.c.hi
  have h2 := X.c.h2
  have hs : s + 2 ≤ (pcA ps p).sd.length := X.c.hs
  have e1 : (sdF ps p).length = (pcA ps p).sd.length := rfl
  have e2 : (anF ps p).length = (pcA ps p).an.length := rfl
  rw [e1] at v1 v2 v4
  rw [e2] at v2
  have hz := X.z1
  have hw := X.w1
  have hL := X.R1
  have hj := X.hj
  have hjm := X.jm
  have vi := (v3 i hi).2
  have hh : (spB ps p i j s ((pcA ps p).sd.length - s) z w).sd = ptl (pcA ps p).sd j ((pcA ps p).sd.length - s) z := rfl
  have hg : (spB ps p i j s ((pcA ps p).sd.length - s) z w).an = tab ((pcA ps p).sd.length - s) (hvF (pcA ps p).an j ((pcA ps p).an.getD j 0 - hvL (pcA ps p).an i s w)) ++ [(pcA ps p).an.getD i 0 - w] := rfl
  rw [hh, hg]
  have ei : (anF ps p).getD i 0 = (pcA ps p).an.getD i 0 := rfl
  refine ⟨by rw [ptl_len]; omega, by rw [ptl_len, List.length_append, tab_length]; rfl, fun u hu => ?_, ?_⟩
  · rw [ptl_len] at hu
    have hm : (j + u) % (pcA ps p).sd.length < (pcA ps p).sd.length := Nat.mod_lt _ (by omega)
    have vu := v3 _ hm
    unfold sdOK
    rw [tabx_at hu]
    by_cases hus : u < (pcA ps p).sd.length - s
    · rw [if_pos hus, ptl_at hus]
      refine ⟨vu.1, ?_⟩
      unfold hvF
      split
      · exact hL
      · rw [v2]; exact vu.2
    · obtain rfl : u = (pcA ps p).sd.length - s := by omega
      rw [if_neg hus, ptl_last]
      exact ⟨hz, by omega⟩
  · rw [ptl_len, sum_tabx, hv_sum _ (by omega) _ (by omega)]
    have hl : hvL (pcA ps p).an i s w = 180 * ((s : Int) + 1 - 2) - sumTo (hvF (pcA ps p).an i w) s := rfl
    rw [hv_sum _ (by omega) s (by omega)] at hl
    have r1 := sum_rot (fun v => (pcA ps p).an.getD v 0) hi
    have r2 := sumTo_addn (fun u => (pcA ps p).an.getD ((i + u) % (pcA ps p).sd.length) 0) s ((pcA ps p).sd.length - s)
    rw [show s + ((pcA ps p).sd.length - s) = (pcA ps p).sd.length by omega] at r2
    have r3 : sumTo (fun u => (pcA ps p).an.getD ((i + (s + u)) % (pcA ps p).sd.length) 0) ((pcA ps p).sd.length - s) = sumTo (fun u => (pcA ps p).an.getD ((j + u) % (pcA ps p).an.length) 0) ((pcA ps p).sd.length - s) := sumTo_congr _ fun u _ => by
      rw [v2, hjm, Nat.mod_add_mod, Nat.add_assoc]
    have r4 : sumTo (fun i => (anF ps p).getD i 0) (pcA ps p).sd.length = sumTo (fun v => (pcA ps p).an.getD v 0) (pcA ps p).sd.length := rfl
    have r5 : sumTo (fun u => (pcA ps p).an.getD ((i + u) % (pcA ps p).an.length) 0) s = sumTo (fun u => (pcA ps p).an.getD ((i + u) % (pcA ps p).sd.length) 0) s := by rw [v2]
    rw [r4] at v4
    rw [r5] at hl
    rw [r3] at r2
    omega
theorem SpX.vd (X : SpX ps sm m e p i j s z w) : VdC (spP ps p i j z w) (spM ps sm m p i j) (m + 1) e := by
  have h7 := X.n7
  refine ⟨by rw [X.len]; omega, by rw [X.len]; omega, X.V.e0, fun q hq => ?_, fun t ht => ?_⟩
  · rw [X.len] at hq
    rw [X.an, show sdF (spP ps p i j z w) q = (if q = p then (spA ps p i s z w).sd else if q = ps.length then (spB ps p i j s ((pcA ps p).sd.length - s) z w).sd else sdF ps q) by
      rw [X.sd]
      unfold sdS
      split
      · rfl
      · split
        · show _ = ptl (pcA ps p).sd j ((pcA ps p).sd.length - s) z
          rw [X.jm]; rfl
        · rfl]
    split
    · exact X.okA
    · split
      · exact X.okB
      · exact X.V.ok q (by omega)
  · rw [X.len, X.sd]
    exact X.se t ht
theorem SpX.cut (X : SpX ps sm m e p i j s z w) : CutN (nC ps) (nxC ps) (muC ps sm m) (nxC (spP ps p i j z w)) (muC (spP ps p i j z w) (spM ps sm m p i j) (m + 1)) (nwS (sdF ps) ps.length p i s z) (nwX (sdF ps) ps.length p i s z) (nwY (sdF ps) ps.length p i s z) (auS (sdF ps) p i (s - 1)) (auS (sdF ps) p i ((sdF ps p).length - 1)) := by
  have := cutN (z := z) X.c X.V.okS
  unfold nC nxC muC
  rw [X.sd, X.len, X.smL]
  exact this
theorem SpX.n2 (X : SpX ps sm m e p i j s z w) : nC (spP ps p i j z w) = nC ps + 2 := by
  unfold nC
  rw [X.sd, X.len]
  exact fsS_all X.c
end
end Go.Proofs.YtnbickholedckaaGreatDoor
namespace Go.Proofs.YtnbickholedckaaGreatDoor
open Go.RowKit
section
variable {n : NN} {B : Nat} {w0 : Wd} {fr : FR} {hs hs' : HS} {ty : TypeId} {K : Act → World → Prop} {ops : Array Oper} {l : List Oper} {pos : String} {aft : Array Edge} {P : Program}
theorem o_remE {t t' : TypeId} {x y : Operand} {m l r : Int} (hx : opv fr x = some (.int .i64 m)) (hy : opv fr y = some (.int .i64 l)) (h0 : 0 ≤ m) (h2 : l ≠ 0) (he : m % l = r) : OpF P n B w0 (.binOp .rem t x y t') ty fr hs (.int .i64 r) := by subst he; exact o_rem hx hy h0 h2
theorem o_subE {t t' : TypeId} {x y : Operand} {m l r : Int} (hx : opv fr x = some (.int .i64 m)) (hy : opv fr y = some (.int .i64 l)) (he : m - l = r) (h : InI r) : OpF P n B w0 (.binOp .sub t x y t') ty fr hs (.int .i64 r) := by subst he; exact o_sub hx hy h
theorem kNx {n : NN} {fr : FR} (x : Nat) {t : TypeId} {y : Operand} (h : Sat n B w0 (sl Tryz.prog ops K (⟨none, .store t (.tmp x) y, ty, pos, aft, none⟩ :: l)) fr hs) : Sat n B w0 (sl Tryz.prog ops K (⟨none, .store t (.tmp x) y, ty, pos, aft, none⟩ :: l)) fr hs := h
theorem kDNx {fl : List Nat} {S : HS} (x : Nat) {t : TypeId} {y : Operand} (h : Rk Tryz.prog n B w0 ops K fl (⟨none, .store t (.tmp x) y, ty, pos, aft, none⟩ :: l) S fr hs) : Rk Tryz.prog n B w0 ops K fl (⟨none, .store t (.tmp x) y, ty, pos, aft, none⟩ :: l) S fr hs := h
theorem ld56 {t : TypeId} {b o : Nat} {L R : List Int} {zz : List Value} {x0 x1 x2 x3 : Int} (ht : sh P t = some (true, 4)) (ho : o = L.length) (hm : (b, ivs (L ++ (x0 :: x1 :: x2 :: x3 :: R)) ++ zz) ∈ hs) : Ld P B w0 hs t ⟨b, o, none⟩ (.agg #[iv x0, iv x1, iv x2, iv x3]) := by
  refine ld_own (vs := [iv x0, iv x1, iv x2, iv x3]) ht hm ?_ rfl
  subst ho
  rw [List.drop_append_of_le_length (by rw [ivs_length, List.length_append]; omega)]
  unfold ivs
  rw [List.map_append, List.drop_left' (by rw [List.length_map])]
  rfl
end
theorem ptl_hv0 {g : List Int} {i s : Nat} {w : Int} (hs : 1 ≤ s) : (ptl g i s 0).set 0 w = tab s (hvF g i w) ++ [0] := by
  unfold ptl
  rw [List.set_append_left _ _ (by rw [tab_length]; omega), tab_set]
  rfl
theorem ptl_hv {g : List Int} {i s : Nat} {w x : Int} (hs : 1 ≤ s) : ((ptl g i s 0).set 0 w).set s x = tab s (hvF g i w) ++ [x] := by
  rw [ptl_hv0 hs, List.set_append_right _ _ (by rw [tab_length]; exact Nat.le_refl _), tab_length, Nat.sub_self]
  rfl
theorem ivs_ne {l : List Int} (h : 1 ≤ l.length) : ivs l ≠ [] := fun e => by
  have := congrArg List.length e
  rw [ivs_length] at this
  have h0 : l.length = 0 := this
  omega
attribute [local irreducible] OpF Ld CellAt Sl Sv pcA usP
theorem k_close2 (oa : Option Addr) (ca cb b i s : Nat) (g : List Int) (w : Int) (zz : List Value) (hs1 : 1 ≤ s ∧ s ≤ 6) (hcb : s + 1 ≤ cb) (hb : ∀ u, u < g.length → 1 ≤ g.getD u 0 ∧ g.getD u 0 ≤ 359) (hg : 1 ≤ g.length) (hw : 1 ≤ w ∧ w ≤ 359) (B : Nat) (w0 : Wd) (hs : HS) :
    Fn Tryz.prog 47 #[.agg #[.slice oa (s + 1 : Nat) ca, .slice (some ⟨b, 0, none⟩) (s + 1 : Nat) cb]] B w0 ((b, ivs ((ptl g i s 0).set 0 w) ++ zz) :: hs) (fun v h => v = .tuple #[] ∧ h = (b, ivs (tab s (hvF g i w) ++ [hvL g i s w]) ++ zz) :: hs) := by
  have l1 : (tab s (hvF g i w) ++ [0]).length = s + 1 := by rw [List.length_append, tab_length]; rfl
  have hgD : ∀ j, j < s → (tab s (hvF g i w) ++ [(0 : Int)]).getD j 0 = hvF g i w j := fun j hj => by
    rw [List.getD_eq_getElem?_getD, List.getElem?_append_left (by rw [tab_length]; exact hj), ← List.getD_eq_getElem?_getD, tab_getD _ hj]
  have h := k_closeAngles oa ca cb b (ptl g i s 0) (tab s (hvF g i w) ++ [0]) zz (by rw [ptl_len]; omega) (by rw [ptl_len, l1]) (by rw [ptl_len]; exact hcb) (fun j hj => by
    rw [ptl_len] at hj
    rw [hgD j (by omega)]
    unfold hvF
    split
    · omega
    · have := hb ((i + j) % g.length) (Nat.mod_lt _ (by omega))
      omega) B w0 hs
  rw [ptl_len, l1, ptl_hv0 hs1.1 |>.symm] at h
  rw [show s + 1 - 1 = s by omega, ptl_hv hs1.1] at h
  rw [show sumTo (fun j => ((ptl g i s 0).set 0 w).getD j 0) s = sumTo (hvF g i w) s from sumTo_congr s fun j hj => by rw [ptl_hv0 hs1.1]; exact hgD j hj] at h
  have e : (180 * (((s + 1 : Nat) : Int) - 2) - sumTo (hvF g i w) s) = hvL g i s w := by unfold hvL; omega
  rw [e] at h
  exact h
structure SvI where
  i : Nat
  k : HS
set_option maxRecDepth 100000 in
set_option maxHeartbeats 8000000 in
theorem k_SplitOk (ps : List Pc) (oP oS : Option Addr) (cP m cS p i j s : Nat) (sm : List Int) (e z w : Int) (hn : ps.length ≤ 10000) (hsm : sm.length = m * 4) (hm : m < 100) (hv : vdC ps sm m e = 0) (hsd : hsP ps.length (sdF ps) (p : Int) (i : Int) ∧ hsP ps.length (sdF ps) (p : Int) (j : Int)) (hsE : s = (j + (pcA ps p).sd.length - i) % (pcA ps p).sd.length) (hs2 : 2 ≤ s ∧ s + 2 ≤ (pcA ps p).sd.length) (hz : 1 ≤ z ∧ z ≤ 200) (hw : 1 ≤ w ∧ w < (pcA ps p).an.getD i 0)
    (hL : 1 ≤ hvL (pcA ps p).an i s w ∧ hvL (pcA ps p).an i s w ≤ 359) (hR : 1 ≤ (pcA ps p).an.getD j 0 - hvL (pcA ps p).an i s w ∧ (pcA ps p).an.getD j 0 - hvL (pcA ps p).an i s w ≤ 359) (hP : ps.length ≠ 8) (B : Nat) (w0 : Wd) (hs : HS) (hC : CapM B w0 hs oP oS ps sm) :
    Fn Tryz.prog 27 #[.agg #[.slice oP ps.length cP, .slice oS m cS, iv e], iv p, iv i, iv j, iv z, iv w] B w0 hs (fun v h => ∃ u blk, CpR (spP ps p i j z w) (spM ps sm m p i j) (m + 1) e u blk ∧ v = .tuple #[u, iv 0] ∧ h = blk ++ hs) := by
  have kv := fun hs' (h : hs.Sublist hs') => k_Validate ps oP oS cP m cS sm e hn hsm (by omega) B w0 hs' (hC.sub h)
  have V := vdC_0 hv
  have hv' : vdE ps.length (sdF ps) (anF ps) m sm e = 0 := hv
  rw [hv'] at kv
  have hP8 := V.n8
  have kd1 := fun hs' (h : hs.Sublist hs') => k_hasSide ps oP oS cP m cS sm e p i B w0 hs' (hC.sub h)
  have kd2 := fun hs' (h : hs.Sublist hs') => k_hasSide ps oP oS cP m cS sm e p j B w0 hs' (hC.sub h)
  rw [decide_eq_true hsd.1] at kd1
  rw [decide_eq_true hsd.2] at kd2
  obtain ⟨⟨hp1, hp2⟩, hi1, hi2⟩ := hsd.1
  obtain ⟨_, hj1, hj2⟩ := hsd.2
  simp only [Int.toNat_natCast] at hi2 hj2
  have hpp : p < ps.length := by omega
  obtain ⟨v1, v2, v3, v4⟩ := V.ok p hpp
  have e1 : (sdF ps p).length = (pcA ps p).sd.length := rfl
  have e2 : (anF ps p).length = (pcA ps p).an.length := rfl
  have hbb : ∀ u, u < (pcA ps p).an.length → 1 ≤ (pcA ps p).an.getD u 0 ∧ (pcA ps p).an.getD u 0 ≤ 359 := fun u hu => (v3 u (by omega)).2
  rw [e1] at v1 v2 hi2 hj2
  rw [e2] at v2
  have hgi := hbb i (by omega)
  have hgj := hbb j (by omega)
  have iP := hC.isS hpp
  have hcl := fun hs' (h : hs.Sublist hs') => hC.ld (t := 29) (P := Tryz.prog) (shTOf rfl) h hpp
  have kw := fun x lo hi hs => k_within x lo hi B w0 hs
  have hsA := hC.sds p hpp
  have hsB := hC.ans p hpp
  have iB := hsB.any (i := i) (by omega)
  have jB := hsB.any (i := j) (by omega)
  have kp1 := fun hs' (h : hs.Sublist hs') => k_part (pcA ps p).oa (pcA ps p).ob (pcA ps p).ca (pcA ps p).cb (pcA ps p).sd (pcA ps p).an i s z (by omega) v2 (by omega) (by omega) B w0 hs' (hsA.sub h) (hsB.sub h)
  have kp2 := fun hs' (h : hs.Sublist hs') => k_part (pcA ps p).oa (pcA ps p).ob (pcA ps p).ca (pcA ps p).cb (pcA ps p).sd (pcA ps p).an j ((pcA ps p).sd.length - s) z (by omega) v2 (by omega) (by omega) B w0 hs' (hsA.sub h) (hsB.sub h)
  have kc := fun hs' (h : hs.Sublist hs') => k_copyCap ps oP oS cP m cS sm e (by omega) (by omega) (vdC_ok V) hsm (by omega) B w0 hs' (hC.sub h)
  have kca := fun oa ca cb b zz hcb hs => k_close2 oa ca cb b i s (pcA ps p).an w zz (by omega) hcb hbb (by omega) (by omega) B w0 hs
  have hrm : ((j : Int) - (i : Int) + ((pcA ps p).sd.length : Int)) % ((pcA ps p).sd.length : Int) = (s : Int) := by
    rw [hsE, show (j : Int) - (i : Int) + ((pcA ps p).sd.length : Int) = ((j + (pcA ps p).sd.length - i : Nat) : Int) by omega, ← Int.natCast_emod]
  have hks : ((pcA ps p).sd.length : Int) - (s : Int) = (((pcA ps p).sd.length - s : Nat) : Int) := by omega
  have hjA : ((s + 1 : Nat) : Int) - 1 = (s : Int) := by omega
  have hjB : (((pcA ps p).sd.length - s + 1 : Nat) : Int) - 1 = (((pcA ps p).sd.length - s : Nat) : Int) := by omega
  have hlA : Unit → 0 < (ptl (pcA ps p).an i s 0).length := fun _ => by rw [ptl_len]; omega
  have hlB : Unit → 0 < (ptl (pcA ps p).an j ((pcA ps p).sd.length - s) 0).length := fun _ => by rw [ptl_len]; omega
  have hlB2 : ∀ u : Int, (pcA ps p).sd.length - s < ((ptl (pcA ps p).an j ((pcA ps p).sd.length - s) 0).set 0 u).length := fun u => by rw [List.length_set, ptl_len]; omega
  have hgA : ∀ z : List Value, (ivs (tab s (hvF (pcA ps p).an i w) ++ [hvL (pcA ps p).an i s w]) ++ z)[s]? = some (iv (hvL (pcA ps p).an i s w)) := fun z => by
    rw [List.getElem?_append_left (by rw [ivs_length, List.length_append, tab_length]; simp), ivs_get (by rw [List.length_append, tab_length]; simp), List.getD_eq_getElem?_getD, List.getElem?_append_right (by rw [tab_length]; exact Nat.le_refl _), tab_length, Nat.sub_self]
    rfl
  have hgB : ∀ (u v : Int) (z : List Value), (ivs (((ptl (pcA ps p).an j ((pcA ps p).sd.length - s) 0).set 0 u).set ((pcA ps p).sd.length - s) v) ++ z)[0]? = some (iv u) := fun u v z => by
    rw [List.getElem?_append_left (by rw [ivs_length, List.length_set, List.length_set, ptl_len]; omega), ivs_get (by rw [List.length_set, List.length_set, ptl_len]; omega), getD_set (by rw [List.length_set, ptl_len]; omega), if_neg (by omega), getD_set (hlB ()), if_pos rfl]
  refine fn_enter Tryz.func27 rfl Tryz.ntmps27 (by simp) ?_
  repeat' (first | ((with_reducible apply kP (.box 25 _)); refine sBA (fun b6 => ?_)) | ((with_reducible apply kP (.box 3 _)); refine sB (fun b7 => ?_)) | ((with_reducible apply kP (.alloc 25)); refine sA (fun b12 => ?_)) | ((with_reducible apply kP (.alloc 29)); refine sA (fun b15 => ?_)) | ((with_reducible apply kP (.alloc 3)); refine sA (fun b16 => ?_)) | ((with_reducible apply kF 6); refine sC 6 (kv _ SBt) ?_) | ((with_reducible apply kF 34); refine sC 34 (kd1 _ SBt) ?_) | ((with_reducible apply kF 34); refine sC 34 (kd2 _ SBt) ?_) | ((with_reducible apply kP (.load 29 (.tmp 47))); refine sP ?_ (o_load rfl (hcl _ SBt))) | ((with_reducible apply kDP (.load 29 (.tmp 47))); refine dP ?_ (hX := rfl) (hv := o_load rfl (hcl _ SBt))) | ((with_reducible apply kQO (.load 29 (.tmp 47))); refine qP ?_ (o_load rfl (hcl _ SBt))) | ((with_reducible apply kF 16); refine sC 16 (kw _ _ _ _) ?_) | ((with_reducible apply kP (.binOp .rem _ _ _ _)); refine sP ?_ (o_remE rfl rfl (by omega) (by omega) hrm)) | ((with_reducible apply kDP (.binOp .rem _ _ _ _)); refine dP ?_ (hX := rfl) (hv := o_remE rfl rfl (by omega) (by omega) hrm)) | ((with_reducible apply kQO (.binOp .rem _ _ _ _)); refine qP ?_ (o_remE rfl rfl (by omega) (by omega) hrm)) | ((with_reducible apply kP (.binOp .sub _ (.tmp 91) _ _)); refine sP ?_ (o_subE rfl rfl hks (by constructor <;> omega))) | ((with_reducible apply kDP (.binOp .sub _ (.tmp 91) _ _)); refine dP ?_ (hX := rfl) (hv := o_subE rfl rfl hks (by constructor <;> omega))) | ((with_reducible apply kQO (.binOp .sub _ (.tmp 91) _ _)); refine qP ?_ (o_subE rfl rfl hks (by constructor <;> omega))) | ((with_reducible apply kP (.binOp .sub _ (.tmp 104) _ _)); refine sP ?_ (o_subE rfl rfl hjA (by constructor <;> omega))) | ((with_reducible apply kDP (.binOp .sub _ (.tmp 104) _ _)); refine dP ?_ (hX := rfl) (hv := o_subE rfl rfl hjA (by constructor <;> omega))) | ((with_reducible apply kQO (.binOp .sub _ (.tmp 104) _ _)); refine qP ?_ (o_subE rfl rfl hjA (by constructor <;> omega))) | ((with_reducible apply kP (.binOp .sub _ (.tmp 124) _ _)); refine sP ?_ (o_subE rfl rfl hjB (by constructor <;> omega))) | ((with_reducible apply kDP (.binOp .sub _ (.tmp 124) _ _)); refine dP ?_ (hX := rfl) (hv := o_subE rfl rfl hjB (by constructor <;> omega))) | ((with_reducible apply kQO (.binOp .sub _ (.tmp 124) _ _)); refine qP ?_ (o_subE rfl rfl hjB (by constructor <;> omega))) | ((with_reducible apply kP (.indexAddr 27 (.tmp 75) _)); refine sP ?_ (o_indexS (scTOf rfl) rfl rfl rfl (aa0 _) iB (by omega))) | ((with_reducible apply kDP (.indexAddr 27 (.tmp 75) _)); refine dP ?_ (hX := rfl) (hv := o_indexS (scTOf rfl) rfl rfl rfl (aa0 _) iB (by omega))) | ((with_reducible apply kQO (.indexAddr 27 (.tmp 75) _)); refine qP ?_ (o_indexS (scTOf rfl) rfl rfl rfl (aa0 _) iB (by omega))) | ((with_reducible apply kP (.indexAddr 27 (.tmp 109) _)); refine sP ?_ (o_indexS (scTOf rfl) rfl rfl rfl (aa0 _) jB (by omega))) | ((with_reducible apply kDP (.indexAddr 27 (.tmp 109) _)); refine dP ?_ (hX := rfl) (hv := o_indexS (scTOf rfl) rfl rfl rfl (aa0 _) jB (by omega))) | ((with_reducible apply kQO (.indexAddr 27 (.tmp 109) _)); refine qP ?_ (o_indexS (scTOf rfl) rfl rfl rfl (aa0 _) jB (by omega))) | ((with_reducible apply kP (.indexAddr 27 (.tmp 127) _)); refine sP ?_ (o_indexS (scTOf rfl) rfl rfl rfl (aa0 _) iB (by omega))) | ((with_reducible apply kDP (.indexAddr 27 (.tmp 127) _)); refine dP ?_ (hX := rfl) (hv := o_indexS (scTOf rfl) rfl rfl rfl (aa0 _) iB (by omega))) | ((with_reducible apply kQO (.indexAddr 27 (.tmp 127) _)); refine qP ?_ (o_indexS (scTOf rfl) rfl rfl rfl (aa0 _) iB (by omega))) | ((with_reducible apply kDF 46); (first | refine dN3 46 (fun F => kp1 _ (sbA SBt)) ?_ | refine dN4 46 (fun F => kp1 _ (sbA SBt)) ?_); rintro u7 blk7 ⟨oa5, oa6, c5, c6, k5, k6, rfl, hr5, hr6, rfl⟩; rcases hr6 with ⟨_, _, hh6, _⟩ | ⟨bA, zA, rfl, rfl, hzA, hcA⟩; (exact absurd hh6 (ivs_ne (by rw [ptl_len]; omega))); rw [ptl_len, ptl_len]; rw [show ∀ X : HS, [(bA, ivs (ptl (pcA ps p).an i s 0) ++ zA)] ++ k5 ++ X = (bA, ivs (ptl (pcA ps p).an i s 0) ++ zA) :: (k5 ++ X) from fun X => rfl]; have hcb6 : s + 1 ≤ c6 := (by rw [List.length_append, ivs_length, ptl_len] at hzA; omega)) | ((with_reducible apply kDF 46); (first | refine dN3 46 (fun F => kp2 _ (sbA SBt)) ?_ | refine dN4 46 (fun F => kp2 _ (sbA SBt)) ?_); rintro u7 blk7 ⟨oa7, oa8, c7, c8, k7, k8, rfl, hr7, hr8, rfl⟩; rcases hr8 with ⟨_, _, hh8, _⟩ | ⟨bB, zB, rfl, rfl, hzB, hcB⟩; (exact absurd hh8 (ivs_ne (by rw [ptl_len]; omega))); rw [ptl_len, ptl_len]; rw [show ∀ X : HS, [(bB, ivs (ptl (pcA ps p).an j ((pcA ps p).sd.length - s) 0) ++ zB)] ++ k7 ++ X = (bB, ivs (ptl (pcA ps p).an j ((pcA ps p).sd.length - s) 0) ++ zB) :: (k7 ++ X) from fun X => rfl]) | ((with_reducible apply kF 42); refine sR 42 (kc _ SBt) ?_; rintro v9 h9 ⟨blk9, ⟨oP', cP', oS', cS', rs, bo, ko, rfl, g2, g3, g4, g5, g6, rfl⟩, rfl⟩; obtain ⟨L1, ⟨⟨pa, pca, psd, pb, pcb, pan⟩, pk⟩, L2, rfl, hL1⟩ := split_at (show p < rs.length by omega); rcases g2 with ⟨_, _, g2, _⟩ | ⟨bP, zP, rfl, rfl, hzP, hcP⟩; (exfalso; rw [pcsv_mid] at g2; simp at g2); have hre : ∀ c F, (ko ++ ([(bP, c)] ++ rpb (L1 ++ (⟨⟨pa, pca, psd, pb, pcb, pan⟩, pk⟩ : Rp) :: L2))) ++ F = ko ++ ((bP, c) :: (rpb L2 ++ (pk ++ (rpb L1 ++ F)))) := (fun c F => by rw [rpb_split]; simp); rw [hre, pcsv_mid]; rw [pcsv_mid] at hzP; have hAl : p * 2 = (pcsv (rpP L1)).length := (by rw [pcsv_len, rpP, List.length_map]; omega); have hCl : (pcsv (rpP L2)).length + (p + 1) * 2 = ps.length * 2 := (by rw [pcsv_len, rpP, List.length_map]; rw [List.length_append, List.length_cons] at g4; omega); have hrn : RowOk (some ⟨bP, 0, none⟩) cP' 2 (pcsv (rpP L1) ++ (.slice oa5 (s + 1) c5 :: .slice (some ⟨bA, 0, none⟩) (s + 1) c6 :: pcsv (rpP L2))) [(bP, (pcsv (rpP L1) ++ (.slice oa5 (s + 1) c5 :: .slice (some ⟨bA, 0, none⟩) (s + 1) c6 :: pcsv (rpP L2))) ++ zP)] := .inr ⟨bP, zP, rfl, rfl, (by simp only [List.length_append, List.length_cons] at hzP ⊢; exact hzP), hcP⟩; have hnl : (pcsv (rpP L1) ++ (Value.slice oa5 (s + 1) c5 :: .slice (some ⟨bA, 0, none⟩) (s + 1) c6 :: pcsv (rpP L2))).length = ps.length * 2 := (by simp only [List.length_append, List.length_cons]; omega)) | ((with_reducible apply kNx 161); refine st41 hAl ?_ (flat_cons rfl (flat1 rfl))) | ((with_reducible apply kP (.call ⟨.builtin .append, _, _⟩)); refine sAp (fun oaN cN kN2 hrN => ?_) (hr := hrn) (hk := hnl) (hf := flat_cons rfl (flat1 rfl))) | ((with_reducible apply kNx 167); refine stC ?_) | ((with_reducible apply kNx 99); refine stZ ?_ rfl (hlA ())) | ((with_reducible apply kF 47); refine s_mut1 (goTOf rfl) rfl (by with_reducible ((repeat (first | exact Take.head | exact Take.one | apply Take.tail | apply Take.app)); done)) (kca oa5 c5 c6 bA zA hcb6 _) (by first | decide | exact ltd rfl) ?_) | ((with_reducible apply kP (.load 3 (.tmp 116))); refine sP ?_ (o_load rfl (ld_one (shTOf rfl) (own MMt (hgA _))))) | ((with_reducible apply kDP (.load 3 (.tmp 116))); refine dP ?_ (hX := rfl) (hv := o_load rfl (ld_one (shTOf rfl) (own MMt (hgA _))))) | ((with_reducible apply kQO (.load 3 (.tmp 116))); refine qP ?_ (o_load rfl (ld_one (shTOf rfl) (own MMt (hgA _))))) | ((with_reducible apply kP (.load 3 (.tmp 137))); refine sP ?_ (o_load rfl (ld_one (shTOf rfl) (own MMt (hgA _))))) | ((with_reducible apply kDP (.load 3 (.tmp 137))); refine dP ?_ (hX := rfl) (hv := o_load rfl (ld_one (shTOf rfl) (own MMt (hgA _))))) | ((with_reducible apply kQO (.load 3 (.tmp 137))); refine qP ?_ (o_load rfl (ld_one (shTOf rfl) (own MMt (hgA _))))) | ((with_reducible apply kP (.load 3 (.tmp 144))); refine sP ?_ (o_load rfl (ld_one (shTOf rfl) (own MMt (hgB _ _ _))))) | ((with_reducible apply kDP (.load 3 (.tmp 144))); refine dP ?_ (hX := rfl) (hv := o_load rfl (ld_one (shTOf rfl) (own MMt (hgB _ _ _))))) | ((with_reducible apply kQO (.load 3 (.tmp 144))); refine qP ?_ (o_load rfl (ld_one (shTOf rfl) (own MMt (hgB _ _ _))))) | ((with_reducible apply kDNx 119); refine dtZ ?_ rfl (by exact MMt) (hlB ())) | ((with_reducible apply kDNx 133); refine dtZ ?_ rfl (by exact MMt) (hlB2 _)) | ((with_reducible apply kN); refine stW ?_ (hf := flat_cons rfl (flat_cons rfl (flat1 rfl)))) | ((with_reducible apply kN); refine stW ?_ (hf := flat_cons rfl (flat1 rfl))) | ((with_reducible apply kRg 11); refine cD [1, 1, 1, 1, 3, 0, 0, 0, 0, 0, 0, 3, 2, 2, 4, 4] ?_) | ((with_reducible apply kRg 15); refine cD [1, 1, 1, 1, 1, 1, 1, 1, 1, 1, 1, 1, 1, 1, 4] ?_) | ((with_reducible apply kRg 16); refine cD [1, 1, 1, 1, 1, 1, 1, 1, 1, 1, 1, 1, 1, 1, 4] ?_) | (with_reducible first | refine c_seq ?_ | refine c_reg ?_ | refine c_region ?_ | refine c_block ?_ | refine c_skip ?_ | refine c_exit ?_ | refine c_ret ?_ | refine s_nil ?_ | refine x_then ?_ | refine x_then_exit ?_ | refine x_then_ret ?_ | refine x_block ?_ | refine x_block_ret ?_ | refine x_block_same ?_ | refine x_block_other (by first | rfl | decide) ?_ | refine q_nil ?_ | refine k_nil ?_) | ((with_reducible apply kP (.makeFunc _ _ _)); refine sMF ?_) | ((with_reducible apply kG); first | refine gY1 ?_ | refine gN1 ?_ | refine gU1 ?_ | (refine gD1 (fun h => ?_) (fun h => ?_) <;> (try (exfalso; omega))) | refine gB1 (fun h => ?_) (fun h => ?_)) | ((with_reducible apply kN); first | refine stP ?_ | refine stI ?_ | refine st1 ?_ | refine stW ?_) | ((with_reducible apply kP (.alloc _)); refine sA (fun b => ?_)) | ((with_reducible apply kP (.box _ _)); first | refine sBA (fun b => ?_) | refine sB (fun b => ?_)) | ((with_reducible apply kP (.buildSlice _ 1 _)); first | refine sl1A (fun b => ?_) | refine sl1 (fun b => ?_)) | ((with_reducible apply kP (.call ⟨.builtin .append, _, _⟩)); refine sAp (fun oa2 c2 blk2 hrow2 => ?_)) | ((with_reducible apply kP _); refine sP ?_) | ((with_reducible apply kP _); refine sX ?_) | ((with_reducible apply kC); first | refine cT ?_ | refine cF ?_ | (refine cI (fun h => ?_) (fun h => ?_) <;> (try (exfalso; omega))) | refine cB (fun h => ?_) (fun h => ?_)) | ((with_reducible apply kDN); first | refine dtI ?_ | refine dt1 ?_ | refine dtW ?_) | ((with_reducible apply kDP (.alloc _)); refine dA (fun b => ?_)) | ((with_reducible apply kDP _); refine dP ?_) | ((with_reducible apply kDP _); refine dX ?_))
  all_goals try (exfalso; omega)
  rename_i b7p b7i b12r b16k _ _ _ _ bo1 bo2 _ _
  rw [ptl_hv (show 1 ≤ (pcA ps p).sd.length - s by omega)]
  have hr6 : RowOk (some ⟨bA, 0, none⟩) c6 1 (ivs (tab s (hvF (pcA ps p).an i w) ++ [hvL (pcA ps p).an i s w])) [(bA, ivs (tab s (hvF (pcA ps p).an i w) ++ [hvL (pcA ps p).an i s w]) ++ zA)] := .inr ⟨bA, zA, rfl, rfl, (by
    rw [List.length_append, ivs_length, ptl_len] at hzA
    rw [List.length_append, ivs_length, List.length_append, tab_length]
    exact hzA), hcA⟩
  have hr8 : RowOk (some ⟨bB, 0, none⟩) c8 1 (ivs (tab ((pcA ps p).sd.length - s) (hvF (pcA ps p).an j ((pcA ps p).an.getD j 0 - hvL (pcA ps p).an i s w)) ++ [(pcA ps p).an.getD i 0 - w])) [(bB, ivs (tab ((pcA ps p).sd.length - s) (hvF (pcA ps p).an j ((pcA ps p).an.getD j 0 - hvL (pcA ps p).an i s w)) ++ [(pcA ps p).an.getD i 0 - w]) ++ zB)] := .inr ⟨bB, zB, rfl, rfl, (by
    rw [List.length_append, ivs_length, ptl_len] at hzB
    rw [List.length_append, ivs_length, List.length_append, tab_length]
    exact hzB), hcB⟩
  have hd0 : sm = spT sm p i j (pcA ps p).sd.length s ps.length 0 ++ sm.drop (0 * 4) := by simp [spT]
  refine c_loop (fun t : SvI => [(7, .pointer (some ⟨b7p, 0, none⟩)), (8, .pointer (some ⟨b7i, 0, none⟩)), (9, .pointer (some ⟨b7, 0, none⟩)), (12, .pointer (some ⟨b12r, 0, none⟩)), (13, iv 0), (16, .pointer (some ⟨b16k, 0, none⟩)), (17, .pointer (some ⟨b16, 0, none⟩)), (19, .pointer (some ⟨bo2, 0, none⟩)), (20, iv s), (21, .pointer (some ⟨b12, 0, none⟩)), (22, .func (.func 48) #[] #[.pointer (some ⟨b7p, 0, none⟩), .pointer (some ⟨b7i, 0, none⟩), .pointer (some ⟨b16k, 0, none⟩), .pointer (some ⟨b16, 0, none⟩), .pointer (some ⟨b12, 0, none⟩), .pointer (some ⟨b7, 0, none⟩)]), (170, .slice oS' m cS'), (171, iv m), (172, iv t.i)])
    (fun t : SvI => kN2 ++ ((b12, [.slice oaN (ps.length + 1) cN, .slice oS' m cS', iv e]) :: (t.k ++ (rpb L2 ++ (rpb L1 ++ ((bA, ivs (tab s (hvF (pcA ps p).an i w) ++ [hvL (pcA ps p).an i s w]) ++ zA) :: (bo2, [.slice oa7 ((pcA ps p).sd.length - s + 1) c7, .slice (some ⟨bB, 0, none⟩) ((pcA ps p).sd.length - s + 1) c8]) :: (bB, ivs (tab ((pcA ps p).sd.length - s) (hvF (pcA ps p).an j ((pcA ps p).an.getD j 0 - hvL (pcA ps p).an i s w)) ++ [(pcA ps p).an.getD i 0 - w]) ++ zB) :: (k7 ++ (k5 ++ ((b16, [iv s]) :: (b16k, [iv (pcA ps p).sd.length]) :: (b12r, [.slice none 0 0, .slice none 0 0, iv 0]) :: (b7, [iv j]) :: (b7i, [iv i]) :: (b7p, [iv p]) :: hs)))))))))
    (fun t => t.i ≤ m ∧ RowOk oS' cS' 4 (ivs (spT sm p i j (pcA ps p).sd.length s ps.length t.i ++ sm.drop (t.i * 4))) t.k) (fun t => m - t.i) ⟨0, ko⟩ ⟨Nat.zero_le _, by dsimp only; rw [← hd0]; exact g6⟩ (by repeat' first | trivial | rfl | apply And.intro) ?_ ?_
  · exact .append (.refl _) (.cons _ (.cons_cons _ (.append (.refl _) (.append (.refl _) (sbA (.append (.refl _) (.cons_cons _ (.cons_cons _ (.cons _ (.cons_cons _ (.append (.refl _) (.append (.refl _) (.cons_cons _ (.cons_cons _ (.cons _ (.cons_cons _ (.cons_cons _ (.cons_cons _ (.cons_cons _ (.cons _ (.refl _)))))))))))))))))))))
  clear kv kd1 kd2 hcl kp1 kp2 kc kca kw hre hrn hnl hAl hCl
  rintro ⟨t, kt⟩ ⟨ht, hrt⟩
  dsimp only at ht hrt ⊢
  by_cases ht' : t < m
  · obtain ⟨⟨⟨d1, d2⟩, d3, d4⟩, ⟨d5, d6⟩, d7, d8⟩ := seP (V.se t ht')
    have hA : sm.getD (t * 4) 0 = ((smA sm t).toNat : Int) := by have q : smA sm t = sm.getD (t * 4) 0 := (by unfold smA; rfl); omega
    have hI : sm.getD (t * 4 + 1) 0 = ((smI sm t).toNat : Int) := by have q : smI sm t = sm.getD (t * 4 + 1) 0 := (by unfold smI; rfl); omega
    have hD : sm.getD (t * 4 + 2) 0 = ((smB sm t).toNat : Int) := by have q : smB sm t = sm.getD (t * 4 + 2) 0 := (by unfold smB; rfl); omega
    have hJ : sm.getD (t * 4 + 3) 0 = ((smJ sm t).toNat : Int) := by have q : smJ sm t = sm.getD (t * 4 + 3) 0 := (by unfold smJ; rfl); omega
    have hl1 := ((V.ok (smA sm t).toNat (by omega)).1).2
    have hl2 := ((V.ok (smB sm t).toNat (by omega)).1).2
    have km1 : ∀ hs', (b7p, [iv p]) ∈ hs' → (b7i, [iv i]) ∈ hs' → (b16k, [iv (pcA ps p).sd.length]) ∈ hs' → (b16, [iv s]) ∈ hs' → (b12, [.slice oaN (ps.length + 1) cN, .slice oS' m cS', iv e]) ∈ hs' → (b7, [iv j]) ∈ hs' → Fn Tryz.prog 48 #[iv (sm.getD (t * 4) 0), iv (sm.getD (t * 4 + 1) 0), .pointer (some ⟨b7p, 0, none⟩), .pointer (some ⟨b7i, 0, none⟩), .pointer (some ⟨b16k, 0, none⟩), .pointer (some ⟨b16, 0, none⟩), .pointer (some ⟨b12, 0, none⟩), .pointer (some ⟨b7, 0, none⟩)] B w0 hs' (fun v h => v = .tuple #[iv (mv1 (smA sm t).toNat (smI sm t).toNat p i (pcA ps p).sd.length s ps.length : Nat), iv (mv2 (smA sm t).toNat (smI sm t).toNat p i j (pcA ps p).sd.length s : Nat)] ∧ h = hs') := fun hs' n1 n2 n3 n4 n5 n6 => by
      rw [hA, hI]; exact k_move (smA sm t).toNat (smI sm t).toNat p i j (pcA ps p).sd.length s ps.length b7p b7i b16k b16 b12 b7 cN oaN _ _ (by omega) (by omega) (by omega) (by omega) (by omega) (by omega) (by omega) (by omega) B w0 hs' n1 n2 n3 n4 n5 n6
    have km2 : ∀ hs', (b7p, [iv p]) ∈ hs' → (b7i, [iv i]) ∈ hs' → (b16k, [iv (pcA ps p).sd.length]) ∈ hs' → (b16, [iv s]) ∈ hs' → (b12, [.slice oaN (ps.length + 1) cN, .slice oS' m cS', iv e]) ∈ hs' → (b7, [iv j]) ∈ hs' → Fn Tryz.prog 48 #[iv (sm.getD (t * 4 + 2) 0), iv (sm.getD (t * 4 + 3) 0), .pointer (some ⟨b7p, 0, none⟩), .pointer (some ⟨b7i, 0, none⟩), .pointer (some ⟨b16k, 0, none⟩), .pointer (some ⟨b16, 0, none⟩), .pointer (some ⟨b12, 0, none⟩), .pointer (some ⟨b7, 0, none⟩)] B w0 hs' (fun v h => v = .tuple #[iv (mv1 (smB sm t).toNat (smJ sm t).toNat p i (pcA ps p).sd.length s ps.length : Nat), iv (mv2 (smB sm t).toNat (smJ sm t).toNat p i j (pcA ps p).sd.length s : Nat)] ∧ h = hs') := fun hs' n1 n2 n3 n4 n5 n6 => by
      rw [hD, hJ]; exact k_move (smB sm t).toNat (smJ sm t).toNat p i j (pcA ps p).sd.length s ps.length b7p b7i b16k b16 b12 b7 cN oaN _ _ (by omega) (by omega) (by omega) (by omega) (by omega) (by omega) (by omega) (by omega) B w0 hs' n1 n2 n3 n4 n5 n6
    have hdr : sm.drop (t * 4) = sm.getD (t * 4) 0 :: sm.getD (t * 4 + 1) 0 :: sm.getD (t * 4 + 2) 0 :: sm.getD (t * 4 + 3) 0 :: sm.drop ((t + 1) * 4) := by
      have g : ∀ q, q < sm.length → sm.drop q = sm.getD q 0 :: sm.drop (q + 1) := fun q hq => by
        rw [List.drop_eq_getElem_cons hq, List.getD_eq_getElem?_getD, List.getElem?_eq_getElem hq]; rfl
      rw [g _ (by omega), g _ (by omega), g _ (by omega), g _ (by omega), show t * 4 + 1 + 1 + 1 + 1 = (t + 1) * 4 by omega]
    rw [hdr] at hrt
    have hTl := spT_len sm p i j (pcA ps p).sd.length s ps.length t
    clear hsA hsB hC V
    rcases hrt with ⟨_, _, h3, _⟩ | ⟨bS, zS, rfl, rfl, hzS, hcS⟩
    · exact absurd h3 (ivs_ne (by rw [List.length_append]; simp only [List.length_cons]; omega))
    rw [List.cons_append, List.nil_append]
    repeat' (first | ((with_reducible apply kP (.alloc 39)); refine sA (fun b23 => ?_)) | ((with_reducible apply kP (.load 39 (.tmp 175))); refine sP ?_ (o_load rfl (ld56 (shTOf rfl) hTl.symm MMt))) | ((with_reducible apply kDP (.load 39 (.tmp 175))); refine dP ?_ (hX := rfl) (hv := o_load rfl (ld56 (shTOf rfl) hTl.symm MMt))) | ((with_reducible apply kQO (.load 39 (.tmp 175))); refine qP ?_ (o_load rfl (ld56 (shTOf rfl) hTl.symm MMt))) | ((with_reducible apply kP (.load 39 (.tmp 24))); refine sP ?_ (o_load rfl (ld_own (shTOf rfl) MMt rfl rfl))) | ((with_reducible apply kDP (.load 39 (.tmp 24))); refine dP ?_ (hX := rfl) (hv := o_load rfl (ld_own (shTOf rfl) MMt rfl rfl))) | ((with_reducible apply kQO (.load 39 (.tmp 24))); refine qP ?_ (o_load rfl (ld_own (shTOf rfl) MMt rfl rfl))) | ((with_reducible apply kT 178); refine sF (t := 178) (g := 48) (km1 _ MMt MMt MMt MMt MMt MMt) ?_ (goF rfl)) | ((with_reducible apply kT 189); refine sF (t := 189) (g := 48) (km2 _ MMt MMt MMt MMt MMt MMt) ?_ (goF rfl)) | ((with_reducible apply kNx 203); refine st56 hTl.symm ?_) | ((with_reducible apply kNx 186); refine stC ?_) | ((with_reducible apply kNx 187); refine stC ?_) | ((with_reducible apply kNx 197); refine stC ?_) | ((with_reducible apply kNx 198); refine stC ?_) | ((with_reducible apply kNx 24); refine stW ?_ (hf := flat_cons rfl (flat_cons rfl (flat_cons rfl (flat1 rfl))))) | ((with_reducible apply kRg 11); refine cD [1, 1, 1, 1, 3, 0, 0, 0, 0, 0, 0, 3, 2, 2, 4, 4] ?_) | ((with_reducible apply kRg 15); refine cD [1, 1, 1, 1, 1, 1, 1, 1, 1, 1, 1, 1, 1, 1, 4] ?_) | ((with_reducible apply kRg 16); refine cD [1, 1, 1, 1, 1, 1, 1, 1, 1, 1, 1, 1, 1, 1, 4] ?_) | (with_reducible first | refine c_seq ?_ | refine c_reg ?_ | refine c_region ?_ | refine c_block ?_ | refine c_skip ?_ | refine c_exit ?_ | refine c_ret ?_ | refine s_nil ?_ | refine x_then ?_ | refine x_then_exit ?_ | refine x_then_ret ?_ | refine x_block ?_ | refine x_block_ret ?_ | refine x_block_same ?_ | refine x_block_other (by first | rfl | decide) ?_ | refine q_nil ?_ | refine k_nil ?_) | ((with_reducible apply kP (.makeFunc _ _ _)); refine sMF ?_) | ((with_reducible apply kG); first | refine gY1 ?_ | refine gN1 ?_ | refine gU1 ?_ | (refine gD1 (fun h => ?_) (fun h => ?_) <;> (try (exfalso; omega))) | refine gB1 (fun h => ?_) (fun h => ?_)) | ((with_reducible apply kN); first | refine stP ?_ | refine stI ?_ | refine st1 ?_ | refine stW ?_) | ((with_reducible apply kP (.alloc _)); refine sA (fun b => ?_)) | ((with_reducible apply kP (.box _ _)); first | refine sBA (fun b => ?_) | refine sB (fun b => ?_)) | ((with_reducible apply kP (.buildSlice _ 1 _)); first | refine sl1A (fun b => ?_) | refine sl1 (fun b => ?_)) | ((with_reducible apply kP (.call ⟨.builtin .append, _, _⟩)); refine sAp (fun oa2 c2 blk2 hrow2 => ?_)) | ((with_reducible apply kP _); refine sP ?_) | ((with_reducible apply kP _); refine sX ?_) | ((with_reducible apply kC); first | refine cT ?_ | refine cF ?_ | (refine cI (fun h => ?_) (fun h => ?_) <;> (try (exfalso; omega))) | refine cB (fun h => ?_) (fun h => ?_)) | ((with_reducible apply kDN); first | refine dtI ?_ | refine dt1 ?_ | refine dtW ?_) | ((with_reducible apply kDP (.alloc _)); refine dA (fun b => ?_)) | ((with_reducible apply kDP _); refine dP ?_) | ((with_reducible apply kDP _); refine dX ?_))
    all_goals try (exfalso; omega)
    have hnx : spT sm p i j (pcA ps p).sd.length s ps.length (t + 1) ++ sm.drop ((t + 1) * 4) = spT sm p i j (pcA ps p).sd.length s ps.length t ++ (((mv1 (smA sm t).toNat (smI sm t).toNat p i (pcA ps p).sd.length s ps.length : Nat) : Int) :: ((mv2 (smA sm t).toNat (smI sm t).toNat p i j (pcA ps p).sd.length s : Nat) : Int) :: ((mv1 (smB sm t).toNat (smJ sm t).toNat p i (pcA ps p).sd.length s ps.length : Nat) : Int) :: ((mv2 (smB sm t).toNat (smJ sm t).toNat p i j (pcA ps p).sd.length s : Nat) : Int) :: sm.drop ((t + 1) * 4)) := by
      show (spT sm p i j (pcA ps p).sd.length s ps.length t ++ [_, _, _, _]) ++ _ = _
      rw [List.append_assoc]; rfl
    refine r_end (⟨t + 1, [(bS, ivs (spT sm p i j (pcA ps p).sd.length s ps.length (t + 1) ++ sm.drop ((t + 1) * 4)) ++ zS)]⟩ : SvI) ⟨ht', .inr ⟨bS, zS, rfl, rfl, ?_, hcS⟩⟩ (by dsimp only; omega) (by repeat' first | trivial | rfl | apply And.intro) ?_
    · dsimp only
      rw [hnx]
      rw [List.length_append, ivs_length, List.length_append] at hzS ⊢
      simp only [List.length_cons] at hzS ⊢
      exact hzS
    · dsimp only
      rw [hnx]
      exact .cons _ (.refl _)
  · obtain rfl : m = t := by omega
    have hdn : sm.drop (m * 4) = [] := List.drop_eq_nil_of_le (by omega)
    rw [hdn, List.append_nil] at hrt
    have hTl := spT_len sm p i j (pcA ps p).sd.length s ps.length m
    have hTk : (ivs (spT sm p i j (pcA ps p).sd.length s ps.length m)).length = m * 4 := by rw [ivs_length, hTl]
    have hjP : ((ps.length + 1 : Nat) : Int) - 1 = (ps.length : Int) := by omega
    repeat' (first | ((with_reducible apply kP (.build 39 _)); refine sP ?_ (o_bld4 rfl rfl rfl rfl rfl rfl rfl rfl (zcTOf rfl) (plTOf rfl))) | ((with_reducible apply kDP (.build 39 _)); refine dP ?_ (hX := rfl) (hv := o_bld4 rfl rfl rfl rfl rfl rfl rfl rfl (zcTOf rfl) (plTOf rfl))) | ((with_reducible apply kQO (.build 39 _)); refine qP ?_ (o_bld4 rfl rfl rfl rfl rfl rfl rfl rfl (zcTOf rfl) (plTOf rfl))) | ((with_reducible apply kP (.binOp .sub _ (.tmp 211) _ _)); refine sP ?_ (o_subE rfl rfl hjP (by constructor <;> omega))) | ((with_reducible apply kDP (.binOp .sub _ (.tmp 211) _ _)); refine dP ?_ (hX := rfl) (hv := o_subE rfl rfl hjP (by constructor <;> omega))) | ((with_reducible apply kQO (.binOp .sub _ (.tmp 211) _ _)); refine qP ?_ (o_subE rfl rfl hjP (by constructor <;> omega))) | ((with_reducible apply kP (.binOp .sub _ (.tmp 215) _ _)); refine sP ?_ (o_subE rfl rfl hjB (by constructor <;> omega))) | ((with_reducible apply kDP (.binOp .sub _ (.tmp 215) _ _)); refine dP ?_ (hX := rfl) (hv := o_subE rfl rfl hjB (by constructor <;> omega))) | ((with_reducible apply kQO (.binOp .sub _ (.tmp 215) _ _)); refine qP ?_ (o_subE rfl rfl hjB (by constructor <;> omega))) | ((with_reducible apply kP (.call ⟨.builtin .append, _, _⟩)); refine sAp (fun oaM cM kM hrM => ?_) (hr := hrt) (hk := hTk) (hf := flat_cons rfl (flat_cons rfl (flat_cons rfl (flat1 rfl))))) | ((with_reducible apply kNx 220); refine stC ?_) | ((with_reducible apply kN); refine stW ?_ (hf := flat_cons rfl (flat_cons rfl (flat1 rfl)))) | ((with_reducible apply kRg 11); refine cD [1, 1, 1, 1, 3, 0, 0, 0, 0, 0, 0, 3, 2, 2, 4, 4] ?_) | ((with_reducible apply kRg 15); refine cD [1, 1, 1, 1, 1, 1, 1, 1, 1, 1, 1, 1, 1, 1, 4] ?_) | ((with_reducible apply kRg 16); refine cD [1, 1, 1, 1, 1, 1, 1, 1, 1, 1, 1, 1, 1, 1, 4] ?_) | (with_reducible first | refine c_seq ?_ | refine c_reg ?_ | refine c_region ?_ | refine c_block ?_ | refine c_skip ?_ | refine c_exit ?_ | refine c_ret ?_ | refine s_nil ?_ | refine x_then ?_ | refine x_then_exit ?_ | refine x_then_ret ?_ | refine x_block ?_ | refine x_block_ret ?_ | refine x_block_same ?_ | refine x_block_other (by first | rfl | decide) ?_ | refine q_nil ?_ | refine k_nil ?_) | ((with_reducible apply kP (.makeFunc _ _ _)); refine sMF ?_) | ((with_reducible apply kG); first | refine gY1 ?_ | refine gN1 ?_ | refine gU1 ?_ | (refine gD1 (fun h => ?_) (fun h => ?_) <;> (try (exfalso; omega))) | refine gB1 (fun h => ?_) (fun h => ?_)) | ((with_reducible apply kN); first | refine stP ?_ | refine stI ?_ | refine st1 ?_ | refine stW ?_) | ((with_reducible apply kP (.alloc _)); refine sA (fun b => ?_)) | ((with_reducible apply kP (.box _ _)); first | refine sBA (fun b => ?_) | refine sB (fun b => ?_)) | ((with_reducible apply kP (.buildSlice _ 1 _)); first | refine sl1A (fun b => ?_) | refine sl1 (fun b => ?_)) | ((with_reducible apply kP (.call ⟨.builtin .append, _, _⟩)); refine sAp (fun oa2 c2 blk2 hrow2 => ?_)) | ((with_reducible apply kP _); refine sP ?_) | ((with_reducible apply kP _); refine sX ?_) | ((with_reducible apply kC); first | refine cT ?_ | refine cF ?_ | (refine cI (fun h => ?_) (fun h => ?_) <;> (try (exfalso; omega))) | refine cB (fun h => ?_) (fun h => ?_)) | ((with_reducible apply kDN); first | refine dtI ?_ | refine dt1 ?_ | refine dtW ?_) | ((with_reducible apply kDP (.alloc _)); refine dA (fun b => ?_)) | ((with_reducible apply kDP _); refine dP ?_) | ((with_reducible apply kDP _); refine dX ?_))
    all_goals try (exfalso; omega)
    have hq := CpR.cutS (e := e) hsE g4 hL1 g3 g5 hr5 hr6 hr7 hr8 hrN hrM
    refine sat_take (blk := rpb L1) (by with_reducible ((repeat (first | exact Take.head | exact Take.one | apply Take.tail | apply Take.app)); done)) (sat_take (blk := k5) (by with_reducible ((repeat (first | exact Take.head | exact Take.one | apply Take.tail | apply Take.app)); done)) (sat_take (blk := [(bA, ivs (tab s (hvF (pcA ps p).an i w) ++ [hvL (pcA ps p).an i s w]) ++ zA)]) (by with_reducible ((repeat (first | exact Take.head | exact Take.one | apply Take.tail | apply Take.app)); done)) (sat_take (blk := rpb L2) (by with_reducible ((repeat (first | exact Take.head | exact Take.one | apply Take.tail | apply Take.app)); done)) (sat_take (blk := k7) (by with_reducible ((repeat (first | exact Take.head | exact Take.one | apply Take.tail | apply Take.app)); done)) (sat_take (blk := [(bB, ivs (tab ((pcA ps p).sd.length - s) (hvF (pcA ps p).an j ((pcA ps p).an.getD j 0 - hvL (pcA ps p).an i s w)) ++ [(pcA ps p).an.getD i 0 - w]) ++ zB)]) (by with_reducible ((repeat (first | exact Take.head | exact Take.one | apply Take.tail | apply Take.app)); done)) (sat_take (blk := kN2) (by with_reducible ((repeat (first | exact Take.head | exact Take.one | apply Take.tail | apply Take.app)); done)) (sat_take (blk := kM) (by with_reducible ((repeat (first | exact Take.head | exact Take.one | apply Take.tail | apply Take.app)); done)) ?_)))))))
    refine e_ret2 rfl ⟨_, rfl, ld_whole (shTOf rfl) MDt rfl⟩ rfl ⟨_, _, hq, rfl, rfl⟩ ?_
    simp only [List.append_assoc]
    exact .append (.refl _) (.append (.refl _) (.append (.refl _) (.append (.refl _) (.append (.refl _) (.append (.refl _) (.append (.refl _) (.append (.refl _) (.cons _ (.cons _ (.cons _ (.cons _ (.cons _ (.cons _ (.cons _ (.cons _ (.cons _ (.refl _)))))))))))))))))
end Go.Proofs.YtnbickholedckaaGreatDoor
namespace Go.Proofs.YtnbickholedckaaGreatDoor
open Go.RowKit
attribute [local irreducible] OpF Ld CellAt Sl Sv pcA usP
theorem hvL_bd {g : List Int} {i s : Nat} {w : Int} (hb : ∀ u, u < g.length → 1 ≤ g.getD u 0 ∧ g.getD u 0 ≤ 359) (hg : 1 ≤ g.length) (hs : s ≤ 6) (hw : 1 ≤ w ∧ w ≤ 359) : -100000 ≤ hvL g i s w ∧ hvL g i s w ≤ 100000 := by
  have := sum_bd (F := hvF g i w) (n := s) (fun u _ => by
    unfold hvF
    split
    · omega
    · have := hb ((i + u) % g.length) (Nat.mod_lt _ (by omega))
      omega)
  unfold hvL
  omega
set_option maxRecDepth 100000 in
set_option maxHeartbeats 8000000 in
theorem k_SplitLate (ps : List Pc) (oP oS : Option Addr) (cP m cS p i j s : Nat) (sm : List Int) (e z w E : Int) (hn : ps.length ≤ 10000) (hsm : sm.length = m * 4) (hm : m < 100) (hv : vdC ps sm m e = 0) (hsd : hsP ps.length (sdF ps) (p : Int) (i : Int) ∧ hsP ps.length (sdF ps) (p : Int) (j : Int)) (hsE : s = (j + (pcA ps p).sd.length - i) % (pcA ps p).sd.length) (hs2 : 2 ≤ s ∧ s + 2 ≤ (pcA ps p).sd.length) (hz : 1 ≤ z ∧ z ≤ 200) (hw : 1 ≤ w ∧ w < (pcA ps p).an.getD i 0)
    (hLR : (¬ ((1 ≤ hvL (pcA ps p).an i s w ∧ hvL (pcA ps p).an i s w ≤ 359) ∧ (1 ≤ (pcA ps p).an.getD j 0 - hvL (pcA ps p).an i s w ∧ (pcA ps p).an.getD j 0 - hvL (pcA ps p).an i s w ≤ 359)) ∧ E = 1) ∨ (((1 ≤ hvL (pcA ps p).an i s w ∧ hvL (pcA ps p).an i s w ≤ 359) ∧ (1 ≤ (pcA ps p).an.getD j 0 - hvL (pcA ps p).an i s w ∧ (pcA ps p).an.getD j 0 - hvL (pcA ps p).an i s w ≤ 359)) ∧ ps.length = 8 ∧ E = 4)) (B : Nat) (w0 : Wd) (hs : HS) (hC : CapM B w0 hs oP oS ps sm) :
    Fn Tryz.prog 27 #[.agg #[.slice oP ps.length cP, .slice oS m cS, iv e], iv p, iv i, iv j, iv z, iv w] B w0 hs (fun v h => v = .tuple #[zcap, iv E] ∧ h = hs) := by
  have kv := fun hs' (h : hs.Sublist hs') => k_Validate ps oP oS cP m cS sm e hn hsm (by omega) B w0 hs' (hC.sub h)
  have V := vdC_0 hv
  have hv' : vdE ps.length (sdF ps) (anF ps) m sm e = 0 := hv
  rw [hv'] at kv
  have hP8 := V.n8
  have kd1 := fun hs' (h : hs.Sublist hs') => k_hasSide ps oP oS cP m cS sm e p i B w0 hs' (hC.sub h)
  have kd2 := fun hs' (h : hs.Sublist hs') => k_hasSide ps oP oS cP m cS sm e p j B w0 hs' (hC.sub h)
  rw [decide_eq_true hsd.1] at kd1
  rw [decide_eq_true hsd.2] at kd2
  obtain ⟨⟨hp1, hp2⟩, hi1, hi2⟩ := hsd.1
  obtain ⟨_, hj1, hj2⟩ := hsd.2
  simp only [Int.toNat_natCast] at hi2 hj2
  have hpp : p < ps.length := by omega
  obtain ⟨v1, v2, v3, v4⟩ := V.ok p hpp
  have e1 : (sdF ps p).length = (pcA ps p).sd.length := rfl
  have e2 : (anF ps p).length = (pcA ps p).an.length := rfl
  have hbb : ∀ u, u < (pcA ps p).an.length → 1 ≤ (pcA ps p).an.getD u 0 ∧ (pcA ps p).an.getD u 0 ≤ 359 := fun u hu => (v3 u (by omega)).2
  rw [e1] at v1 v2 hi2 hj2
  rw [e2] at v2
  have hgi := hbb i (by omega)
  have hgj := hbb j (by omega)
  have iP := hC.isS hpp
  have hcl := fun hs' (h : hs.Sublist hs') => hC.ld (t := 29) (P := Tryz.prog) (shTOf rfl) h hpp
  have kw := fun x lo hi hs => k_within x lo hi B w0 hs
  have hsA := hC.sds p hpp
  have hsB := hC.ans p hpp
  have iB := hsB.any (i := i) (by omega)
  have jB := hsB.any (i := j) (by omega)
  have kp1 := fun hs' (h : hs.Sublist hs') => k_part (pcA ps p).oa (pcA ps p).ob (pcA ps p).ca (pcA ps p).cb (pcA ps p).sd (pcA ps p).an i s z (by omega) v2 (by omega) (by omega) B w0 hs' (hsA.sub h) (hsB.sub h)
  have kp2 := fun hs' (h : hs.Sublist hs') => k_part (pcA ps p).oa (pcA ps p).ob (pcA ps p).ca (pcA ps p).cb (pcA ps p).sd (pcA ps p).an j ((pcA ps p).sd.length - s) z (by omega) v2 (by omega) (by omega) B w0 hs' (hsA.sub h) (hsB.sub h)
  have hbd := hvL_bd (i := i) (s := s) (w := w) hbb (by omega) (by omega) (by omega)
  have kc := fun hs' (h : hs.Sublist hs') => k_copyCap ps oP oS cP m cS sm e (by omega) (by omega) (vdC_ok V) hsm (by omega) B w0 hs' (hC.sub h)
  have kca := fun oa ca cb b zz hcb hs => k_close2 oa ca cb b i s (pcA ps p).an w zz (by omega) hcb hbb (by omega) (by omega) B w0 hs
  have hrm : ((j : Int) - (i : Int) + ((pcA ps p).sd.length : Int)) % ((pcA ps p).sd.length : Int) = (s : Int) := by
    rw [hsE, show (j : Int) - (i : Int) + ((pcA ps p).sd.length : Int) = ((j + (pcA ps p).sd.length - i : Nat) : Int) by omega, ← Int.natCast_emod]
  have hks : ((pcA ps p).sd.length : Int) - (s : Int) = (((pcA ps p).sd.length - s : Nat) : Int) := by omega
  have hjA : ((s + 1 : Nat) : Int) - 1 = (s : Int) := by omega
  have hjB : (((pcA ps p).sd.length - s + 1 : Nat) : Int) - 1 = (((pcA ps p).sd.length - s : Nat) : Int) := by omega
  have hlA : Unit → 0 < (ptl (pcA ps p).an i s 0).length := fun _ => by rw [ptl_len]; omega
  have hlB : Unit → 0 < (ptl (pcA ps p).an j ((pcA ps p).sd.length - s) 0).length := fun _ => by rw [ptl_len]; omega
  have hlB2 : ∀ u : Int, (pcA ps p).sd.length - s < ((ptl (pcA ps p).an j ((pcA ps p).sd.length - s) 0).set 0 u).length := fun u => by rw [List.length_set, ptl_len]; omega
  have hgA : ∀ z : List Value, (ivs (tab s (hvF (pcA ps p).an i w) ++ [hvL (pcA ps p).an i s w]) ++ z)[s]? = some (iv (hvL (pcA ps p).an i s w)) := fun z => by
    rw [List.getElem?_append_left (by rw [ivs_length, List.length_append, tab_length]; simp), ivs_get (by rw [List.length_append, tab_length]; simp), List.getD_eq_getElem?_getD, List.getElem?_append_right (by rw [tab_length]; exact Nat.le_refl _), tab_length, Nat.sub_self]
    rfl
  have hgB : ∀ (u v : Int) (z : List Value), (ivs (((ptl (pcA ps p).an j ((pcA ps p).sd.length - s) 0).set 0 u).set ((pcA ps p).sd.length - s) v) ++ z)[0]? = some (iv u) := fun u v z => by
    rw [List.getElem?_append_left (by rw [ivs_length, List.length_set, List.length_set, ptl_len]; omega), ivs_get (by rw [List.length_set, List.length_set, ptl_len]; omega), getD_set (by rw [List.length_set, ptl_len]; omega), if_neg (by omega), getD_set (hlB ()), if_pos rfl]
  generalize hvL (pcA ps p).an i s w = HL at *
  rcases hLR with ⟨hLR, rfl⟩ | ⟨hLR, hP, rfl⟩
  · refine fn_enter Tryz.func27 rfl Tryz.ntmps27 (by simp) ?_
    repeat' (first | ((with_reducible apply kP (.box 25 _)); refine sBA (fun b6 => ?_)) | ((with_reducible apply kP (.box 3 _)); refine sB (fun b7 => ?_)) | ((with_reducible apply kP (.alloc 25)); refine sA (fun b12 => ?_)) | ((with_reducible apply kP (.alloc 29)); refine sA (fun b15 => ?_)) | ((with_reducible apply kP (.alloc 3)); refine sA (fun b16 => ?_)) | ((with_reducible apply kF 6); refine sC 6 (kv _ SBt) ?_) | ((with_reducible apply kF 34); refine sC 34 (kd1 _ SBt) ?_) | ((with_reducible apply kF 34); refine sC 34 (kd2 _ SBt) ?_) | ((with_reducible apply kP (.load 29 (.tmp 47))); refine sP ?_ (o_load rfl (hcl _ SBt))) | ((with_reducible apply kDP (.load 29 (.tmp 47))); refine dP ?_ (hX := rfl) (hv := o_load rfl (hcl _ SBt))) | ((with_reducible apply kQO (.load 29 (.tmp 47))); refine qP ?_ (o_load rfl (hcl _ SBt))) | ((with_reducible apply kF 16); refine sC 16 (kw _ _ _ _) ?_) | ((with_reducible apply kP (.binOp .rem _ _ _ _)); refine sP ?_ (o_remE rfl rfl (by omega) (by omega) hrm)) | ((with_reducible apply kDP (.binOp .rem _ _ _ _)); refine dP ?_ (hX := rfl) (hv := o_remE rfl rfl (by omega) (by omega) hrm)) | ((with_reducible apply kQO (.binOp .rem _ _ _ _)); refine qP ?_ (o_remE rfl rfl (by omega) (by omega) hrm)) | ((with_reducible apply kP (.binOp .sub _ (.tmp 91) _ _)); refine sP ?_ (o_subE rfl rfl hks (by constructor <;> omega))) | ((with_reducible apply kDP (.binOp .sub _ (.tmp 91) _ _)); refine dP ?_ (hX := rfl) (hv := o_subE rfl rfl hks (by constructor <;> omega))) | ((with_reducible apply kQO (.binOp .sub _ (.tmp 91) _ _)); refine qP ?_ (o_subE rfl rfl hks (by constructor <;> omega))) | ((with_reducible apply kP (.binOp .sub _ (.tmp 104) _ _)); refine sP ?_ (o_subE rfl rfl hjA (by constructor <;> omega))) | ((with_reducible apply kDP (.binOp .sub _ (.tmp 104) _ _)); refine dP ?_ (hX := rfl) (hv := o_subE rfl rfl hjA (by constructor <;> omega))) | ((with_reducible apply kQO (.binOp .sub _ (.tmp 104) _ _)); refine qP ?_ (o_subE rfl rfl hjA (by constructor <;> omega))) | ((with_reducible apply kP (.binOp .sub _ (.tmp 124) _ _)); refine sP ?_ (o_subE rfl rfl hjB (by constructor <;> omega))) | ((with_reducible apply kDP (.binOp .sub _ (.tmp 124) _ _)); refine dP ?_ (hX := rfl) (hv := o_subE rfl rfl hjB (by constructor <;> omega))) | ((with_reducible apply kQO (.binOp .sub _ (.tmp 124) _ _)); refine qP ?_ (o_subE rfl rfl hjB (by constructor <;> omega))) | ((with_reducible apply kP (.indexAddr 27 (.tmp 75) _)); refine sP ?_ (o_indexS (scTOf rfl) rfl rfl rfl (aa0 _) iB (by omega))) | ((with_reducible apply kDP (.indexAddr 27 (.tmp 75) _)); refine dP ?_ (hX := rfl) (hv := o_indexS (scTOf rfl) rfl rfl rfl (aa0 _) iB (by omega))) | ((with_reducible apply kQO (.indexAddr 27 (.tmp 75) _)); refine qP ?_ (o_indexS (scTOf rfl) rfl rfl rfl (aa0 _) iB (by omega))) | ((with_reducible apply kP (.indexAddr 27 (.tmp 109) _)); refine sP ?_ (o_indexS (scTOf rfl) rfl rfl rfl (aa0 _) jB (by omega))) | ((with_reducible apply kDP (.indexAddr 27 (.tmp 109) _)); refine dP ?_ (hX := rfl) (hv := o_indexS (scTOf rfl) rfl rfl rfl (aa0 _) jB (by omega))) | ((with_reducible apply kQO (.indexAddr 27 (.tmp 109) _)); refine qP ?_ (o_indexS (scTOf rfl) rfl rfl rfl (aa0 _) jB (by omega))) | ((with_reducible apply kP (.indexAddr 27 (.tmp 127) _)); refine sP ?_ (o_indexS (scTOf rfl) rfl rfl rfl (aa0 _) iB (by omega))) | ((with_reducible apply kDP (.indexAddr 27 (.tmp 127) _)); refine dP ?_ (hX := rfl) (hv := o_indexS (scTOf rfl) rfl rfl rfl (aa0 _) iB (by omega))) | ((with_reducible apply kQO (.indexAddr 27 (.tmp 127) _)); refine qP ?_ (o_indexS (scTOf rfl) rfl rfl rfl (aa0 _) iB (by omega))) | ((with_reducible apply kDF 46); (first | refine dN3 46 (fun F => kp1 _ (sbA SBt)) ?_ | refine dN4 46 (fun F => kp1 _ (sbA SBt)) ?_); rintro u7 blk7 ⟨oa5, oa6, c5, c6, k5, k6, rfl, hr5, hr6, rfl⟩; rcases hr6 with ⟨_, _, hh6, _⟩ | ⟨bA, zA, rfl, rfl, hzA, hcA⟩; (exact absurd hh6 (ivs_ne (by rw [ptl_len]; omega))); rw [ptl_len, ptl_len]; rw [show ∀ X : HS, [(bA, ivs (ptl (pcA ps p).an i s 0) ++ zA)] ++ k5 ++ X = (bA, ivs (ptl (pcA ps p).an i s 0) ++ zA) :: (k5 ++ X) from fun X => rfl]; have hcb6 : s + 1 ≤ c6 := (by rw [List.length_append, ivs_length, ptl_len] at hzA; omega)) | ((with_reducible apply kDF 46); (first | refine dN3 46 (fun F => kp2 _ (sbA SBt)) ?_ | refine dN4 46 (fun F => kp2 _ (sbA SBt)) ?_); rintro u7 blk7 ⟨oa7, oa8, c7, c8, k7, k8, rfl, hr7, hr8, rfl⟩; rcases hr8 with ⟨_, _, hh8, _⟩ | ⟨bB, zB, rfl, rfl, hzB, hcB⟩; (exact absurd hh8 (ivs_ne (by rw [ptl_len]; omega))); rw [ptl_len, ptl_len]; rw [show ∀ X : HS, [(bB, ivs (ptl (pcA ps p).an j ((pcA ps p).sd.length - s) 0) ++ zB)] ++ k7 ++ X = (bB, ivs (ptl (pcA ps p).an j ((pcA ps p).sd.length - s) 0) ++ zB) :: (k7 ++ X) from fun X => rfl]) | ((with_reducible apply kNx 99); refine stZ ?_ rfl (hlA ())) | ((with_reducible apply kF 47); refine s_mut1 (goTOf rfl) rfl (by with_reducible ((repeat (first | exact Take.head | exact Take.one | apply Take.tail | apply Take.app)); done)) (kca oa5 c5 c6 bA zA hcb6 _) (by first | decide | exact ltd rfl) ?_) | ((with_reducible apply kP (.load 3 (.tmp 116))); refine sP ?_ (o_load rfl (ld_one (shTOf rfl) (own MMt (hgA _))))) | ((with_reducible apply kDP (.load 3 (.tmp 116))); refine dP ?_ (hX := rfl) (hv := o_load rfl (ld_one (shTOf rfl) (own MMt (hgA _))))) | ((with_reducible apply kQO (.load 3 (.tmp 116))); refine qP ?_ (o_load rfl (ld_one (shTOf rfl) (own MMt (hgA _))))) | ((with_reducible apply kP (.load 3 (.tmp 137))); refine sP ?_ (o_load rfl (ld_one (shTOf rfl) (own MMt (hgA _))))) | ((with_reducible apply kDP (.load 3 (.tmp 137))); refine dP ?_ (hX := rfl) (hv := o_load rfl (ld_one (shTOf rfl) (own MMt (hgA _))))) | ((with_reducible apply kQO (.load 3 (.tmp 137))); refine qP ?_ (o_load rfl (ld_one (shTOf rfl) (own MMt (hgA _))))) | ((with_reducible apply kP (.load 3 (.tmp 144))); refine sP ?_ (o_load rfl (ld_one (shTOf rfl) (own MMt (hgB _ _ _))))) | ((with_reducible apply kDP (.load 3 (.tmp 144))); refine dP ?_ (hX := rfl) (hv := o_load rfl (ld_one (shTOf rfl) (own MMt (hgB _ _ _))))) | ((with_reducible apply kQO (.load 3 (.tmp 144))); refine qP ?_ (o_load rfl (ld_one (shTOf rfl) (own MMt (hgB _ _ _))))) | ((with_reducible apply kDNx 119); refine dtZ ?_ rfl (by exact MMt) (hlB ())) | ((with_reducible apply kDNx 133); refine dtZ ?_ rfl (by exact MMt) (hlB2 _)) | ((with_reducible apply kN); refine stW ?_ (hf := flat_cons rfl (flat_cons rfl (flat1 rfl)))) | ((with_reducible apply kN); refine stW ?_ (hf := flat_cons rfl (flat1 rfl))) | ((with_reducible apply kRg 11); refine cD [1, 1, 1, 1, 3, 0, 0, 0, 0, 0, 0, 3, 2, 2, 4, 4] ?_) | ((with_reducible apply kRg 15); refine cD [1, 1, 1, 1, 1, 1, 1, 1, 1, 1, 1, 1, 1, 1, 4] ?_) | ((with_reducible apply kRg 16); refine cD [1, 1, 1, 1, 1, 1, 1, 1, 1, 1, 1, 1, 1, 1, 4] ?_) | (with_reducible first | refine c_seq ?_ | refine c_reg ?_ | refine c_region ?_ | refine c_block ?_ | refine c_skip ?_ | refine c_exit ?_ | refine c_ret ?_ | refine s_nil ?_ | refine x_then ?_ | refine x_then_exit ?_ | refine x_then_ret ?_ | refine x_block ?_ | refine x_block_ret ?_ | refine x_block_same ?_ | refine x_block_other (by first | rfl | decide) ?_ | refine q_nil ?_ | refine k_nil ?_) | ((with_reducible apply kP (.makeFunc _ _ _)); refine sMF ?_) | ((with_reducible apply kG); first | refine gY1 ?_ | refine gN1 ?_ | refine gU1 ?_ | (refine gD1 (fun h => ?_) (fun h => ?_) <;> (try (exfalso; omega))) | refine gB1 (fun h => ?_) (fun h => ?_)) | ((with_reducible apply kN); first | refine stP ?_ | refine stI ?_ | refine st1 ?_ | refine stW ?_) | ((with_reducible apply kP (.alloc _)); refine sA (fun b => ?_)) | ((with_reducible apply kP (.box _ _)); first | refine sBA (fun b => ?_) | refine sB (fun b => ?_)) | ((with_reducible apply kP (.buildSlice _ 1 _)); first | refine sl1A (fun b => ?_) | refine sl1 (fun b => ?_)) | ((with_reducible apply kP (.call ⟨.builtin .append, _, _⟩)); refine sAp (fun oa2 c2 blk2 hrow2 => ?_)) | ((with_reducible apply kP _); refine sP ?_) | ((with_reducible apply kP _); refine sX ?_) | ((with_reducible apply kC); first | refine cT ?_ | refine cF ?_ | (refine cI (fun h => ?_) (fun h => ?_) <;> (try (exfalso; omega))) | refine cB (fun h => ?_) (fun h => ?_)) | ((with_reducible apply kDN); first | refine dtI ?_ | refine dt1 ?_ | refine dtW ?_) | ((with_reducible apply kDP (.alloc _)); refine dA (fun b => ?_)) | ((with_reducible apply kDP _); refine dP ?_) | ((with_reducible apply kDP _); refine dX ?_))
    all_goals try (exfalso; omega)
    all_goals first
      | exact e_ret2 (hs' := hs) rfl ⟨_, rfl, ld_whole (shTOf rfl) MDt rfl⟩ rfl ⟨rfl, rfl⟩ (.cons _ (.cons _ (.cons _ (.cons _ (sbA (sbA (.cons _ (.cons _ (.cons _ (.cons _ (.cons _ (.cons _ (.cons _ (.cons _ (.refl _)))))))))))))))
      | trace_state
  · refine fn_enter Tryz.func27 rfl Tryz.ntmps27 (by simp) ?_
    repeat' (first | ((with_reducible apply kP (.box 25 _)); refine sBA (fun b6 => ?_)) | ((with_reducible apply kP (.box 3 _)); refine sB (fun b7 => ?_)) | ((with_reducible apply kP (.alloc 25)); refine sA (fun b12 => ?_)) | ((with_reducible apply kP (.alloc 29)); refine sA (fun b15 => ?_)) | ((with_reducible apply kP (.alloc 3)); refine sA (fun b16 => ?_)) | ((with_reducible apply kF 6); refine sC 6 (kv _ SBt) ?_) | ((with_reducible apply kF 34); refine sC 34 (kd1 _ SBt) ?_) | ((with_reducible apply kF 34); refine sC 34 (kd2 _ SBt) ?_) | ((with_reducible apply kP (.load 29 (.tmp 47))); refine sP ?_ (o_load rfl (hcl _ SBt))) | ((with_reducible apply kDP (.load 29 (.tmp 47))); refine dP ?_ (hX := rfl) (hv := o_load rfl (hcl _ SBt))) | ((with_reducible apply kQO (.load 29 (.tmp 47))); refine qP ?_ (o_load rfl (hcl _ SBt))) | ((with_reducible apply kF 16); refine sC 16 (kw _ _ _ _) ?_) | ((with_reducible apply kP (.binOp .rem _ _ _ _)); refine sP ?_ (o_remE rfl rfl (by omega) (by omega) hrm)) | ((with_reducible apply kDP (.binOp .rem _ _ _ _)); refine dP ?_ (hX := rfl) (hv := o_remE rfl rfl (by omega) (by omega) hrm)) | ((with_reducible apply kQO (.binOp .rem _ _ _ _)); refine qP ?_ (o_remE rfl rfl (by omega) (by omega) hrm)) | ((with_reducible apply kP (.binOp .sub _ (.tmp 91) _ _)); refine sP ?_ (o_subE rfl rfl hks (by constructor <;> omega))) | ((with_reducible apply kDP (.binOp .sub _ (.tmp 91) _ _)); refine dP ?_ (hX := rfl) (hv := o_subE rfl rfl hks (by constructor <;> omega))) | ((with_reducible apply kQO (.binOp .sub _ (.tmp 91) _ _)); refine qP ?_ (o_subE rfl rfl hks (by constructor <;> omega))) | ((with_reducible apply kP (.binOp .sub _ (.tmp 104) _ _)); refine sP ?_ (o_subE rfl rfl hjA (by constructor <;> omega))) | ((with_reducible apply kDP (.binOp .sub _ (.tmp 104) _ _)); refine dP ?_ (hX := rfl) (hv := o_subE rfl rfl hjA (by constructor <;> omega))) | ((with_reducible apply kQO (.binOp .sub _ (.tmp 104) _ _)); refine qP ?_ (o_subE rfl rfl hjA (by constructor <;> omega))) | ((with_reducible apply kP (.binOp .sub _ (.tmp 124) _ _)); refine sP ?_ (o_subE rfl rfl hjB (by constructor <;> omega))) | ((with_reducible apply kDP (.binOp .sub _ (.tmp 124) _ _)); refine dP ?_ (hX := rfl) (hv := o_subE rfl rfl hjB (by constructor <;> omega))) | ((with_reducible apply kQO (.binOp .sub _ (.tmp 124) _ _)); refine qP ?_ (o_subE rfl rfl hjB (by constructor <;> omega))) | ((with_reducible apply kP (.indexAddr 27 (.tmp 75) _)); refine sP ?_ (o_indexS (scTOf rfl) rfl rfl rfl (aa0 _) iB (by omega))) | ((with_reducible apply kDP (.indexAddr 27 (.tmp 75) _)); refine dP ?_ (hX := rfl) (hv := o_indexS (scTOf rfl) rfl rfl rfl (aa0 _) iB (by omega))) | ((with_reducible apply kQO (.indexAddr 27 (.tmp 75) _)); refine qP ?_ (o_indexS (scTOf rfl) rfl rfl rfl (aa0 _) iB (by omega))) | ((with_reducible apply kP (.indexAddr 27 (.tmp 109) _)); refine sP ?_ (o_indexS (scTOf rfl) rfl rfl rfl (aa0 _) jB (by omega))) | ((with_reducible apply kDP (.indexAddr 27 (.tmp 109) _)); refine dP ?_ (hX := rfl) (hv := o_indexS (scTOf rfl) rfl rfl rfl (aa0 _) jB (by omega))) | ((with_reducible apply kQO (.indexAddr 27 (.tmp 109) _)); refine qP ?_ (o_indexS (scTOf rfl) rfl rfl rfl (aa0 _) jB (by omega))) | ((with_reducible apply kP (.indexAddr 27 (.tmp 127) _)); refine sP ?_ (o_indexS (scTOf rfl) rfl rfl rfl (aa0 _) iB (by omega))) | ((with_reducible apply kDP (.indexAddr 27 (.tmp 127) _)); refine dP ?_ (hX := rfl) (hv := o_indexS (scTOf rfl) rfl rfl rfl (aa0 _) iB (by omega))) | ((with_reducible apply kQO (.indexAddr 27 (.tmp 127) _)); refine qP ?_ (o_indexS (scTOf rfl) rfl rfl rfl (aa0 _) iB (by omega))) | ((with_reducible apply kDF 46); (first | refine dN3 46 (fun F => kp1 _ (sbA SBt)) ?_ | refine dN4 46 (fun F => kp1 _ (sbA SBt)) ?_); rintro u7 blk7 ⟨oa5, oa6, c5, c6, k5, k6, rfl, hr5, hr6, rfl⟩; rcases hr6 with ⟨_, _, hh6, _⟩ | ⟨bA, zA, rfl, rfl, hzA, hcA⟩; (exact absurd hh6 (ivs_ne (by rw [ptl_len]; omega))); rw [ptl_len, ptl_len]; rw [show ∀ X : HS, [(bA, ivs (ptl (pcA ps p).an i s 0) ++ zA)] ++ k5 ++ X = (bA, ivs (ptl (pcA ps p).an i s 0) ++ zA) :: (k5 ++ X) from fun X => rfl]; have hcb6 : s + 1 ≤ c6 := (by rw [List.length_append, ivs_length, ptl_len] at hzA; omega)) | ((with_reducible apply kDF 46); (first | refine dN3 46 (fun F => kp2 _ (sbA SBt)) ?_ | refine dN4 46 (fun F => kp2 _ (sbA SBt)) ?_); rintro u7 blk7 ⟨oa7, oa8, c7, c8, k7, k8, rfl, hr7, hr8, rfl⟩; rcases hr8 with ⟨_, _, hh8, _⟩ | ⟨bB, zB, rfl, rfl, hzB, hcB⟩; (exact absurd hh8 (ivs_ne (by rw [ptl_len]; omega))); rw [ptl_len, ptl_len]; rw [show ∀ X : HS, [(bB, ivs (ptl (pcA ps p).an j ((pcA ps p).sd.length - s) 0) ++ zB)] ++ k7 ++ X = (bB, ivs (ptl (pcA ps p).an j ((pcA ps p).sd.length - s) 0) ++ zB) :: (k7 ++ X) from fun X => rfl]) | ((with_reducible apply kNx 99); refine stZ ?_ rfl (hlA ())) | ((with_reducible apply kF 47); refine s_mut1 (goTOf rfl) rfl (by with_reducible ((repeat (first | exact Take.head | exact Take.one | apply Take.tail | apply Take.app)); done)) (kca oa5 c5 c6 bA zA hcb6 _) (by first | decide | exact ltd rfl) ?_) | ((with_reducible apply kP (.load 3 (.tmp 116))); refine sP ?_ (o_load rfl (ld_one (shTOf rfl) (own MMt (hgA _))))) | ((with_reducible apply kDP (.load 3 (.tmp 116))); refine dP ?_ (hX := rfl) (hv := o_load rfl (ld_one (shTOf rfl) (own MMt (hgA _))))) | ((with_reducible apply kQO (.load 3 (.tmp 116))); refine qP ?_ (o_load rfl (ld_one (shTOf rfl) (own MMt (hgA _))))) | ((with_reducible apply kP (.load 3 (.tmp 137))); refine sP ?_ (o_load rfl (ld_one (shTOf rfl) (own MMt (hgA _))))) | ((with_reducible apply kDP (.load 3 (.tmp 137))); refine dP ?_ (hX := rfl) (hv := o_load rfl (ld_one (shTOf rfl) (own MMt (hgA _))))) | ((with_reducible apply kQO (.load 3 (.tmp 137))); refine qP ?_ (o_load rfl (ld_one (shTOf rfl) (own MMt (hgA _))))) | ((with_reducible apply kP (.load 3 (.tmp 144))); refine sP ?_ (o_load rfl (ld_one (shTOf rfl) (own MMt (hgB _ _ _))))) | ((with_reducible apply kDP (.load 3 (.tmp 144))); refine dP ?_ (hX := rfl) (hv := o_load rfl (ld_one (shTOf rfl) (own MMt (hgB _ _ _))))) | ((with_reducible apply kQO (.load 3 (.tmp 144))); refine qP ?_ (o_load rfl (ld_one (shTOf rfl) (own MMt (hgB _ _ _))))) | ((with_reducible apply kDNx 119); refine dtZ ?_ rfl (by exact MMt) (hlB ())) | ((with_reducible apply kDNx 133); refine dtZ ?_ rfl (by exact MMt) (hlB2 _)) | ((with_reducible apply kN); refine stW ?_ (hf := flat_cons rfl (flat_cons rfl (flat1 rfl)))) | ((with_reducible apply kN); refine stW ?_ (hf := flat_cons rfl (flat1 rfl))) | ((with_reducible apply kRg 11); refine cD [1, 1, 1, 1, 3, 0, 0, 0, 0, 0, 0, 3, 2, 2, 4, 4] ?_) | ((with_reducible apply kRg 15); refine cD [1, 1, 1, 1, 1, 1, 1, 1, 1, 1, 1, 1, 1, 1, 4] ?_) | ((with_reducible apply kRg 16); refine cD [1, 1, 1, 1, 1, 1, 1, 1, 1, 1, 1, 1, 1, 1, 4] ?_) | (with_reducible first | refine c_seq ?_ | refine c_reg ?_ | refine c_region ?_ | refine c_block ?_ | refine c_skip ?_ | refine c_exit ?_ | refine c_ret ?_ | refine s_nil ?_ | refine x_then ?_ | refine x_then_exit ?_ | refine x_then_ret ?_ | refine x_block ?_ | refine x_block_ret ?_ | refine x_block_same ?_ | refine x_block_other (by first | rfl | decide) ?_ | refine q_nil ?_ | refine k_nil ?_) | ((with_reducible apply kP (.makeFunc _ _ _)); refine sMF ?_) | ((with_reducible apply kG); first | refine gY1 ?_ | refine gN1 ?_ | refine gU1 ?_ | (refine gD1 (fun h => ?_) (fun h => ?_) <;> (try (exfalso; omega))) | refine gB1 (fun h => ?_) (fun h => ?_)) | ((with_reducible apply kN); first | refine stP ?_ | refine stI ?_ | refine st1 ?_ | refine stW ?_) | ((with_reducible apply kP (.alloc _)); refine sA (fun b => ?_)) | ((with_reducible apply kP (.box _ _)); first | refine sBA (fun b => ?_) | refine sB (fun b => ?_)) | ((with_reducible apply kP (.buildSlice _ 1 _)); first | refine sl1A (fun b => ?_) | refine sl1 (fun b => ?_)) | ((with_reducible apply kP (.call ⟨.builtin .append, _, _⟩)); refine sAp (fun oa2 c2 blk2 hrow2 => ?_)) | ((with_reducible apply kP _); refine sP ?_) | ((with_reducible apply kP _); refine sX ?_) | ((with_reducible apply kC); first | refine cT ?_ | refine cF ?_ | (refine cI (fun h => ?_) (fun h => ?_) <;> (try (exfalso; omega))) | refine cB (fun h => ?_) (fun h => ?_)) | ((with_reducible apply kDN); first | refine dtI ?_ | refine dt1 ?_ | refine dtW ?_) | ((with_reducible apply kDP (.alloc _)); refine dA (fun b => ?_)) | ((with_reducible apply kDP _); refine dP ?_) | ((with_reducible apply kDP _); refine dX ?_))
    all_goals try (exfalso; omega)
    all_goals first
      | exact e_ret2 (hs' := hs) rfl ⟨_, rfl, ld_whole (shTOf rfl) MDt rfl⟩ rfl ⟨rfl, rfl⟩ (.cons _ (.cons _ (.cons _ (.cons _ (sbA (sbA (.cons _ (.cons _ (.cons _ (.cons _ (.cons _ (.cons _ (.cons _ (.cons _ (.refl _)))))))))))))))
      | trace_state
end Go.Proofs.YtnbickholedckaaGreatDoor
namespace Go.Proofs.YtnbickholedckaaGreatDoor
open Go.RowKit
attribute [local irreducible] OpF Ld CellAt Sl Sv pcA usP
set_option maxRecDepth 100000 in
set_option maxHeartbeats 8000000 in
theorem k_Split (ps : List Pc) (oP oS : Option Addr) (cP m cS : Nat) (sm : List Int) (e p i j z w : Int) (hn : ps.length ≤ 10000) (hsm : sm.length = m * 4) (hm : m < 100) (B : Nat) (w0 : Wd) (hs : HS) (hC : CapM B w0 hs oP oS ps sm) :
    Fn Tryz.prog 27 #[.agg #[.slice oP ps.length cP, .slice oS m cS, iv e], iv p, iv i, iv j, iv z, iv w] B w0 hs (CeR (spE ps sm m e p i j z w) (spP ps p.toNat i.toNat j.toNat z w) (spM ps sm m p.toNat i.toNat j.toNat) (m + 1) e hs) := by
  have kv := fun hs' (h : hs.Sublist hs') => k_Validate ps oP oS cP m cS sm e hn hsm (by omega) B w0 hs' (hC.sub h)
  unfold CeR spE
  by_cases hv : vdC ps sm m e = 0
  · have V := vdC_0 hv
    rw [if_neg (fun h => h hv)]
    have hv' : vdE ps.length (sdF ps) (anF ps) m sm e = 0 := hv
    rw [hv'] at kv
    have kd := fun a x hs' (h : hs.Sublist hs') => k_hasSide ps oP oS cP m cS sm e a x B w0 hs' (hC.sub h)
    have hP8 := V.n8
    by_cases hsd : hsP ps.length (sdF ps) p i ∧ hsP ps.length (sdF ps) p j
    · rw [if_neg (fun h => h hsd)]
      have kd1 := fun hs' (h : hs.Sublist hs') => kd p i hs' h
      have kd2 := fun hs' (h : hs.Sublist hs') => kd p j hs' h
      rw [decide_eq_true hsd.1] at kd1
      rw [decide_eq_true hsd.2] at kd2
      clear kd
      obtain ⟨⟨hp1, hp2⟩, hi1, hi2⟩ := hsd.1
      obtain ⟨_, hj1, hj2⟩ := hsd.2
      obtain ⟨p, rfl⟩ : ∃ y : Nat, p = (y : Int) := ⟨p.toNat, by omega⟩
      obtain ⟨i, rfl⟩ : ∃ y : Nat, i = (y : Int) := ⟨i.toNat, by omega⟩
      obtain ⟨j, rfl⟩ : ∃ y : Nat, j = (y : Int) := ⟨j.toNat, by omega⟩
      simp only [Int.toNat_natCast] at *
      have hpp : p < ps.length := by omega
      obtain ⟨v1, v2, v3, v4⟩ := V.ok p hpp
      have e1 : (sdF ps p).length = (pcA ps p).sd.length := rfl
      have e2 : (anF ps p).length = (pcA ps p).an.length := rfl
      have hbb : ∀ u, u < (pcA ps p).sd.length → 1 ≤ (pcA ps p).an.getD u 0 ∧ (pcA ps p).an.getD u 0 ≤ 359 := fun u hu => (v3 u hu).2
      rw [e1] at v1 v2 hi2 hj2
      rw [e2] at v2
      obtain ⟨s, hsE⟩ : ∃ s, s = (j + (pcA ps p).sd.length - i) % (pcA ps p).sd.length := ⟨_, rfl⟩
      have hsk : s < (pcA ps p).sd.length := by rw [hsE]; exact Nat.mod_lt _ (by omega)
      have hgi := hbb i (by omega)
      have hrm : ((j : Int) - (i : Int) + ((pcA ps p).sd.length : Int)) % ((pcA ps p).sd.length : Int) = (s : Int) := by
        rw [hsE, show (j : Int) - (i : Int) + ((pcA ps p).sd.length : Int) = ((j + (pcA ps p).sd.length - i : Nat) : Int) by omega, ← Int.natCast_emod]
      by_cases hg1 : s < 2 ∨ (pcA ps p).sd.length < s + 2 ∨ ¬ (1 ≤ z ∧ z ≤ 200) ∨ ¬ (1 ≤ w ∧ w < (pcA ps p).an.getD i 0)
      · have q1 := hg1
        rw [hsE] at q1
        rw [if_pos q1]
        have iP := hC.isS hpp
        have hcl := fun hs' (h : hs.Sublist hs') => hC.ld (t := 29) (P := Tryz.prog) (shTOf rfl) h hpp
        have kw := fun x lo hi hs => k_within x lo hi B w0 hs
        have hsB := hC.ans p hpp
        have iB := hsB.any (i := i) (by omega)
        refine fn_enter Tryz.func27 rfl Tryz.ntmps27 (by simp) ?_
        repeat' (first | ((with_reducible apply kP (.box 25 _)); refine sBA (fun b6 => ?_)) | ((with_reducible apply kP (.box 3 _)); refine sB (fun b7 => ?_)) | ((with_reducible apply kP (.alloc 25)); refine sA (fun b12 => ?_)) | ((with_reducible apply kP (.alloc 29)); refine sA (fun b15 => ?_)) | ((with_reducible apply kP (.alloc 3)); refine sA (fun b16 => ?_)) | ((with_reducible apply kF 6); refine sC 6 (kv _ SBt) ?_) | ((with_reducible apply kF 34); refine sC 34 (kd1 _ SBt) ?_) | ((with_reducible apply kF 34); refine sC 34 (kd2 _ SBt) ?_) | ((with_reducible apply kP (.load 29 (.tmp 47))); refine sP ?_ (o_load rfl (hcl _ SBt))) | ((with_reducible apply kDP (.load 29 (.tmp 47))); refine dP ?_ (hX := rfl) (hv := o_load rfl (hcl _ SBt))) | ((with_reducible apply kQO (.load 29 (.tmp 47))); refine qP ?_ (o_load rfl (hcl _ SBt))) | ((with_reducible apply kF 16); refine sC 16 (kw _ _ _ _) ?_) | ((with_reducible apply kP (.binOp .rem _ _ _ _)); refine sP ?_ (o_remE rfl rfl (by omega) (by omega) hrm)) | ((with_reducible apply kDP (.binOp .rem _ _ _ _)); refine dP ?_ (hX := rfl) (hv := o_remE rfl rfl (by omega) (by omega) hrm)) | ((with_reducible apply kQO (.binOp .rem _ _ _ _)); refine qP ?_ (o_remE rfl rfl (by omega) (by omega) hrm)) | ((with_reducible apply kP (.indexAddr 27 (.tmp 75) _)); refine sP ?_ (o_indexS (scTOf rfl) rfl rfl rfl (aa0 _) iB (by omega))) | ((with_reducible apply kDP (.indexAddr 27 (.tmp 75) _)); refine dP ?_ (hX := rfl) (hv := o_indexS (scTOf rfl) rfl rfl rfl (aa0 _) iB (by omega))) | ((with_reducible apply kQO (.indexAddr 27 (.tmp 75) _)); refine qP ?_ (o_indexS (scTOf rfl) rfl rfl rfl (aa0 _) iB (by omega))) | ((with_reducible apply kNx 43); fail) | ((with_reducible apply kRg 11); fail) | ((with_reducible apply kN); refine stW ?_ (hf := flat_cons rfl (flat_cons rfl (flat1 rfl)))) | ((with_reducible apply kN); refine stW ?_ (hf := flat_cons rfl (flat1 rfl))) | ((with_reducible apply kRg 15); refine cD [1, 1, 1, 1, 1, 1, 1, 1, 1, 1, 1, 1, 1, 1, 4] ?_) | ((with_reducible apply kRg 16); refine cD [1, 1, 1, 1, 1, 1, 1, 1, 1, 1, 1, 1, 1, 1, 4] ?_) | (with_reducible first | refine c_seq ?_ | refine c_reg ?_ | refine c_region ?_ | refine c_block ?_ | refine c_skip ?_ | refine c_exit ?_ | refine c_ret ?_ | refine s_nil ?_ | refine x_then ?_ | refine x_then_exit ?_ | refine x_then_ret ?_ | refine x_block ?_ | refine x_block_ret ?_ | refine x_block_same ?_ | refine x_block_other (by first | rfl | decide) ?_ | refine q_nil ?_ | refine k_nil ?_) | ((with_reducible apply kP (.makeFunc _ _ _)); refine sMF ?_) | ((with_reducible apply kG); first | refine gY1 ?_ | refine gN1 ?_ | refine gU1 ?_ | (refine gD1 (fun h => ?_) (fun h => ?_) <;> (try (exfalso; omega))) | refine gB1 (fun h => ?_) (fun h => ?_)) | ((with_reducible apply kN); first | refine stP ?_ | refine stI ?_ | refine st1 ?_ | refine stW ?_) | ((with_reducible apply kP (.alloc _)); refine sA (fun b => ?_)) | ((with_reducible apply kP (.box _ _)); first | refine sBA (fun b => ?_) | refine sB (fun b => ?_)) | ((with_reducible apply kP (.buildSlice _ 1 _)); first | refine sl1A (fun b => ?_) | refine sl1 (fun b => ?_)) | ((with_reducible apply kP (.call ⟨.builtin .append, _, _⟩)); refine sAp (fun oa2 c2 blk2 hrow2 => ?_)) | ((with_reducible apply kP _); refine sP ?_) | ((with_reducible apply kP _); refine sX ?_) | ((with_reducible apply kC); first | refine cT ?_ | refine cF ?_ | (refine cI (fun h => ?_) (fun h => ?_) <;> (try (exfalso; omega))) | refine cB (fun h => ?_) (fun h => ?_)) | ((with_reducible apply kDN); first | refine dtI ?_ | refine dt1 ?_ | refine dtW ?_) | ((with_reducible apply kDP (.alloc _)); refine dA (fun b => ?_)) | ((with_reducible apply kDP _); refine dP ?_) | ((with_reducible apply kDP _); refine dX ?_))
        all_goals try (exfalso; omega)
        all_goals first
          | exact e_ret2 (hs' := hs) rfl ⟨_, rfl, ld_whole (shTOf rfl) MDt rfl⟩ rfl (.inl ⟨by decide, rfl, rfl⟩) SCt
          | trace_state
      · have q1 := hg1
        rw [hsE] at q1
        rw [if_neg q1]
        by_cases hLR : (1 ≤ hvL (pcA ps p).an i s w ∧ hvL (pcA ps p).an i s w ≤ 359) ∧ (1 ≤ (pcA ps p).an.getD j 0 - hvL (pcA ps p).an i s w ∧ (pcA ps p).an.getD j 0 - hvL (pcA ps p).an i s w ≤ 359)
        · have q2 := (show ¬ (¬ (1 ≤ hvL (pcA ps p).an i s w ∧ hvL (pcA ps p).an i s w ≤ 359) ∨ ¬ (1 ≤ (pcA ps p).an.getD j 0 - hvL (pcA ps p).an i s w ∧ (pcA ps p).an.getD j 0 - hvL (pcA ps p).an i s w ≤ 359)) by omega)
          rw [hsE] at q2
          rw [if_neg q2]
          by_cases hP : ps.length = 8
          · rw [if_pos hP]
            exact (k_SplitLate ps oP oS cP m cS p i j s sm e z w 4 hn hsm hm hv hsd hsE (by omega) (by omega) (by omega) (.inr ⟨hLR, hP, rfl⟩) B w0 hs hC).mono fun v h hc => .inl ⟨by decide, hc⟩
          · rw [if_neg hP]
            exact (k_SplitOk ps oP oS cP m cS p i j s sm e z w hn hsm hm hv hsd hsE (by omega) (by omega) (by omega) hLR.1 hLR.2 hP B w0 hs hC).mono fun v h hc => .inr ⟨rfl, hc⟩
        · have q2 := (show ¬ (1 ≤ hvL (pcA ps p).an i s w ∧ hvL (pcA ps p).an i s w ≤ 359) ∨ ¬ (1 ≤ (pcA ps p).an.getD j 0 - hvL (pcA ps p).an i s w ∧ (pcA ps p).an.getD j 0 - hvL (pcA ps p).an i s w ≤ 359) by omega)
          rw [hsE] at q2
          rw [if_pos q2]
          exact (k_SplitLate ps oP oS cP m cS p i j s sm e z w 1 hn hsm hm hv hsd hsE (by omega) (by omega) (by omega) (.inl ⟨hLR, rfl⟩) B w0 hs hC).mono fun v h hc => .inl ⟨by decide, hc⟩
    · rw [if_pos hsd]
      by_cases hs1 : hsP ps.length (sdF ps) p i
      · have hs2 : ¬ hsP ps.length (sdF ps) p j := fun h => hsd ⟨hs1, h⟩
        have kd1 := fun hs' (h : hs.Sublist hs') => kd p i hs' h
        have kd2 := fun hs' (h : hs.Sublist hs') => kd p j hs' h
        rw [decide_eq_true hs1] at kd1
        rw [decide_eq_false hs2] at kd2
        refine fn_enter Tryz.func27 rfl Tryz.ntmps27 (by simp) ?_
        repeat' (first | ((with_reducible apply kP (.box 25 _)); refine sBA (fun b6 => ?_)) | ((with_reducible apply kP (.box 3 _)); refine sB (fun b7 => ?_)) | ((with_reducible apply kP (.alloc 25)); refine sA (fun b12 => ?_)) | ((with_reducible apply kF 6); refine sC 6 (kv _ SBt) ?_) | ((with_reducible apply kF 34); refine sC 34 (kd1 _ SBt) ?_) | ((with_reducible apply kF 34); refine sC 34 (kd2 _ SBt) ?_) | ((with_reducible apply kN); refine stW ?_ (hf := flat_cons rfl (flat_cons rfl (flat1 rfl)))) | ((with_reducible apply kN); refine stW ?_ (hf := flat_cons rfl (flat1 rfl))) | ((with_reducible apply kRg 11); refine cD [1, 1, 1, 1, 3, 0, 0, 0, 0, 0, 0, 3, 2, 2, 4, 4] ?_) | ((with_reducible apply kRg 15); refine cD [1, 1, 1, 1, 1, 1, 1, 1, 1, 1, 1, 1, 1, 1, 4] ?_) | ((with_reducible apply kRg 16); refine cD [1, 1, 1, 1, 1, 1, 1, 1, 1, 1, 1, 1, 1, 1, 4] ?_) | (with_reducible first | refine c_seq ?_ | refine c_reg ?_ | refine c_region ?_ | refine c_block ?_ | refine c_skip ?_ | refine c_exit ?_ | refine c_ret ?_ | refine s_nil ?_ | refine x_then ?_ | refine x_then_exit ?_ | refine x_then_ret ?_ | refine x_block ?_ | refine x_block_ret ?_ | refine x_block_same ?_ | refine x_block_other (by first | rfl | decide) ?_ | refine q_nil ?_ | refine k_nil ?_) | ((with_reducible apply kP (.makeFunc _ _ _)); refine sMF ?_) | ((with_reducible apply kG); first | refine gY1 ?_ | refine gN1 ?_ | refine gU1 ?_ | (refine gD1 (fun h => ?_) (fun h => ?_) <;> (try (exfalso; omega))) | refine gB1 (fun h => ?_) (fun h => ?_)) | ((with_reducible apply kN); first | refine stP ?_ | refine stI ?_ | refine st1 ?_ | refine stW ?_) | ((with_reducible apply kP (.alloc _)); refine sA (fun b => ?_)) | ((with_reducible apply kP (.box _ _)); first | refine sBA (fun b => ?_) | refine sB (fun b => ?_)) | ((with_reducible apply kP (.buildSlice _ 1 _)); first | refine sl1A (fun b => ?_) | refine sl1 (fun b => ?_)) | ((with_reducible apply kP (.call ⟨.builtin .append, _, _⟩)); refine sAp (fun oa2 c2 blk2 hrow2 => ?_)) | ((with_reducible apply kP _); refine sP ?_) | ((with_reducible apply kP _); refine sX ?_) | ((with_reducible apply kC); first | refine cT ?_ | refine cF ?_ | (refine cI (fun h => ?_) (fun h => ?_) <;> (try (exfalso; omega))) | refine cB (fun h => ?_) (fun h => ?_)) | ((with_reducible apply kDN); first | refine dtI ?_ | refine dt1 ?_ | refine dtW ?_) | ((with_reducible apply kDP (.alloc _)); refine dA (fun b => ?_)) | ((with_reducible apply kDP _); refine dP ?_) | ((with_reducible apply kDP _); refine dX ?_))
        all_goals try (exfalso; omega)
        exact e_ret2 (hs' := hs) rfl ⟨_, rfl, ld_whole (shTOf rfl) MDt rfl⟩ rfl (.inl ⟨by decide, rfl, rfl⟩) SCt
      · have kd1 := fun hs' (h : hs.Sublist hs') => kd p i hs' h
        have kd2 := fun hs' (h : hs.Sublist hs') => kd p j hs' h
        rw [decide_eq_false hs1] at kd1
        refine fn_enter Tryz.func27 rfl Tryz.ntmps27 (by simp) ?_
        repeat' (first | ((with_reducible apply kP (.box 25 _)); refine sBA (fun b6 => ?_)) | ((with_reducible apply kP (.box 3 _)); refine sB (fun b7 => ?_)) | ((with_reducible apply kP (.alloc 25)); refine sA (fun b12 => ?_)) | ((with_reducible apply kF 6); refine sC 6 (kv _ SBt) ?_) | ((with_reducible apply kF 34); refine sC 34 (kd1 _ SBt) ?_) | ((with_reducible apply kF 34); refine sC 34 (kd2 _ SBt) ?_) | ((with_reducible apply kN); refine stW ?_ (hf := flat_cons rfl (flat_cons rfl (flat1 rfl)))) | ((with_reducible apply kN); refine stW ?_ (hf := flat_cons rfl (flat1 rfl))) | ((with_reducible apply kRg 11); refine cD [1, 1, 1, 1, 3, 0, 0, 0, 0, 0, 0, 3, 2, 2, 4, 4] ?_) | ((with_reducible apply kRg 15); refine cD [1, 1, 1, 1, 1, 1, 1, 1, 1, 1, 1, 1, 1, 1, 4] ?_) | ((with_reducible apply kRg 16); refine cD [1, 1, 1, 1, 1, 1, 1, 1, 1, 1, 1, 1, 1, 1, 4] ?_) | (with_reducible first | refine c_seq ?_ | refine c_reg ?_ | refine c_region ?_ | refine c_block ?_ | refine c_skip ?_ | refine c_exit ?_ | refine c_ret ?_ | refine s_nil ?_ | refine x_then ?_ | refine x_then_exit ?_ | refine x_then_ret ?_ | refine x_block ?_ | refine x_block_ret ?_ | refine x_block_same ?_ | refine x_block_other (by first | rfl | decide) ?_ | refine q_nil ?_ | refine k_nil ?_) | ((with_reducible apply kP (.makeFunc _ _ _)); refine sMF ?_) | ((with_reducible apply kG); first | refine gY1 ?_ | refine gN1 ?_ | refine gU1 ?_ | (refine gD1 (fun h => ?_) (fun h => ?_) <;> (try (exfalso; omega))) | refine gB1 (fun h => ?_) (fun h => ?_)) | ((with_reducible apply kN); first | refine stP ?_ | refine stI ?_ | refine st1 ?_ | refine stW ?_) | ((with_reducible apply kP (.alloc _)); refine sA (fun b => ?_)) | ((with_reducible apply kP (.box _ _)); first | refine sBA (fun b => ?_) | refine sB (fun b => ?_)) | ((with_reducible apply kP (.buildSlice _ 1 _)); first | refine sl1A (fun b => ?_) | refine sl1 (fun b => ?_)) | ((with_reducible apply kP (.call ⟨.builtin .append, _, _⟩)); refine sAp (fun oa2 c2 blk2 hrow2 => ?_)) | ((with_reducible apply kP _); refine sP ?_) | ((with_reducible apply kP _); refine sX ?_) | ((with_reducible apply kC); first | refine cT ?_ | refine cF ?_ | (refine cI (fun h => ?_) (fun h => ?_) <;> (try (exfalso; omega))) | refine cB (fun h => ?_) (fun h => ?_)) | ((with_reducible apply kDN); first | refine dtI ?_ | refine dt1 ?_ | refine dtW ?_) | ((with_reducible apply kDP (.alloc _)); refine dA (fun b => ?_)) | ((with_reducible apply kDP _); refine dP ?_) | ((with_reducible apply kDP _); refine dX ?_))
        all_goals try (exfalso; omega)
        exact e_ret2 (hs' := hs) rfl ⟨_, rfl, ld_whole (shTOf rfl) MDt rfl⟩ rfl (.inl ⟨by decide, rfl, rfl⟩) SCt
  · rw [if_pos hv]
    have hv' : vdE ps.length (sdF ps) (anF ps) m sm e ≠ 0 := hv
    have hv2 : vdC ps sm m e = vdE ps.length (sdF ps) (anF ps) m sm e := rfl
    rw [hv2]
    generalize vdE ps.length (sdF ps) (anF ps) m sm e = zz at *
    refine fn_enter Tryz.func27 rfl Tryz.ntmps27 (by simp) ?_
    repeat' (first | ((with_reducible apply kP (.box 25 _)); refine sBA (fun b2 => ?_)) | ((with_reducible apply kP (.box 3 _)); refine sB (fun b7 => ?_)) | ((with_reducible apply kP (.alloc 25)); refine sA (fun b4 => ?_)) | ((with_reducible apply kF 6); refine sC 6 (kv _ SBt) ?_) | ((with_reducible apply kN); refine stW ?_ (hf := flat_cons rfl (flat_cons rfl (flat1 rfl)))) | ((with_reducible apply kRg 11); refine cD [1, 1, 1, 1, 3, 0, 0, 0, 0, 0, 0, 3, 2, 2, 4, 4] ?_) | ((with_reducible apply kRg 15); refine cD [1, 1, 1, 1, 1, 1, 1, 1, 1, 1, 1, 1, 1, 1, 4] ?_) | ((with_reducible apply kRg 16); refine cD [1, 1, 1, 1, 1, 1, 1, 1, 1, 1, 1, 1, 1, 1, 4] ?_) | (with_reducible first | refine c_seq ?_ | refine c_reg ?_ | refine c_region ?_ | refine c_block ?_ | refine c_skip ?_ | refine c_exit ?_ | refine c_ret ?_ | refine s_nil ?_ | refine x_then ?_ | refine x_then_exit ?_ | refine x_then_ret ?_ | refine x_block ?_ | refine x_block_ret ?_ | refine x_block_same ?_ | refine x_block_other (by first | rfl | decide) ?_ | refine q_nil ?_ | refine k_nil ?_) | ((with_reducible apply kP (.makeFunc _ _ _)); refine sMF ?_) | ((with_reducible apply kG); first | refine gY1 ?_ | refine gN1 ?_ | refine gU1 ?_ | (refine gD1 (fun h => ?_) (fun h => ?_) <;> (try (exfalso; omega))) | refine gB1 (fun h => ?_) (fun h => ?_)) | ((with_reducible apply kN); first | refine stP ?_ | refine stI ?_ | refine st1 ?_ | refine stW ?_) | ((with_reducible apply kP (.alloc _)); refine sA (fun b => ?_)) | ((with_reducible apply kP (.box _ _)); first | refine sBA (fun b => ?_) | refine sB (fun b => ?_)) | ((with_reducible apply kP (.buildSlice _ 1 _)); first | refine sl1A (fun b => ?_) | refine sl1 (fun b => ?_)) | ((with_reducible apply kP (.call ⟨.builtin .append, _, _⟩)); refine sAp (fun oa2 c2 blk2 hrow2 => ?_)) | ((with_reducible apply kP _); refine sP ?_) | ((with_reducible apply kP _); refine sX ?_) | ((with_reducible apply kC); first | refine cT ?_ | refine cF ?_ | (refine cI (fun h => ?_) (fun h => ?_) <;> (try (exfalso; omega))) | refine cB (fun h => ?_) (fun h => ?_)) | ((with_reducible apply kDN); first | refine dtI ?_ | refine dt1 ?_ | refine dtW ?_) | ((with_reducible apply kDP (.alloc _)); refine dA (fun b => ?_)) | ((with_reducible apply kDP _); refine dP ?_) | ((with_reducible apply kDP _); refine dX ?_))
    exact e_ret2 (hs' := hs) rfl ⟨_, rfl, ld_whole (shTOf rfl) MDt rfl⟩ rfl (.inl ⟨hv', rfl, rfl⟩) SCt
end Go.Proofs.YtnbickholedckaaGreatDoor
namespace Go.Proofs.YtnbickholedckaaGreatDoor
open Go.RowKit
theorem dtE_v {ps : List Pc} {sm : List Int} {m : Nat} {e x d : Int} (h : dtE ps sm m e x d = 0) : vdC (dtQ ps x.toNat d) sm m e = 0 := by
  unfold dtE at h
  by_cases hv : vdC ps sm m e = 0
  · rw [if_neg (fun h => h hv)] at h
    by_cases hx : 0 ≤ x ∧ x < (nC ps : Int)
    · rw [if_neg (fun h => h hx)] at h
      have hx2 : x.toNat < nC ps := by omega
      have V := vdC_0 hv
      obtain ⟨p, f, r, q, D, hQ, hA1, hA2⟩ := dtX V hx2
      rw [hA1, hA2] at h
      by_cases hg : d < 1 ∨ (pcA ps p).an.getD r 0 - d < 1 ∨ 359 < (pcA ps p).an.getD q 0 + d
      · rw [if_pos hg] at h; exact absurd h (by decide)
      · have hne : r ≠ q := by have := D.hk; have := D.hr; rw [D.he]; split <;> omega
        rw [hQ]
        exact vdC_of (dtP_vd V D.hp D.hr D.hq hne (by omega) (show 1 ≤ (pcA ps p).an.getD r 0 - d by omega) (show (pcA ps p).an.getD q 0 + d ≤ 359 by omega))
    · rw [if_pos hx] at h; exact absurd h (by decide)
  · rw [if_pos hv] at h; exact absurd h hv
theorem unV_v {ps : List Pc} {sm : List Int} {m : Nat} {e x : Int} (hsm : sm.length = m * 4) (h : unV ps sm m e x = 0) : vdC ps (rmS sm x.toNat) (m - 1) e = 0 ∧ (rmS sm x.toNat).length = (m - 1) * 4 := by
  unfold unV at h
  by_cases hv : vdC ps sm m e = 0
  · rw [if_neg (fun h => h hv)] at h
    by_cases hx : 0 ≤ x ∧ x < (m : Int)
    · exact ⟨vdC_of ((vdC_0 hv).rm hsm (by omega)), rmS_len hsm (by omega)⟩
    · rw [if_pos hx] at h; exact absurd h (by decide)
  · rw [if_pos hv] at h; exact absurd h hv
theorem swV_v {ps : List Pc} {sm s : List Int} {m : Nat} {e : Int} (hsm : sm.length = m * 4) (hs : s.length = 4) (h : swV ps sm m e s = 0) : vdC ps (sm ++ s) (m + 1) e = 0 ∧ (sm ++ s).length = (m + 1) * 4 := by
  unfold swV at h
  refine ⟨?_, by rw [List.length_append]; omega⟩
  by_cases hv : vdC ps sm m e = 0
  · rwa [if_neg (fun h => h hv)] at h
  · rw [if_pos hv] at h; exact absurd h hv
theorem spE_v {ps : List Pc} {sm : List Int} {m : Nat} {e p i j z w : Int} (hsm : sm.length = m * 4) (h : spE ps sm m e p i j z w = 0) : vdC (spP ps p.toNat i.toNat j.toNat z w) (spM ps sm m p.toNat i.toNat j.toNat) (m + 1) e = 0 ∧ (spM ps sm m p.toNat i.toNat j.toNat).length = (m + 1) * 4 := by
  obtain ⟨_, s, X⟩ := spE_0 hsm h
  exact ⟨vdC_of X.vd, spM_len _ _ _ _ _ _⟩
/-- What points hold is bounded. -/
theorem pts_in {ps : List Pc} {sm : List Int} {m : Nat} {e : Int} (V : VdC ps sm m e) : ∀ {i : Nat} {p : Pt}, (ptsC ps sm m)[i]? = some p → (-20000 ≤ p.df ∧ p.df ≤ 360) ∧ 0 ≤ p.an ∧ p.an ≤ 20000 := fun {i p} h => by
  have h0 := List.mem_of_getElem? h
  have hN := V.n48
  unfold ptsC ptsL at h0
  obtain ⟨j, hj, rfl⟩ := List.mem_map.1 h0
  have h2 := asum_in (ag := agF ps) (l := clsL (nC ps) (nxC ps) (muC ps sm m) j) (fun x hx => agF_in V.ok (clsL_mem.1 hx).1)
  have h3 := List.length_filter_le (fun y => decide (rpE (ptE (nC ps) (nxC ps) (muC ps sm m)) y = rpE (ptE (nC ps) (nxC ps) (muC ps sm m)) j)) (List.range (nC ps))
  rw [List.length_range] at h3
  have h4 : (clsL (nC ps) (nxC ps) (muC ps sm m) j).length ≤ 48 := Nat.le_trans h3 hN
  refine ⟨?_, ?_⟩
  · show -20000 ≤ (if innB _ _ _ j = true then (360 : Int) else 180) - asum _ _ ∧ (if innB _ _ _ j = true then (360 : Int) else 180) - asum _ _ ≤ 360
    split <;> omega
  · show 0 ≤ asum _ _ ∧ asum _ _ ≤ 20000
    omega
theorem sums_in {PS : List Pt} (h : ∀ {i : Nat} {p : Pt}, PS[i]? = some p → (-20000 ≤ p.df ∧ p.df ≤ 360) ∧ 0 ≤ p.an ∧ p.an ≤ 20000) : ∀ i, i ≤ PS.length → (-20000 * (i : Int) ≤ dsum (PS.take i) ∧ dsum (PS.take i) ≤ 360 * (i : Int)) ∧ 0 ≤ anS (PS.take i) ∧ anS (PS.take i) ≤ 20000 * (i : Int) := by
  intro i
  induction i with
  | zero => intro _; simp [dsum, anS]
  | succ i ih =>
    intro hi
    have h1 := ih (by omega)
    have h2 : PS[i]? = some PS[i] := List.getElem?_eq_getElem (by omega)
    have h3 := h h2
    rw [dsum_take h2, anS_take h2]; omega
end Go.Proofs.YtnbickholedckaaGreatDoor
