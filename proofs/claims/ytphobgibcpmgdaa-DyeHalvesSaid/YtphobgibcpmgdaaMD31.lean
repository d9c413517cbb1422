/- Blends as maps from shades to weights: plain. -/
import Derived.Test.YtphobgibcpmgdaaMD30
namespace Go.Proofs.Ytphobgibcpmgdaa
open Go.RowKit

abbrev IM := List (List Int × Int)
def mpI (l : IM) : Mp := l.map fun p => (p.1, iv p.2)
def lkI : IM → List Int → Int
  | [], _ => 0
  | p :: l, x => if x = p.1 then p.2 else lkI l x
def addM : IM → List Int → Int → IM
  | [], x, v => [(x, v)]
  | p :: l, x, v => if x = p.1 then (p.1, p.2 + v) :: l else p :: addM l x v
theorem plc_ge {x : List Int} {L : Mp} {a i : Nat} (h : plc x L a = some i) : a ≤ i := (plc_get h).1
theorem lkp_mpI (x : List Int) : ∀ l : IM, lkp (mpI l) x (iv 0) = iv (lkI l x) := by
  have key : ∀ (l : IM) (a : Nat), ((plc x (mpI l) a).map fun i => vat (mpI l) (i - a)).getD (iv 0) = iv (lkI l x) := by
    intro l
    induction l with
    | nil => intro a; rfl
    | cons p l ih =>
      intro a
      simp only [mpI, List.map_cons, plc, lkI]
      split
      · simp [vat]
      · have := ih (a + 1)
        cases hp : plc x (mpI l) (a + 1) with
        | none =>
          rw [hp] at this
          simp only [mpI] at hp
          rw [hp]
          simpa using this
        | some i =>
          rw [hp] at this
          have h1 := plc_ge hp
          simp only [mpI] at hp
          rw [hp]
          simp only [Option.map_some, Option.getD_some] at this ⊢
          rw [show i - a = (i - (a + 1)) + 1 by omega]
          rw [← this]
          simp [vat, mpI]
  intro l
  have := key l 0
  simpa [lkp] using this
theorem mpI_len (l : IM) : (mpI l).length = l.length := by simp [mpI]
theorem put_old {x : List Int} {v : Int} : ∀ {l : IM} {a i : Nat}, plc x (mpI l) a = some i → Mp.put (mpI l) (i - a) (iv (lkI l x + v)) = mpI (addM l x v)
  | [], a, i, h => by cases h
  | p :: l, a, i, h => by
    simp only [mpI, List.map_cons, plc] at h
    simp only [lkI, addM]
    split at h
    · rename_i e
      simp only [Option.some.injEq] at h
      subst h
      rw [if_pos e, if_pos e]
      simp [Mp.put, mpI]
    · rename_i e
      rw [if_neg e, if_neg e]
      have h1 := plc_ge (L := mpI l) h
      have ih := put_old (v := v) (l := l) h
      rw [show i - a = (i - (a + 1)) + 1 by omega]
      unfold Mp.put at ih ⊢
      simp only [mpI, List.map_cons, List.set_cons_succ, List.getElem?_cons_succ] at ih ⊢
      rw [ih]
theorem lkI_none {x : List Int} : ∀ {l : IM} {a : Nat}, plc x (mpI l) a = none → lkI l x = 0
  | [], _, _ => rfl
  | p :: l, a, h => by
    simp only [mpI, List.map_cons, plc] at h
    split at h
    · cases h
    · rename_i e
      simp only [lkI, if_neg e]
      exact lkI_none (l := l) h
theorem put_new {x : List Int} {v : Int} : ∀ {l : IM} {a : Nat}, plc x (mpI l) a = none → Mp.put (mpI l ++ [(x, iv 0)]) (mpI l).length (iv v) = mpI (addM l x v)
  | [], _, _ => by simp [Mp.put, mpI, addM]
  | p :: l, a, h => by
    simp only [mpI, List.map_cons, plc] at h
    split at h
    · cases h
    · rename_i e
      have ih := put_new (v := v) (l := l) h
      simp only [addM, if_neg e]
      unfold Mp.put at ih ⊢
      simp only [mpI, List.map_cons, List.length_cons, List.cons_append, List.set_cons_succ, List.getElem?_cons_succ] at ih ⊢
      rw [ih]
theorem lkI_add (x z : List Int) (v : Int) : ∀ l : IM, lkI (addM l x v) z = lkI l z + if z = x then v else 0
  | [] => by simp only [addM, lkI]; split <;> omega
  | p :: l => by
    simp only [addM]
    split
    · rename_i e
      simp only [lkI]
      subst e
      by_cases hz : z = p.1
      · simp [hz]
      · simp [hz]
    · rename_i e
      simp only [lkI, lkI_add x z v l]
      by_cases hz : z = p.1
      · rw [if_pos hz, if_pos hz, if_neg (fun h => e (h.symm.trans hz)), Int.add_zero]
      · rw [if_neg hz, if_neg hz]
theorem add_keys (x : List Int) (v : Int) : ∀ l : IM, (addM l x v).map (·.1) = if x ∈ l.map (·.1) then l.map (·.1) else l.map (·.1) ++ [x]
  | [] => by simp [addM]
  | p :: l => by
    simp only [addM]
    split
    · rename_i e; simp [e]
    · rename_i e
      simp only [List.map_cons, add_keys x v l, List.mem_cons, e, false_or]
      split <;> simp
theorem lkI_at : ∀ {l : IM} {i : Nat} {p : List Int × Int}, (l.map (·.1)).Nodup → l[i]? = some p → lkI l p.1 = p.2
  | [], i, p, _, h => by simp at h
  | q :: l, 0, p, _, h => by simp at h; subst h; simp [lkI]
  | q :: l, i + 1, p, hnd, h => by
    simp only [List.map_cons, List.nodup_cons] at hnd
    simp only [List.getElem?_cons_succ] at h
    have hne : ¬ p.1 = q.1 := fun e => hnd.1 (by rw [← e]; exact List.mem_map.2 ⟨p, List.mem_of_getElem? h, rfl⟩)
    simp only [lkI, if_neg hne]
    exact lkI_at hnd.2 h
theorem lkI_out {x : List Int} : ∀ {l : IM}, x ∉ l.map (·.1) → lkI l x = 0
  | [], _ => rfl
  | p :: l, h => by
    simp only [List.map_cons, List.mem_cons, not_or] at h
    simp only [lkI, if_neg h.1]
    exact lkI_out h.2
/-- A map from shades, each of them once. -/
structure SM (l : IM) : Prop where
  nodup : (l.map (·.1)).Nodup
  key : ∀ p ∈ l, ∃ L T C, p.1 = [L, T, C] ∧ sdB L T C = true
theorem SM.nil : SM [] := ⟨List.nodup_nil, fun _ h => (by cases h)⟩
theorem SM.len {l : IM} (h : SM l) : ∀ p ∈ mpI l, p.1.length = 3 := fun p hp => by
  obtain ⟨q, hq, rfl⟩ := List.mem_map.1 hp
  obtain ⟨L, T, C, e, _⟩ := h.key q hq
  simp [e]
theorem SM.add {l : IM} (h : SM l) {L T C : Int} (hv : sdB L T C = true) (v : Int) : SM (addM l [L, T, C] v) := by
  refine ⟨?_, fun p hp => ?_⟩
  · rw [add_keys]
    split
    · exact h.nodup
    · rename_i hn
      rw [List.nodup_append]
      exact ⟨h.nodup, by simp, fun a ha b hb => by rw [List.mem_singleton] at hb; subst hb; exact fun e => hn (e ▸ ha)⟩
  · have hm : p.1 ∈ (addM l [L, T, C] v).map (·.1) := List.mem_map.2 ⟨p, hp, rfl⟩
    rw [add_keys] at hm
    have : p.1 ∈ l.map (·.1) ∨ p.1 = [L, T, C] := by
      split at hm
      · exact .inl hm
      · rcases List.mem_append.1 hm with h | h
        · exact .inl h
        · exact .inr (List.mem_singleton.1 h)
    rcases this with h1 | h1
    · obtain ⟨q, hq, he⟩ := List.mem_map.1 h1
      rw [← he]
      exact h.key q hq
    · exact ⟨L, T, C, h1, hv⟩
/-! ### All shades -/
def shL (k : Nat) : Int := ((k / 24 + 1 : Nat) : Int)
def shT_ (k : Nat) : Int := ((k / 4 % 6 : Nat) : Int)
def shC (k : Nat) : Int := ((k % 4 : Nat) : Int)
theorem s_inj {j k : Nat} (h1 : shL j = shL k) (h2 : shT_ j = shT_ k) (h3 : shC j = shC k) : j = k := by
  unfold shL shT_ shC at *
  omega
theorem s_all {L T C : Int} (h : sdB L T C = true) : ∃ k, k < 240 ∧ shL k = L ∧ shT_ k = T ∧ shC k = C := by
  have := sdB_to.1 h
  refine ⟨(L.toNat - 1) * 24 + T.toNat * 4 + C.toNat, ?_, ?_, ?_, ?_⟩ <;> ((try unfold shL) <;> (try unfold shT_) <;> (try unfold shC) <;> omega)
def vI (l : IM) (i : Nat) : Int := (l[i]?.map (·.2)).getD 0
def ab (x : Int) : Int := max x (-x)
theorem sumTo_at (c : Int) (a : Nat) : ∀ n, sumTo (fun k => if k = a then c else 0) n = if a < n then c else 0
  | 0 => by simp [sumTo]
  | n + 1 => by
    rw [sumTo_succ, sumTo_at c a n]
    by_cases h1 : a < n
    · rw [if_pos h1, if_neg (by omega), if_pos (by omega), Int.add_zero]
    · by_cases h2 : n = a
      · rw [if_neg h1, if_pos h2, if_pos (by omega), Int.zero_add]
      · rw [if_neg h1, if_neg h2, if_neg (by omega), Int.add_zero]
theorem sm_sum {l : IM} (h : SM l) : sumTo (fun k => ab (lkI l [shL k, shT_ k, shC k])) 240 = sumTo (fun i => ab (vI l i)) l.length := by
  let F : Nat → Nat → Int := fun k i => if (l[i]?.map (·.1)) = some [shL k, shT_ k, shC k] then ab (vI l i) else 0
  have e1 : ∀ k, k < 240 → ab (lkI l [shL k, shT_ k, shC k]) = sumTo (F k) l.length := fun k _ => by
    by_cases hm : [shL k, shT_ k, shC k] ∈ l.map (·.1)
    · obtain ⟨p, hp, he⟩ := List.mem_map.1 hm
      obtain ⟨i, hi, hpi⟩ := List.getElem_of_mem hp
      have h1 : l[i]? = some p := by rw [List.getElem?_eq_getElem hi, hpi]
      have h2 := lkI_at h.nodup h1
      rw [he] at h2
      have h3 : sumTo (F k) l.length = sumTo (fun j => if j = i then ab p.2 else 0) l.length := sumTo_congr _ fun j hj => by
        show (if (l[j]?.map (·.1)) = some [shL k, shT_ k, shC k] then ab (vI l j) else 0) = _
        by_cases hji : j = i
        · subst hji
          rw [if_pos rfl, if_pos (by rw [h1]; simp [he])]
          simp [vI, h1]
        · rw [if_neg hji, if_neg]
          intro hh
          have hlt : j < (l.map (·.1)).length := by simpa using hj
          have hlt2 : i < (l.map (·.1)).length := by simpa using hi
          have e3 : (l.map (·.1))[j]'hlt = (l.map (·.1))[i]'hlt2 := by
            have a1 : (l.map (·.1))[j]? = some [shL k, shT_ k, shC k] := by rw [List.getElem?_map]; exact hh
            have a2 : (l.map (·.1))[i]? = some [shL k, shT_ k, shC k] := by rw [List.getElem?_map, h1]; simp [he]
            rw [List.getElem?_eq_getElem hlt] at a1
            rw [List.getElem?_eq_getElem hlt2] at a2
            exact (Option.some.inj a1).trans (Option.some.inj a2).symm
          exact hji ((List.getElem_inj h.nodup).1 e3)
      rw [h3, sumTo_at, if_pos hi, h2]
    · rw [lkI_out hm]
      symm
      refine (sumTo_zero _ fun j hj => ?_).trans (by decide : (0:Int) = ab 0)
      show (if (l[j]?.map (·.1)) = some [shL k, shT_ k, shC k] then ab (vI l j) else 0) = _
      rw [if_neg]
      intro hh
      cases hp : l[j]? with
      | none => rw [hp] at hh; cases hh
      | some p =>
        rw [hp] at hh
        exact hm (List.mem_map.2 ⟨p, List.mem_of_getElem? hp, by simpa using hh⟩)
  rw [sumTo_congr 240 e1, sumTo_swap]
  refine sumTo_congr _ fun i hi => ?_
  have h1 : l[i]? = some l[i] := List.getElem?_eq_getElem hi
  obtain ⟨L, T, C, he, hv⟩ := h.key _ (List.getElem_mem hi)
  obtain ⟨k, hk, q1, q2, q3⟩ := s_all hv
  have h3 : sumTo (fun k => F k i) 240 = sumTo (fun j => if j = k then ab (vI l i) else 0) 240 := sumTo_congr _ fun j hj => by
    show (if (l[i]?.map (·.1)) = some [shL j, shT_ j, shC j] then ab (vI l i) else 0) = _
    by_cases hjk : j = k
    · subst hjk
      rw [if_pos rfl, if_pos (by rw [h1]; simp [he, q1, q2, q3])]
    · rw [if_neg hjk, if_neg]
      intro hh
      rw [h1] at hh
      simp only [Option.map_some, Option.some.injEq, he, List.cons.injEq, and_true] at hh
      exact hjk (s_inj (hh.1.symm.trans q1.symm) (hh.2.1.symm.trans q2.symm) (hh.2.2.symm.trans q3.symm))
  rw [h3, sumTo_at, if_pos hk]
/-- Entries that have been seen, in any order, and then all. -/
def sumS (f : Nat → Int) : List Nat → Int
  | [] => 0
  | i :: s => f i + sumS f s
theorem sumS_snoc (f : Nat → Int) (i : Nat) : ∀ s, sumS f (s ++ [i]) = sumS f s + f i
  | [] => by simp [sumS]
  | j :: s => by simp only [List.cons_append, sumS, sumS_snoc f i s]; omega
theorem sumS_perm (f : Nat → Int) {s t : List Nat} (h : s.Perm t) : sumS f s = sumS f t := by
  induction h with
  | nil => rfl
  | cons x _ ih => simp only [sumS, ih]
  | swap x y l => simp only [sumS]; omega
  | trans _ _ ih1 ih2 => exact ih1.trans ih2
theorem sumS_range (f : Nat → Int) : ∀ n, sumS f (List.range n) = sumTo f n
  | 0 => rfl
  | n + 1 => by rw [List.range_succ, sumS_snoc, sumS_range f n]; rfl
theorem sumS_all (f : Nat → Int) {s : List Nat} {n : Nat} (h1 : s.Nodup) (h2 : ∀ i ∈ s, i < n) (h3 : ∀ i, i < n → i ∈ s) : sumS f s = sumTo f n := by
  rw [← sumS_range]
  refine sumS_perm f ?_
  rw [List.perm_ext_iff_of_nodup h1 List.nodup_range]
  intro a
  rw [List.mem_range]
  exact ⟨h2 a, h3 a⟩
end Go.Proofs.Ytphobgibcpmgdaa
