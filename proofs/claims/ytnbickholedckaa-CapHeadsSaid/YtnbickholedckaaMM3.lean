/- What a map's operations come to. -/
import Derived.Test.YtnbickholedckaaMM2
namespace Go.Proofs.Ytnbickholedckaa
open Go.RowKit
section
variable {P : Program} {w : World}
theorem ents_length (L : Mp) : (ents L).length = L.length := by simp [ents]
theorem ents_get (L : Mp) (i : Nat) : (ents L)[i]? = L[i]?.map fun p => (p.1, p.2, i) := by
  unfold ents
  rw [List.getElem?_map, List.getElem?_zipIdx]
  cases L[i]? <;> simp
theorem ents_snoc (L : Mp) (p : List Int × Value) : ents (L ++ [p]) = ents L ++ [(p.1, p.2, L.length)] := by
  simp [ents, List.zipIdx_append]
theorem findNow_int {q : IntKind} {x : List Int} (hx : x.length = 1) : ∀ (es : List Ent) (i : Nat), (∀ p ∈ es, p.1.length = 1) →
    Instr.findNow (.int q) (vOf false x) (es.map (mEn false)) i = some (fnd x es i)
  | [], i, _ => rfl
  | p :: es, i, hes => by
    have h1 := hes p (.head _)
    have ih := findNow_int (q := q) hx es (i + 1) (fun r hr => hes r (.tail _ hr))
    obtain ⟨a, rfl⟩ := List.length_eq_one_iff.1 hx
    obtain ⟨c, hc⟩ := List.length_eq_one_iff.1 h1
    simp only [List.map_cons, Instr.findNow, mEn, fnd, hc]
    have e1 : Instr.sameNow (.int q) (vOf false [a]) (vOf false [c]) = some (a == c) := by simp [vOf, iv, Instr.sameNow]
    rw [e1]
    by_cases hac : a = c
    · subst hac; simp
    · have : (a == c) = false := by simp [hac]
      rw [this, if_neg (by simp [hac])]
      exact ih
theorem run_findK {kt : TypeId} {k : Nat} {x : List Int} (h : kyt P kt = some k) (hx : x.length = k) (L : Mp) (hL : ∀ p ∈ L, p.1.length = k) :
    (Instr.findKey kt (vOf (agB P kt) x) ((ents L).map (mEn (agB P kt)))).run P w = .ok ((plc x L 0).map fun i => (i, vat L i)) w := by
  have hes : ∀ p ∈ ents L, p.1.length = k := fun p hp => by
    obtain ⟨i, hi, he⟩ := List.getElem_of_mem hp
    have h1 := ents_get L i
    rw [List.getElem?_eq_getElem hi, he] at h1
    cases h2 : L[i]? with
    | none => rw [h2] at h1; cases h1
    | some q =>
      rw [h2] at h1
      simp only [Option.map_some, Option.some.injEq] at h1
      rw [h1]
      exact hL q (List.mem_of_getElem? h2)
  cases hb : agB P kt with
  | true =>
    have h2 := run_findA h hx w (ents L) 0 hes
    rw [hb] at h2
    rw [Go.run_findKey_eq w (by unfold agB at hb; split at hb <;> simp_all), h2, fnd_ents]
  | false =>
    have h1 : ∃ q, P.underlying kt = some (.int q) := by
      unfold kyt at h
      split at h
      · unfold fl at h
        unfold agB at hb
        split at h
        · rename_i q hu; exact ⟨q, hu⟩
        · rename_i hu; rw [hu] at hb; cases hb
        · rename_i hu; rw [hu] at hb; cases hb
        · cases h
      · cases h
    obtain ⟨q, hu⟩ := h1
    have hk1 : k = 1 := by
      unfold kyt at h
      split at h
      · exact fl_one h hb
      · cases h
    subst hk1
    have h2 := findNow_int (q := q) hx (ents L) 0 hes
    rw [fnd_ents] at h2
    simp [Instr.findKey, run_underlying hu, h2]
/-- A map type: whether keys are aggregates, of how many numbers, and the zero of the values. -/
def mpt (P : Program) (t : TypeId) : Option (Bool × Nat × Value) := match P.underlying t with
  | some (.map kt et) => match kyt P kt, (P.info? et).bind (·.zero) with
    | some k, some z => some (agB P kt, k, z)
    | _, _ => none
  | _ => none
theorem mpt_to {t : TypeId} {b : Bool} {k : Nat} {z : Value} (h : mpt P t = some (b, k, z)) : ∃ kt et, P.underlying t = some (.map kt et) ∧ kyt P kt = some k ∧ agB P kt = b ∧ ∀ w, (zeroValue et).run P w = .ok z w := by
  unfold mpt at h
  split at h
  · rename_i kt et hu
    split at h
    · rename_i k' z' h1 h2
      simp only [Option.some.injEq, Prod.mk.injEq] at h
      obtain ⟨rfl, rfl, rfl⟩ := h
      cases hi : P.info? et with
      | none => rw [hi] at h2; cases h2
      | some i =>
        rw [hi] at h2
        simp only [Option.bind_some] at h2
        exact ⟨kt, et, hu, h1, rfl, fun w => by simp [zeroValue, typeInfo, hi, h2]⟩
    · cases h
  · cases h
def lkp (L : Mp) (x : List Int) (z : Value) : Value := ((plc x L 0).map (vat L)).getD z
theorem run_lookup {t : TypeId} {b : Bool} {k m : Nat} {z : Value} {L : Mp} {x : List Int} (h : mpt P t = some (b, k, z)) (hb : w.heap[m]? = some (mapO b L)) (hx : x.length = k) (hL : ∀ p ∈ L, p.1.length = k) :
    (Instr.lookup t (.map (some m)) (vOf b x) false).run P w = .ok (lkp L x z) w := by
  obtain ⟨kt, et, hu, h1, h2, h3⟩ := mpt_to h
  subst h2
  have hg : (getObj m).run P w = .ok (.map ((ents L).map (mEn (agB P kt))).toArray L.length) w := by simp [getObj, Sem.run, hb, mapO, mOb]
  have hc := fun em => run_checkK em h1 hx w
  have hf := run_findK (w := w) h1 hx L hL
  simp only [Instr.lookup, Sem.run_bind, run_underlying hu, Result.andThen_ok, hg, Sem.run_pure, hc, hf]
  cases hp : plc x L 0 with
  | none => simp [lkp, hp, h3]
  | some i => simp [lkp, hp]
theorem sameBits_iv (n : Nat) (a : Int) : Instr.sameBits n (iv a) (iv a) = true := by cases n <;> simp [Instr.sameBits, iv]
theorem sameBits_vOf (n : Nat) (b : Bool) (x : List Int) : Instr.sameBits (n + 1) (vOf b x) (vOf b x) = true := by
  cases b with
  | false => exact sameBits_iv _ _
  | true =>
    simp only [vOf, if_true, Instr.sameBits, beq_self_eq_true, Bool.true_and]
    rw [List.all_eq_true]
    rintro ⟨u, v⟩ hm
    have : ∀ (l : List Value), (u, v) ∈ l.zip l → u = v ∧ u ∈ l := by
      intro l
      induction l with
      | nil => intro h; cases h
      | cons c l ih =>
        intro h
        rw [List.zip_cons_cons] at h
        rcases List.mem_cons.1 h with h | h
        · simp only [Prod.mk.injEq] at h
          exact ⟨h.1.trans h.2.symm, by rw [h.1]; exact .head _⟩
        · exact ⟨(ih h).1, .tail _ (ih h).2⟩
    obtain ⟨e, hu⟩ := this _ hm
    subst e
    obtain ⟨a, _, rfl⟩ := List.mem_map.1 hu
    exact sameBits_iv _ _
theorem plc_get {x : List Int} : ∀ {L : Mp} {a i : Nat}, plc x L a = some i → a ≤ i ∧ ∃ p, L[i - a]? = some p ∧ p.1 = x
  | [], a, i, h => by cases h
  | p :: L, a, i, h => by
    unfold plc at h
    split at h
    · rename_i e
      simp only [Option.some.injEq] at h
      subst h
      exact ⟨Nat.le_refl _, p, by simp, e.symm⟩
    · obtain ⟨h1, q, h2, h3⟩ := plc_get h
      refine ⟨by omega, q, ?_, h3⟩
      rw [show i - a = (i - (a + 1)) + 1 by omega]
      simpa using h2
end
end Go.Proofs.Ytnbickholedckaa
