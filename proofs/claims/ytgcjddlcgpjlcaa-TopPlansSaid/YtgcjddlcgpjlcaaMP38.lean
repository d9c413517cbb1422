/- Maps written to; the program's CheckPlan. -/
import Derived.Test.YtgcjddlcgpjlcaaMP37
import Derived.Test.YtgcjddlcgpjlcaaMP28
import Derived.Test.YtgcjddlcgpjlcaaMP29
import Derived.Test.YtgcjddlcgpjlcaaMM7
namespace Go.Proofs.Ytgcjddlcgpjlcaa
open Go.RowKit

/-- A map after a write. -/
def mset (L : Mp) (x : List Int) (v : Value) : Mp := match plc x L 0 with | some i => L.put i v | none => L ++ [(x, v)]
section
variable {P : Program} {w : World}
theorem run_mapUpdate {t : TypeId} {b : Bool} {k m : Nat} {z v : Value} {L : Mp} {x : List Int} (h : mpt P t = some (b, k, z)) (hb : w.heap[m]? = some (mapO b L)) (hx : x.length = k) (hL : ∀ p ∈ L, p.1.length = k) :
    (Instr.mapUpdate t (.map (some m)) (vOf b x) v).run P w = .ok () { w with heap := w.heap.setIfInBounds m (mapO b (mset L x v)) } := by
  obtain ⟨kt, et, hu, h1, h2, h3⟩ := mpt_to h
  subst h2
  have hc := fun em => run_checkK em h1 hx w
  have hf := run_findK (w := w) h1 hx L hL
  cases hp : plc x L 0 with
  | none =>
    rw [hp] at hf
    have e4 : mapO (agB P kt) (L ++ [(x, v)]) = .map ((((ents L).map (mEn (agB P kt))).toArray).push { key := vOf (agB P kt) x, val := v, born := L.length }) (L.length + 1) := by
      simp [mapO, mOb, ents_snoc, mEn]
    simp only [Instr.mapUpdate, Sem.run_bind, run_underlying hu, Result.andThen_ok, run_getObjM hb, hc, hf, Option.map_none, run_setObjM _ hb, mset, hp, e4]
  | some i =>
    rw [hp] at hf
    obtain ⟨_, p, q1, q2⟩ := plc_get hp
    rw [Nat.sub_zero] at q1
    have e1 : ((((ents L).map (mEn (agB P kt))).toArray)[i]?.map (·.key)).getD (vOf (agB P kt) x) = vOf (agB P kt) x := by
      rw [entA_get, q1]; simp [mEn, q2]
    have e3 : (((ents L).map (mEn (agB P kt))).toArray).modify i (fun e => { e with key := vOf (agB P kt) x, val := v }) = ((ents (L.put i v)).map (mEn (agB P kt))).toArray := by
      apply Array.ext_getElem?
      intro j
      rw [Array.getElem?_modify, entA_get, entA_get]
      unfold Mp.put
      by_cases hij : i = j
      · subst hij
        have hlt : i < L.length := (List.getElem?_eq_some_iff.1 q1).1
        rw [if_pos rfl, q1, List.getElem?_set_self hlt]
        simp [mEn, q2]
      · rw [if_neg hij, List.getElem?_set_ne hij]
    have e5 : mapO (agB P kt) (L.put i v) = .map ((ents (L.put i v)).map (mEn (agB P kt))).toArray L.length := by
      simp [mapO, mOb, Mp.put]
    simp only [Instr.mapUpdate, Sem.run_bind, run_underlying hu, Result.andThen_ok, run_getObjM hb, hc, hf, Option.map_some, e1, Instr.keyThatStays, sameBits_vOf, if_true, Sem.run_pure, e3, run_setObjM _ hb, mset, hp, e5]
end
section
variable {P : Program} {n B : Nat} {w0 : Wd} {fr : FR} {hs : HS} {ty : TypeId} {K : Act → World → Prop} {ops : Array Oper} {l : List Oper} {pos : String} {aft : Array Edge}
theorem s_mapUpdate {t : TypeId} {xm xk xv : Operand} {b : Bool} {k m : Nat} {z v : Value} {L : Mp} {x : List Int} {ms' : List (Nat × Obj)} (h : mpt P t = some (b, k, z)) (h1 : opv fr xm = some (.map (some m))) (h2 : opv fr xk = some (vOf b x)) (h3 : opv fr xv = some v) (hx : x.length = k) (hL : ∀ p ∈ L, p.1.length = k) (hu : UpdM m (mapO b L) (mapO b (mset L x v)) w0.ms ms')
    (hk : Sat n B ⟨w0.w, ms'⟩ (sl P ops K l) fr hs) : Sat n B w0 (sl P ops K (⟨none, .mapUpdate t xm xk xv, ty, pos, aft, none⟩ :: l)) fr hs := sat_mk fun a w ha hw => by
  have h4 := sat_el hk a _ ha (hw.setObj hu (mapO_not _ _))
  unfold sl
  rw [if_pos (by simp [Region.wanted])]
  unfold Oper.wp
  have := run_mapUpdate (P := P) (w := w) (v := v) h (hw.map hu.mem) hx hL
  have hrun : (execOp a.eval ⟨none, .mapUpdate t xm xk xv, ty, pos, aft, none⟩).run P w = .ok .skip { w with heap := w.heap.setIfInBounds m (mapO b (mset L x v)) } := by
    simp [execOp, ha.opv h1, ha.opv h2, ha.opv h3, this]
  rw [hrun]
  exact h4
end
/-! ### What has been seen -/
structure Seen (p : List Int) (i : Nat) (L : Mp) : Prop where
  two : ∀ e ∈ L, e.1.length = 2
  yes : ∀ e ∈ L, e.2 = .bool true ∧ ∃ t, t < i ∧ e.1 = [pD p t, pJ p t]
  all : ∀ t, t < i → ∃ e ∈ L, e.1 = [pD p t, pJ p t]
theorem Seen.nil (p : List Int) : Seen p 0 [] := ⟨fun e h => (by cases h), fun e h => (by cases h), fun t h => absurd h (Nat.not_lt_zero _)⟩
theorem plc_none {x : List Int} : ∀ {L : Mp} {a : Nat}, plc x L a = none → ∀ e ∈ L, e.1 ≠ x
  | [], _, _, e, h => by cases h
  | q :: L, a, hp, e, h => by
    unfold plc at hp
    split at hp
    · cases hp
    · rename_i hq
      rcases List.mem_cons.1 h with rfl | h
      · intro he; first | exact hq he.symm | exact hq he | (simp [he] at hq)
      · exact plc_none hp e h
theorem Seen.look {p : List Int} {i : Nat} {L : Mp} (h : Seen p i L) (x : List Int) : lkp L x (.bool false) = .bool (decide (∃ e ∈ L, e.1 = x)) := by
  unfold lkp
  cases hp : plc x L 0 with
  | none =>
    rw [decide_eq_false]; · rfl
    rintro ⟨e, he, hx⟩
    exact plc_none hp e he hx
  | some j =>
    obtain ⟨_, q, q1, q2⟩ := plc_get hp
    rw [Nat.sub_zero] at q1
    have hm := List.mem_of_getElem? q1
    rw [decide_eq_true ⟨q, hm, q2⟩]
    show vat L j = _
    unfold vat
    rw [q1]
    exact (h.yes q hm).1
theorem Seen.step {p : List Int} {i : Nat} {L : Mp} (h : Seen p i L) : Seen p (i + 1) (mset L [pD p i, pJ p i] (.bool true)) := by
  have key : ∀ e, e ∈ mset L [pD p i, pJ p i] (.bool true) → e ∈ L ∨ e = ([pD p i, pJ p i], .bool true) := fun e he => by
    unfold mset at he
    split at he
    · rename_i j hp
      obtain ⟨_, q, q1, q2⟩ := plc_get hp
      rw [Nat.sub_zero] at q1
      unfold Mp.put at he
      rw [q1] at he
      rcases List.mem_or_eq_of_mem_set he with h1 | h1
      · exact .inl h1
      · exact .inr (by rw [h1]; simp [q2])
    · rcases List.mem_append.1 he with h1 | h1
      · exact .inl h1
      · exact .inr (by simpa using h1)
  have back : ∀ x, (∃ e ∈ L, e.1 = x) ∨ x = [pD p i, pJ p i] → ∃ e ∈ mset L [pD p i, pJ p i] (.bool true), e.1 = x := fun x hx => by
    unfold mset
    split
    · rename_i j hp
      obtain ⟨_, q, q1, q2⟩ := plc_get hp
      rw [Nat.sub_zero] at q1
      unfold Mp.put
      rw [q1]
      have hlt : j < L.length := (List.getElem?_eq_some_iff.1 q1).1
      by_cases e : x = [pD p i, pJ p i]
      · exact ⟨_, List.mem_set hlt _, by rw [e]; simp [q2]⟩
      · rcases hx with ⟨e', he', hx'⟩ | hx
        · obtain ⟨a, ha, hae⟩ := List.getElem_of_mem he'
          have haj : a ≠ j := fun ej => by
            subst ej
            rw [List.getElem?_eq_getElem ha, hae] at q1
            injection q1 with q1
            subst q1
            exact e (by rw [← hx', q2])
          refine ⟨e', ?_, hx'⟩
          refine List.mem_iff_getElem?.2 ⟨a, ?_⟩
          rw [List.getElem?_set_ne (Ne.symm haj), List.getElem?_eq_getElem ha, hae]
        · exact absurd hx e
    · rcases hx with ⟨e', he', hx'⟩ | hx
      · exact ⟨e', List.mem_append_left _ he', hx'⟩
      · exact ⟨_, List.mem_append_right _ (.head _), hx.symm⟩
  refine ⟨fun e he => ?_, fun e he => ?_, fun t ht => ?_⟩
  · rcases key e he with h1 | h1
    · exact h.two e h1
    · rw [h1]; rfl
  · rcases key e he with h1 | h1
    · obtain ⟨a, t, b, c⟩ := h.yes e h1
      exact ⟨a, t, by omega, c⟩
    · rw [h1]; exact ⟨rfl, i, by omega, rfl⟩
  · by_cases e : t < i
    · obtain ⟨e', h1, h2⟩ := h.all t e
      exact back _ (.inl ⟨e', h1, h2⟩)
    · obtain rfl : t = i := by omega
      exact back _ (.inr rfl)
theorem Seen.key {p : List Int} {i : Nat} {L : Mp} (h : Seen p i L) (a b : Int) : (∃ e ∈ L, e.1 = [a, b]) ↔ ∃ t, t < i ∧ pD p t = a ∧ pJ p t = b := by
  constructor
  · rintro ⟨e, he, hx⟩
    obtain ⟨_, t, ht, h1⟩ := h.yes e he
    rw [hx] at h1
    injection h1 with h1 h2
    injection h2 with h2 _
    exact ⟨t, ht, h1.symm, h2.symm⟩
  · rintro ⟨t, ht, rfl, rfl⟩
    exact h.all t ht
end Go.Proofs.Ytgcjddlcgpjlcaa
