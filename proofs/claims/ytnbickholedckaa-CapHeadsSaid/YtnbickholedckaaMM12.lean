/- Maps written to, and what they say of what has been seen. -/
import Derived.Test.YtnbickholedckaaMM7
namespace Go.Proofs.Ytnbickholedckaa
open Go.RowKit

/-- A map after a write. -/
def mset (L : Mp) (x : List Int) (v : Value) : Mp := match plc x L 0 with | some i => L.put i v | none => L ++ [(x, v)]
section
variable {P : Program} {w : World}
theorem run_mapUpdate {t : TypeId} {b : Bool} {k m : Nat} {z v : Value} {L : Mp} {x : List Int} (h : mpt P t = some (b, k, z)) (hb : w.heap[m]? = some (mapO b L)) (hx : x.length = k) (hL : ∀ p ∈ L, p.1.length = k) :
    (Instr.mapUpdate t (.map (some m)) (vOf b x) v).run P w = .ok () { w with heap := w.heap.setIfInBounds m (mapO b (mset L x v)) } := by
  obtain ⟨kt, et, hu, h1, h2, h3⟩ := mpt_to h
  subst h2
  have hc := fun em => run_checkK em h1 hx w
  have hf := run_findK (w := w) h1 hx L hL
  cases hp : plc x L 0 with
  | none =>
    rw [hp] at hf
    have e4 : mapO (agB P kt) (L ++ [(x, v)]) = .map ((((ents L).map (mEn (agB P kt))).toArray).push { key := vOf (agB P kt) x, val := v, born := L.length }) (L.length + 1) := by
      simp [mapO, mOb, ents_snoc, mEn]
    simp only [Instr.mapUpdate, Sem.run_bind, run_underlying hu, Result.andThen_ok, run_getObjM hb, hc, hf, Option.map_none, run_setObjM _ hb, mset, hp, e4]
  | some i =>
    rw [hp] at hf
    obtain ⟨_, p, q1, q2⟩ := plc_get hp
    rw [Nat.sub_zero] at q1
    have e1 : ((((ents L).map (mEn (agB P kt))).toArray)[i]?.map (·.key)).getD (vOf (agB P kt) x) = vOf (agB P kt) x := by
      rw [entA_get, q1]; simp [mEn, q2]
    have e3 : (((ents L).map (mEn (agB P kt))).toArray).modify i (fun e => { e with key := vOf (agB P kt) x, val := v }) = ((ents (L.put i v)).map (mEn (agB P kt))).toArray := by
      apply Array.ext_getElem?
      intro j
      rw [Array.getElem?_modify, entA_get, entA_get]
      unfold Mp.put
      by_cases hij : i = j
      · subst hij
        have hlt : i < L.length := (List.getElem?_eq_some_iff.1 q1).1
        rw [if_pos rfl, q1, List.getElem?_set_self hlt]
        simp [mEn, q2]
      · rw [if_neg hij, List.getElem?_set_ne hij]
    have e5 : mapO (agB P kt) (L.put i v) = .map ((ents (L.put i v)).map (mEn (agB P kt))).toArray L.length := by
      simp [mapO, mOb, Mp.put]
    simp only [Instr.mapUpdate, Sem.run_bind, run_underlying hu, Result.andThen_ok, run_getObjM hb, hc, hf, Option.map_some, e1, Instr.keyThatStays, sameBits_vOf, if_true, Sem.run_pure, e3, run_setObjM _ hb, mset, hp, e5]
end
section
variable {P : Program} {n : NN} {B : Nat} {w0 : Wd} {fr : FR} {hs S : HS} {ty : TypeId} {K : Act → World → Prop} {ops : Array Oper} {l : List Oper} {pos : String} {aft : Array Edge} {fl : List Nat}
theorem s_mapUpdate {t : TypeId} {xm xk xv : Operand} {b : Bool} {k m : Nat} {z v : Value} {L : Mp} {x : List Int} {ms' : List (Nat × Obj)} (h : mpt P t = some (b, k, z)) (h1 : opv fr xm = some (.map (some m))) (h2 : opv fr xk = some (vOf b x)) (h3 : opv fr xv = some v) (hx : x.length = k) (hL : ∀ p ∈ L, p.1.length = k) (hu : UpdM m (mapO b L) (mapO b (mset L x v)) w0.ms ms')
    (hk : Sat n B ⟨w0.w, ms'⟩ (sl P ops K l) fr hs) : Sat n B w0 (sl P ops K (⟨none, .mapUpdate t xm xk xv, ty, pos, aft, none⟩ :: l)) fr hs := sat_mk fun a w ha hw => by
  have h4 := sat_el hk a _ ha (hw.setObj hu (mapO_not _ _))
  unfold sl
  rw [if_pos (by simp [Region.wanted])]
  unfold Oper.wp
  have := run_mapUpdate (P := P) (w := w) (v := v) h (hw.map hu.mem) hx hL
  have hrun : (execOp a.eval ⟨none, .mapUpdate t xm xk xv, ty, pos, aft, none⟩).run P w = .ok .skip { w with heap := w.heap.setIfInBounds m (mapO b (mset L x v)) } := by
    simp [execOp, ha.opv h1, ha.opv h2, ha.opv h3, this]
  rw [hrun]
  exact h4
theorem k_mapUpdate {t : TypeId} {xm xk xv : Operand} {b : Bool} {k m : Nat} {z v : Value} {L : Mp} {x : List Int} {ms' : List (Nat × Obj)} (h : mpt P t = some (b, k, z)) (h1 : opv fr xm = some (.map (some m))) (h2 : opv fr xk = some (vOf b x)) (h3 : opv fr xv = some v) (hx : x.length = k) (hL : ∀ p ∈ L, p.1.length = k) (hu : UpdM m (mapO b L) (mapO b (mset L x v)) w0.ms ms')
    (hk : Rk P n B ⟨w0.w, ms'⟩ ops K fl l hs fr hs) : Rk P n B w0 ops K (5 :: fl) (⟨none, .mapUpdate t xm xk xv, ty, pos, aft, none⟩ :: l) S fr hs := by
  refine k_effW (R := fun _ w1 y => y = hs ∧ w1 = ⟨w0.w, ms'⟩) rfl (fun a ha F w hw => ?_) ?_
  · have := run_mapUpdate (P := P) (w := w) (v := v) h (hw.map hu.mem) hx hL
    have hrun : (execOp a.eval ⟨none, .mapUpdate t xm xk xv, ty, pos, aft, none⟩).run P w = .ok .skip { w with heap := w.heap.setIfInBounds m (mapO b (mset L x v)) } := by
      simp [execOp, ha.opv h1, ha.opv h2, ha.opv h3, this]
    rw [hrun]
    exact ⟨_, hs, ⟨rfl, rfl⟩, hw.setObj hu (mapO_not _ _)⟩
  · rintro a ha v' w1 y ⟨rfl, rfl⟩
    unfold Rk at hk
    have : a.put none v' = a := by simp [Act.put]
    rw [this]
    exact hk a ha
/-- A map is written to, beside what does not look at maps. -/
theorem k_mapUpdate7 {f : Nat} {t : TypeId} {xm xk xv : Operand} {b : Bool} {k m : Nat} {z v : Value} {L : Mp} {x : List Int} {ms' : List (Nat × Obj)} (h : mpt P t = some (b, k, z)) (hf : f = (2 * 0 + 1) + 6) (h1 : opv fr xm = some (.map (some m))) (h2 : opv fr xk = some (vOf b x)) (h3 : opv fr xv = some v) (hx : x.length = k) (hL : ∀ p ∈ L, p.1.length = k) (hu : UpdM m (mapO b L) (mapO b (mset L x v)) w0.ms ms')
    (hk : Rk P n B ⟨w0.w, ms'⟩ ops K fl l S fr hs) : Rk P n B w0 ops K (f :: fl) (⟨none, .mapUpdate t xm xk xv, ty, pos, aft, none⟩ :: l) S fr hs := by
  refine k_eff7 (R := fun _ w1 => w1 = ⟨w0.w, ms'⟩) 0 hf rfl (fun a ha F w hw => ?_) ?_
  · have := run_mapUpdate (P := P) (w := w) (v := v) h (hw.map hu.mem) hx hL
    have hrun : (execOp a.eval ⟨none, .mapUpdate t xm xk xv, ty, pos, aft, none⟩).run P w = .ok .skip { w with heap := w.heap.setIfInBounds m (mapO b (mset L x v)) } := by
      simp [execOp, ha.opv h1, ha.opv h2, ha.opv h3, this]
    rw [hrun]
    exact ⟨_, rfl, hw.setObj hu (mapO_not _ _)⟩
  · rintro a ha v' w1 rfl
    unfold Rk at hk
    have : a.put none v' = a := by simp [Act.put]
    rw [this]
    exact ⟨.any rfl .refl, hk a ha⟩
end
/-! ### What has been seen -/
theorem plc_none {x : List Int} : ∀ {L : Mp} {a : Nat}, plc x L a = none → ∀ e ∈ L, e.1 ≠ x
  | [], _, _, e, h => by cases h
  | q :: L, a, hp, e, h => by
    unfold plc at hp
    split at hp
    · cases hp
    · rename_i hq
      rcases List.mem_cons.1 h with rfl | h
      · intro he; exact hq he.symm
      · exact plc_none hp e h
/-- The map says yes of what is in S, and of nothing else. -/
structure SnM (k : Nat) (S : List Int → Prop) (L : Mp) : Prop where
  len : ∀ e ∈ L, e.1.length = k
  yes : ∀ e ∈ L, e.2 = .bool true
  mem : ∀ x, (∃ e ∈ L, e.1 = x) ↔ S x
theorem SnM.nil (k : Nat) {S : List Int → Prop} (h : ∀ x, ¬ S x) : SnM k S [] := ⟨fun e h => (by cases h), fun e h => (by cases h), fun x => ⟨fun ⟨e, h, _⟩ => (by cases h), fun hx => absurd hx (h x)⟩⟩
theorem SnM.look {k : Nat} {S : List Int → Prop} {L : Mp} (h : SnM k S L) (x : List Int) {b : Bool} (hb : b = true ↔ S x) : lkp L x (.bool false) = .bool b := by
  unfold lkp
  cases hp : plc x L 0 with
  | none =>
    cases b with
    | false => rfl
    | true =>
      obtain ⟨e, he, hx⟩ := (h.mem x).2 (hb.1 rfl)
      exact absurd hx (plc_none hp e he)
  | some j =>
    obtain ⟨_, q, q1, q2⟩ := plc_get hp
    rw [Nat.sub_zero] at q1
    have hm := List.mem_of_getElem? q1
    have hS := (h.mem x).1 ⟨q, hm, q2⟩
    rw [hb.2 hS]
    show vat L j = _
    unfold vat
    rw [q1]
    exact h.yes q hm
theorem SnM.step {k : Nat} {S S' : List Int → Prop} {L : Mp} (h : SnM k S L) {x : List Int} (hx : x.length = k) (hS : ∀ y, S' y ↔ S y ∨ y = x) : SnM k S' (mset L x (.bool true)) := by
  have key : ∀ e, e ∈ mset L x (.bool true) → e ∈ L ∨ e = (x, .bool true) := fun e he => by
    unfold mset at he
    split at he
    · rename_i j hp
      obtain ⟨_, q, q1, q2⟩ := plc_get hp
      rw [Nat.sub_zero] at q1
      unfold Mp.put at he
      rw [q1] at he
      rcases List.mem_or_eq_of_mem_set he with h1 | h1
      · exact .inl h1
      · exact .inr (by rw [h1]; simp [q2])
    · rcases List.mem_append.1 he with h1 | h1
      · exact .inl h1
      · exact .inr (by simpa using h1)
  have back : ∀ y, (∃ e ∈ L, e.1 = y) ∨ y = x → ∃ e ∈ mset L x (.bool true), e.1 = y := fun y hy => by
    unfold mset
    split
    · rename_i j hp
      obtain ⟨_, q, q1, q2⟩ := plc_get hp
      rw [Nat.sub_zero] at q1
      unfold Mp.put
      rw [q1]
      have hlt : j < L.length := (List.getElem?_eq_some_iff.1 q1).1
      by_cases e : y = x
      · exact ⟨_, List.mem_set hlt _, by rw [e]; simp [q2]⟩
      · rcases hy with ⟨e', he', hx'⟩ | hy
        · obtain ⟨a, ha, hae⟩ := List.getElem_of_mem he'
          have haj : a ≠ j := fun ej => by
            subst ej
            rw [List.getElem?_eq_getElem ha, hae] at q1
            injection q1 with q1
            subst q1
            exact e (by rw [← hx', q2])
          refine ⟨e', ?_, hx'⟩
          refine List.mem_iff_getElem?.2 ⟨a, ?_⟩
          rw [List.getElem?_set_ne (Ne.symm haj), List.getElem?_eq_getElem ha, hae]
        · exact absurd hy e
    · rcases hy with ⟨e', he', hx'⟩ | hy
      · exact ⟨e', List.mem_append_left _ he', hx'⟩
      · exact ⟨_, List.mem_append_right _ (.head _), hy.symm⟩
  refine ⟨fun e he => ?_, fun e he => ?_, fun y => ⟨?_, fun hy => ?_⟩⟩
  · rcases key e he with h1 | h1
    · exact h.len e h1
    · rw [h1]; exact hx
  · rcases key e he with h1 | h1
    · exact h.yes e h1
    · rw [h1]
  · rintro ⟨e, he, rfl⟩
    rcases key e he with h1 | h1
    · exact (hS _).2 (.inl ((h.mem _).1 ⟨e, h1, rfl⟩))
    · rw [h1]; exact (hS _).2 (.inr rfl)
  · rcases (hS y).1 hy with h1 | h1
    · exact back y (.inl ((h.mem y).2 h1))
    · exact back y (.inr h1)
end Go.Proofs.Ytnbickholedckaa
