/- Ranging over maps; loops whose maps change. -/
import Derived.Test.YtnbickholedckaaMM5
namespace Go.Proofs.Ytnbickholedckaa
open Go.RowKit

/-- What ranges over a map of n entries, some of which it has seen. -/
def itO (m n : Nat) (sn : List Nat) : Obj := .mapIter (some m) n sn.toArray n
section
variable {P : Program} {w : World}
theorem run_choose (P : Program) (w : World) {n : Nat} (h : 0 < n) : ∃ k dr, k < n ∧ w.drawn ≤ dr ∧ (choose (.mapNext n)).run P w = .ok k { w with drawn := dr } := by
  simp only [choose, Sem.run]
  by_cases hf : (Question.mapNext n).forced = true
  · exact ⟨0, w.drawn, h, Nat.le_refl _, by rw [if_pos hf]⟩
  · exact ⟨_, _, Nat.mod_lt _ h, Nat.le_succ _, by rw [if_neg hf]; rfl⟩
theorem run_getIt {m n it : Nat} {sn : List Nat} (hb : w.heap[it]? = some (itO m n sn)) : (getObj it).run P w = .ok (itO m n sn) w := by
  simp [getObj, Sem.run, hb, itO]
theorem run_getMp {m : Nat} {b : Bool} {L : Mp} (hb : w.heap[m]? = some (mapO b L)) : (getObj m).run P w = .ok (.map ((ents L).map (mEn b)).toArray L.length) w := run_getObjM hb
theorem run_range {t : TypeId} {b : Bool} {k m : Nat} {z : Value} {L : Mp} (h : mpt P t = some (b, k, z)) (hb : w.heap[m]? = some (mapO b L)) :
    (Instr.range t (.map (some m))).run P w = .ok (.pointer (some ⟨w.heap.size, 0, none⟩)) (w.alloc (itO m L.length [])) := by
  obtain ⟨kt, et, hu, _⟩ := mpt_to h
  simp [Instr.range, run_underlying hu, run_getMp hb, itO]
theorem ents_mem {L : Mp} {e : Ent} (h : e ∈ ents L) : ∃ p, L[e.2.2]? = some p ∧ e = (p.1, p.2, e.2.2) := by
  obtain ⟨i, hi, he⟩ := List.getElem_of_mem h
  have h1 := ents_get L i
  rw [List.getElem?_eq_getElem hi, he] at h1
  cases h2 : L[i]? with
  | none => rw [h2] at h1; cases h1
  | some q =>
    rw [h2] at h1
    simp only [Option.map_some, Option.some.injEq] at h1
    subst h1
    exact ⟨q, h2, rfl⟩
theorem run_next {m it : Nat} {b : Bool} {L : Mp} {sn : List Nat} {ty : TypeId} (h1 : w.heap[it]? = some (itO m L.length sn)) (h2 : w.heap[m]? = some (mapO b L)) : ∃ dr, w.drawn ≤ dr ∧ (
    (∃ i p, L[i]? = some p ∧ i ∉ sn ∧ (Instr.next (.pointer (some ⟨it, 0, none⟩)) false ty).run P w = .ok (.tuple #[.bool true, vOf b p.1, p.2]) { w with drawn := dr, heap := w.heap.setIfInBounds it (itO m L.length (sn ++ [i])) }) ∨
    ((∀ i, i < L.length → i ∈ sn) ∧ (Instr.next (.pointer (some ⟨it, 0, none⟩)) false ty).run P w = .ok (.tuple #[.bool false]) { w with drawn := dr })) := by
  have e0 : (!sn.toArray.isEmpty && !((ents L).map (mEn b)).toArray.isEmpty && ((ents L).map (mEn b)).toArray.all (fun e => decide (e.born ≥ L.length))) = false := by
    cases L with
    | nil => simp [ents]
    | cons p L => simp [ents, mEn]
  have key : ∀ (c : Array (Option MapEntry)), 0 < c.size → (∀ k, k < c.size → (c[k]? = some none ∧ ∀ i, i < L.length → i ∈ sn) ∨ ∃ i p, c[k]? = some (some (mEn b (p.1, p.2, i))) ∧ L[i]? = some p ∧ i ∉ sn) →
      (Instr.next (.pointer (some ⟨it, 0, none⟩)) false ty).run P w = ((do
        match c[← choose (.mapNext c.size)]? with
        | some (some e) =>
          setObj it (.mapIter (some m) L.length (sn.toArray.push e.born) L.length)
          pure (.tuple #[.bool true, e.key, e.val])
        | some none => pure (.tuple #[.bool false])
        | none => stuck "Next: no such candidate") : Sem Value).run P w → ∃ dr, w.drawn ≤ dr ∧ ((∃ i p, L[i]? = some p ∧ i ∉ sn ∧ (Instr.next (.pointer (some ⟨it, 0, none⟩)) false ty).run P w = .ok (.tuple #[.bool true, vOf b p.1, p.2]) { w with drawn := dr, heap := w.heap.setIfInBounds it (itO m L.length (sn ++ [i])) }) ∨
    ((∀ i, i < L.length → i ∈ sn) ∧ (Instr.next (.pointer (some ⟨it, 0, none⟩)) false ty).run P w = .ok (.tuple #[.bool false]) { w with drawn := dr })) := fun c hc hk hr => by
    obtain ⟨k, dr, hlt, hd, hch⟩ := run_choose P w hc
    refine ⟨dr, hd, ?_⟩
    rcases hk k hlt with ⟨hn, hall⟩ | ⟨i, p, hs, hi, hns⟩
    · refine .inr ⟨hall, ?_⟩
      rw [hr]
      simp only [Sem.run_bind, hch, Result.andThen_ok, hn, Sem.run_pure]
    · refine .inl ⟨i, p, hi, hns, ?_⟩
      rw [hr]
      have hset : (setObj it (.mapIter (some m) L.length (sn.toArray.push i) L.length)).run P { w with drawn := dr } = .ok () { w with drawn := dr, heap := w.heap.setIfInBounds it (itO m L.length (sn ++ [i])) } := by
        simp [setObj, Sem.run, h1, itO]
      simp only [Sem.run_bind, hch, Result.andThen_ok, hs, mEn, hset, Sem.run_pure]
  let left := (((ents L).map (mEn b)).toArray).filter fun e => !sn.toArray.contains e.born
  let old := left.filter (·.born < L.length)
  let new := left.filter (·.born ≥ L.length)
  let cands := (if old.isEmpty then #[none] else #[]) ++ (old ++ new).map some
  have hmem : ∀ e ∈ old ++ new, ∃ i p, e = mEn b (p.1, p.2, i) ∧ L[i]? = some p ∧ i ∉ sn := by
    intro e he
    have hl : e ∈ left := by
      rcases Array.mem_append.1 he with h | h
      · exact (Array.mem_filter.1 h).1
      · exact (Array.mem_filter.1 h).1
    obtain ⟨h3, h4⟩ := Array.mem_filter.1 hl
    simp only [List.mem_toArray, List.mem_map] at h3
    obtain ⟨q, hq, rfl⟩ := h3
    obtain ⟨p, hp, hq2⟩ := ents_mem hq
    refine ⟨q.2.2, p, by rw [← hq2], hp, ?_⟩
    simpa [mEn] using h4
  refine key cands ?_ ?_ ?_
  · by_cases ho : old.isEmpty
    · simp only [cands, if_pos ho, Array.size_append]
      exact Nat.lt_of_lt_of_le Nat.zero_lt_one (Nat.le_add_right _ _)
    · have : 0 < old.size := by
        have : old ≠ #[] := by simpa using ho
        exact Array.size_pos_iff.2 this
      simp only [cands, Array.size_append, Array.size_map]
      omega
  · intro k hk
    by_cases ho : old.isEmpty
    · have hall : ∀ i, i < L.length → i ∈ sn := fun i hi => by
        by_cases hh : i ∈ sn
        · exact hh
        · exfalso
          have : mEn b ((L[i]'hi).1, (L[i]'hi).2, i) ∈ old := by
            refine Array.mem_filter.2 ⟨Array.mem_filter.2 ⟨?_, by simp [mEn, hh]⟩, by simp [mEn, hi]⟩
            simp only [List.mem_toArray, List.mem_map]
            refine ⟨((L[i]'hi).1, (L[i]'hi).2, i), List.mem_of_getElem? (i := i) ?_, rfl⟩
            rw [ents_get, List.getElem?_eq_getElem hi]
            rfl
          have ho' : old = #[] := by simpa using ho
          rw [ho'] at this
          simp at this
      have hn : new = #[] := by
        rw [← Array.size_eq_zero_iff]
        cases hs : new.size with
        | zero => rfl
        | succ s =>
          exfalso
          have h5 : new[0] ∈ old ++ new := Array.mem_append.2 (.inr (Array.getElem_mem _))
          obtain ⟨i, p, _, hi, hns⟩ := hmem _ h5
          exact hns (hall i (List.getElem?_eq_some_iff.1 hi).1)
      have ho' : old = #[] := by simpa using ho
      have hc : cands = #[none] := by simp [cands, ho', hn]
      rw [hc] at hk ⊢
      simp at hk
      subst hk
      exact .inl ⟨rfl, hall⟩
    · have hc : cands = (old ++ new).map some := by
        simp only [cands]
        rw [if_neg ho]
        simp
      rw [hc] at hk ⊢
      simp only [Array.size_map] at hk
      right
      obtain ⟨i, p, he, hi, hns⟩ := hmem _ (Array.getElem_mem hk)
      exact ⟨i, p, by rw [Array.getElem?_map, Array.getElem?_eq_getElem hk, he]; rfl, hi, hns⟩
  · simp only [Instr.next, Sem.run_bind, run_getIt h1, Result.andThen_ok, itO, run_getMp h2]
    simp only [e0, Bool.false_eq_true, if_false, Sem.run_pure, Result.andThen_ok]
    rw [Sem.run_bind]
    rfl
theorem run_entry {m it i : Nat} {b : Bool} {L : Mp} {sn : List Nat} {p : List Int × Value} (h1 : w.heap[it]? = some (itO m L.length (sn ++ [i]))) (h2 : w.heap[m]? = some (mapO b L)) (h3 : L[i]? = some p) :
    (Instr.entry (.pointer (some ⟨it, 0, none⟩))).run P w = .ok (.tuple #[vOf b p.1, p.2]) w := by
  have e1 : (((ents L).map (mEn b)).toArray).find? (fun e => e.born == i) = some (mEn b (p.1, p.2, i)) := by
    have hi : i < L.length := (List.getElem?_eq_some_iff.1 h3).1
    have hget : ∀ j (hj : j < L.length), (((ents L).map (mEn b)).toArray)[j]'(by simpa [ents_length] using hj) = mEn b ((L[j]'hj).1, (L[j]'hj).2, j) := fun j hj => by
      have h4 := entA_get b L j
      rw [Array.getElem?_eq_getElem (by simpa [ents_length] using hj), List.getElem?_eq_getElem hj] at h4
      simpa using h4
    rw [Array.find?_eq_some_iff_getElem]
    refine ⟨by simp [mEn], i, by simpa [ents_length] using hi, ?_, fun j hj => ?_⟩
    · rw [hget i hi]
      rw [List.getElem?_eq_getElem hi, Option.some.injEq] at h3
      rw [h3]
    · rw [hget j (by omega)]
      simp [mEn]; omega
  have e2 : (sn ++ [i]).toArray.back? = some i := by simp
  simp only [Instr.entry, Sem.run_bind, run_getIt h1, Result.andThen_ok, itO, run_getMp h2, e1, e2, Sem.run_pure, mEn, ne_eq, not_true_eq_false, if_false, bne_self_eq_false, Bool.false_eq_true]
end
section
variable {P : Program} {n : NN} {B : Nat} {w0 : Wd} {fr : FR} {hs S : HS} {ty : TypeId} {K : Act → World → Prop} {Q : Exit → Act → World → Prop} {ops : Array Oper} {l : List Oper} {d : Nat} {fl : List Nat} {pos : String} {aft : Array Edge}
theorem itO_not (m n : Nat) (sn : List Nat) : notCells (itO m n sn) = true := rfl
theorem Hp.drawn {w : World} (h : Hp B w0 w hs) (dr : Nat) (hd : w.drawn ≤ dr) : Hp B w0 { w with drawn := dr } hs := ⟨⟨h.below.os, h.below.tape, h.below.output, h.below.size, h.below.block⟩, h.big, h.mem, h.nodup, h.obj, h.ond, Nat.le_trans h.dr hd⟩
theorem s_range {t : TypeId} {x : Operand} {b : Bool} {k m : Nat} {z : Value} {L : Mp} (h : mpt P t = some (b, k, z)) (hx : opv fr x = some (.map (some m))) (hm : (m, mapO b L) ∈ w0.ms) (hn : d < n.n)
    (hk : ∀ it, Sat n B ⟨w0.w, (it, itO m L.length []) :: w0.ms⟩ (sl P ops K l) ((d, .pointer (some ⟨it, 0, none⟩)) :: fr) hs) : Sat n B w0 (sl P ops K (⟨some d, .range t x, ty, pos, aft, none⟩ :: l)) fr hs := sat_mk fun a w ha hw => by
  have h4 := sat_el (hk w.heap.size) _ _ (ha.put hn _) (hw.newObj (itO_not m L.length []))
  unfold sl
  rw [if_pos (by simp [Region.wanted])]
  unfold Oper.wp
  have : (execOp a.eval ⟨some d, .range t x, ty, pos, aft, none⟩).run P w = .ok (.value (.pointer (some ⟨w.heap.size, 0, none⟩))) (w.alloc (itO m L.length [])) := by
    simp [execOp, ha.opv hx, run_range h (hw.map hm)]
  rw [this]
  exact h4
/-- One step of a range: an entry that was not seen yet, or the end. -/
theorem s_next {x : Operand} {b : Bool} {m it : Nat} {L : Mp} {sn : List Nat} {ms' : Nat → List (Nat × Obj)} (hx : opv fr x = some (.pointer (some ⟨it, 0, none⟩))) (hm : (m, mapO b L) ∈ w0.ms) (hu : ∀ i, UpdM it (itO m L.length sn) (itO m L.length (sn ++ [i])) w0.ms (ms' i)) (hn : d < n.n)
    (hy : ∀ i p, L[i]? = some p → i ∉ sn → Sat n B ⟨w0.w, ms' i⟩ (sl P ops K l) ((d, .tuple #[.bool true, vOf b p.1, p.2]) :: fr) hs) (ho : (∀ i, i < L.length → i ∈ sn) → Sat n B w0 (sl P ops K l) ((d, .tuple #[.bool false]) :: fr) hs) :
    Sat n B w0 (sl P ops K (⟨some d, .next x false, ty, pos, aft, none⟩ :: l)) fr hs := sat_mk fun a w ha hw => by
  have hit := (hw.obj _ (hu 0).mem).2.1
  unfold sl
  rw [if_pos (by simp [Region.wanted])]
  unfold Oper.wp
  obtain ⟨dr, hd, h⟩ := run_next (P := P) (ty := ty) hit (hw.map hm)
  rcases h with ⟨i, p, h1, h2, h3⟩ | ⟨h1, h3⟩
  · have : (execOp a.eval ⟨some d, .next x false, ty, pos, aft, none⟩).run P w = .ok (.value (.tuple #[.bool true, vOf b p.1, p.2])) { w with drawn := dr, heap := w.heap.setIfInBounds it (itO m L.length (sn ++ [i])) } := by
      simp [execOp, ha.opv hx, h3]
    rw [this]
    exact sat_el (hy i p h1 h2) _ _ (ha.put hn _) ((hw.setObj (hu i) (itO_not _ _ _)).drawn dr hd)
  · have : (execOp a.eval ⟨some d, .next x false, ty, pos, aft, none⟩).run P w = .ok (.value (.tuple #[.bool false])) { w with drawn := dr } := by
      simp [execOp, ha.opv hx, h3]
    rw [this]
    exact sat_el (ho h1) _ _ (ha.put hn _) (hw.drawn dr hd)
/-- The entry that was stepped on. -/
theorem o_entry {x : Operand} {b : Bool} {m it i : Nat} {L : Mp} {sn : List Nat} {p : List Int × Value} (hx : opv fr x = some (.pointer (some ⟨it, 0, none⟩))) (hm : (m, mapO b L) ∈ w0.ms) (hi : (it, itO m L.length (sn ++ [i])) ∈ w0.ms) (hp : L[i]? = some p) :
    OpF P n B w0 (.entry x) ty fr hs (.tuple #[vOf b p.1, p.2]) := fun a w ha hw => by
  have := run_entry (P := P) (hw.obj _ hi).2.1 (hw.map hm) hp
  simp [ex, execOp, ha.opv hx, this]
/-- Behind a round, where the base may be another one. -/
def NxM (n : NN) (B : Nat) {ι : Type} (W : ι → Wd) (F : ι → FR) (H : ι → HS) (C : ι → Prop) (μ : ι → Nat) (m : Nat) (a : Act) (w : World) : Prop := ∃ j, C j ∧ μ j < m ∧ Fr n a (F j) ∧ Hp B (W j) w (H j)
theorem c_loopM {c : Code} {ι : Type} (W : ι → Wd) (F : ι → FR) (H : ι → HS) (C : ι → Prop) (μ : ι → Nat) (i0 : ι) (hc : C i0) (hb : (W i0).le w0) (h0 : SubL (F i0) fr) (h1 : (H i0).Sublist hs)
    (round : ∀ i, C i → Sat n B (W i) (c.wp P (Exit.then (NxM n B W F H C μ (μ i)) Q)) (F i) (H i)) : Sat n B w0 ((Code.loop c).wp P Q) fr hs := sat_mk fun a w ha hw => by
  intro b k cs
  have key : ∀ m (i : ι) a w, C i → μ i = m → Fr n a (F i) → Hp B (W i) w (H i) →
      ∃ e a' w', Q e a' w' ∧ Arrives P (lone (b.at a (.code c :: .inLoop c :: k)) cs w) b k cs e a' w' := by
    intro m
    induction m using Nat.strongRecOn with
    | _ m ih =>
      intro i a w hci hi ha hw
      obtain ⟨e, a₁, w₁, hq, harr⟩ := sat_el (round i hci) a w ha hw b (.inLoop c :: k) cs
      cases e with
      | normal =>
        obtain ⟨j, hcj, hlt, hfj, hhj⟩ := hq
        obtain ⟨e₂, a₂, w₂, hq₂, harr₂⟩ := ih (μ j) (hi ▸ hlt) j a₁ w₁ hcj rfl hfj hhj
        exact ⟨e₂, a₂, w₂, hq₂, .of_steps (Steps.trans harr (.one step_inLoop)) harr₂⟩
      | exit id' => exact ⟨_, a₁, w₁, hq, .pass (x := .inLoop c) rfl (fun _ _ => .inl (by simp)) harr⟩
      | goto l => exact ⟨_, a₁, w₁, hq, .pass (x := .inLoop c) rfl (fun _ _ => .inl (by simp)) harr⟩
      | ret => exact ⟨_, a₁, w₁, hq, .pass (x := .inLoop c) rfl (fun _ _ => .inl (by simp)) harr⟩
      | panic ch => exact ⟨_, a₁, w₁, hq, .pass (x := .inLoop c) rfl (fun _ _ => .inl (by simp)) harr⟩
      | outgrown => exact ⟨_, a₁, w₁, hq, .pass (x := .inLoop c) rfl (fun _ _ => .inl (by simp)) harr⟩
  obtain ⟨e, a', w', hq, harr⟩ := key _ i0 a w hc rfl (ha.sub h0.sub) ((hw.sub h1).base hb)
  exact ⟨e, a', w', hq, .of_steps (.one step_loop) harr⟩
/-- The end of such a round. -/
theorem r_endM {ι : Type} {W : ι → Wd} {F : ι → FR} {H : ι → HS} {C : ι → Prop} {μ : ι → Nat} {m : Nat} (j : ι) (hc : C j) (hj : μ j < m) (hb : (W j).le w0) (h1 : SubL (F j) fr) (h2 : (H j).Sublist hs) :
    Sat n B w0 (NxM n B W F H C μ m) fr hs := sat_mk fun _ _ ha hw => ⟨j, hc, hj, ha.sub h1.sub, (hw.sub h2).base hb⟩
theorem Wd.le.refl (a : Wd) : a.le a := ⟨rfl, List.Sublist.refl _⟩
end
end Go.Proofs.Ytnbickholedckaa
