/- Maps of the call's own, in the walk. -/
import Derived.Test.YtnbickholedckaaMM1
namespace Go.Proofs.Ytnbickholedckaa
open Go.RowKit

def vat (L : Mp) (i : Nat) : Value := (L[i]?.map (·.2)).getD undef
theorem zip_fnd (x : List Int) : ∀ (L : Mp) (i j : Nat), fnd x ((L.zipIdx i).map fun p => (p.1.1, p.1.2, p.2)) j = (plc x L j).map fun k => (k, vat L (k - j))
  | [], i, j => rfl
  | p :: L, i, j => by
    simp only [List.zipIdx_cons, List.map_cons, fnd, plc]
    by_cases h : x = p.1
    · simp [h, vat]
    · rw [if_neg h, if_neg h, zip_fnd x L (i + 1) (j + 1)]
      cases hp : plc x L (j + 1) with
      | none => rfl
      | some k =>
        have hk : j + 1 ≤ k := by
          have key : ∀ (L : Mp) (a k : Nat), plc x L a = some k → a ≤ k := by
            intro L
            induction L with
            | nil => intro a k h; cases h
            | cons q L ih =>
              intro a k h
              unfold plc at h
              split at h
              · simp at h; omega
              · have := ih _ _ h; omega
          exact key L _ _ hp
        simp only [Option.map_some]
        congr 1
        rw [show k - j = (k - (j + 1)) + 1 by omega]
        simp [vat]
theorem fnd_ents (x : List Int) (L : Mp) : fnd x (ents L) 0 = (plc x L 0).map fun k => (k, vat L k) := by
  have := zip_fnd x L 0 0
  simpa [ents] using this
section
variable {B : Nat} {w0 : Wd} {hs : HS}
theorem heapSet {w : World} {r : Nat} {o o' : Obj} (hb : w.heap[r]? = some o) : (w.heap.setIfInBounds r o')[r]? = some o' ∧ ∀ r', r' ≠ r → (w.heap.setIfInBounds r o')[r']? = w.heap[r']? := by
  have hlt : r < w.heap.size := (Array.getElem?_eq_some_iff.1 hb).1
  exact ⟨by simp [hlt], fun r' hne => by simp [Ne.symm hne]⟩
theorem heapAlloc (w : World) (o : Obj) : (w.alloc o).heap[w.heap.size]? = some o ∧ ∀ r', r' < w.heap.size → (w.alloc o).heap[r']? = w.heap[r']? := by
  have e : (w.alloc o).heap = w.heap.push o := rfl
  rw [e]
  exact ⟨by simp, fun r' h => by simp [Array.getElem?_push, Nat.ne_of_lt h]⟩
theorem UpdM.mem {m : Nat} {o o' : Obj} {ms ms' : List (Nat × Obj)} (h : UpdM m o o' ms ms') : (m, o) ∈ ms := by
  induction h with
  | head ms => exact .head _
  | tail p _ ih => exact .tail _ ih
theorem UpdM.fst {m : Nat} {o o' : Obj} {ms ms' : List (Nat × Obj)} (h : UpdM m o o' ms ms') : ms'.map (·.1) = ms.map (·.1) := by
  induction h with
  | head ms => rfl
  | tail p _ ih => simp [ih]
theorem UpdM.memd {m : Nat} {o o' : Obj} {ms ms' : List (Nat × Obj)} (h : UpdM m o o' ms ms') (hnd : (ms.map (·.1)).Nodup) : ∀ p ∈ ms', (p = (m, o')) ∨ (p ∈ ms ∧ p.1 ≠ m) := by
  induction h with
  | head ms =>
    intro p hp
    rcases List.mem_cons.1 hp with rfl | hp
    · exact .inl rfl
    · simp only [List.map_cons, List.nodup_cons] at hnd
      exact .inr ⟨.tail _ hp, fun e => hnd.1 (List.mem_map.2 ⟨p, hp, e⟩)⟩
  | tail q h ih =>
    intro p hp
    simp only [List.map_cons, List.nodup_cons] at hnd
    rcases List.mem_cons.1 hp with rfl | hp
    · refine .inr ⟨.head _, fun e => hnd.1 ?_⟩
      rw [e]
      exact List.mem_map.2 ⟨_, h.mem, rfl⟩
    · rcases ih hnd.2 p hp with h | h
      · exact .inl h
      · exact .inr ⟨.tail _ h.1, h.2⟩
theorem Hp.setObj {w : World} (h : Hp B w0 w hs) {m : Nat} {o o' : Obj} {ms' : List (Nat × Obj)} (hu : UpdM m o o' w0.ms ms') (ho : notCells o' = true) : Hp B ⟨w0.w, ms'⟩ { w with heap := w.heap.setIfInBounds m o' } hs := by
  obtain ⟨h1, h2, h3⟩ := h.obj _ hu.mem
  simp only at h1 h2 h3
  obtain ⟨e1, e2⟩ := heapSet (o' := o') h2
  refine ⟨⟨h.below.os, h.below.tape, h.below.output, by simpa using h.below.size, fun k hk => ?_⟩, by simpa using h.big, fun p hp => ?_, h.nodup, fun p hp => ?_, by rw [hu.fst]; exact h.ond, h.dr⟩
  · show (w.heap.setIfInBounds m o')[k]? = _
    rw [e2 k (by omega)]
    exact h.below.block k hk
  · obtain ⟨q1, e, q2⟩ := h.mem p hp
    refine ⟨q1, e, ?_⟩
    show (w.heap.setIfInBounds m o')[p.1]? = _
    rw [e2 p.1 (fun he => by
      rw [he, h2, Option.some.injEq] at q2
      rw [q2] at h3
      cases h3)]
    exact q2
  · rcases hu.memd h.ond p hp with rfl | ⟨hp, hne⟩
    · exact ⟨h1, e1, ho⟩
    · obtain ⟨q1, q2, q3⟩ := h.obj p hp
      refine ⟨q1, ?_, q3⟩
      show (w.heap.setIfInBounds m o')[p.1]? = _
      rw [e2 p.1 hne]; exact q2
theorem Hp.newObj {w : World} (h : Hp B w0 w hs) {o : Obj} (ho : notCells o = true) : Hp B ⟨w0.w, (w.heap.size, o) :: w0.ms⟩ (w.alloc o) hs := by
  obtain ⟨e1, e2⟩ := heapAlloc w o
  have lt : ∀ {k : Nat} {x : Obj}, w.heap[k]? = some x → k < w.heap.size := fun h => (Array.getElem?_eq_some_iff.1 h).1
  refine ⟨h.below.alloc h.big _, by simp; have := h.big; omega, fun p hp => ?_, h.nodup, fun p hp => ?_, ?_, h.dr⟩
  · obtain ⟨q1, e, q2⟩ := h.mem p hp
    exact ⟨q1, e, by rw [e2 _ (lt q2)]; exact q2⟩
  · rcases List.mem_cons.1 hp with rfl | hp
    · exact ⟨h.big, e1, ho⟩
    · obtain ⟨q1, q2, q3⟩ := h.obj p hp
      exact ⟨q1, by rw [e2 _ (lt q2)]; exact q2, q3⟩
  · simp only [List.map_cons, List.nodup_cons]
    refine ⟨fun hm => ?_, h.ond⟩
    obtain ⟨p, hp, he⟩ := List.mem_map.1 hm
    obtain ⟨_, q2, _⟩ := h.obj p hp
    have := lt q2
    omega
/-- The one base knows all that the other knows. -/
structure Wd.le (a b : Wd) : Prop where
  w : b.w = a.w
  ms : a.ms.Sublist b.ms
theorem Hp.base {a b : Wd} {w : World} (hle : a.le b) (h : Hp B b w hs) : Hp B a w hs :=
  ⟨hle.w ▸ h.below, h.big, h.mem, h.nodup, fun p hp => h.obj p (hle.ms.subset hp), h.ond.sublist (hle.ms.map _), hle.w ▸ h.dr⟩
theorem Sat.base {n : NN} {K : Act → World → Prop} {fr : FR} {a b : Wd} (hle : a.le b) (h : Sat n B a K fr hs) : Sat n B b K fr hs := sat_mk fun x w hx hw => sat_el h x w hx (hw.base hle)
theorem Sl.base {a b : Wd} {oa : Option Addr} {l : List Int} (hle : a.le b) (h : Sl B a hs oa l) : Sl B b hs oa l := fun i hi => ⟨(h i hi).1, fun w hw => (h i hi).2 w (hw.base hle)⟩
end
end Go.Proofs.Ytnbickholedckaa
