/- Maps are turned: the rules. -/
import Derived.Test.YtnbickholedckaaMM3
namespace Go.Proofs.Ytnbickholedckaa
open Go.RowKit

def Mp.put (L : Mp) (i : Nat) (v : Value) : Mp := L.set i ((L[i]?.map (·.1)).getD [], v)
section
variable {P : Program} {w : World}
theorem run_setObjM {m : Nat} {b : Bool} {L : Mp} (o : Obj) (hb : w.heap[m]? = some (mapO b L)) : (setObj m o).run P w = .ok () { w with heap := w.heap.setIfInBounds m o } := by
  simp [setObj, Sem.run, hb, mapO, mOb]
theorem run_getObjM {m : Nat} {b : Bool} {L : Mp} (hb : w.heap[m]? = some (mapO b L)) : (getObj m).run P w = .ok (.map ((ents L).map (mEn b)).toArray L.length) w := by
  simp [getObj, Sem.run, hb, mapO, mOb]
theorem entA_get (b : Bool) (L : Mp) (i : Nat) : (((ents L).map (mEn b)).toArray)[i]? = L[i]?.map fun p => mEn b (p.1, p.2, i) := by
  simp only [List.getElem?_toArray, List.getElem?_map, ents_get, Option.map_map]
  rfl
theorem run_mapEntry_old {t : TypeId} {b : Bool} {k m i : Nat} {z : Value} {L : Mp} {x : List Int} (h : mpt P t = some (b, k, z)) (hb : w.heap[m]? = some (mapO b L)) (hx : x.length = k) (hL : ∀ p ∈ L, p.1.length = k) (hp : plc x L 0 = some i) :
    (Instr.mapEntry t (.map (some m)) (vOf b x)).run P w = .ok (.tuple #[vat L i, goInt i]) { w with heap := w.heap.setIfInBounds m (mapO b L) } := by
  obtain ⟨kt, et, hu, h1, h2, h3⟩ := mpt_to h
  subst h2
  have hc := fun em => run_checkK em h1 hx w
  have hf := run_findK (w := w) h1 hx L hL
  rw [hp] at hf
  obtain ⟨_, p, q1, q2⟩ := plc_get hp
  rw [Nat.sub_zero] at q1
  have e1 : ((((ents L).map (mEn (agB P kt))).toArray)[i]?.map (·.key)).getD (vOf (agB P kt) x) = vOf (agB P kt) x := by
    rw [entA_get, q1]; simp [mEn, q2]
  have e2 : ((((ents L).map (mEn (agB P kt))).toArray)[i]?.map (fun e => (e.born : Int))).getD 0 = (i : Int) := by
    rw [entA_get, q1]; simp [mEn]
  have e3 : (((ents L).map (mEn (agB P kt))).toArray).modify i (fun e => { e with key := vOf (agB P kt) x }) = ((ents L).map (mEn (agB P kt))).toArray := by
    apply Array.ext_getElem?
    intro j
    rw [Array.getElem?_modify]
    split
    · rename_i hij
      subst hij
      rw [entA_get, q1]
      simp [mEn, q2]
    · rfl
  simp only [Instr.mapEntry, Sem.run_bind, run_underlying hu, Result.andThen_ok, run_getObjM hb, hc, hf, Option.map_some, e1, Instr.keyThatStays, sameBits_vOf, if_true, Sem.run_pure, e3, run_setObjM _ hb, e2]
  rfl
theorem run_mapEntry_new {t : TypeId} {b : Bool} {k m : Nat} {z : Value} {L : Mp} {x : List Int} (h : mpt P t = some (b, k, z)) (hb : w.heap[m]? = some (mapO b L)) (hx : x.length = k) (hL : ∀ p ∈ L, p.1.length = k) (hp : plc x L 0 = none) :
    (Instr.mapEntry t (.map (some m)) (vOf b x)).run P w = .ok (.tuple #[z, goInt L.length]) { w with heap := w.heap.setIfInBounds m (mapO b (L ++ [(x, z)])) } := by
  obtain ⟨kt, et, hu, h1, h2, h3⟩ := mpt_to h
  subst h2
  have hc := fun em => run_checkK em h1 hx w
  have hf := run_findK (w := w) h1 hx L hL
  rw [hp] at hf
  have e4 : mapO (agB P kt) (L ++ [(x, z)]) = .map ((((ents L).map (mEn (agB P kt))).toArray).push { key := vOf (agB P kt) x, val := z, born := L.length }) (L.length + 1) := by
    simp [mapO, mOb, ents_snoc, mEn]
  simp only [Instr.mapEntry, Sem.run_bind, run_underlying hu, Result.andThen_ok, run_getObjM hb, hc, hf, Option.map_none, h3, run_setObjM _ hb, Sem.run_pure, e4]
theorem run_entryStore {t : TypeId} {b : Bool} {m i : Nat} {L : Mp} {v : Value} (hb : w.heap[m]? = some (mapO b L)) (hi : i < L.length) :
    (Instr.entryStore t (.map (some m)) (goInt i) v).run P w = .ok () { w with heap := w.heap.setIfInBounds m (mapO b (L.put i v)) } := by
  have e1 : (((ents L).map (mEn b)).toArray).findIdx? (fun e => (e.born : Int) == (i : Int)) = some i := by
    rw [Array.findIdx?_eq_some_iff_getElem]
    refine ⟨by simpa [ents_length] using hi, ?_, ?_⟩
    · have h1 := entA_get b L i
      rw [Array.getElem?_eq_getElem (by simpa [ents_length] using hi), List.getElem?_eq_getElem hi] at h1
      simp only [Option.map_some, Option.some.injEq] at h1
      rw [h1]; simp [mEn]
    · intro j hj
      have hj' : j < L.length := by omega
      have h1 := entA_get b L j
      rw [Array.getElem?_eq_getElem (by simpa [ents_length] using hj'), List.getElem?_eq_getElem hj'] at h1
      simp only [Option.map_some, Option.some.injEq] at h1
      rw [h1]; simp [mEn]; omega
  have e2 : (((ents L).map (mEn b)).toArray).modify i (fun e => { e with val := v }) = ((ents (L.put i v)).map (mEn b)).toArray := by
    apply Array.ext_getElem?
    intro j
    rw [Array.getElem?_modify, entA_get, entA_get]
    unfold Mp.put
    rw [List.getElem?_set]
    by_cases hij : i = j
    · subst hij
      rw [if_pos rfl, if_pos rfl, if_pos hi, List.getElem?_eq_getElem hi]
      simp [mEn]
    · rw [if_neg hij, if_neg hij]
  have e3 : (L.put i v).length = L.length := by simp [Mp.put]
  have e4 : mapO b (L.put i v) = .map ((((ents L).map (mEn b)).toArray).modify i (fun e => { e with val := v })) L.length := by
    rw [e2]; simp [mapO, mOb, e3]
  have ea : (asInt (goInt (i : Int))).run P w = .ok (i : Int) w := by simp [asInt, goInt, asIntOf]
  simp only [Instr.entryStore, Sem.run_bind, Sem.run_pure, run_getObjM hb, Result.andThen_ok, ea, e1, run_setObjM _ hb, e4]
end
end Go.Proofs.Ytnbickholedckaa
