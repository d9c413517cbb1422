/- Maps in the walk: the rules. -/
import Derived.Test.YtnbickholedckaaMM4
namespace Go.Proofs.Ytnbickholedckaa
open Go.RowKit

theorem UpdM.refl {m : Nat} {o : Obj} : ∀ {ms : List (Nat × Obj)}, (m, o) ∈ ms → UpdM m o o ms ms
  | p :: ms, h => by
    rcases List.mem_cons.1 h with h | h
    · subst h; exact .head _
    · exact .tail _ (UpdM.refl h)
theorem mapO_not (b : Bool) (L : Mp) : notCells (mapO b L) = true := rfl
section
variable {P : Program} {n : NN} {B : Nat} {w0 : Wd} {fr : FR} {hs S : HS} {ty : TypeId} {K : Act → World → Prop} {ops : Array Oper} {l : List Oper} {d f : Nat} {fl : List Nat} {pos : String} {aft : Array Edge}
theorem Hp.map {w : World} (h : Hp B w0 w hs) {m : Nat} {b : Bool} {L : Mp} (hm : (m, mapO b L) ∈ w0.ms) : w.heap[m]? = some (mapO b L) := (h.obj _ hm).2.1
theorem s_makeMap {t : TypeId} (b : Bool) (hn : d < n.n) (h : ∀ m, Sat n B ⟨w0.w, (m, mapO b []) :: w0.ms⟩ (sl P ops K l) ((d, .map (some m)) :: fr) hs) :
    Sat n B w0 (sl P ops K (⟨some d, .makeMap t none, ty, pos, aft, none⟩ :: l)) fr hs := sat_mk fun a w ha hw => by
  have h4 := sat_el (h w.heap.size) _ _ (ha.put hn _) (hw.newObj (mapO_not b []))
  unfold sl
  rw [if_pos (by simp [Region.wanted])]
  unfold Oper.wp
  have : (execOp a.eval ⟨some d, .makeMap t none, ty, pos, aft, none⟩).run P w = .ok (.value (.map (some w.heap.size))) (w.alloc (mapO b [])) := by
    simp [execOp, Instr.makeMap, mapO, mOb, ents]
  rw [this]
  exact h4
theorem o_lookup {t : TypeId} {xm xk : Operand} {b : Bool} {k m : Nat} {z : Value} {L : Mp} {x : List Int} (h : mpt P t = some (b, k, z)) (h1 : opv fr xm = some (.map (some m))) (h2 : opv fr xk = some (vOf b x)) (hm : (m, mapO b L) ∈ w0.ms) (hx : x.length = k) (hL : ∀ p ∈ L, p.1.length = k) :
    OpF P n B w0 (.lookup t xm xk false) ty fr hs (lkp L x z) := fun a w ha hw => by
  have := run_lookup (w := w) h (hw.map hm) hx hL
  simp [ex, execOp, ha.opv h1, ha.opv h2, this]
theorem run_me {t : TypeId} {xm xk : Operand} {b : Bool} {k m : Nat} {z : Value} {L : Mp} {x : List Int} {a : Act} {w : World} (h : mpt P t = some (b, k, z)) (ha : Fr n a fr) (h1 : opv fr xm = some (.map (some m))) (h2 : opv fr xk = some (vOf b x)) (hw : Hp B w0 w hs) (hm : (m, mapO b L) ∈ w0.ms) (hx : x.length = k) (hL : ∀ p ∈ L, p.1.length = k) (dst : Option Nat) :
    ∃ v L', ((∃ i, plc x L 0 = some i ∧ v = .tuple #[vat L i, goInt i] ∧ L' = L) ∨ (plc x L 0 = none ∧ v = .tuple #[z, goInt L.length] ∧ L' = L ++ [(x, z)])) ∧ (execOp a.eval ⟨dst, .mapEntry t xm xk, ty, pos, aft, none⟩).run P w = .ok (.value v) { w with heap := w.heap.setIfInBounds m (mapO b L') } := by
  cases hp : plc x L 0 with
  | some i =>
    have := run_mapEntry_old (w := w) h (hw.map hm) hx hL hp
    exact ⟨_, L, .inl ⟨i, rfl, rfl, rfl⟩, by simp [execOp, ha.opv h1, ha.opv h2, this]⟩
  | none =>
    have := run_mapEntry_new (w := w) h (hw.map hm) hx hL hp
    exact ⟨_, _, .inr ⟨rfl, rfl, rfl⟩, by simp [execOp, ha.opv h1, ha.opv h2, this]⟩
/-- The entry of a key: in a region that draws, where all else waits. -/
theorem k_mapEntry {t : TypeId} {xm xk : Operand} {b : Bool} {k m : Nat} {z : Value} {L : Mp} {x : List Int} (h : mpt P t = some (b, k, z)) (h1 : opv fr xm = some (.map (some m))) (h2 : opv fr xk = some (vOf b x)) (hm : (m, mapO b L) ∈ w0.ms) (hx : x.length = k) (hL : ∀ p ∈ L, p.1.length = k) (hn : d < n.n)
    (ho : ∀ i, plc x L 0 = some i → Rk P n B w0 ops K fl l hs ((d, .tuple #[vat L i, goInt i]) :: fr) hs)
    (hnw : plc x L 0 = none → ∀ ms', UpdM m (mapO b L) (mapO b (L ++ [(x, z)])) w0.ms ms' → Rk P n B ⟨w0.w, ms'⟩ ops K fl l hs ((d, .tuple #[z, goInt L.length]) :: fr) hs)
    {ms' : List (Nat × Obj)} (hu : UpdM m (mapO b L) (mapO b (L ++ [(x, z)])) w0.ms ms') :
    Rk P n B w0 ops K (5 :: fl) (⟨some d, .mapEntry t xm xk, ty, pos, aft, none⟩ :: l) S fr hs := by
  refine k_effW (R := fun v w1 y => y = hs ∧ ((∃ i, plc x L 0 = some i ∧ v = .tuple #[vat L i, goInt i] ∧ w1 = w0) ∨ (plc x L 0 = none ∧ v = .tuple #[z, goInt L.length] ∧ w1 = ⟨w0.w, ms'⟩))) rfl (fun a ha F w hw => ?_) ?_
  · obtain ⟨v, L', hv, hrun⟩ := run_me (P := P) (ty := ty) (pos := pos) (aft := aft) h ha h1 h2 hw hm hx hL (some d)
    rw [hrun]
    rcases hv with ⟨i, e1, e2, e3⟩ | ⟨e1, e2, e3⟩
    · subst e3
      exact ⟨w0, hs, ⟨rfl, .inl ⟨i, e1, e2, rfl⟩⟩, hw.setObj (UpdM.refl hm) (mapO_not _ _)⟩
    · subst e3
      exact ⟨_, hs, ⟨rfl, .inr ⟨e1, e2, rfl⟩⟩, hw.setObj hu (mapO_not _ _)⟩
  · rintro a ha v w1 y ⟨rfl, hv⟩
    rcases hv with ⟨i, e1, rfl, rfl⟩ | ⟨e1, rfl, rfl⟩
    · have := ho i e1
      unfold Rk at this
      exact this _ (ha.put hn _)
    · have := hnw e1 ms' hu
      unfold Rk at this
      exact this _ (ha.put hn _)
/-- A value is stored into an entry. -/
theorem k_entryStore {t : TypeId} {xm xs xv : Operand} {b : Bool} {m i : Nat} {L : Mp} {v : Value} {ms' : List (Nat × Obj)} (h1 : opv fr xm = some (.map (some m))) (h2 : opv fr xs = some (goInt i)) (h3 : opv fr xv = some v) (hi : i < L.length) (hu : UpdM m (mapO b L) (mapO b (L.put i v)) w0.ms ms')
    (h : Rk P n B ⟨w0.w, ms'⟩ ops K fl l hs fr hs) :
    Rk P n B w0 ops K (5 :: fl) (⟨none, .entryStore t xm xs xv, ty, pos, aft, none⟩ :: l) S fr hs := by
  refine k_effW (R := fun _ w1 y => y = hs ∧ w1 = ⟨w0.w, ms'⟩) rfl (fun a ha F w hw => ?_) ?_
  · have h4 := run_entryStore (P := P) (t := t) (v := v) (hw.map hu.mem) hi
    have hrun : (execOp a.eval ⟨none, .entryStore t xm xs xv, ty, pos, aft, none⟩).run P w = .ok .skip { w with heap := w.heap.setIfInBounds m (mapO b (L.put i v)) } := by
      simp [execOp, ha.opv h1, ha.opv h2, ha.opv h3, h4]
    rw [hrun]
    exact ⟨_, hs, ⟨rfl, rfl⟩, hw.setObj hu (mapO_not _ _)⟩
  · rintro a ha v' w1 y ⟨rfl, rfl⟩
    unfold Rk at h
    have : a.put none v' = a := by simp [Act.put]
    rw [this]
    exact h a ha
end
end Go.Proofs.Ytnbickholedckaa
