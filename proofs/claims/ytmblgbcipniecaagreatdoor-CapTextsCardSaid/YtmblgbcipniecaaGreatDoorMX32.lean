/- strings.Builder as two objects of memory; calls that change what is known of objects. -/
import Derived.Shelf.Strings.Builder1
import Derived.Lib.AppendStr
import Derived.Lib.UnsafeStr
import Derived.Test.YtmblgbcipniecaaGreatDoorMX30
import Derived.Test.YtmblgbcipniecaaGreatDoorMX2
import Derived.Test.YtmblgbcipniecaaGreatDoorMX31
import Derived.Test.YtmblgbcipniecaaGreatDoorMA2
namespace Go.Proofs.YtmblgbcipniecaaGreatDoor
open Go.RowKit Go.Shelf
section
variable {P : Program} {n : NN} {B : Nat} {w0 : Wd} {fr : FR} {hs hs' : HS} {ty : TypeId} {K : Act → World → Prop} {ops : Array Oper} {l : List Oper} {d : Nat} {pos : String} {aft : Array Edge}
/-- How a call may end that changes objects. -/
def EndsW (B : Nat) (R : Value → Wd → HS → Prop) (e : Ending) (w' : World) : Prop := ∃ v w1 h, e = .returned v ∧ R v w1 h ∧ Hp B w1 w' h
def FnW (P : Program) (f : Nat) (args : Array Value) (B : Nat) (w0 : Wd) (hs : HS) (R : Value → Wd → HS → Prop) : Prop := ∀ w, Hp B w0 w hs → Calls P f args w (EndsW B R)
theorem fn_enterW {k0 : Nat} {f : Nat} {fn : Func} {c : Code} {args : List Value} {R : Value → Wd → HS → Prop} (hf : P.funcs[f]? = some fn) (hb : fn.body = some c) (hn : fn.ntmps = k0) (hl : args.length ≤ k0)
    (h : Sat ⟨k0, []⟩ B w0 (c.wp P (bodyPost P fn (EndsW B R))) (slots 0 args) hs) : FnW P f args.toArray B w0 hs R := fun w hw => by
  refine calls_of_wp hf hb (sat_el h _ w ⟨?_, rfl, ?_⟩ hw)
  · simp [hn]; omega
  · intro t v hv
    obtain ⟨_, h2⟩ := get_slots args 0 t v hv
    simp only [Nat.sub_zero] at h2
    have ht : t < args.length := (List.getElem?_eq_some_iff.1 h2).1
    refine ⟨by show t < k0; omega, ?_⟩
    have h3 : t < args.length + (fn.ntmps - args.length) := by omega
    simp only [Array.getD]
    rw [dif_pos (by simpa using h3)]
    simp only [Array.getInternal_eq_getElem]
    rw [Array.getElem_append_left (by simpa using ht)]
    simpa using (List.getElem?_eq_some_iff.1 h2).2
theorem e_retW0 {fn : Func} {R : Value → Wd → HS → Prop} (hr : fn.results = #[]) (hR : R (.tuple #[]) w0 hs') (hsub : hs'.Sublist hs) (hd0 : n.ds = [] := by rfl) : Sat n B w0 (bodyPost P fn (EndsW B R) .normal) fr hs := sat_mk fun a w ha hw => by
  refine ⟨ha.defers.trans hd0, .tuple #[], ?_, _, w0, hs', rfl, hR, hw.sub hsub⟩
  simp [results, hr]
theorem e_retW1 {fn : Func} {R : Value → Wd → HS → Prop} {r : ResultVar} {v : Value} (hr : fn.results = #[r]) (h1 : RV P B w0 fr hs r v) (hR : R v w0 hs') (hsub : hs'.Sublist hs) (hd0 : n.ds = [] := by rfl) : Sat n B w0 (bodyPost P fn (EndsW B R) .ret) fr hs := sat_mk fun a w ha hw => by
  refine ⟨ha.defers.trans hd0, v, ?_, v, w0, hs', rfl, hR, hw.sub hsub⟩
  simp [results_rv1, hr, RV.run ha hw h1]
theorem e_retW2 {fn : Func} {R : Value → Wd → HS → Prop} {r s : ResultVar} {v u : Value} (hr : fn.results = #[r, s]) (h1 : RV P B w0 fr hs r v) (h2 : RV P B w0 fr hs s u) (hR : R (.tuple #[v, u]) w0 hs') (hsub : hs'.Sublist hs) (hd0 : n.ds = [] := by rfl) :
    Sat n B w0 (bodyPost P fn (EndsW B R) .ret) fr hs := sat_mk fun a w ha hw => by
  refine ⟨ha.defers.trans hd0, .tuple #[v, u], ?_, _, w0, hs', rfl, hR, hw.sub hsub⟩
  simp [results_rv1, hr, RV.run ha hw h1, RV.run ha hw h2]
theorem s_callW {f : Nat} {xs : List Operand} {vs : List Value} {ts : Array TypeId} {R : Value → Wd → HS → Prop} (hf : isGo P f = true) (hv : argv fr xs = some vs) (hc : FnW P f vs.toArray B w0 hs R) (hn : d < n.n)
    (h : ∀ v w1 hs', R v w1 hs' → Sat n B w1 (sl P ops K l) ((d, v) :: fr) hs') :
    Sat n B w0 (sl P ops K (⟨some d, .call { callee := .value (.func f), args := xs.toArray, argTypes := ts }, ty, pos, aft, none⟩ :: l)) fr hs := sat_mk fun a w ha hw => by
  refine sl_step rfl ?_
  unfold Oper.wp
  rw [run_call hf ha hv (some d) w]
  refine (hc w hw).mono ?_
  rintro e w' ⟨v, w1, hs', rfl, hr, hw'⟩
  exact sat_el (h v w1 hs' hr) _ _ (ha.put hn v) hw'
theorem s_callFW {x : Operand} {g : Nat} {xs : List Operand} {vs fs cs us : List Value} {ts : Array TypeId} {R : Value → Wd → HS → Prop} (hf : isGo P g = true) (hx : opv fr x = some (.func (.func g) fs.toArray cs.toArray)) (hv : argv fr xs = some vs) (hu : fs ++ vs ++ cs = us) (hc : FnW P g us.toArray B w0 hs R) (hn : d < n.n)
    (h : ∀ v w1 hs', R v w1 hs' → Sat n B w1 (sl P ops K l) ((d, v) :: fr) hs') :
    Sat n B w0 (sl P ops K (⟨some d, .call { callee := .value x, args := xs.toArray, argTypes := ts }, ty, pos, aft, none⟩ :: l)) fr hs := sat_mk fun a w ha hw => by
  refine sl_step rfl ?_
  unfold Oper.wp
  rw [run_callF hf ha hx hv hu (some d) w]
  refine (hc w hw).mono ?_
  rintro e w' ⟨v, w1, hs', rfl, hr, hw'⟩
  exact sat_el (h v w1 hs' hr) _ _ (ha.put hn v) hw'
theorem s_effW {op : Op} (hn : d < n.n) (h : ∀ a w, Fr n a fr → Hp B w0 w hs → ∃ v w' w1, (execOp a.eval ⟨some d, op, ty, pos, aft, none⟩).run P w = .ok (.value v) w' ∧ Hp B w1 w' hs ∧ Sat n B w1 (sl P ops K l) ((d, v) :: fr) hs) :
    Sat n B w0 (sl P ops K (⟨some d, op, ty, pos, aft, none⟩ :: l)) fr hs := sat_mk fun a w ha hw => by
  obtain ⟨v, w', w1, h1, h2, h3⟩ := h a w ha hw
  refine sl_step rfl ?_
  unfold Oper.wp
  rw [h1]
  exact sat_el h3 _ _ (ha.put hn v) h2
theorem s_effN {op : Op} (h : ∀ a w, Fr n a fr → Hp B w0 w hs → ∃ w' w1, (execOp a.eval ⟨none, op, ty, pos, aft, none⟩).run P w = .ok .skip w' ∧ Hp B w1 w' hs ∧ Sat n B w1 (sl P ops K l) fr hs) :
    Sat n B w0 (sl P ops K (⟨none, op, ty, pos, aft, none⟩ :: l)) fr hs := sat_mk fun a w ha hw => by
  obtain ⟨w', w1, h1, h2, h3⟩ := h a w ha hw
  refine sl_step rfl ?_
  unfold Oper.wp
  rw [h1]
  exact sat_el h3 _ _ ha h2
/-! ### Objects that are rows of cells -/
theorem Hp.permM {w : World} {W : World} {ms ms' : List (Nat × Obj)} (h : Hp B ⟨W, ms⟩ w hs) (hp : ms.Perm ms') : Hp B ⟨W, ms'⟩ w hs :=
  ⟨h.below, h.big, h.mem, h.nodup, fun p hp2 => h.obj p (hp.mem_iff.2 hp2), (hp.map _).nodup_iff.1 h.ond⟩
theorem heap_setIf {w : World} {b : Nat} {o : Obj} {f : Obj → Obj} (hb : w.heap[b]? = some o) : w.heap.modify b f = w.heap.setIfInBounds b (f o) := by
  apply Array.ext_getElem?
  intro k
  rw [Array.getElem?_modify, Array.getElem?_setIfInBounds]
  have hlt := (Array.getElem?_eq_some_iff.1 hb).1
  by_cases h : b = k
  · subst h
    rw [if_pos rfl, if_pos rfl, if_pos hlt, hb]
    rfl
  · rw [if_neg h, if_neg h]
theorem Hp.setCellO {w : World} (h : Hp B w0 w hs) {b i : Nat} {cs : Array Value} {t : TypeId} {v : Value} {ms' : List (Nat × Obj)} (hu : UpdM b (.cells cs t (0, 0)) (.cells (cs.setIfInBounds i v) t (0, 0)) w0.ms ms') : Hp B ⟨w0.w, ms'⟩ (w.setCell ⟨b, i, none⟩ v) hs := by
  have h1 := (h.obj _ hu.mem).2.1
  have e : w.setCell ⟨b, i, none⟩ v = { w with heap := w.heap.setIfInBounds b (.cells (cs.setIfInBounds i v) t (0, 0)) } := by
    unfold World.setCell
    rw [heap_setIf h1]
    rfl
  rw [e]
  exact h.setObjA hu
theorem Hp.setRowO {w : World} (h : Hp B w0 w hs) {b : Nat} {cs cs' : Array Value} {t : TypeId} {ms' : List (Nat × Obj)} (hu : UpdM b (.cells cs t (0, 0)) (.cells cs' t (0, 0)) w0.ms ms') : Hp B ⟨w0.w, ms'⟩ (w.setRow b cs') hs := by
  have h1 := (h.obj _ hu.mem).2.1
  have e : w.setRow b cs' = { w with heap := w.heap.setIfInBounds b (.cells cs' t (0, 0)) } := by
    unfold World.setRow
    rw [heap_setIf h1]
  rw [e]
  exact h.setObjA hu
end
/-! ### The builder -/
def u8s (l : List UInt8) : List Value := l.map fun x => .int .u8 x.toNat
def bdO (b : Nat) (p v : Value) : Nat × Obj := (b, .cells #[p, v] (Tryz.lays166_ren.t 72) (0, 0))
def bdR (g : Nat) (l : List UInt8) (z : List Value) : Nat × Obj := (g, .cells (u8s l ++ z).toArray (Tryz.lays166_ren.t 5) (0, 0))
/-- The objects of a builder that holds these bytes. -/
inductive Bd (b : Nat) : List UInt8 → List (Nat × Obj) → Prop
  | fresh : Bd b [] [bdO b (.pointer none) (.slice none 0 0)]
  | used (g c : Nat) (l : List UInt8) (z : List Value) : l.length + z.length = c → c ≤ maxLen → Bd b l [bdO b (.pointer (some ⟨b, 0, none⟩)) (.slice (some ⟨g, 0, none⟩) l.length c), bdR g l z]
theorem u8s_len (l : List UInt8) : (u8s l).length = l.length := List.length_map _
theorem u8s_app (l s : List UInt8) : u8s (l ++ s) = u8s l ++ u8s s := List.map_append
theorem strC (s : List UInt8) : Go.Lib.strCells ⟨s.toArray⟩ = u8s s := by
  unfold Go.Lib.strCells u8s
  simp
end Go.Proofs.YtmblgbcipniecaaGreatDoor
