/- A slice compared with nil; slices of two and three numbers written out in a drawn region. -/
import Derived.Laws.Cover3
import Derived.Test.YtnbickholedckaaMM8
import Derived.Test.YtnbickholedckaaMStep
namespace Go.Proofs.Ytnbickholedckaa
open Go.RowKit
section
variable {P : Program} {n : NN} {B : Nat} {w0 : Wd} {fr : FR} {hs : HS} {ty : TypeId}
theorem run_eqN {t e : TypeId} {oa : Option Addr} {m c : Nat} (hu : P.underlying t = some (.slice e)) (w : World) : (Op.equal t (.slice oa m c) (.slice none 0 0)).run P w = .ok oa.isNone w := run_equal_slice_nil w t e oa m c hu
theorem o_eqlN {t t' : TypeId} {x y : Operand} {b : Bool} {k m c : Nat} {oa : Option Addr} (ht : sc P t = some (b, k)) (hx : opv fr x = some (.slice oa m c)) (hy : opv fr y = some (.slice none 0 0)) : OpF P n B w0 (.binOp .eql t x y t') ty fr hs (.bool oa.isNone) := fun a w ha _ => by
  obtain ⟨e, hu, _⟩ := sc_el ht
  simp only [ex, execOp, ha.opv hx, ha.opv hy, Sem.run_bind]
  have : (eqGuard .eql t x y (.slice oa m c) (.slice none 0 0)).run P w = .ok () w := rfl
  rw [this]
  simp [binOp, run_eqN hu]
end
section
variable {P : Program} {n : NN} {B : Nat} {w0 : Wd} {fr : FR} {hs S : HS} {ty : TypeId} {K : Act → World → Prop} {ops : Array Oper} {l : List Oper} {d : Nat} {fl : List Nat} {pos : String} {aft : Array Edge} {v u r : Value}
theorem k_bs2 {t : TypeId} {x y : Operand} {z : List Value} {b : Bool} (hx : opv fr x = some v) (hy : opv fr y = some u) (h1 : v.cells = #[v]) (h2 : u.cells = #[u]) (ht : sc P t = some (b, 1)) (hz : zs P t = some z.toArray) (hn : d < n.n)
    (h : ∀ bb, Rk P n B w0 ops K fl l S ((d, .slice (some ⟨bb, 0, none⟩) 2 2) :: fr) ((bb, [v, u]) :: hs)) :
    Rk P n B w0 ops K (2 :: fl) (⟨some d, .buildSlice t 2 #[(0, x), (1, y)], ty, pos, aft, none⟩ :: l) S fr hs := k_new (some 2) rfl rfl (fun a ha => by
  have := run_bslice (P := P) (d := d) (ty := ty) (pos := pos) (aft := aft) (t := t) (xs := [(0, x), (1, y)]) (vs := [v, u]) (by simp [partv, hx, hy, enumV]) ht hz rfl ⟨by show v.cells.size = 1; rw [h1]; rfl, by show u.cells.size = 1; rw [h2]; rfl, trivial⟩ (by simp) ha
  rw [show flatV [v, u] = [v, u] by simp [flatV, h1, h2]] at this
  exact this) hn h
theorem k_bs3 {t : TypeId} {x y q : Operand} {z : List Value} {b : Bool} (hx : opv fr x = some v) (hy : opv fr y = some u) (hq : opv fr q = some r) (h1 : v.cells = #[v]) (h2 : u.cells = #[u]) (h3 : r.cells = #[r]) (ht : sc P t = some (b, 1)) (hz : zs P t = some z.toArray) (hn : d < n.n)
    (h : ∀ bb, Rk P n B w0 ops K fl l S ((d, .slice (some ⟨bb, 0, none⟩) 3 3) :: fr) ((bb, [v, u, r]) :: hs)) :
    Rk P n B w0 ops K (2 :: fl) (⟨some d, .buildSlice t 3 #[(0, x), (1, y), (2, q)], ty, pos, aft, none⟩ :: l) S fr hs := k_new (some 3) rfl rfl (fun a ha => by
  have := run_bslice (P := P) (d := d) (ty := ty) (pos := pos) (aft := aft) (t := t) (xs := [(0, x), (1, y), (2, q)]) (vs := [v, u, r]) (by simp [partv, hx, hy, hq, enumV]) ht hz rfl ⟨by show v.cells.size = 1; rw [h1]; rfl, by show u.cells.size = 1; rw [h2]; rfl, by show r.cells.size = 1; rw [h3]; rfl, trivial⟩ (by simp) ha
  rw [show flatV [v, u, r] = [v, u, r] by simp [flatV, h1, h2, h3]] at this
  exact this) hn h
end
end Go.Proofs.Ytnbickholedckaa
