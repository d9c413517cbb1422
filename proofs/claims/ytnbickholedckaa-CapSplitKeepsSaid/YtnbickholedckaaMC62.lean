/- The measures of a cap elsewhere; equality of measures. -/
import Derived.Test.YtnbickholedckaaMC50
import Derived.Test.YtnbickholedckaaMC46
import Derived.Test.YtnbickholedckaaMC81
namespace Go.Proofs.Ytnbickholedckaa
open Go.RowKit
attribute [local irreducible] OpF Ld CellAt Sl Sv usP
theorem eq62 : eqt Try.prog 62 = some 5 := by kernel_rfl
theorem o_eqS {n : NN} {B : Nat} {w0 : Wd} {fr : FR} {hs : HS} {ty t' : TypeId} {x y : Operand} {xs : List Int} (hx : opv fr x = some (.agg (ivs xs).toArray)) (hy : opv fr y = some (.agg (ivs xs).toArray)) (h : xs.length = 5) : OpF Try.prog n B w0 (.binOp .eql 62 x y t') ty fr hs (.bool true) := by
  have := o_eqlA (n := n) (B := B) (w0 := w0) (hs := hs) (ty := ty) (t' := t') eq62 hx hy h h
  rwa [decide_eq_true rfl] at this
theorem SmP.ms {qs ps : List Pc} (h : SmP qs ps) (sm : List Int) (m : Nat) (e : Int) : msV qs sm m e = msV ps sm m e := by
  have e0 : agF qs = agF ps := funext fun x => by
    have hh : agF ps x = (anF ps (pcG (sdF ps) ps.length x)).getD (x - fsN (sdF ps) (pcG (sdF ps) ps.length x)) 0 := rfl
    have hg : agF qs x = (anF qs (pcG (sdF qs) qs.length x)).getD (x - fsN (sdF qs) (pcG (sdF qs) qs.length x)) 0 := rfl
    rw [hh, hg, h.len, h.sd, h.an]
  have e1 : paC qs sm m = paC ps sm m := by unfold paC; rw [h.len, h.sd]
  have e2 : nC qs = nC ps := by unfold nC; rw [h.len, h.sd]
  have e3 : nxC qs = nxC ps := by unfold nxC; rw [h.len, h.sd]
  have e4 : muC qs sm m = muC ps sm m := by unfold muC; rw [h.sd]
  have e5 : ptsC qs sm m = ptsC ps sm m := by unfold ptsC; rw [e0, e2, e3, e4]
  have e6 : lpsC qs sm m = lpsC ps sm m := by unfold lpsC; rw [e2, e3, e4]
  have e7 : euC qs sm m = euC ps sm m := by unfold euC; rw [e5, e2, h.len]
  have e8 : haC qs sm m = haC ps sm m := by unfold haC; rw [e1, e7, e6]
  unfold msV
  rw [e1, e7, e8, h.vd]
theorem SmP.hr {qs ps : List Pc} (h : SmP qs ps) (sm : List Int) (m : Nat) : hrC qs sm m = hrC ps sm m := by
  have e2 : nC qs = nC ps := by unfold nC; rw [h.len, h.sd]
  have e3 : nxC qs = nxC ps := by unfold nxC; rw [h.len, h.sd]
  have e4 : muC qs sm m = muC ps sm m := by unfold muC; rw [h.sd]
  have e9 : lnF qs = lnF ps := funext fun x => by
    have a1 : ∀ l : List Pc, lnF l x = (sdF l (pcG (sdF l) l.length x)).getD (x - fsN (sdF l) (pcG (sdF l) l.length x)) 0 := fun l => rfl
    rw [a1, a1, h.len, h.sd]
  unfold hrC; rw [e2, e3, e4, e9]
end Go.Proofs.Ytnbickholedckaa
