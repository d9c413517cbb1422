/- A cut, plain: the measures and the lengths of the loops stay. -/
import Derived.Test.YtnbickholedckaaMC72
import Derived.Test.YtnbickholedckaaMC46
import Derived.Test.YtnbickholedckaaMC81
namespace Go.Proofs.Ytnbickholedckaa
open Go.RowKit
section
variable {ps : List Pc} {sm : List Int} {m : Nat} {e : Int} {p i j s : Nat} {z w : Int}
theorem SpX.pa (X : SpX ps sm m e p i j s z w) : paC (spP ps p i j z w) (spM ps sm m p i j) (m + 1) = paC ps sm m := by
  have := cut_parts (z := z) X.c X.V.okS
  unfold paC
  rw [X.sd, X.len, X.smL]
  exact this
theorem SpX.lp (X : SpX ps sm m e p i j s z w) : (lpsC (spP ps p i j z w) (spM ps sm m p i j) (m + 1)).length = (lpsC ps sm m).length := by
  have h1 := X.cut.loops X.V.net
  unfold lpsC
  rw [lpsL_len, lpsL_len, X.n2]
  exact h1
theorem SpX.eu (X : SpX ps sm m e p i j s z w) : euC (spP ps p i j z w) (spM ps sm m p i j) (m + 1) = euC ps sm m := by
  have h1 := X.cut.loops X.V.net
  have h2 := X.cut.cyc X.V.net
  have h3 := X.V.net.count
  have h4 := X.vd.net.count
  have h5 : frN (nC ps) (muC ps sm m) + 2 * m = nC ps := by have := X.V.okS.free; rw [smL_len] at this; exact this
  have h6 : frN (nC (spP ps p i j z w)) (muC (spP ps p i j z w) (spM ps sm m p i j) (m + 1)) + 2 * (m + 1) = nC (spP ps p i j z w) := by have := X.vd.okS.free; rw [smL_len] at this; exact this
  have h7 : (ptsC ps sm m).length = ccE (nC ps) (ptE (nC ps) (nxC ps) (muC ps sm m)) := ptsL_len
  have h8 : (ptsC (spP ps p i j z w) (spM ps sm m p i j) (m + 1)).length = ccE (nC (spP ps p i j z w)) (ptE (nC (spP ps p i j z w)) (nxC (spP ps p i j z w)) (muC (spP ps p i j z w) (spM ps sm m p i j) (m + 1))) := ptsL_len
  unfold euC
  rw [h7, h8, X.len]
  rw [X.n2] at h4 h6 ⊢
  omega
theorem SpX.ha (X : SpX ps sm m e p i j s z w) : haC (spP ps p i j z w) (spM ps sm m p i j) (m + 1) = haC ps sm m := by
  unfold haC
  rw [X.pa, X.eu, X.lp]
theorem SpX.ms (X : SpX ps sm m e p i j s z w) : msV (spP ps p i j z w) (spM ps sm m p i j) (m + 1) e = msV ps sm m e := by
  have v1 := vdC_of X.vd
  have v2 := vdC_of X.V
  unfold msV
  rw [X.pa, X.eu, X.ha, v1, v2]
theorem SpX.hair (X : SpX ps sm m e p i j s z w) : (hrC ps sm m).Perm (hrC (spP ps p i j z w) (spM ps sm m p i j) (m + 1)) := by
  unfold hrC
  rw [X.n2]
  have hn := X.vd.net
  rw [X.n2] at hn
  refine X.cut.hair X.V.net hn fun a ha => ?_
  obtain ⟨q, t, g1, g2, g3, _, _, _, _, g4⟩ := nw_pl (z := z) X.c ha
  have e1 : ∀ (l : List Pc) (x : Nat), lnF l x = (sdF l (pcG (sdF l) l.length x)).getD (x - fsN (sdF l) (pcG (sdF l) l.length x)) 0 := fun l x => rfl
  obtain ⟨_, g5⟩ := plS (z := z) X.c g1 g2
  rw [e1, e1, X.sd, X.len, g3, g5, ← g4]
  congr 1
  omega
end
end Go.Proofs.Ytnbickholedckaa
