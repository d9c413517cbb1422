/- How a fraction and a row that came in are opened. -/
import Derived.Test.YtlijcnocahplbaaK1
import Derived.Test.YtlijcnocahplbaaClose
namespace Go.Proofs.Ytlijcnocahplbaa
open Go.RowKit Go.ChangeShapes Go.WideShapes Go.ChangeAt

theorem int_cells {H : Type} {enc : TypeId × Value → H} {W : World} {fuel : Nat} {cs : List Value} {x : DataW H × List MemPlace} (h : DataW.trod enc Try.prog W 0 (fun _ => true) true fuel 3 cs = some x) : ∃ z, cs = [iv z] ∧ InI z := by
  obtain ⟨z, h1, _, h2⟩ := DataW.trod_int Try.underlying3 h
  exact ⟨z, h1, wf_in h2⟩
set_option maxRecDepth 100000 in
theorem rat_cells {H : Type} {enc : TypeId × Value → H} {W : World} {fuel : Nat} {cs : List Value} {x : DataW H × List MemPlace} (h : DataW.trod enc Try.prog W 0 (fun _ => true) true fuel 23 cs = some x) : ∃ p q, cs = [iv p, iv q] ∧ InI p ∧ InI q := by
  obtain ⟨y0, y1, n, _, hl, h0, h1⟩ := trod_struct2 Try.underlying23 h
  have hc : Try.prog.cellsOf 23 = 2 := by kernel_rfl
  have hc2 : Try.prog.cellsOf 3 = 1 := by kernel_rfl
  dsimp only at h0 h1
  rw [hc2] at h0 h1
  rw [hc] at hl
  obtain ⟨p, e1, i1⟩ := int_cells h0
  obtain ⟨q, e2, i2⟩ := int_cells h1
  match cs, hl with
  | [a, b], _ =>
    simp at e1 e2
    exact ⟨p, q, by simp [e1, e2], i1, i2⟩
set_option maxRecDepth 100000 in
theorem row_cells {H : Type} {enc : TypeId × Value → H} {W : World} {fuel : Nat} {cs : List Value} {x : DataW H × List MemPlace} (h : DataW.trod enc Try.prog W 0 (fun _ => true) true fuel 25 cs = some x) : ∃ p q s t a z, cs = [iv p, iv q, iv s, iv t, iv a, iv z] ∧ InI p ∧ InI q ∧ InI s ∧ InI t ∧ InI a ∧ InI z := by
  obtain ⟨xs, n, _, _, hl, hlen, hf⟩ := DataW.trod_struct Try.underlying25 h
  have hc : Try.prog.cellsOf 25 = 6 := by kernel_rfl
  have hc1 : Try.prog.cellsOf 23 = 2 := by kernel_rfl
  have hc2 : Try.prog.cellsOf 3 = 1 := by kernel_rfl
  match xs, hlen with
  | [x0, x1, x2, x3], _ =>
    have h0 : DataW.trod enc Try.prog W 0 (fun _ => true) true n 23 ((cs.drop 0).take (Try.prog.cellsOf 23)) = some x0 := hf 0 _ rfl
    have h1 : DataW.trod enc Try.prog W 0 (fun _ => true) true n 23 ((cs.drop 2).take (Try.prog.cellsOf 23)) = some x1 := hf 1 _ rfl
    have h2 : DataW.trod enc Try.prog W 0 (fun _ => true) true n 3 ((cs.drop 4).take (Try.prog.cellsOf 3)) = some x2 := hf 2 _ rfl
    have h3 : DataW.trod enc Try.prog W 0 (fun _ => true) true n 3 ((cs.drop 5).take (Try.prog.cellsOf 3)) = some x3 := hf 3 _ rfl
    rw [hc1] at h0 h1
    rw [hc2] at h2 h3
    rw [hc] at hl
    obtain ⟨p, q, e0, i1, i2⟩ := rat_cells h0
    obtain ⟨s, t, e1, i3, i4⟩ := rat_cells h1
    obtain ⟨a, e2, i5⟩ := int_cells h2
    obtain ⟨z, e3, i6⟩ := int_cells h3
    match cs, hl with
    | [b0, b1, b2, b3, b4, b5], _ =>
      simp at e0 e1 e2 e3
      exact ⟨p, q, s, t, a, z, by simp [e0, e1, e2, e3], i1, i2, i3, i4, i5, i6⟩
end Go.Proofs.Ytlijcnocahplbaa
