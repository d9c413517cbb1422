/- How a bundle that came in is opened. -/
import Derived.Test.YtiopaodiaokfdaaH2
import Derived.Test.YtiopaodiaokfdaaClose
namespace Go.Proofs.Ytiopaodiaokfdaa
open Go.RowKit Go.ChangeShapes Go.WideShapes Go.ChangeAt

theorem agg_two {P : Program} {W : World} {base : Nat} {t : TypeId} {v : Value} {f0 f1 : Field} (ht : P.underlying t = some (.struct #[f0, f1])) (h : Value.okWide P W .any base t v) : ∃ cs, v = .agg cs := by
  unfold Value.okWide at h
  rw [ht] at h
  obtain ⟨cs, rfl, _⟩ := h
  exact ⟨cs, rfl⟩
set_option maxRecDepth 100000 in
theorem open_bundle {H : Type} {enc : TypeId × Value → H} {W : World} {base : Nat} {v : Value} {d : DataW H} {p : List MemPlace} (hv : Value.okWide Try.prog W .any base 24 v) (h : DataW.Trod enc Try.prog W 0 (fun _ => true) true 24 v d p) :
    ∃ (o1 o2 : Option Addr) (c1 c2 : Nat) (r g : List Int), v = bv o1 o2 r.length g.length c1 c2 ∧ Sl W.heap.size W [] o1 r ∧ Sl W.heap.size W [] o2 g ∧ (∀ y ∈ r, InI y) ∧ (∀ y ∈ g, InI y) := by
  obtain ⟨cs, rfl⟩ := agg_two Try.underlying24 hv
  obtain ⟨fuel, h⟩ := h
  obtain ⟨y0, y1, n, _, hl, h0, h1⟩ := trod_struct2 Try.underlying24 h
  have hc : Try.prog.cellsOf 24 = 2 := by kernel_rfl
  have hc2 : Try.prog.cellsOf 22 = 1 := by kernel_rfl
  dsimp only at h0 h1
  rw [hc2] at h0 h1
  rw [hc] at hl
  obtain ⟨o1, c1, r, e1, s1, _, i1⟩ := open_sl Try.underlying22 h0
  obtain ⟨o2, c2, g, e2, s2, _, i2⟩ := open_sl Try.underlying22 h1
  refine ⟨o1, o2, c1, c2, r, g, ?_, s1, s2, i1, i2⟩
  simp only [Value.cells] at hl e1 e2
  have : cs.toList = [.slice o1 r.length c1, .slice o2 g.length c2] := by
    generalize cs.toList = l at *
    match l, hl with
    | [a, b], _ =>
      simp at e1 e2
      simp [e1, e2]
  unfold bv
  rw [← this]
end Go.Proofs.Ytiopaodiaokfdaa
