/- How a struct of two slices and two numbers is opened that came in. -/
import Derived.Test.YtphobgibcpmgdaaMClose2
namespace Go.Proofs.Ytphobgibcpmgdaa
open Go.RowKit Go.ChangeShapes Go.WideShapes Go.ChangeAt
section
variable {H : Type} {enc : TypeId × Value → H} {P : Program} {W : World}
def bdx (P : Program) (k j : Nat) (t : TypeId) : Bool := match P.underlying t with
  | some (.struct fs) => match fs[0]?, fs[1]?, fs[2]?, fs[3]? with
    | some f0, some f1, some f2, some f3 => f0.offset == 0 && f1.offset == 1 && f2.offset == 2 && f3.offset == 3 && P.cellsOf f0.type == 1 && P.cellsOf f1.type == 1 && P.cellsOf f2.type == 1 && P.cellsOf f3.type == 1 && P.cellsOf t == 4 && slf P 5 f0.type == some k && slf P 5 f1.type == some j && fl P 5 f2.type == some 1 && fl P 5 f3.type == some 1
    | _, _, _, _ => false
  | _ => false
theorem intsX {cs : List Value} (h : Ints 1 cs) : ∃ x, cs = [iv x] ∧ InI x := by
  obtain ⟨xs, rfl, h1, h2⟩ := h
  obtain ⟨x, rfl⟩ := len_1 h1
  exact ⟨x, rfl, h2 x (.head _)⟩
theorem opt_mixture {t : TypeId} {k j : Nat} {cs : List Value} (hb : bdx P k j t = true) (h : OpT enc P W t cs) :
    ∃ (o1 o2 : Option Addr) (n1 n2 c1 c2 : Nat) (r g : List Int) (x y : Int), cs = [.slice o1 n1 c1, .slice o2 n2 c2, iv x, iv y] ∧ r.length = n1 * k ∧ g.length = n2 * j ∧ InI x ∧ InI y ∧ Sl W.heap.size ⟨W, []⟩ [] o1 r ∧ Sl W.heap.size ⟨W, []⟩ [] o2 g := by
  unfold bdx at hb
  split at hb
  · rename_i fs hu
    split at hb
    · rename_i f0 f1 f2 f3 h0 h1 h2 h3
      simp only [Bool.and_eq_true, beq_iff_eq] at hb
      obtain ⟨⟨⟨⟨⟨⟨⟨⟨⟨⟨⟨⟨a0, a1⟩, a2⟩, a3⟩, b0⟩, b1⟩, b2⟩, b3⟩, b5⟩, b6⟩, b7⟩, b8⟩, b9⟩ := hb
      obtain ⟨hl, hf⟩ := opt_struct hu h
      have g0 := hf 0 f0 h0
      have g1 := hf 1 f1 h1
      have g2 := hf 2 f2 h2
      have g3 := hf 3 f3 h3
      rw [a0, b0] at g0
      rw [a1, b1] at g1
      rw [a2, b2] at g2
      rw [a3, b3] at g3
      rw [b5] at hl
      obtain ⟨x, y, z, w, rfl⟩ := len_4 hl
      obtain ⟨e0, u0, k0⟩ := slf_to b6
      obtain ⟨e1, u1, k1⟩ := slf_to b7
      obtain ⟨o1, n1, c1, r, q1, q2, q3, q4, q5, q6⟩ := opt_ints u0 k0 g0
      obtain ⟨o2, n2, c2, g, p1, p2, p3, p4, p5, p6⟩ := opt_ints u1 k1 g1
      obtain ⟨x2, i2, j2⟩ := intsX (opt_flat _ _ _ _ b8 g2)
      obtain ⟨x3, i3, j3⟩ := intsX (opt_flat _ _ _ _ b9 g3)
      simp at q1 p1 i2 i3
      exact ⟨o1, o2, n1, n2, c1, c2, r, g, x2, x3, by rw [q1, p1, i2, i3], q2, p2, j2, j3, q6, p6⟩
    · cases hb
  · cases hb
theorem bdx_ag {t : TypeId} {k j : Nat} (hb : bdx P k j t = true) : agB P t = true := by
  unfold bdx at hb
  unfold agB
  split at hb
  · rename_i hu; rw [hu]
  · cases hb
theorem arg_mixture {base : Nat} {t : TypeId} {k j : Nat} {v : Value} {d : DataW H} {p : List MemPlace} (hb : bdx P k j t = true) (hv : Value.okWide P W .any base t v) (h : DataW.Trod enc P W 0 (fun _ => true) true t v d p) :
    ∃ (o1 o2 : Option Addr) (n1 n2 c1 c2 : Nat) (r g : List Int) (x y : Int), v = .agg #[.slice o1 n1 c1, .slice o2 n2 c2, iv x, iv y] ∧ r.length = n1 * k ∧ g.length = n2 * j ∧ InI x ∧ InI y ∧ Sl W.heap.size ⟨W, []⟩ [] o1 r ∧ Sl W.heap.size ⟨W, []⟩ [] o2 g := by
  obtain ⟨cs, rfl⟩ := val_agg (bdx_ag hb) hv
  obtain ⟨o1, o2, n1, n2, c1, c2, r, g, x, y, e, hh⟩ := opt_mixture hb (OpT.of h)
  exact ⟨o1, o2, n1, n2, c1, c2, r, g, x, y, by simp only [Value.cells] at e; rw [← e], hh⟩
end
end Go.Proofs.Ytphobgibcpmgdaa
