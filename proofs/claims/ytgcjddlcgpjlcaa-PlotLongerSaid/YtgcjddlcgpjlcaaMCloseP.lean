/- How plays and shops are opened that came in: a struct of a slice and two numbers, a struct of two slices with room. -/
import Derived.Test.YtgcjddlcgpjlcaaMClose2
namespace Go.Proofs.Ytgcjddlcgpjlcaa
open Go.RowKit Go.ChangeShapes Go.WideShapes Go.ChangeAt
section
variable {H : Type} {enc : TypeId × Value → H} {P : Program} {W : World}
def bdp (P : Program) (k : Nat) (t : TypeId) : Bool := match P.underlying t with
  | some (.struct fs) => match fs[0]?, fs[1]?, fs[2]? with
    | some f0, some f1, some f2 => f0.offset == 0 && f1.offset == 1 && f2.offset == 2 && P.cellsOf f0.type == 1 && P.cellsOf f1.type == 1 && P.cellsOf f2.type == 1 && P.cellsOf t == 3 && slf P 5 f0.type == some k && fl P 5 f1.type == some 1 && fl P 5 f2.type == some 1
    | _, _, _ => false
  | _ => false
theorem intsX {cs : List Value} (h : Ints 1 cs) : ∃ x, cs = [iv x] ∧ InI x := by
  obtain ⟨xs, rfl, h1, h2⟩ := h
  obtain ⟨x, rfl⟩ := len_1 h1
  exact ⟨x, rfl, h2 x (.head _)⟩
theorem opt_play {t : TypeId} {k : Nat} {cs : List Value} (hb : bdp P k t = true) (h : OpT enc P W t cs) :
    ∃ (o1 : Option Addr) (n1 c1 : Nat) (r : List Int) (x y : Int), cs = [.slice o1 n1 c1, iv x, iv y] ∧ r.length = n1 * k ∧ n1 ≤ c1 ∧ InI x ∧ InI y ∧ Sl W.heap.size ⟨W, []⟩ [] o1 r := by
  unfold bdp at hb
  split at hb
  · rename_i fs hu
    split at hb
    · rename_i f0 f2 f3 h0 h2 h3
      simp only [Bool.and_eq_true, beq_iff_eq] at hb
      obtain ⟨⟨⟨⟨⟨⟨⟨⟨⟨a0, a2⟩, a3⟩, b0⟩, b2⟩, b3⟩, b5⟩, b6⟩, b8⟩, b9⟩ := hb
      obtain ⟨hl, hf⟩ := opt_struct hu h
      have g0 := hf 0 f0 h0
      have g2 := hf 1 f2 h2
      have g3 := hf 2 f3 h3
      rw [a0, b0] at g0
      rw [a2, b2] at g2
      rw [a3, b3] at g3
      rw [b5] at hl
      obtain ⟨x, z, w, rfl⟩ := len_3 hl
      obtain ⟨e0, u0, k0⟩ := slf_to b6
      obtain ⟨o1, n1, c1, r, q1, q2, q3, q4, q5, q6⟩ := opt_ints u0 k0 g0
      obtain ⟨x2, i2, j2⟩ := intsX (opt_flat _ _ _ _ b8 g2)
      obtain ⟨x3, i3, j3⟩ := intsX (opt_flat _ _ _ _ b9 g3)
      simp at q1 i2 i3
      exact ⟨o1, n1, c1, r, x2, x3, by rw [q1, i2, i3], q2, q3, j2, j3, q6⟩
    · cases hb
  · cases hb
theorem bdp_ag {t : TypeId} {k : Nat} (hb : bdp P k t = true) : agB P t = true := by
  unfold bdp at hb
  unfold agB
  split at hb
  · rename_i hu; rw [hu]
  · cases hb
theorem arg_play {base : Nat} {t : TypeId} {k : Nat} {v : Value} {d : DataW H} {p : List MemPlace} (hb : bdp P k t = true) (hv : Value.okWide P W .any base t v) (h : DataW.Trod enc P W 0 (fun _ => true) true t v d p) :
    ∃ (o1 : Option Addr) (n1 c1 : Nat) (r : List Int) (x y : Int), v = .agg #[.slice o1 n1 c1, iv x, iv y] ∧ r.length = n1 * k ∧ n1 ≤ c1 ∧ InI x ∧ InI y ∧ Sl W.heap.size ⟨W, []⟩ [] o1 r := by
  obtain ⟨cs, rfl⟩ := val_agg (bdp_ag hb) hv
  obtain ⟨o1, n1, c1, r, x, y, e, hh⟩ := opt_play hb (OpT.of h)
  exact ⟨o1, n1, c1, r, x, y, by simp only [Value.cells] at e; rw [← e], hh⟩
def bd2 (P : Program) (k j : Nat) (t : TypeId) : Bool := match P.underlying t with
  | some (.struct fs) => match fs[0]?, fs[1]? with
    | some f0, some f1 => f0.offset == 0 && f1.offset == 1 && P.cellsOf f0.type == 1 && P.cellsOf f1.type == 1 && P.cellsOf t == 2 && slf P 5 f0.type == some k && slf P 5 f1.type == some j
    | _, _ => false
  | _ => false
theorem opt_shop {t : TypeId} {k j : Nat} {cs : List Value} (hb : bd2 P k j t = true) (h : OpT enc P W t cs) :
    ∃ (o1 o2 : Option Addr) (n1 n2 c1 c2 : Nat) (r g : List Int), cs = [.slice o1 n1 c1, .slice o2 n2 c2] ∧ r.length = n1 * k ∧ g.length = n2 * j ∧ n1 ≤ c1 ∧ n2 ≤ c2 ∧ Sl W.heap.size ⟨W, []⟩ [] o1 r ∧ Sl W.heap.size ⟨W, []⟩ [] o2 g := by
  unfold bd2 at hb
  split at hb
  · rename_i fs hu
    split at hb
    · rename_i f0 f1 h0 h1
      simp only [Bool.and_eq_true, beq_iff_eq] at hb
      obtain ⟨⟨⟨⟨⟨⟨b1, b2⟩, b3⟩, b4⟩, b5⟩, b6⟩, b7⟩ := hb
      obtain ⟨hl, hf⟩ := opt_struct hu h
      have g0 := hf 0 f0 h0
      have g1 := hf 1 f1 h1
      rw [b1, b3] at g0
      rw [b2, b4] at g1
      rw [b5] at hl
      obtain ⟨x, y, rfl⟩ := len_2 hl
      obtain ⟨e0, u0, k0⟩ := slf_to b6
      obtain ⟨e1, u1, k1⟩ := slf_to b7
      obtain ⟨o1, n1, c1, r, q1, q2, q3, q4, q5, q6⟩ := opt_ints u0 k0 g0
      obtain ⟨o2, n2, c2, g, p1, p2, p3, p4, p5, p6⟩ := opt_ints u1 k1 g1
      simp at q1 p1
      exact ⟨o1, o2, n1, n2, c1, c2, r, g, by rw [q1, p1], q2, p2, q3, p3, q6, p6⟩
    · cases hb
  · cases hb
theorem bd2_ag {t : TypeId} {k j : Nat} (hb : bd2 P k j t = true) : agB P t = true := by
  unfold bd2 at hb
  unfold agB
  split at hb
  · rename_i hu; rw [hu]
  · cases hb
theorem arg_shop {base : Nat} {t : TypeId} {k j : Nat} {v : Value} {d : DataW H} {p : List MemPlace} (hb : bd2 P k j t = true) (hv : Value.okWide P W .any base t v) (h : DataW.Trod enc P W 0 (fun _ => true) true t v d p) :
    ∃ (o1 o2 : Option Addr) (n1 n2 c1 c2 : Nat) (r g : List Int), v = .agg #[.slice o1 n1 c1, .slice o2 n2 c2] ∧ r.length = n1 * k ∧ g.length = n2 * j ∧ n1 ≤ c1 ∧ n2 ≤ c2 ∧ Sl W.heap.size ⟨W, []⟩ [] o1 r ∧ Sl W.heap.size ⟨W, []⟩ [] o2 g := by
  obtain ⟨cs, rfl⟩ := val_agg (bd2_ag hb) hv
  obtain ⟨o1, o2, n1, n2, c1, c2, r, g, e, hh⟩ := opt_shop hb (OpT.of h)
  exact ⟨o1, o2, n1, n2, c1, c2, r, g, by simp only [Value.cells] at e; rw [← e], hh⟩
end
end Go.Proofs.Ytgcjddlcgpjlcaa
