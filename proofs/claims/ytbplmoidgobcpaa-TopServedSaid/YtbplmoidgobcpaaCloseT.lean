/- How a struct of two slices of structs of numbers is opened that came in. -/
import Derived.Test.YtbplmoidgobcpaaClose2
namespace Go.Proofs.Ytbplmoidgobcpaa
open Go.RowKit Go.ChangeShapes Go.WideShapes Go.ChangeAt
section
variable {H : Type} {enc : TypeId × Value → H} {P : Program} {W : World}
def bd2 (P : Program) (k j : Nat) (t : TypeId) : Bool := match P.underlying t with
  | some (.struct fs) => match fs[0]?, fs[1]? with
    | some f0, some f1 => f0.offset == 0 && f1.offset == 1 && P.cellsOf f0.type == 1 && P.cellsOf f1.type == 1 && P.cellsOf t == 2 && slf P 5 f0.type == some k && slf P 5 f1.type == some j
    | _, _ => false
  | _ => false
theorem opt_trade {t : TypeId} {k j : Nat} {cs : List Value} (hb : bd2 P k j t = true) (h : OpT enc P W t cs) :
    ∃ (o1 o2 : Option Addr) (n1 n2 c1 c2 : Nat) (r g : List Int), cs = [.slice o1 n1 c1, .slice o2 n2 c2] ∧ r.length = n1 * k ∧ g.length = n2 * j ∧ (∀ x ∈ r, InI x) ∧ (∀ x ∈ g, InI x) ∧ Sl W.heap.size W [] o1 r ∧ Sl W.heap.size W [] o2 g := by
  unfold bd2 at hb
  split at hb
  · rename_i fs hu
    split at hb
    · rename_i f0 f1 h0 h1
      simp only [Bool.and_eq_true, beq_iff_eq] at hb
      obtain ⟨⟨⟨⟨⟨⟨b1, b2⟩, b3⟩, b4⟩, b5⟩, b6⟩, b7⟩ := hb
      obtain ⟨hl, hf⟩ := opt_struct hu h
      have g0 := hf 0 f0 h0
      have g1 := hf 1 f1 h1
      rw [b1, b3] at g0
      rw [b2, b4] at g1
      rw [b5] at hl
      obtain ⟨x, y, rfl⟩ := len_2 hl
      obtain ⟨e0, u0, k0⟩ := slf_to b6
      obtain ⟨e1, u1, k1⟩ := slf_to b7
      obtain ⟨o1, n1, c1, r, q1, q2, q3, q4, q5, q6⟩ := opt_ints u0 k0 g0
      obtain ⟨o2, n2, c2, g, p1, p2, p3, p4, p5, p6⟩ := opt_ints u1 k1 g1
      simp at q1 p1
      exact ⟨o1, o2, n1, n2, c1, c2, r, g, by rw [q1, p1], q2, p2, q5, p5, q6, p6⟩
    · cases hb
  · cases hb
theorem bd2_ag {t : TypeId} {k j : Nat} (hb : bd2 P k j t = true) : agB P t = true := by
  unfold bd2 at hb
  unfold agB
  split at hb
  · rename_i hu; rw [hu]
  · cases hb
theorem arg_trade {base : Nat} {t : TypeId} {k j : Nat} {v : Value} {d : DataW H} {p : List MemPlace} (hb : bd2 P k j t = true) (hv : Value.okWide P W .any base t v) (h : DataW.Trod enc P W 0 (fun _ => true) true t v d p) :
    ∃ (o1 o2 : Option Addr) (n1 n2 c1 c2 : Nat) (r g : List Int), v = .agg #[.slice o1 n1 c1, .slice o2 n2 c2] ∧ r.length = n1 * k ∧ g.length = n2 * j ∧ (∀ x ∈ r, InI x) ∧ (∀ x ∈ g, InI x) ∧ Sl W.heap.size W [] o1 r ∧ Sl W.heap.size W [] o2 g := by
  obtain ⟨cs, rfl⟩ := val_agg (bd2_ag hb) hv
  obtain ⟨o1, o2, n1, n2, c1, c2, r, g, e, hh⟩ := opt_trade hb (OpT.of h)
  exact ⟨o1, o2, n1, n2, c1, c2, r, g, by simp only [Value.cells] at e; rw [← e], hh⟩
end
end Go.Proofs.Ytbplmoidgobcpaa
