/- How zones are opened that came in. -/
import Derived.Test.YtlijcnocahplbaaClose2
namespace Go.Proofs.Ytlijcnocahplbaa
open Go.RowKit Go.ChangeShapes Go.WideShapes Go.ChangeAt
section
variable {H : Type} {enc : TypeId × Value → H} {P : Program} {W : World}
/-- A struct of three numbers, a pair of numbers and a truth value. -/
def zdl (P : Program) (t : TypeId) : Bool := match P.underlying t with
  | some (.struct fs) => match fs[0]?, fs[1]?, fs[2]?, fs[3]?, fs[4]? with
    | some f0, some f1, some f2, some f3, some f4 => f0.offset == 0 && f1.offset == 1 && f2.offset == 2 && f3.offset == 3 && f4.offset == 5 && fl P 5 f0.type == some 1 && fl P 5 f1.type == some 1 && fl P 5 f2.type == some 1 && fl P 5 f3.type == some 2 && bt P f4.type && P.cellsOf f4.type == 1 && P.cellsOf t == 6
    | _, _, _, _, _ => false
  | _ => false
theorem ints_1 {cs : List Value} (h : Ints 1 cs) : ∃ x, cs = [iv x] ∧ InI x := by
  obtain ⟨xs, rfl, hl, hx⟩ := h
  obtain ⟨x, rfl⟩ := len_1 hl
  exact ⟨x, rfl, hx x (by simp)⟩
theorem ints_2 {cs : List Value} (h : Ints 2 cs) : ∃ x y, cs = [iv x, iv y] ∧ InI x ∧ InI y := by
  obtain ⟨xs, rfl, hl, hx⟩ := h
  obtain ⟨x, y, rfl⟩ := len_2 hl
  exact ⟨x, y, rfl, hx x (by simp), hx y (by simp)⟩
theorem opt_zone {t : TypeId} {cs : List Value} (hb : zdl P t = true) (h : OpT enc P W t cs) :
    ∃ (R H' K p q : Int) (d : Bool), cs = [iv R, iv H', iv K, iv p, iv q, .bool d] ∧ InI R ∧ InI H' ∧ InI K ∧ InI p ∧ InI q := by
  unfold zdl at hb
  split at hb
  · rename_i fs hu
    split at hb
    · rename_i f0 f1 f2 f3 f4 h0 h1 h2 h3 h4
      simp only [Bool.and_eq_true, beq_iff_eq] at hb
      obtain ⟨⟨⟨⟨⟨⟨⟨⟨⟨⟨⟨b1, b2⟩, b3⟩, b4⟩, b5⟩, b6⟩, b7⟩, b8⟩, b9⟩, b10⟩, b11⟩, b12⟩ := hb
      obtain ⟨hl, hf⟩ := opt_struct hu h
      have g0 := hf 0 f0 h0
      have g1 := hf 1 f1 h1
      have g2 := hf 2 f2 h2
      have g3 := hf 3 f3 h3
      have g4 := hf 4 f4 h4
      rw [b12] at hl
      obtain ⟨x0, x1, x2, x3, x4, x5, rfl⟩ := len_6 hl
      rw [b1, sh_cells (fl_sh b6)] at g0
      rw [b2, sh_cells (fl_sh b7)] at g1
      rw [b3, sh_cells (fl_sh b8)] at g2
      rw [b4, sh_cells (fl_sh b9)] at g3
      rw [b5, b11] at g4
      obtain ⟨R, e0, i0⟩ := ints_1 (opt_flat 5 _ _ _ b6 g0)
      obtain ⟨H', e1, i1⟩ := ints_1 (opt_flat 5 _ _ _ b7 g1)
      obtain ⟨K, e2, i2⟩ := ints_1 (opt_flat 5 _ _ _ b8 g2)
      obtain ⟨p, q, e3, i3, i4⟩ := ints_2 (opt_flat 5 _ _ _ b9 g3)
      have hbt : P.underlying f4.type = some .bool := by
        unfold bt at b10
        split at b10
        · assumption
        · cases b10
      obtain ⟨d, e4⟩ := opt_bool hbt g4
      simp at e0 e1 e2 e3 e4
      exact ⟨R, H', K, p, q, d, by rw [e0, e1, e2, e3.1, e3.2, e4], i0, i1, i2, i3, i4⟩
    · cases hb
  · cases hb
theorem zdl_ag {t : TypeId} (hb : zdl P t = true) : agB P t = true := by
  unfold zdl at hb
  unfold agB
  split at hb
  · rename_i hu; rw [hu]
  · cases hb
theorem arg_zone {base : Nat} {t : TypeId} {v : Value} {d' : DataW H} {p' : List MemPlace} (hb : zdl P t = true) (hv : Value.okWide P W .any base t v) (h : DataW.Trod enc P W 0 (fun _ => true) true t v d' p') :
    ∃ (R H' K p q : Int) (d : Bool), v = .agg #[iv R, iv H', iv K, iv p, iv q, .bool d] ∧ InI R ∧ InI H' ∧ InI K ∧ InI p ∧ InI q := by
  obtain ⟨cs, rfl⟩ := val_agg (zdl_ag hb) hv
  obtain ⟨R, H', K, p, q, d, e, hh⟩ := opt_zone hb (OpT.of h)
  exact ⟨R, H', K, p, q, d, by simp only [Value.cells] at e; rw [← e], hh⟩
end
end Go.Proofs.Ytlijcnocahplbaa
