/- How slices of zones are opened that came in. -/
import Derived.Test.YtlijcnocahplbaaK19
import Derived.Test.YtlijcnocahplbaaCloseZ
namespace Go.Proofs.Ytlijcnocahplbaa
open Go.RowKit Go.ChangeShapes Go.WideShapes Go.ChangeAt
section
variable {H : Type} {enc : TypeId × Value → H} {P : Program} {W : World}
def zsl (P : Program) (t : TypeId) : Bool := match P.underlying t with | some (.slice e) => zdl P e && P.cellsOf e == 6 | _ => false
theorem zsl_to {t : TypeId} (h : zsl P t = true) : ∃ e, P.underlying t = some (.slice e) ∧ zdl P e = true ∧ P.cellsOf e = 6 := by
  unfold zsl at h
  split at h
  · rename_i e hu
    simp only [Bool.and_eq_true, beq_iff_eq] at h
    exact ⟨e, hu, h.1, h.2⟩
  · cases h
theorem arg_zones {base : Nat} {t : TypeId} {v : Value} {d' : DataW H} {p' : List MemPlace} (hb : zsl P t = true) (hv : Value.okWide P W .any base t v) (h : DataW.Trod enc P W 0 (fun _ => true) true t v d' p') :
    ∃ (oa : Option Addr) (len c : Nat) (zs : Nat → Zn), v = .slice oa len c ∧ len ≤ c ∧ c ≤ maxLen ∧ (∀ i, i < len → (zs i).p ≤ 9223372036854775807) ∧ ZL W.heap.size W [] oa len zs := by
  obtain ⟨e, hu, hz, h6⟩ := zsl_to hb
  obtain ⟨a, n, c', rfl⟩ := okWide_slice hu hv
  obtain ⟨oa, len, c, X, he, q1, q2, q3, hx⟩ := opt_slice hu (OpT.of h)
  simp only [Value.cells, List.cons.injEq, and_true, Value.slice.injEq] at he
  obtain ⟨rfl, rfl, rfl⟩ := he
  rw [h6] at hx
  have key : ∀ i, ∃ z : Zn, i < n → X i = z.cells ∧ InI z.p := fun i => by
    by_cases hi : i < n
    · obtain ⟨R, H', K, p, q, d, e, _, _, _, i4, _⟩ := opt_zone hz (hx i hi).1
      exact ⟨⟨R, H', K, p, q, d⟩, fun _ => ⟨e, i4⟩⟩
    · exact ⟨⟨0, 0, 0, 0, 0, false⟩, fun h => absurd h hi⟩
  let zs : Nat → Zn := fun i => Classical.choose (key i)
  have hzs : ∀ i, i < n → X i = (zs i).cells ∧ InI (zs i).p := fun i hi => Classical.choose_spec (key i) hi
  refine ⟨a, n, c', zs, rfl, q1, q2, fun i hi => (hzs i hi).2.2, fun i hi => ?_⟩
  have h4 : a.isSome = true := by
    rcases q3 with q3 | q3
    · omega
    · exact q3
  refine ⟨h4, fun j v hj w hw => ?_⟩
  obtain ⟨b, rfl⟩ := Option.isSome_iff_exists.1 h4
  have hlen : (zs i).cells.length = 6 := rfl
  have hj6 : j < 6 := by
    have := (List.getElem?_eq_some_iff.1 hj).1
    omega
  have h1 := (hx i hi).2.2 j hj6 b rfl
  rw [(hzs i hi).1, hj] at h1
  have h2 := World.block_lt_of_cell? W _ h1
  rw [ea_some, hw.below.cell h2]; exact h1
end
end Go.Proofs.Ytlijcnocahplbaa
