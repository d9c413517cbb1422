/- strings.SplitSeq: what its iterator needs. -/
import Derived.Test.YtmblgbcipniecaaGreatDoorMX47
import Derived.Test.YtmblgbcipniecaaGreatDoorMM14
namespace Go.Proofs.YtmblgbcipniecaaGreatDoor
open Go.RowKit Go.Shelf
section
variable {P : Program} {n : NN} {B : Nat} {w0 : Wd} {fr : FR} {hs : HS} {ty : TypeId}
theorem o_sSubR {t : TypeId} {x hi : Operand} {a : List UInt8} {j : Nat} {i : Int} (ht : P.underlying t = some .string) (hx : opv fr x = some (sv a)) (hl : opv fr hi = some (.int .i64 i)) (hj : i = (j : Int)) (h1 : j ≤ a.length) :
    OpF P n B w0 (.slice t x none (some hi) none) ty fr hs (sv (a.take j)) := fun ac w ha _ => by
  unfold sv at hx
  have hb : (Instr.sliceBounds false a.length a.length none (some (.int .i64 i)) none).run P w = .ok (0, j, a.length) w := by
    simp [Instr.sliceBounds, run_slb _ hj h1]
  simp [ex, execOp, Instr.sliceAt, Instr.slice, ha.opv hx, ha.opv hl, underlying, ht, ba_size, hb, ba_extract, sv, -ByteArray.size_data]
end
theorem x_Index {B : Nat} {w0 : Wd} (hT : TxW B w0) (l s : List UInt8) (hl : l.length ≤ 1000000) (hs : HS) : Fn Tryz.prog 54 #[sv l, sv s] B w0 hs (fun v h => v = iv (Go.Lib.index l s) ∧ h = hs) := fn_mk fun w hw => by
  obtain ⟨m, hm⟩ := hT.ml
  have h := Any.strings_Index { Tryz.laysM143 with } ⟨l.toArray⟩ ⟨s.toArray⟩ m w (by rw [ba_size]; omega) (hw.cellB hT.nB.1 hm)
  refine h.mono ?_
  rintro e w' ⟨rfl, rfl⟩
  exact ⟨_, _, rfl, ⟨by simp [iv], rfl⟩, hw⟩
end Go.Proofs.YtmblgbcipniecaaGreatDoor
