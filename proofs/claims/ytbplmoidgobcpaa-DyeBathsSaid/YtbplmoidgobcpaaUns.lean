/- Conversions between kinds of integers, and remainders of unsigned ones. -/
import Derived.Test.YtbplmoidgobcpaaStep
namespace Go.Proofs.Ytbplmoidgobcpaa
open Go.RowKit
section
variable {P : Program} {n B : Nat} {w0 : World} {fr : FR} {hs : HS} {ty : TypeId}
theorem o_conv {src dst : TypeId} {x : Operand} {k k' : IntKind} {m : Int} {u : TypeDesc} (hx : opv fr x = some (.int k m)) (h1 : P.underlying src = some u) (h2 : P.underlying dst = some (.int k')) : OpF P n B w0 (.convert src dst x) ty fr hs (.int k' (k'.wrap m)) := fun a w ha _ => by
  simp only [ex, execOp, ha.opv hx]
  cases u <;> simp [convert, underlying, h1, h2, Conv.intToInt]
theorem o_remU {t t' : TypeId} {x y : Operand} {k : IntKind} {m l : Int} (hx : opv fr x = some (.int k m)) (hy : opv fr y = some (.int k l)) (h0 : 0 ≤ m) (h2 : l ≠ 0) : OpF P n B w0 (.binOp .rem t x y t') ty fr hs (.int k (m % l)) :=
  ex_bin hx hy fun w => by
    have h3 : m.tmod l = m % l := Int.tmod_eq_emod_of_nonneg h0
    simp [binOp, Op.intDiv, h3, h2]
theorem o_eqlU {t t' : TypeId} {x y : Operand} {k : IntKind} {m l : Int} (hx : opv fr x = some (.int k m)) (hy : opv fr y = some (.int k l)) : OpF P n B w0 (.binOp .eql t x y t') ty fr hs (.bool (decide (m = l))) := ex_bin hx hy fun w => by simp [binOp, Op.intCmp]; rfl
end
/-- An integer read as unsigned. -/
def ur (x : Int) : Int := IntKind.u64.wrap x
theorem ur_eq (x : Int) : ur x = x % 18446744073709551616 := by
  unfold ur IntKind.wrap
  simp [IntKind.signed, IntKind.bits]
theorem ur_to (x : Int) : 0 ≤ ur x ∧ ur x ≤ 18446744073709551615 := by
  rw [ur_eq]; omega
theorem ur_id {x : Int} (h : 0 ≤ x) (h2 : x ≤ 9223372036854775807) : ur x = x := by
  rw [ur_eq]; omega
end Go.Proofs.Ytbplmoidgobcpaa
