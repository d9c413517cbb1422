/- The numbers of the library's variables at this program. -/
import Derived.Test.YtmblgbcipniecaaGreatDoorRows
import Derived.KernelRfl
namespace Go.Proofs.YtmblgbcipniecaaGreatDoor
open Go
def gMax : Nat := 2
def gSyn : Nat := 3
def gRan : Nat := 4
def gPow : Nat := 5
theorem gMax_named : Tryz.prog.globalNamed "internal/bytealg.MaxLen" = some gMax := by kernel_rfl
theorem gSyn_named : Tryz.prog.globalNamed "strconv.ErrSyntax" = some gSyn := by kernel_rfl
theorem gRan_named : Tryz.prog.globalNamed "strconv.ErrRange" = some gRan := by kernel_rfl
theorem gPow_named : Tryz.prog.globalNamed "internal/strconv.uint64pow10" = some gPow := by kernel_rfl
theorem gAll : gMax < Tryz.prog.globals.size ∧ gSyn < Tryz.prog.globals.size ∧ gRan < Tryz.prog.globals.size ∧ gPow < Tryz.prog.globals.size := by decide +kernel
theorem uStr : Tryz.prog.underlying 9 = some .string := by kernel_rfl
theorem uU8 : Tryz.prog.underlying 5 = some (.int .u8) := by kernel_rfl
theorem uI64 : Tryz.prog.underlying 3 = some (.int .i64) := by kernel_rfl
theorem uErr : Tryz.prog.underlying 72 = some (.interface (Tryz.prog.methodsAt 72)) := by kernel_rfl
end Go.Proofs.YtmblgbcipniecaaGreatDoor
