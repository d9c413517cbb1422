/- The numbers of the library's variables at this program. -/
import Derived.Test.YtmblgbcipniecaaDoorRows
import Derived.KernelRfl
namespace Go.Proofs.YtmblgbcipniecaaDoor
open Go
def gMax : Nat := 3
def gSyn : Nat := 0
def gRan : Nat := 1
def gPow : Nat := 2
theorem gMax_named : Tryd.prog.globalNamed "internal/bytealg.MaxLen" = some gMax := by kernel_rfl
theorem gSyn_named : Tryd.prog.globalNamed "strconv.ErrSyntax" = some gSyn := by kernel_rfl
theorem gRan_named : Tryd.prog.globalNamed "strconv.ErrRange" = some gRan := by kernel_rfl
theorem gPow_named : Tryd.prog.globalNamed "internal/strconv.uint64pow10" = some gPow := by kernel_rfl
theorem gAll : gMax < Tryd.prog.globals.size ∧ gSyn < Tryd.prog.globals.size ∧ gRan < Tryd.prog.globals.size ∧ gPow < Tryd.prog.globals.size := by decide +kernel
theorem uStr : Tryd.prog.underlying 9 = some .string := by kernel_rfl
theorem uU8 : Tryd.prog.underlying 5 = some (.int .u8) := by kernel_rfl
theorem uI64 : Tryd.prog.underlying 3 = some (.int .i64) := by kernel_rfl
theorem uErr : Tryd.prog.underlying 45 = some (.interface (Tryd.prog.methodsAt 45)) := by kernel_rfl
end Go.Proofs.YtmblgbcipniecaaDoor
