/- Closed facts on the types and functions of this translation, written by wip/ty.py. -/
import Derived.Test.YtiopaodiaokfdaaRk
import Derived.Test.YtiopaodiaokfdaaRows
namespace Go.Proofs.Ytiopaodiaokfdaa
open Go.RowKit
def shT : List (Nat × Bool × Nat) := [(2, false, 1), (3, false, 1), (4, false, 1), (5, false, 1), (9, false, 1), (12, false, 1), (21, false, 1), (22, false, 1), (23, true, 2), (24, true, 2), (27, false, 1), (40, true, 2), (41, true, 2), (48, true, 3), (49, true, 3), (55, false, 1), (64, false, 1), (69, true, 4), (70, true, 4), (72, true, 2), (73, true, 50), (74, true, 50), (77, true, 25), (78, true, 50), (79, true, 50), (87, false, 1), (100, false, 1), (101, false, 1), (104, false, 1), (111, false, 1)]
set_option maxRecDepth 100000 in
theorem shTOk : shT.all (fun p => sh Try.prog p.1 == some p.2) = true := by kernel_rfl
theorem shTOf {t : Nat} {r : Bool × Nat} (h : getT shT t = some r) : sh Try.prog t = some r := by
  have := List.all_eq_true.1 shTOk _ (getT_mem h)
  simpa using this
def foT : List (Nat × Nat × Bool × Nat) := [(1472, 0, false, 1), (1473, 1, false, 1), (1536, 0, false, 1), (1537, 1, false, 1), (2560, 0, false, 1), (2561, 1, false, 1), (2624, 0, false, 1), (2625, 1, false, 1), (3072, 0, false, 1), (3073, 1, false, 1), (3074, 2, false, 1), (3136, 0, false, 1), (3137, 1, false, 1), (3138, 2, false, 1), (4416, 0, false, 1), (4417, 1, false, 1), (4418, 2, false, 1), (4419, 3, false, 1), (4480, 0, false, 1), (4481, 1, false, 1), (4482, 2, false, 1), (4483, 3, false, 1)]
set_option maxRecDepth 100000 in
theorem foTOk : foT.all (fun p => fo Try.prog (p.1 / 64) (p.1 % 64) == some p.2) = true := by kernel_rfl
theorem foTOf {t : Nat} {r : Nat × Bool × Nat} (h : getT foT t = some r) : fo Try.prog (t / 64) (t % 64) = some r := by
  have := List.all_eq_true.1 foTOk _ (getT_mem h)
  simpa using this
def arT : List (Nat × Nat × Bool × Nat) := [(72, 2, false, 1), (73, 25, true, 2), (74, 25, true, 2), (77, 25, false, 1), (78, 2, true, 25), (79, 2, true, 25)]
set_option maxRecDepth 100000 in
theorem arTOk : arT.all (fun p => ar Try.prog p.1 == some p.2) = true := by kernel_rfl
theorem arTOf {t : Nat} {r : Nat × Bool × Nat} (h : getT arT t = some r) : ar Try.prog t = some r := by
  have := List.all_eq_true.1 arTOk _ (getT_mem h)
  simpa using this
def scT : List (Nat × Bool × Nat) := [(22, false, 1), (55, true, 2), (64, true, 4), (87, false, 1), (101, true, 2)]
set_option maxRecDepth 100000 in
theorem scTOk : scT.all (fun p => sc Try.prog p.1 == some p.2) = true := by kernel_rfl
theorem scTOf {t : Nat} {r : Bool × Nat} (h : getT scT t = some r) : sc Try.prog t = some r := by
  have := List.all_eq_true.1 scTOk _ (getT_mem h)
  simpa using this
def plT : List (Nat × List (Nat × Nat)) := [(23, [(0, 1), (1, 1)]), (24, [(0, 1), (1, 1)]), (40, [(0, 1), (1, 1)]), (41, [(0, 1), (1, 1)]), (48, [(0, 1), (1, 1), (2, 1)]), (49, [(0, 1), (1, 1), (2, 1)]), (69, [(0, 1), (1, 1), (2, 1), (3, 1)]), (70, [(0, 1), (1, 1), (2, 1), (3, 1)])]
set_option maxRecDepth 100000 in
theorem plTOk : plT.all (fun p => pl Try.prog p.1 == some p.2) = true := by kernel_rfl
theorem plTOf {t : Nat} {r : List (Nat × Nat)} (h : getT plT t = some r) : pl Try.prog t = some r := by
  have := List.all_eq_true.1 plTOk _ (getT_mem h)
  simpa using this
def apT : List (Nat × Nat × Nat) := [(22, 1, 8), (55, 2, 48), (64, 4, 32), (87, 1, 24), (101, 2, 16)]
set_option maxRecDepth 100000 in
theorem apTOk : apT.all (fun p => ap Try.prog p.1 == some p.2) = true := by kernel_rfl
theorem apTOf {t : Nat} {r : Nat × Nat} (h : getT apT t = some r) : ap Try.prog t = some r := by
  have := List.all_eq_true.1 apTOk _ (getT_mem h)
  simpa using this
def goT : List (Nat × Unit) := [(3, ()), (4, ()), (5, ()), (6, ()), (7, ()), (8, ()), (9, ()), (10, ()), (11, ()), (12, ()), (13, ()), (14, ()), (15, ()), (16, ()), (17, ()), (18, ()), (19, ()), (20, ()), (21, ()), (22, ()), (23, ()), (24, ()), (25, ()), (26, ()), (27, ()), (28, ()), (29, ()), (30, ()), (31, ()), (32, ()), (33, ()), (34, ()), (35, ()), (36, ()), (37, ()), (38, ()), (39, ()), (40, ()), (41, ()), (42, ()), (43, ()), (44, ()), (45, ()), (46, ()), (47, ()), (48, ()), (49, ()), (50, ()), (51, ()), (52, ()), (53, ()), (54, ()), (55, ()), (56, ()), (57, ()), (58, ()), (59, ()), (60, ()), (61, ()), (62, ()), (63, ()), (64, ()), (65, ()), (66, ()), (67, ()), (68, ()), (69, ()), (70, ()), (71, ()), (72, ()), (73, ()), (74, ()), (75, ()), (76, ()), (77, ()), (78, ()), (79, ()), (80, ()), (81, ()), (82, ()), (83, ()), (84, ()), (85, ()), (86, ()), (87, ()), (88, ()), (89, ()), (90, ()), (91, ()), (92, ())]
theorem goTOk : goT.all (fun p => isGo Try.prog p.1) = true := by kernel_rfl
theorem goTOf {t : Nat} (h : getT goT t = some ()) : isGo Try.prog t = true := List.all_eq_true.1 goTOk _ (getT_mem h)
theorem foTOf2 {t f : Nat} {r : Nat × Bool × Nat} (hf : Nat.blt f 64 = true) (h : getT foT (64 * t + f) = some r) : fo Try.prog t f = some r := by
  have h1 : f < 64 := by simpa using hf
  have := foTOf h
  rwa [show (64 * t + f) / 64 = t by omega, show (64 * t + f) % 64 = f by omega] at this
theorem zc_2 : zc Try.prog 2 = some ([.int .i64 0]).toArray := by kernel_rfl
theorem zc_3 : zc Try.prog 3 = some ([.int .i64 0]).toArray := by kernel_rfl
theorem zc_4 : zc Try.prog 4 = some ([.bool false]).toArray := by kernel_rfl
theorem zc_5 : zc Try.prog 5 = some ([.int .u8 0]).toArray := by kernel_rfl
theorem zc_9 : zc Try.prog 9 = some ([.string ⟨#[]⟩]).toArray := by kernel_rfl
theorem zc_12 : zc Try.prog 12 = some ([.int .u64 0]).toArray := by kernel_rfl
theorem zc_21 : zc Try.prog 21 = some ([.int .i32 0]).toArray := by kernel_rfl
theorem zc_22 : zc Try.prog 22 = some ([.slice none 0 0]).toArray := by kernel_rfl
theorem zc_23 : zc Try.prog 23 = some ([.slice none 0 0, .slice none 0 0]).toArray := by kernel_rfl
theorem zc_24 : zc Try.prog 24 = some ([.slice none 0 0, .slice none 0 0]).toArray := by kernel_rfl
theorem zc_27 : zc Try.prog 27 = some ([.int .i64 0]).toArray := by kernel_rfl
theorem zc_40 : zc Try.prog 40 = some ([.int .i64 0, .int .i64 0]).toArray := by kernel_rfl
theorem zc_41 : zc Try.prog 41 = some ([.int .i64 0, .int .i64 0]).toArray := by kernel_rfl
theorem zc_48 : zc Try.prog 48 = some ([.int .i64 0, .int .i64 0, .int .i64 0]).toArray := by kernel_rfl
theorem zc_49 : zc Try.prog 49 = some ([.int .i64 0, .int .i64 0, .int .i64 0]).toArray := by kernel_rfl
theorem zc_55 : zc Try.prog 55 = some ([.slice none 0 0]).toArray := by kernel_rfl
theorem zc_64 : zc Try.prog 64 = some ([.slice none 0 0]).toArray := by kernel_rfl
theorem zc_69 : zc Try.prog 69 = some ([.int .i64 0, .int .i64 0, .int .i64 0, .int .i64 0]).toArray := by kernel_rfl
theorem zc_70 : zc Try.prog 70 = some ([.int .i64 0, .int .i64 0, .int .i64 0, .int .i64 0]).toArray := by kernel_rfl
theorem zc_72 : zc Try.prog 72 = some ([.int .i64 0, .int .i64 0]).toArray := by kernel_rfl
theorem zc_73 : zc Try.prog 73 = some (List.replicate 50 (.int .i64 0)).toArray := by kernel_rfl
theorem zc_74 : zc Try.prog 74 = some (List.replicate 50 (.int .i64 0)).toArray := by kernel_rfl
theorem zc_77 : zc Try.prog 77 = some (List.replicate 25 (.int .i64 0)).toArray := by kernel_rfl
theorem zc_78 : zc Try.prog 78 = some (List.replicate 50 (.int .i64 0)).toArray := by kernel_rfl
theorem zc_79 : zc Try.prog 79 = some (List.replicate 50 (.int .i64 0)).toArray := by kernel_rfl
theorem zc_87 : zc Try.prog 87 = some ([.slice none 0 0]).toArray := by kernel_rfl
theorem zc_100 : zc Try.prog 100 = some ([.int .u64 0]).toArray := by kernel_rfl
theorem zc_101 : zc Try.prog 101 = some ([.slice none 0 0]).toArray := by kernel_rfl
theorem zc_104 : zc Try.prog 104 = some ([.pointer none]).toArray := by kernel_rfl
theorem zc_111 : zc Try.prog 111 = some ([.int .u32 0]).toArray := by kernel_rfl
def zcT : List (Nat × List Value) := [(2, [.int .i64 0]), (3, [.int .i64 0]), (4, [.bool false]), (5, [.int .u8 0]), (9, [.string ⟨#[]⟩]), (12, [.int .u64 0]), (21, [.int .i32 0]), (22, [.slice none 0 0]), (23, [.slice none 0 0, .slice none 0 0]), (24, [.slice none 0 0, .slice none 0 0]), (27, [.int .i64 0]), (40, [.int .i64 0, .int .i64 0]), (41, [.int .i64 0, .int .i64 0]), (48, [.int .i64 0, .int .i64 0, .int .i64 0]), (49, [.int .i64 0, .int .i64 0, .int .i64 0]), (55, [.slice none 0 0]), (64, [.slice none 0 0]), (69, [.int .i64 0, .int .i64 0, .int .i64 0, .int .i64 0]), (70, [.int .i64 0, .int .i64 0, .int .i64 0, .int .i64 0]), (72, [.int .i64 0, .int .i64 0]), (73, List.replicate 50 (.int .i64 0)), (74, List.replicate 50 (.int .i64 0)), (77, List.replicate 25 (.int .i64 0)), (78, List.replicate 50 (.int .i64 0)), (79, List.replicate 50 (.int .i64 0)), (87, [.slice none 0 0]), (100, [.int .u64 0]), (101, [.slice none 0 0]), (104, [.pointer none]), (111, [.int .u32 0])]
theorem zcTOk : AllZ (fun p => zc Try.prog p.1 = some p.2.toArray) zcT := ⟨zc_2, zc_3, zc_4, zc_5, zc_9, zc_12, zc_21, zc_22, zc_23, zc_24, zc_27, zc_40, zc_41, zc_48, zc_49, zc_55, zc_64, zc_69, zc_70, zc_72, zc_73, zc_74, zc_77, zc_78, zc_79, zc_87, zc_100, zc_101, zc_104, zc_111, trivial⟩
theorem zcTOf {t : Nat} {r : List Value} (h : getT zcT t = some r) : zc Try.prog t = some r.toArray := zcTOk.of (t, r) (getT_mem h)
theorem zs_22 : zs Try.prog 22 = some ([.int .i64 0]).toArray := by kernel_rfl
theorem zs_55 : zs Try.prog 55 = some ([.slice none 0 0, .slice none 0 0]).toArray := by kernel_rfl
theorem zs_64 : zs Try.prog 64 = some ([.int .i64 0, .int .i64 0, .int .i64 0, .int .i64 0]).toArray := by kernel_rfl
theorem zs_87 : zs Try.prog 87 = some ([.slice none 0 0]).toArray := by kernel_rfl
theorem zs_101 : zs Try.prog 101 = some ([.int .i64 0, .int .i64 0]).toArray := by kernel_rfl
def zsT : List (Nat × List Value) := [(22, [.int .i64 0]), (55, [.slice none 0 0, .slice none 0 0]), (64, [.int .i64 0, .int .i64 0, .int .i64 0, .int .i64 0]), (87, [.slice none 0 0]), (101, [.int .i64 0, .int .i64 0])]
theorem zsTOk : AllZ (fun p => zs Try.prog p.1 = some p.2.toArray) zsT := ⟨zs_22, zs_55, zs_64, zs_87, zs_101, trivial⟩
theorem zsTOf {t : Nat} {r : List Value} (h : getT zsT t = some r) : zs Try.prog t = some r.toArray := zsTOk.of (t, r) (getT_mem h)
theorem mixed : Try.prog.follows .mixedOrders = true := by kernel_rfl
end Go.Proofs.Ytiopaodiaokfdaa
