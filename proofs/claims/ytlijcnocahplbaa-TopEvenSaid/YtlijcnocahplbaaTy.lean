/- Closed facts on the types and functions of this translation, written by wip/ty.py. -/
import Derived.Test.YtlijcnocahplbaaRk
import Derived.Test.YtlijcnocahplbaaRows
namespace Go.Proofs.Ytlijcnocahplbaa
open Go.RowKit
def shT : List (Nat × Bool × Nat) := [(2, false, 1), (3, false, 1), (4, false, 1), (5, false, 1), (9, false, 1), (12, false, 1), (21, false, 1), (22, true, 2), (23, true, 2), (24, true, 6), (25, true, 6), (26, false, 1), (27, false, 1), (42, false, 1), (50, true, 6), (51, true, 6), (59, false, 1), (62, true, 2), (63, true, 2), (68, true, 3), (69, true, 3), (82, true, 8), (83, true, 8), (94, false, 1), (97, true, 2), (98, true, 50), (99, true, 50), (102, true, 25), (103, true, 50), (104, true, 50), (106, false, 1), (114, false, 1)]
set_option maxRecDepth 100000 in
theorem shTOk : shT.all (fun p => sh Try.prog p.1 == some p.2) = true := by kernel_rfl
theorem shTOf {t : Nat} {r : Bool × Nat} (h : getT shT t = some r) : sh Try.prog t = some r := by
  have := List.all_eq_true.1 shTOk _ (getT_mem h)
  simpa using this
def foT : List (Nat × Nat × Bool × Nat) := [(1408, 0, false, 1), (1409, 1, false, 1), (1472, 0, false, 1), (1473, 1, false, 1), (1536, 0, true, 2), (1537, 2, true, 2), (1538, 4, false, 1), (1539, 5, false, 1), (1600, 0, true, 2), (1601, 2, true, 2), (1602, 4, false, 1), (1603, 5, false, 1), (3200, 0, false, 1), (3201, 1, false, 1), (3202, 2, false, 1), (3203, 3, true, 2), (3204, 5, false, 1), (3264, 0, false, 1), (3265, 1, false, 1), (3266, 2, false, 1), (3267, 3, true, 2), (3268, 5, false, 1), (3968, 0, false, 1), (3969, 1, false, 1), (4032, 0, false, 1), (4033, 1, false, 1), (4352, 0, false, 1), (4353, 1, false, 1), (4354, 2, false, 1), (4416, 0, false, 1), (4417, 1, false, 1), (4418, 2, false, 1), (5248, 0, true, 6), (5249, 6, false, 1), (5250, 7, false, 1), (5312, 0, true, 6), (5313, 6, false, 1), (5314, 7, false, 1)]
set_option maxRecDepth 100000 in
theorem foTOk : foT.all (fun p => fo Try.prog (p.1 / 64) (p.1 % 64) == some p.2) = true := by kernel_rfl
theorem foTOf {t : Nat} {r : Nat × Bool × Nat} (h : getT foT t = some r) : fo Try.prog (t / 64) (t % 64) = some r := by
  have := List.all_eq_true.1 foTOk _ (getT_mem h)
  simpa using this
def arT : List (Nat × Nat × Bool × Nat) := [(97, 2, false, 1), (98, 25, true, 2), (99, 25, true, 2), (102, 25, false, 1), (103, 2, true, 25), (104, 2, true, 25)]
set_option maxRecDepth 100000 in
theorem arTOk : arT.all (fun p => ar Try.prog p.1 == some p.2) = true := by kernel_rfl
theorem arTOf {t : Nat} {r : Nat × Bool × Nat} (h : getT arT t = some r) : ar Try.prog t = some r := by
  have := List.all_eq_true.1 arTOk _ (getT_mem h)
  simpa using this
def scT : List (Nat × Bool × Nat) := [(26, false, 1), (42, true, 2), (59, true, 6), (106, false, 1)]
set_option maxRecDepth 100000 in
theorem scTOk : scT.all (fun p => sc Try.prog p.1 == some p.2) = true := by kernel_rfl
theorem scTOf {t : Nat} {r : Bool × Nat} (h : getT scT t = some r) : sc Try.prog t = some r := by
  have := List.all_eq_true.1 scTOk _ (getT_mem h)
  simpa using this
def plT : List (Nat × List (Nat × Nat)) := [(22, [(0, 1), (1, 1)]), (23, [(0, 1), (1, 1)]), (24, [(0, 2), (2, 2), (4, 1), (5, 1)]), (25, [(0, 2), (2, 2), (4, 1), (5, 1)]), (50, [(0, 1), (1, 1), (2, 1), (3, 2), (5, 1)]), (51, [(0, 1), (1, 1), (2, 1), (3, 2), (5, 1)]), (62, [(0, 1), (1, 1)]), (63, [(0, 1), (1, 1)]), (68, [(0, 1), (1, 1), (2, 1)]), (69, [(0, 1), (1, 1), (2, 1)]), (82, [(0, 6), (6, 1), (7, 1)]), (83, [(0, 6), (6, 1), (7, 1)])]
set_option maxRecDepth 100000 in
theorem plTOk : plT.all (fun p => pl Try.prog p.1 == some p.2) = true := by kernel_rfl
theorem plTOf {t : Nat} {r : List (Nat × Nat)} (h : getT plT t = some r) : pl Try.prog t = some r := by
  have := List.all_eq_true.1 plTOk _ (getT_mem h)
  simpa using this
def apT : List (Nat × Nat × Nat) := [(26, 1, 8), (42, 2, 16), (59, 6, 48), (106, 1, 24)]
set_option maxRecDepth 100000 in
theorem apTOk : apT.all (fun p => ap Try.prog p.1 == some p.2) = true := by kernel_rfl
theorem apTOf {t : Nat} {r : Nat × Nat} (h : getT apT t = some r) : ap Try.prog t = some r := by
  have := List.all_eq_true.1 apTOk _ (getT_mem h)
  simpa using this
def goT : List (Nat × Unit) := [(3, ()), (4, ()), (5, ()), (6, ()), (7, ()), (8, ()), (9, ()), (10, ()), (11, ()), (12, ()), (13, ()), (14, ()), (15, ()), (16, ()), (17, ()), (18, ()), (19, ()), (20, ()), (21, ()), (22, ()), (23, ()), (24, ()), (25, ()), (26, ()), (27, ()), (28, ()), (29, ()), (30, ()), (31, ()), (32, ()), (33, ()), (34, ()), (35, ()), (36, ()), (37, ()), (38, ()), (39, ()), (40, ()), (41, ()), (42, ()), (43, ()), (44, ()), (45, ()), (46, ()), (47, ()), (48, ()), (49, ()), (50, ()), (51, ()), (52, ()), (53, ()), (54, ()), (55, ()), (56, ()), (57, ()), (58, ()), (59, ()), (60, ()), (61, ()), (62, ()), (63, ()), (64, ()), (65, ()), (66, ()), (67, ()), (68, ()), (69, ()), (70, ()), (71, ()), (72, ()), (73, ()), (74, ()), (75, ()), (76, ()), (77, ()), (78, ()), (79, ()), (80, ()), (81, ()), (82, ()), (83, ()), (84, ()), (85, ()), (86, ()), (87, ()), (88, ()), (89, ()), (90, ()), (91, ()), (92, ()), (93, ()), (94, ()), (95, ()), (96, ()), (97, ())]
theorem goTOk : goT.all (fun p => isGo Try.prog p.1) = true := by kernel_rfl
theorem goTOf {t : Nat} (h : getT goT t = some ()) : isGo Try.prog t = true := List.all_eq_true.1 goTOk _ (getT_mem h)
theorem foTOf2 {t f : Nat} {r : Nat × Bool × Nat} (hf : Nat.blt f 64 = true) (h : getT foT (64 * t + f) = some r) : fo Try.prog t f = some r := by
  have h1 : f < 64 := by simpa using hf
  have := foTOf h
  rwa [show (64 * t + f) / 64 = t by omega, show (64 * t + f) % 64 = f by omega] at this
theorem zc_2 : zc Try.prog 2 = some ([.int .i64 0]).toArray := by kernel_rfl
theorem zc_3 : zc Try.prog 3 = some ([.int .i64 0]).toArray := by kernel_rfl
theorem zc_4 : zc Try.prog 4 = some ([.bool false]).toArray := by kernel_rfl
theorem zc_5 : zc Try.prog 5 = some ([.int .u8 0]).toArray := by kernel_rfl
theorem zc_9 : zc Try.prog 9 = some ([.string ⟨#[]⟩]).toArray := by kernel_rfl
theorem zc_12 : zc Try.prog 12 = some ([.int .u64 0]).toArray := by kernel_rfl
theorem zc_21 : zc Try.prog 21 = some ([.int .i32 0]).toArray := by kernel_rfl
theorem zc_22 : zc Try.prog 22 = some ([.int .i64 0, .int .i64 0]).toArray := by kernel_rfl
theorem zc_23 : zc Try.prog 23 = some ([.int .i64 0, .int .i64 0]).toArray := by kernel_rfl
theorem zc_24 : zc Try.prog 24 = some ([.int .i64 0, .int .i64 0, .int .i64 0, .int .i64 0, .int .i64 0, .int .i64 0]).toArray := by kernel_rfl
theorem zc_25 : zc Try.prog 25 = some ([.int .i64 0, .int .i64 0, .int .i64 0, .int .i64 0, .int .i64 0, .int .i64 0]).toArray := by kernel_rfl
theorem zc_26 : zc Try.prog 26 = some ([.slice none 0 0]).toArray := by kernel_rfl
theorem zc_27 : zc Try.prog 27 = some ([.int .i64 0]).toArray := by kernel_rfl
theorem zc_42 : zc Try.prog 42 = some ([.slice none 0 0]).toArray := by kernel_rfl
theorem zc_50 : zc Try.prog 50 = some ([.int .i64 0, .int .i64 0, .int .i64 0, .int .i64 0, .int .i64 0, .bool false]).toArray := by kernel_rfl
theorem zc_51 : zc Try.prog 51 = some ([.int .i64 0, .int .i64 0, .int .i64 0, .int .i64 0, .int .i64 0, .bool false]).toArray := by kernel_rfl
theorem zc_59 : zc Try.prog 59 = some ([.slice none 0 0]).toArray := by kernel_rfl
theorem zc_62 : zc Try.prog 62 = some ([.slice none 0 0, .slice none 0 0]).toArray := by kernel_rfl
theorem zc_63 : zc Try.prog 63 = some ([.slice none 0 0, .slice none 0 0]).toArray := by kernel_rfl
theorem zc_68 : zc Try.prog 68 = some ([.int .i64 0, .int .i64 0, .int .i64 0]).toArray := by kernel_rfl
theorem zc_69 : zc Try.prog 69 = some ([.int .i64 0, .int .i64 0, .int .i64 0]).toArray := by kernel_rfl
theorem zc_82 : zc Try.prog 82 = some ([.int .i64 0, .int .i64 0, .int .i64 0, .int .i64 0, .int .i64 0, .bool false, .int .i64 0, .int .i64 0]).toArray := by kernel_rfl
theorem zc_83 : zc Try.prog 83 = some ([.int .i64 0, .int .i64 0, .int .i64 0, .int .i64 0, .int .i64 0, .bool false, .int .i64 0, .int .i64 0]).toArray := by kernel_rfl
theorem zc_94 : zc Try.prog 94 = some ([.int .u64 0]).toArray := by kernel_rfl
theorem zc_97 : zc Try.prog 97 = some ([.int .i64 0, .int .i64 0]).toArray := by kernel_rfl
theorem zc_98 : zc Try.prog 98 = some (List.replicate 50 (.int .i64 0)).toArray := by kernel_rfl
theorem zc_99 : zc Try.prog 99 = some (List.replicate 50 (.int .i64 0)).toArray := by kernel_rfl
theorem zc_102 : zc Try.prog 102 = some (List.replicate 25 (.int .i64 0)).toArray := by kernel_rfl
theorem zc_103 : zc Try.prog 103 = some (List.replicate 50 (.int .i64 0)).toArray := by kernel_rfl
theorem zc_104 : zc Try.prog 104 = some (List.replicate 50 (.int .i64 0)).toArray := by kernel_rfl
theorem zc_106 : zc Try.prog 106 = some ([.slice none 0 0]).toArray := by kernel_rfl
theorem zc_114 : zc Try.prog 114 = some ([.int .u32 0]).toArray := by kernel_rfl
def zcT : List (Nat × List Value) := [(2, [.int .i64 0]), (3, [.int .i64 0]), (4, [.bool false]), (5, [.int .u8 0]), (9, [.string ⟨#[]⟩]), (12, [.int .u64 0]), (21, [.int .i32 0]), (22, [.int .i64 0, .int .i64 0]), (23, [.int .i64 0, .int .i64 0]), (24, [.int .i64 0, .int .i64 0, .int .i64 0, .int .i64 0, .int .i64 0, .int .i64 0]), (25, [.int .i64 0, .int .i64 0, .int .i64 0, .int .i64 0, .int .i64 0, .int .i64 0]), (26, [.slice none 0 0]), (27, [.int .i64 0]), (42, [.slice none 0 0]), (50, [.int .i64 0, .int .i64 0, .int .i64 0, .int .i64 0, .int .i64 0, .bool false]), (51, [.int .i64 0, .int .i64 0, .int .i64 0, .int .i64 0, .int .i64 0, .bool false]), (59, [.slice none 0 0]), (62, [.slice none 0 0, .slice none 0 0]), (63, [.slice none 0 0, .slice none 0 0]), (68, [.int .i64 0, .int .i64 0, .int .i64 0]), (69, [.int .i64 0, .int .i64 0, .int .i64 0]), (82, [.int .i64 0, .int .i64 0, .int .i64 0, .int .i64 0, .int .i64 0, .bool false, .int .i64 0, .int .i64 0]), (83, [.int .i64 0, .int .i64 0, .int .i64 0, .int .i64 0, .int .i64 0, .bool false, .int .i64 0, .int .i64 0]), (94, [.int .u64 0]), (97, [.int .i64 0, .int .i64 0]), (98, List.replicate 50 (.int .i64 0)), (99, List.replicate 50 (.int .i64 0)), (102, List.replicate 25 (.int .i64 0)), (103, List.replicate 50 (.int .i64 0)), (104, List.replicate 50 (.int .i64 0)), (106, [.slice none 0 0]), (114, [.int .u32 0])]
theorem zcTOk : AllZ (fun p => zc Try.prog p.1 = some p.2.toArray) zcT := ⟨zc_2, zc_3, zc_4, zc_5, zc_9, zc_12, zc_21, zc_22, zc_23, zc_24, zc_25, zc_26, zc_27, zc_42, zc_50, zc_51, zc_59, zc_62, zc_63, zc_68, zc_69, zc_82, zc_83, zc_94, zc_97, zc_98, zc_99, zc_102, zc_103, zc_104, zc_106, zc_114, trivial⟩
theorem zcTOf {t : Nat} {r : List Value} (h : getT zcT t = some r) : zc Try.prog t = some r.toArray := zcTOk.of (t, r) (getT_mem h)
theorem zs_26 : zs Try.prog 26 = some ([.int .i64 0]).toArray := by kernel_rfl
theorem zs_42 : zs Try.prog 42 = some ([.int .i64 0, .int .i64 0]).toArray := by kernel_rfl
theorem zs_59 : zs Try.prog 59 = some ([.int .i64 0, .int .i64 0, .int .i64 0, .int .i64 0, .int .i64 0, .bool false]).toArray := by kernel_rfl
theorem zs_106 : zs Try.prog 106 = some ([.slice none 0 0]).toArray := by kernel_rfl
def zsT : List (Nat × List Value) := [(26, [.int .i64 0]), (42, [.int .i64 0, .int .i64 0]), (59, [.int .i64 0, .int .i64 0, .int .i64 0, .int .i64 0, .int .i64 0, .bool false]), (106, [.slice none 0 0])]
theorem zsTOk : AllZ (fun p => zs Try.prog p.1 = some p.2.toArray) zsT := ⟨zs_26, zs_42, zs_59, zs_106, trivial⟩
theorem zsTOf {t : Nat} {r : List Value} (h : getT zsT t = some r) : zs Try.prog t = some r.toArray := zsTOk.of (t, r) (getT_mem h)
theorem mixed : Try.prog.follows .mixedOrders = true := by kernel_rfl
end Go.Proofs.Ytlijcnocahplbaa
