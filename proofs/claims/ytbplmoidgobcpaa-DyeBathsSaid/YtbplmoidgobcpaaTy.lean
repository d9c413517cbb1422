/- Closed facts on the types and functions of this translation, written by wip/ty.py. -/
import Derived.Test.YtbplmoidgobcpaaRk
import Derived.Test.YtbplmoidgobcpaaRows
namespace Go.Proofs.Ytbplmoidgobcpaa
open Go.RowKit
def shT : List (Nat × Bool × Nat) := [(1, false, 1), (2, false, 1), (3, false, 1), (4, false, 1), (5, false, 1), (9, false, 1), (12, false, 1), (21, false, 1), (22, true, 3), (23, true, 3), (24, true, 2), (25, true, 2), (26, false, 1), (28, false, 1), (29, false, 1), (30, false, 1), (31, false, 1), (32, false, 1), (34, false, 1), (35, false, 1), (37, false, 1), (38, false, 1), (39, false, 1), (40, false, 1), (41, false, 1), (42, true, 2), (43, true, 2), (44, false, 1), (45, false, 1), (46, true, 4), (47, true, 4), (48, true, 5), (49, true, 5), (50, false, 1), (51, false, 1), (53, false, 1), (55, false, 1), (56, false, 1), (57, false, 1), (58, false, 1), (59, false, 1), (60, false, 1), (61, false, 1), (62, false, 1), (64, false, 1), (65, false, 1), (66, false, 1), (67, true, 2), (68, true, 2), (69, false, 1), (71, false, 1), (72, false, 1), (73, true, 2), (74, true, 2), (75, false, 1), (76, false, 1), (77, false, 1), (78, false, 1), (79, false, 1), (80, false, 1), (81, false, 1), (82, false, 1), (83, false, 1), (84, false, 1), (85, false, 1), (86, false, 1), (87, true, 6), (88, true, 6), (89, true, 3), (90, true, 3), (91, false, 1), (92, false, 1), (93, false, 1), (94, false, 1), (95, false, 1), (97, false, 1), (98, false, 1), (99, false, 1), (100, false, 1), (101, false, 1), (102, false, 1), (104, true, 4), (105, true, 4), (106, false, 1), (107, false, 1), (108, false, 1), (109, false, 1), (115, false, 1), (116, false, 1)]
set_option maxRecDepth 100000 in
theorem shTOk : shT.all (fun p => sh Try.prog p.1 == some p.2) = true := by kernel_rfl
theorem shTOf {t : Nat} {r : Bool × Nat} (h : getT shT t = some r) : sh Try.prog t = some r := by
  have := List.all_eq_true.1 shTOk _ (getT_mem h)
  simpa using this
def foT : List (Nat × Nat × Bool × Nat) := [(1408, 0, false, 1), (1409, 1, false, 1), (1410, 2, false, 1), (1472, 0, false, 1), (1473, 1, false, 1), (1474, 2, false, 1), (1536, 0, false, 1), (1537, 1, false, 1), (1600, 0, false, 1), (1601, 1, false, 1), (2688, 0, false, 1), (2689, 1, false, 1), (2752, 0, false, 1), (2753, 1, false, 1), (2944, 0, false, 1), (2945, 1, true, 3), (3008, 0, false, 1), (3009, 1, true, 3), (3072, 0, false, 1), (3073, 1, true, 3), (3074, 4, false, 1), (3136, 0, false, 1), (3137, 1, true, 3), (3138, 4, false, 1), (4288, 0, false, 1), (4289, 1, false, 1), (4352, 0, false, 1), (4353, 1, false, 1), (4672, 0, false, 1), (4673, 1, false, 1), (4736, 0, false, 1), (4737, 1, false, 1), (5568, 0, false, 1), (5569, 1, false, 1), (5570, 2, false, 1), (5571, 3, false, 1), (5572, 4, false, 1), (5573, 5, false, 1), (5632, 0, false, 1), (5633, 1, false, 1), (5634, 2, false, 1), (5635, 3, false, 1), (5636, 4, false, 1), (5637, 5, false, 1), (5696, 0, false, 1), (5697, 1, false, 1), (5698, 2, false, 1), (5760, 0, false, 1), (5761, 1, false, 1), (5762, 2, false, 1), (6656, 0, true, 3), (6657, 3, false, 1), (6720, 0, true, 3), (6721, 3, false, 1)]
set_option maxRecDepth 100000 in
theorem foTOk : foT.all (fun p => fo Try.prog (p.1 / 64) (p.1 % 64) == some p.2) = true := by kernel_rfl
theorem foTOf {t : Nat} {r : Nat × Bool × Nat} (h : getT foT t = some r) : fo Try.prog (t / 64) (t % 64) = some r := by
  have := List.all_eq_true.1 foTOk _ (getT_mem h)
  simpa using this
def arT : List (Nat × Nat × Bool × Nat) := []
set_option maxRecDepth 100000 in
theorem arTOk : arT.all (fun p => ar Try.prog p.1 == some p.2) = true := by kernel_rfl
theorem arTOf {t : Nat} {r : Nat × Bool × Nat} (h : getT arT t = some r) : ar Try.prog t = some r := by
  have := List.all_eq_true.1 arTOk _ (getT_mem h)
  simpa using this
def scT : List (Nat × Bool × Nat) := [(35, true, 3), (40, true, 4), (41, true, 5), (51, true, 3), (61, false, 1), (66, true, 4), (75, true, 2), (85, false, 1), (86, false, 1)]
set_option maxRecDepth 100000 in
theorem scTOk : scT.all (fun p => sc Try.prog p.1 == some p.2) = true := by kernel_rfl
theorem scTOf {t : Nat} {r : Bool × Nat} (h : getT scT t = some r) : sc Try.prog t = some r := by
  have := List.all_eq_true.1 scTOk _ (getT_mem h)
  simpa using this
def plT : List (Nat × List (Nat × Nat)) := [(22, [(0, 1), (1, 1), (2, 1)]), (23, [(0, 1), (1, 1), (2, 1)]), (24, [(0, 1), (1, 1)]), (25, [(0, 1), (1, 1)]), (42, [(0, 1), (1, 1)]), (43, [(0, 1), (1, 1)]), (46, [(0, 1), (1, 3)]), (47, [(0, 1), (1, 3)]), (48, [(0, 1), (1, 3), (4, 1)]), (49, [(0, 1), (1, 3), (4, 1)]), (67, [(0, 1), (1, 1)]), (68, [(0, 1), (1, 1)]), (73, [(0, 1), (1, 1)]), (74, [(0, 1), (1, 1)]), (87, [(0, 1), (1, 1), (2, 1), (3, 1), (4, 1), (5, 1)]), (88, [(0, 1), (1, 1), (2, 1), (3, 1), (4, 1), (5, 1)]), (89, [(0, 1), (1, 1), (2, 1)]), (90, [(0, 1), (1, 1), (2, 1)]), (104, [(0, 3), (3, 1)]), (105, [(0, 3), (3, 1)])]
set_option maxRecDepth 100000 in
theorem plTOk : plT.all (fun p => pl Try.prog p.1 == some p.2) = true := by kernel_rfl
theorem plTOf {t : Nat} {r : List (Nat × Nat)} (h : getT plT t = some r) : pl Try.prog t = some r := by
  have := List.all_eq_true.1 plTOk _ (getT_mem h)
  simpa using this
def apT : List (Nat × Nat × Nat) := [(35, 3, 24), (40, 4, 32), (41, 5, 40), (51, 3, 24), (61, 1, 8), (66, 4, 32), (75, 2, 16), (85, 1, 24), (86, 1, 1)]
set_option maxRecDepth 100000 in
theorem apTOk : apT.all (fun p => ap Try.prog p.1 == some p.2) = true := by kernel_rfl
theorem apTOf {t : Nat} {r : Nat × Nat} (h : getT apT t = some r) : ap Try.prog t = some r := by
  have := List.all_eq_true.1 apTOk _ (getT_mem h)
  simpa using this
def goT : List (Nat × Unit) := [(3, ()), (4, ()), (5, ()), (6, ()), (7, ()), (8, ()), (9, ()), (10, ()), (11, ()), (12, ()), (13, ()), (14, ()), (15, ()), (16, ()), (17, ()), (18, ()), (19, ()), (20, ()), (21, ()), (22, ()), (23, ()), (24, ()), (25, ()), (26, ()), (27, ()), (28, ()), (29, ()), (30, ()), (31, ()), (32, ()), (33, ()), (34, ()), (35, ()), (36, ()), (37, ()), (38, ()), (39, ()), (40, ()), (41, ()), (42, ()), (43, ()), (44, ()), (45, ()), (46, ()), (47, ()), (48, ()), (49, ()), (50, ()), (51, ()), (52, ()), (54, ()), (55, ()), (56, ()), (57, ()), (58, ()), (59, ()), (60, ()), (61, ()), (62, ()), (63, ()), (64, ()), (65, ()), (66, ()), (67, ()), (68, ())]
theorem goTOk : goT.all (fun p => isGo Try.prog p.1) = true := by kernel_rfl
theorem goTOf {t : Nat} (h : getT goT t = some ()) : isGo Try.prog t = true := List.all_eq_true.1 goTOk _ (getT_mem h)
theorem foTOf2 {t f : Nat} {r : Nat × Bool × Nat} (hf : Nat.blt f 64 = true) (h : getT foT (64 * t + f) = some r) : fo Try.prog t f = some r := by
  have h1 : f < 64 := by simpa using hf
  have := foTOf h
  rwa [show (64 * t + f) / 64 = t by omega, show (64 * t + f) % 64 = f by omega] at this
theorem zc_1 : zc Try.prog 1 = some ([.nilFunc]).toArray := by kernel_rfl
theorem zc_2 : zc Try.prog 2 = some ([.int .i64 0]).toArray := by kernel_rfl
theorem zc_3 : zc Try.prog 3 = some ([.int .i64 0]).toArray := by kernel_rfl
theorem zc_4 : zc Try.prog 4 = some ([.bool false]).toArray := by kernel_rfl
theorem zc_5 : zc Try.prog 5 = some ([.int .u8 0]).toArray := by kernel_rfl
theorem zc_9 : zc Try.prog 9 = some ([.string ⟨#[]⟩]).toArray := by kernel_rfl
theorem zc_12 : zc Try.prog 12 = some ([.int .u64 0]).toArray := by kernel_rfl
theorem zc_21 : zc Try.prog 21 = some ([.int .i32 0]).toArray := by kernel_rfl
theorem zc_22 : zc Try.prog 22 = some ([.int .i64 0, .int .i64 0, .int .i64 0]).toArray := by kernel_rfl
theorem zc_23 : zc Try.prog 23 = some ([.int .i64 0, .int .i64 0, .int .i64 0]).toArray := by kernel_rfl
theorem zc_24 : zc Try.prog 24 = some ([.int .i64 0, .int .i64 0]).toArray := by kernel_rfl
theorem zc_25 : zc Try.prog 25 = some ([.int .i64 0, .int .i64 0]).toArray := by kernel_rfl
theorem zc_26 : zc Try.prog 26 = some ([.int .i64 0]).toArray := by kernel_rfl
theorem zc_28 : zc Try.prog 28 = some ([.nilFunc]).toArray := by kernel_rfl
theorem zc_29 : zc Try.prog 29 = some ([.nilFunc]).toArray := by kernel_rfl
theorem zc_30 : zc Try.prog 30 = some ([.nilFunc]).toArray := by kernel_rfl
theorem zc_31 : zc Try.prog 31 = some ([.nilFunc]).toArray := by kernel_rfl
theorem zc_32 : zc Try.prog 32 = some ([.nilFunc]).toArray := by kernel_rfl
theorem zc_34 : zc Try.prog 34 = some ([.nilFunc]).toArray := by kernel_rfl
theorem zc_35 : zc Try.prog 35 = some ([.slice none 0 0]).toArray := by kernel_rfl
theorem zc_37 : zc Try.prog 37 = some ([.nilFunc]).toArray := by kernel_rfl
theorem zc_38 : zc Try.prog 38 = some ([.nilFunc]).toArray := by kernel_rfl
theorem zc_39 : zc Try.prog 39 = some ([.nilFunc]).toArray := by kernel_rfl
theorem zc_40 : zc Try.prog 40 = some ([.slice none 0 0]).toArray := by kernel_rfl
theorem zc_41 : zc Try.prog 41 = some ([.slice none 0 0]).toArray := by kernel_rfl
theorem zc_42 : zc Try.prog 42 = some ([.slice none 0 0, .slice none 0 0]).toArray := by kernel_rfl
theorem zc_43 : zc Try.prog 43 = some ([.slice none 0 0, .slice none 0 0]).toArray := by kernel_rfl
theorem zc_44 : zc Try.prog 44 = some ([.nilFunc]).toArray := by kernel_rfl
theorem zc_45 : zc Try.prog 45 = some ([.nilFunc]).toArray := by kernel_rfl
theorem zc_46 : zc Try.prog 46 = some ([.int .i64 0, .int .i64 0, .int .i64 0, .int .i64 0]).toArray := by kernel_rfl
theorem zc_47 : zc Try.prog 47 = some ([.int .i64 0, .int .i64 0, .int .i64 0, .int .i64 0]).toArray := by kernel_rfl
theorem zc_48 : zc Try.prog 48 = some ([.int .i64 0, .int .i64 0, .int .i64 0, .int .i64 0, .int .i64 0]).toArray := by kernel_rfl
theorem zc_49 : zc Try.prog 49 = some ([.int .i64 0, .int .i64 0, .int .i64 0, .int .i64 0, .int .i64 0]).toArray := by kernel_rfl
theorem zc_50 : zc Try.prog 50 = some ([.nilFunc]).toArray := by kernel_rfl
theorem zc_51 : zc Try.prog 51 = some ([.slice none 0 0]).toArray := by kernel_rfl
theorem zc_53 : zc Try.prog 53 = some ([.nilFunc]).toArray := by kernel_rfl
theorem zc_55 : zc Try.prog 55 = some ([.nilFunc]).toArray := by kernel_rfl
theorem zc_56 : zc Try.prog 56 = some ([.nilFunc]).toArray := by kernel_rfl
theorem zc_57 : zc Try.prog 57 = some ([.nilFunc]).toArray := by kernel_rfl
theorem zc_58 : zc Try.prog 58 = some ([.nilFunc]).toArray := by kernel_rfl
theorem zc_59 : zc Try.prog 59 = some ([.nilFunc]).toArray := by kernel_rfl
theorem zc_60 : zc Try.prog 60 = some ([.nilFunc]).toArray := by kernel_rfl
theorem zc_61 : zc Try.prog 61 = some ([.slice none 0 0]).toArray := by kernel_rfl
theorem zc_62 : zc Try.prog 62 = some ([.nilFunc]).toArray := by kernel_rfl
theorem zc_64 : zc Try.prog 64 = some ([.nilFunc]).toArray := by kernel_rfl
theorem zc_65 : zc Try.prog 65 = some ([.nilFunc]).toArray := by kernel_rfl
theorem zc_66 : zc Try.prog 66 = some ([.slice none 0 0]).toArray := by kernel_rfl
theorem zc_67 : zc Try.prog 67 = some ([.int .i64 0, .int .i64 0]).toArray := by kernel_rfl
theorem zc_68 : zc Try.prog 68 = some ([.int .i64 0, .int .i64 0]).toArray := by kernel_rfl
theorem zc_69 : zc Try.prog 69 = some ([.nilFunc]).toArray := by kernel_rfl
theorem zc_71 : zc Try.prog 71 = some ([.nilFunc]).toArray := by kernel_rfl
theorem zc_72 : zc Try.prog 72 = some ([.nilFunc]).toArray := by kernel_rfl
theorem zc_73 : zc Try.prog 73 = some ([.slice none 0 0, .slice none 0 0]).toArray := by kernel_rfl
theorem zc_74 : zc Try.prog 74 = some ([.slice none 0 0, .slice none 0 0]).toArray := by kernel_rfl
theorem zc_75 : zc Try.prog 75 = some ([.slice none 0 0]).toArray := by kernel_rfl
theorem zc_76 : zc Try.prog 76 = some ([.nilFunc]).toArray := by kernel_rfl
theorem zc_77 : zc Try.prog 77 = some ([.nilFunc]).toArray := by kernel_rfl
theorem zc_78 : zc Try.prog 78 = some ([.nilFunc]).toArray := by kernel_rfl
theorem zc_79 : zc Try.prog 79 = some ([.nilFunc]).toArray := by kernel_rfl
theorem zc_80 : zc Try.prog 80 = some ([.nilFunc]).toArray := by kernel_rfl
theorem zc_81 : zc Try.prog 81 = some ([.nilFunc]).toArray := by kernel_rfl
theorem zc_82 : zc Try.prog 82 = some ([.nilFunc]).toArray := by kernel_rfl
theorem zc_83 : zc Try.prog 83 = some ([.pointer none]).toArray := by kernel_rfl
theorem zc_84 : zc Try.prog 84 = some ([.nilFunc]).toArray := by kernel_rfl
theorem zc_85 : zc Try.prog 85 = some ([.slice none 0 0]).toArray := by kernel_rfl
theorem zc_86 : zc Try.prog 86 = some ([.slice none 0 0]).toArray := by kernel_rfl
theorem zc_87 : zc Try.prog 87 = some ([.slice none 0 0, .slice none 0 0, .slice none 0 0, .slice none 0 0, .slice none 0 0, .slice none 0 0]).toArray := by kernel_rfl
theorem zc_88 : zc Try.prog 88 = some ([.slice none 0 0, .slice none 0 0, .slice none 0 0, .slice none 0 0, .slice none 0 0, .slice none 0 0]).toArray := by kernel_rfl
theorem zc_89 : zc Try.prog 89 = some ([.int .i64 0, .int .i64 0, .int .i64 0]).toArray := by kernel_rfl
theorem zc_90 : zc Try.prog 90 = some ([.int .i64 0, .int .i64 0, .int .i64 0]).toArray := by kernel_rfl
theorem zc_91 : zc Try.prog 91 = some ([.nilFunc]).toArray := by kernel_rfl
theorem zc_92 : zc Try.prog 92 = some ([.int .u64 0]).toArray := by kernel_rfl
theorem zc_93 : zc Try.prog 93 = some ([.nilFunc]).toArray := by kernel_rfl
theorem zc_94 : zc Try.prog 94 = some ([.nilFunc]).toArray := by kernel_rfl
theorem zc_95 : zc Try.prog 95 = some ([.nilFunc]).toArray := by kernel_rfl
theorem zc_97 : zc Try.prog 97 = some ([.nilFunc]).toArray := by kernel_rfl
theorem zc_98 : zc Try.prog 98 = some ([.nilFunc]).toArray := by kernel_rfl
theorem zc_99 : zc Try.prog 99 = some ([.nilFunc]).toArray := by kernel_rfl
theorem zc_100 : zc Try.prog 100 = some ([.nilFunc]).toArray := by kernel_rfl
theorem zc_101 : zc Try.prog 101 = some ([.nilFunc]).toArray := by kernel_rfl
theorem zc_102 : zc Try.prog 102 = some ([.nilFunc]).toArray := by kernel_rfl
theorem zc_104 : zc Try.prog 104 = some ([.int .i64 0, .int .i64 0, .int .i64 0, .int .i64 0]).toArray := by kernel_rfl
theorem zc_105 : zc Try.prog 105 = some ([.int .i64 0, .int .i64 0, .int .i64 0, .int .i64 0]).toArray := by kernel_rfl
theorem zc_106 : zc Try.prog 106 = some ([.nilFunc]).toArray := by kernel_rfl
theorem zc_107 : zc Try.prog 107 = some ([.nilFunc]).toArray := by kernel_rfl
theorem zc_108 : zc Try.prog 108 = some ([.nilFunc]).toArray := by kernel_rfl
theorem zc_109 : zc Try.prog 109 = some ([.nilFunc]).toArray := by kernel_rfl
theorem zc_115 : zc Try.prog 115 = some ([.nilFunc]).toArray := by kernel_rfl
theorem zc_116 : zc Try.prog 116 = some ([.int .u32 0]).toArray := by kernel_rfl
def zcT : List (Nat × List Value) := [(1, [.nilFunc]), (2, [.int .i64 0]), (3, [.int .i64 0]), (4, [.bool false]), (5, [.int .u8 0]), (9, [.string ⟨#[]⟩]), (12, [.int .u64 0]), (21, [.int .i32 0]), (22, [.int .i64 0, .int .i64 0, .int .i64 0]), (23, [.int .i64 0, .int .i64 0, .int .i64 0]), (24, [.int .i64 0, .int .i64 0]), (25, [.int .i64 0, .int .i64 0]), (26, [.int .i64 0]), (28, [.nilFunc]), (29, [.nilFunc]), (30, [.nilFunc]), (31, [.nilFunc]), (32, [.nilFunc]), (34, [.nilFunc]), (35, [.slice none 0 0]), (37, [.nilFunc]), (38, [.nilFunc]), (39, [.nilFunc]), (40, [.slice none 0 0]), (41, [.slice none 0 0]), (42, [.slice none 0 0, .slice none 0 0]), (43, [.slice none 0 0, .slice none 0 0]), (44, [.nilFunc]), (45, [.nilFunc]), (46, [.int .i64 0, .int .i64 0, .int .i64 0, .int .i64 0]), (47, [.int .i64 0, .int .i64 0, .int .i64 0, .int .i64 0]), (48, [.int .i64 0, .int .i64 0, .int .i64 0, .int .i64 0, .int .i64 0]), (49, [.int .i64 0, .int .i64 0, .int .i64 0, .int .i64 0, .int .i64 0]), (50, [.nilFunc]), (51, [.slice none 0 0]), (53, [.nilFunc]), (55, [.nilFunc]), (56, [.nilFunc]), (57, [.nilFunc]), (58, [.nilFunc]), (59, [.nilFunc]), (60, [.nilFunc]), (61, [.slice none 0 0]), (62, [.nilFunc]), (64, [.nilFunc]), (65, [.nilFunc]), (66, [.slice none 0 0]), (67, [.int .i64 0, .int .i64 0]), (68, [.int .i64 0, .int .i64 0]), (69, [.nilFunc]), (71, [.nilFunc]), (72, [.nilFunc]), (73, [.slice none 0 0, .slice none 0 0]), (74, [.slice none 0 0, .slice none 0 0]), (75, [.slice none 0 0]), (76, [.nilFunc]), (77, [.nilFunc]), (78, [.nilFunc]), (79, [.nilFunc]), (80, [.nilFunc]), (81, [.nilFunc]), (82, [.nilFunc]), (83, [.pointer none]), (84, [.nilFunc]), (85, [.slice none 0 0]), (86, [.slice none 0 0]), (87, [.slice none 0 0, .slice none 0 0, .slice none 0 0, .slice none 0 0, .slice none 0 0, .slice none 0 0]), (88, [.slice none 0 0, .slice none 0 0, .slice none 0 0, .slice none 0 0, .slice none 0 0, .slice none 0 0]), (89, [.int .i64 0, .int .i64 0, .int .i64 0]), (90, [.int .i64 0, .int .i64 0, .int .i64 0]), (91, [.nilFunc]), (92, [.int .u64 0]), (93, [.nilFunc]), (94, [.nilFunc]), (95, [.nilFunc]), (97, [.nilFunc]), (98, [.nilFunc]), (99, [.nilFunc]), (100, [.nilFunc]), (101, [.nilFunc]), (102, [.nilFunc]), (104, [.int .i64 0, .int .i64 0, .int .i64 0, .int .i64 0]), (105, [.int .i64 0, .int .i64 0, .int .i64 0, .int .i64 0]), (106, [.nilFunc]), (107, [.nilFunc]), (108, [.nilFunc]), (109, [.nilFunc]), (115, [.nilFunc]), (116, [.int .u32 0])]
theorem zcTOk : AllZ (fun p => zc Try.prog p.1 = some p.2.toArray) zcT := ⟨zc_1, zc_2, zc_3, zc_4, zc_5, zc_9, zc_12, zc_21, zc_22, zc_23, zc_24, zc_25, zc_26, zc_28, zc_29, zc_30, zc_31, zc_32, zc_34, zc_35, zc_37, zc_38, zc_39, zc_40, zc_41, zc_42, zc_43, zc_44, zc_45, zc_46, zc_47, zc_48, zc_49, zc_50, zc_51, zc_53, zc_55, zc_56, zc_57, zc_58, zc_59, zc_60, zc_61, zc_62, zc_64, zc_65, zc_66, zc_67, zc_68, zc_69, zc_71, zc_72, zc_73, zc_74, zc_75, zc_76, zc_77, zc_78, zc_79, zc_80, zc_81, zc_82, zc_83, zc_84, zc_85, zc_86, zc_87, zc_88, zc_89, zc_90, zc_91, zc_92, zc_93, zc_94, zc_95, zc_97, zc_98, zc_99, zc_100, zc_101, zc_102, zc_104, zc_105, zc_106, zc_107, zc_108, zc_109, zc_115, zc_116, trivial⟩
theorem zcTOf {t : Nat} {r : List Value} (h : getT zcT t = some r) : zc Try.prog t = some r.toArray := zcTOk.of (t, r) (getT_mem h)
theorem zs_35 : zs Try.prog 35 = some ([.int .i64 0, .int .i64 0, .int .i64 0]).toArray := by kernel_rfl
theorem zs_40 : zs Try.prog 40 = some ([.int .i64 0, .int .i64 0, .int .i64 0, .int .i64 0]).toArray := by kernel_rfl
theorem zs_41 : zs Try.prog 41 = some ([.int .i64 0, .int .i64 0, .int .i64 0, .int .i64 0, .int .i64 0]).toArray := by kernel_rfl
theorem zs_51 : zs Try.prog 51 = some ([.int .i64 0, .int .i64 0, .int .i64 0]).toArray := by kernel_rfl
theorem zs_61 : zs Try.prog 61 = some ([.int .i64 0]).toArray := by kernel_rfl
theorem zs_66 : zs Try.prog 66 = some ([.int .i64 0, .int .i64 0, .int .i64 0, .int .i64 0]).toArray := by kernel_rfl
theorem zs_75 : zs Try.prog 75 = some ([.int .i64 0, .int .i64 0]).toArray := by kernel_rfl
theorem zs_85 : zs Try.prog 85 = some ([.slice none 0 0]).toArray := by kernel_rfl
theorem zs_86 : zs Try.prog 86 = some ([.bool false]).toArray := by kernel_rfl
def zsT : List (Nat × List Value) := [(35, [.int .i64 0, .int .i64 0, .int .i64 0]), (40, [.int .i64 0, .int .i64 0, .int .i64 0, .int .i64 0]), (41, [.int .i64 0, .int .i64 0, .int .i64 0, .int .i64 0, .int .i64 0]), (51, [.int .i64 0, .int .i64 0, .int .i64 0]), (61, [.int .i64 0]), (66, [.int .i64 0, .int .i64 0, .int .i64 0, .int .i64 0]), (75, [.int .i64 0, .int .i64 0]), (85, [.slice none 0 0]), (86, [.bool false])]
theorem zsTOk : AllZ (fun p => zs Try.prog p.1 = some p.2.toArray) zsT := ⟨zs_35, zs_40, zs_41, zs_51, zs_61, zs_66, zs_75, zs_85, zs_86, trivial⟩
theorem zsTOf {t : Nat} {r : List Value} (h : getT zsT t = some r) : zs Try.prog t = some r.toArray := zsTOk.of (t, r) (getT_mem h)
theorem mixed : Try.prog.follows .mixedOrders = true := by kernel_rfl
end Go.Proofs.Ytbplmoidgobcpaa
