/- Closed facts on the types and functions of this translation, written by wip/ty.py. -/
import Derived.Test.YtmblgbcipniecaaDoorMA0
import Derived.Test.YtmblgbcipniecaaDoorRows
namespace Go.Proofs.YtmblgbcipniecaaDoor
open Go.RowKit
def shT : List (Nat × Bool × Nat) := [(1, false, 1), (2, false, 1), (3, false, 1), (4, false, 1), (5, false, 1), (9, false, 1), (12, false, 1), (21, false, 1), (22, false, 1), (23, true, 2), (24, true, 2), (25, false, 1), (26, false, 1), (27, false, 1), (29, false, 1), (31, false, 1), (32, false, 1), (34, false, 1), (35, false, 1), (37, false, 1), (38, false, 1), (39, false, 1), (40, false, 1), (41, false, 1), (43, false, 1), (47, false, 1), (48, false, 1), (49, false, 1), (50, false, 1), (51, true, 2), (52, true, 50), (53, true, 50), (55, false, 1), (56, false, 1), (57, false, 1), (58, false, 1), (59, false, 1), (60, false, 1), (62, false, 1), (63, true, 2), (64, true, 2), (65, false, 1), (66, false, 1), (67, true, 25), (68, true, 50), (69, true, 50), (70, false, 1), (71, false, 1), (72, false, 1), (73, false, 1), (74, false, 1), (75, false, 1), (76, false, 1), (77, false, 1), (78, false, 1), (80, false, 1), (81, false, 1), (82, false, 1), (83, false, 1), (86, false, 1), (88, false, 1), (89, false, 1), (90, true, 24), (91, false, 1), (92, false, 1), (93, false, 1), (95, false, 1), (98, false, 1), (100, false, 1), (101, false, 1), (103, false, 1), (104, false, 1), (105, false, 1), (106, true, 3), (107, true, 3), (108, false, 1), (109, false, 1), (110, true, 20), (111, false, 1), (112, true, 65), (113, false, 1), (114, false, 1), (115, false, 1), (116, false, 1), (118, true, 1), (119, true, 1), (120, false, 1), (121, true, 256), (122, true, 2), (123, true, 2), (124, true, 32), (126, false, 1), (127, true, 32), (128, true, 64)]
set_option maxRecDepth 100000 in
theorem shTOk : shT.all (fun p => sh Tryd.prog p.1 == some p.2) = true := by kernel_rfl
theorem shTOf {t : Nat} {r : Bool × Nat} (h : getT shT t = some r) : sh Tryd.prog t = some r := by
  have := List.all_eq_true.1 shTOk _ (getT_mem h)
  simpa using this
def foT : List (Nat × Nat × Bool × Nat) := [(1472, 0, false, 1), (1473, 1, false, 1), (1536, 0, false, 1), (1537, 1, false, 1), (4033, 1, false, 1), (4097, 1, false, 1), (6784, 0, false, 1), (6785, 1, false, 1), (6848, 0, false, 1), (6849, 1, false, 1), (7552, 0, false, 1), (7616, 0, false, 1), (7808, 0, false, 1), (7809, 1, false, 1), (7872, 0, false, 1), (7873, 1, false, 1)]
set_option maxRecDepth 100000 in
theorem foTOk : foT.all (fun p => fo Tryd.prog (p.1 / 64) (p.1 % 64) == some p.2) = true := by kernel_rfl
theorem foTOf {t : Nat} {r : Nat × Bool × Nat} (h : getT foT t = some r) : fo Tryd.prog (t / 64) (t % 64) = some r := by
  have := List.all_eq_true.1 foTOk _ (getT_mem h)
  simpa using this
def arT : List (Nat × Nat × Bool × Nat) := [(51, 2, false, 1), (52, 25, true, 2), (53, 25, true, 2), (67, 25, false, 1), (68, 2, true, 25), (69, 2, true, 25), (90, 24, false, 1), (110, 20, false, 1), (112, 65, false, 1), (121, 256, false, 1), (124, 16, true, 2), (127, 32, false, 1), (128, 64, false, 1)]
set_option maxRecDepth 100000 in
theorem arTOk : arT.all (fun p => ar Tryd.prog p.1 == some p.2) = true := by kernel_rfl
theorem arTOf {t : Nat} {r : Nat × Bool × Nat} (h : getT arT t = some r) : ar Tryd.prog t = some r := by
  have := List.all_eq_true.1 arTOk _ (getT_mem h)
  simpa using this
def scT : List (Nat × Bool × Nat) := [(22, false, 1), (39, false, 1), (62, false, 1), (75, false, 1), (76, true, 2)]
set_option maxRecDepth 100000 in
theorem scTOk : scT.all (fun p => sc Tryd.prog p.1 == some p.2) = true := by kernel_rfl
theorem scTOf {t : Nat} {r : Bool × Nat} (h : getT scT t = some r) : sc Tryd.prog t = some r := by
  have := List.all_eq_true.1 scTOk _ (getT_mem h)
  simpa using this
def plT : List (Nat × List (Nat × Nat)) := [(23, [(0, 1), (1, 1)]), (24, [(0, 1), (1, 1)]), (118, [(0, 1)]), (119, [(0, 1)]), (122, [(0, 1), (1, 1)]), (123, [(0, 1), (1, 1)])]
set_option maxRecDepth 100000 in
theorem plTOk : plT.all (fun p => pl Tryd.prog p.1 == some p.2) = true := by kernel_rfl
theorem plTOf {t : Nat} {r : List (Nat × Nat)} (h : getT plT t = some r) : pl Tryd.prog t = some r := by
  have := List.all_eq_true.1 plTOk _ (getT_mem h)
  simpa using this
def apT : List (Nat × Nat × Nat) := [(22, 1, 8), (39, 1, 16), (62, 1, 1), (75, 1, 24), (76, 2, 16)]
set_option maxRecDepth 100000 in
theorem apTOk : apT.all (fun p => ap Tryd.prog p.1 == some p.2) = true := by kernel_rfl
theorem apTOf {t : Nat} {r : Nat × Nat} (h : getT apT t = some r) : ap Tryd.prog t = some r := by
  have := List.all_eq_true.1 apTOk _ (getT_mem h)
  simpa using this
def goT : List (Nat × Unit) := [(3, ()), (4, ()), (5, ()), (6, ()), (7, ()), (8, ()), (9, ()), (10, ()), (11, ()), (12, ()), (13, ()), (14, ()), (15, ()), (16, ()), (17, ()), (18, ()), (19, ()), (20, ()), (21, ()), (22, ()), (23, ()), (24, ()), (25, ()), (26, ()), (27, ()), (28, ()), (29, ()), (31, ()), (32, ()), (33, ()), (34, ()), (35, ()), (36, ()), (37, ()), (39, ()), (40, ()), (41, ()), (43, ()), (44, ()), (45, ()), (46, ()), (47, ()), (48, ()), (49, ()), (51, ()), (52, ()), (53, ()), (54, ())]
set_option maxRecDepth 100000 in
theorem goTOk : goT.all (fun p => isGo Tryd.prog p.1) = true := by kernel_rfl
set_option maxRecDepth 100000 in
theorem goTOf {t : Nat} (h : getT goT t = some ()) : isGo Tryd.prog t = true := List.all_eq_true.1 goTOk _ (getT_mem h)
theorem foTOf2 {t f : Nat} {r : Nat × Bool × Nat} (hf : Nat.blt f 64 = true) (h : getT foT (64 * t + f) = some r) : fo Tryd.prog t f = some r := by
  have h1 : f < 64 := by simpa using hf
  have := foTOf h
  rwa [show (64 * t + f) / 64 = t by omega, show (64 * t + f) % 64 = f by omega] at this
theorem zc_1 : zc Tryd.prog 1 = some ([.nilFunc]).toArray := by kernel_rfl
theorem zc_2 : zc Tryd.prog 2 = some ([.int .i64 0]).toArray := by kernel_rfl
theorem zc_3 : zc Tryd.prog 3 = some ([.int .i64 0]).toArray := by kernel_rfl
theorem zc_4 : zc Tryd.prog 4 = some ([.bool false]).toArray := by kernel_rfl
theorem zc_5 : zc Tryd.prog 5 = some ([.int .u8 0]).toArray := by kernel_rfl
theorem zc_9 : zc Tryd.prog 9 = some ([.string ⟨#[]⟩]).toArray := by kernel_rfl
theorem zc_12 : zc Tryd.prog 12 = some ([.int .u64 0]).toArray := by kernel_rfl
theorem zc_21 : zc Tryd.prog 21 = some ([.int .i32 0]).toArray := by kernel_rfl
theorem zc_22 : zc Tryd.prog 22 = some ([.slice none 0 0]).toArray := by kernel_rfl
theorem zc_23 : zc Tryd.prog 23 = some ([.slice none 0 0, .slice none 0 0]).toArray := by kernel_rfl
theorem zc_24 : zc Tryd.prog 24 = some ([.slice none 0 0, .slice none 0 0]).toArray := by kernel_rfl
theorem zc_25 : zc Tryd.prog 25 = some ([.nilFunc]).toArray := by kernel_rfl
theorem zc_26 : zc Tryd.prog 26 = some ([.nilFunc]).toArray := by kernel_rfl
theorem zc_27 : zc Tryd.prog 27 = some ([.int .i64 0]).toArray := by kernel_rfl
theorem zc_29 : zc Tryd.prog 29 = some ([.nilFunc]).toArray := by kernel_rfl
theorem zc_31 : zc Tryd.prog 31 = some ([.nilFunc]).toArray := by kernel_rfl
theorem zc_32 : zc Tryd.prog 32 = some ([.nilFunc]).toArray := by kernel_rfl
theorem zc_34 : zc Tryd.prog 34 = some ([.nilFunc]).toArray := by kernel_rfl
theorem zc_35 : zc Tryd.prog 35 = some ([.nilFunc]).toArray := by kernel_rfl
theorem zc_37 : zc Tryd.prog 37 = some ([.nilFunc]).toArray := by kernel_rfl
theorem zc_38 : zc Tryd.prog 38 = some ([.nilFunc]).toArray := by kernel_rfl
theorem zc_39 : zc Tryd.prog 39 = some ([.slice none 0 0]).toArray := by kernel_rfl
theorem zc_40 : zc Tryd.prog 40 = some ([.nilFunc]).toArray := by kernel_rfl
theorem zc_41 : zc Tryd.prog 41 = some ([.nilFunc]).toArray := by kernel_rfl
theorem zc_43 : zc Tryd.prog 43 = some ([.nilFunc]).toArray := by kernel_rfl
theorem zc_47 : zc Tryd.prog 47 = some ([.nilFunc]).toArray := by kernel_rfl
theorem zc_48 : zc Tryd.prog 48 = some ([.nilFunc]).toArray := by kernel_rfl
theorem zc_49 : zc Tryd.prog 49 = some ([.nilFunc]).toArray := by kernel_rfl
theorem zc_50 : zc Tryd.prog 50 = some ([.nilFunc]).toArray := by kernel_rfl
theorem zc_51 : zc Tryd.prog 51 = some ([.int .i64 0, .int .i64 0]).toArray := by kernel_rfl
theorem zc_52 : zc Tryd.prog 52 = some (List.replicate 50 (.int .i64 0)).toArray := by kernel_rfl
theorem zc_53 : zc Tryd.prog 53 = some (List.replicate 50 (.int .i64 0)).toArray := by kernel_rfl
theorem zc_55 : zc Tryd.prog 55 = some ([.nilFunc]).toArray := by kernel_rfl
theorem zc_56 : zc Tryd.prog 56 = some ([.nilFunc]).toArray := by kernel_rfl
theorem zc_57 : zc Tryd.prog 57 = some ([.nilFunc]).toArray := by kernel_rfl
theorem zc_58 : zc Tryd.prog 58 = some ([.nilFunc]).toArray := by kernel_rfl
theorem zc_59 : zc Tryd.prog 59 = some ([.nilFunc]).toArray := by kernel_rfl
theorem zc_60 : zc Tryd.prog 60 = some ([.nilFunc]).toArray := by kernel_rfl
theorem zc_62 : zc Tryd.prog 62 = some ([.slice none 0 0]).toArray := by kernel_rfl
theorem zc_63 : zc Tryd.prog 63 = some ([.pointer none, .slice none 0 0]).toArray := by kernel_rfl
theorem zc_64 : zc Tryd.prog 64 = some ([.pointer none, .slice none 0 0]).toArray := by kernel_rfl
theorem zc_65 : zc Tryd.prog 65 = some ([.nilFunc]).toArray := by kernel_rfl
theorem zc_66 : zc Tryd.prog 66 = some ([.nilFunc]).toArray := by kernel_rfl
theorem zc_67 : zc Tryd.prog 67 = some (List.replicate 25 (.int .i64 0)).toArray := by kernel_rfl
theorem zc_68 : zc Tryd.prog 68 = some (List.replicate 50 (.int .i64 0)).toArray := by kernel_rfl
theorem zc_69 : zc Tryd.prog 69 = some (List.replicate 50 (.int .i64 0)).toArray := by kernel_rfl
theorem zc_70 : zc Tryd.prog 70 = some ([.nilFunc]).toArray := by kernel_rfl
theorem zc_71 : zc Tryd.prog 71 = some ([.nilFunc]).toArray := by kernel_rfl
theorem zc_72 : zc Tryd.prog 72 = some ([.nilFunc]).toArray := by kernel_rfl
theorem zc_73 : zc Tryd.prog 73 = some ([.nilFunc]).toArray := by kernel_rfl
theorem zc_74 : zc Tryd.prog 74 = some ([.nilFunc]).toArray := by kernel_rfl
theorem zc_75 : zc Tryd.prog 75 = some ([.slice none 0 0]).toArray := by kernel_rfl
theorem zc_76 : zc Tryd.prog 76 = some ([.slice none 0 0]).toArray := by kernel_rfl
theorem zc_77 : zc Tryd.prog 77 = some ([.nilFunc]).toArray := by kernel_rfl
theorem zc_78 : zc Tryd.prog 78 = some ([.nilFunc]).toArray := by kernel_rfl
theorem zc_80 : zc Tryd.prog 80 = some ([.nilFunc]).toArray := by kernel_rfl
theorem zc_81 : zc Tryd.prog 81 = some ([.nilFunc]).toArray := by kernel_rfl
theorem zc_82 : zc Tryd.prog 82 = some ([.nilFunc]).toArray := by kernel_rfl
theorem zc_83 : zc Tryd.prog 83 = some ([.nilFunc]).toArray := by kernel_rfl
theorem zc_86 : zc Tryd.prog 86 = some ([.nilFunc]).toArray := by kernel_rfl
theorem zc_88 : zc Tryd.prog 88 = some ([.nilFunc]).toArray := by kernel_rfl
theorem zc_89 : zc Tryd.prog 89 = some ([.nilFunc]).toArray := by kernel_rfl
theorem zc_90 : zc Tryd.prog 90 = some (List.replicate 24 (.int .u8 0)).toArray := by kernel_rfl
theorem zc_91 : zc Tryd.prog 91 = some ([.int .u64 0]).toArray := by kernel_rfl
theorem zc_92 : zc Tryd.prog 92 = some ([.nilFunc]).toArray := by kernel_rfl
theorem zc_93 : zc Tryd.prog 93 = some ([.nilFunc]).toArray := by kernel_rfl
theorem zc_95 : zc Tryd.prog 95 = some ([.nilFunc]).toArray := by kernel_rfl
theorem zc_98 : zc Tryd.prog 98 = some ([.nilFunc]).toArray := by kernel_rfl
theorem zc_100 : zc Tryd.prog 100 = some ([.nilFunc]).toArray := by kernel_rfl
theorem zc_101 : zc Tryd.prog 101 = some ([.nilFunc]).toArray := by kernel_rfl
theorem zc_103 : zc Tryd.prog 103 = some ([.nilFunc]).toArray := by kernel_rfl
theorem zc_104 : zc Tryd.prog 104 = some ([.int .u64 0]).toArray := by kernel_rfl
theorem zc_105 : zc Tryd.prog 105 = some ([.nilFunc]).toArray := by kernel_rfl
theorem zc_106 : zc Tryd.prog 106 = some ([.string ⟨#[]⟩, .string ⟨#[]⟩, .nilIface]).toArray := by kernel_rfl
theorem zc_107 : zc Tryd.prog 107 = some ([.string ⟨#[]⟩, .string ⟨#[]⟩, .nilIface]).toArray := by kernel_rfl
theorem zc_108 : zc Tryd.prog 108 = some ([.nilFunc]).toArray := by kernel_rfl
theorem zc_109 : zc Tryd.prog 109 = some ([.nilFunc]).toArray := by kernel_rfl
theorem zc_110 : zc Tryd.prog 110 = some (List.replicate 20 (.int .u64 0)).toArray := by kernel_rfl
theorem zc_111 : zc Tryd.prog 111 = some ([.int .u32 0]).toArray := by kernel_rfl
theorem zc_112 : zc Tryd.prog 112 = some (List.replicate 65 (.int .u8 0)).toArray := by kernel_rfl
theorem zc_113 : zc Tryd.prog 113 = some ([.nilFunc]).toArray := by kernel_rfl
theorem zc_114 : zc Tryd.prog 114 = some ([.nilFunc]).toArray := by kernel_rfl
theorem zc_115 : zc Tryd.prog 115 = some ([.nilFunc]).toArray := by kernel_rfl
theorem zc_116 : zc Tryd.prog 116 = some ([.nilFunc]).toArray := by kernel_rfl
theorem zc_118 : zc Tryd.prog 118 = some ([.string ⟨#[]⟩]).toArray := by kernel_rfl
theorem zc_119 : zc Tryd.prog 119 = some ([.string ⟨#[]⟩]).toArray := by kernel_rfl
theorem zc_120 : zc Tryd.prog 120 = some ([.nilFunc]).toArray := by kernel_rfl
theorem zc_121 : zc Tryd.prog 121 = some (List.replicate 256 (.int .u8 0)).toArray := by kernel_rfl
theorem zc_122 : zc Tryd.prog 122 = some ([.int .u8 0, .int .u8 0]).toArray := by kernel_rfl
theorem zc_123 : zc Tryd.prog 123 = some ([.int .u8 0, .int .u8 0]).toArray := by kernel_rfl
theorem zc_124 : zc Tryd.prog 124 = some (List.replicate 32 (.int .u8 0)).toArray := by kernel_rfl
theorem zc_126 : zc Tryd.prog 126 = some ([.nilFunc]).toArray := by kernel_rfl
theorem zc_127 : zc Tryd.prog 127 = some (List.replicate 32 (.int .u8 0)).toArray := by kernel_rfl
theorem zc_128 : zc Tryd.prog 128 = some (List.replicate 64 (.int .u8 0)).toArray := by kernel_rfl
def zcT : List (Nat × List Value) := [(1, [.nilFunc]), (2, [.int .i64 0]), (3, [.int .i64 0]), (4, [.bool false]), (5, [.int .u8 0]), (9, [.string ⟨#[]⟩]), (12, [.int .u64 0]), (21, [.int .i32 0]), (22, [.slice none 0 0]), (23, [.slice none 0 0, .slice none 0 0]), (24, [.slice none 0 0, .slice none 0 0]), (25, [.nilFunc]), (26, [.nilFunc]), (27, [.int .i64 0]), (29, [.nilFunc]), (31, [.nilFunc]), (32, [.nilFunc]), (34, [.nilFunc]), (35, [.nilFunc]), (37, [.nilFunc]), (38, [.nilFunc]), (39, [.slice none 0 0]), (40, [.nilFunc]), (41, [.nilFunc]), (43, [.nilFunc]), (47, [.nilFunc]), (48, [.nilFunc]), (49, [.nilFunc]), (50, [.nilFunc]), (51, [.int .i64 0, .int .i64 0]), (52, List.replicate 50 (.int .i64 0)), (53, List.replicate 50 (.int .i64 0)), (55, [.nilFunc]), (56, [.nilFunc]), (57, [.nilFunc]), (58, [.nilFunc]), (59, [.nilFunc]), (60, [.nilFunc]), (62, [.slice none 0 0]), (63, [.pointer none, .slice none 0 0]), (64, [.pointer none, .slice none 0 0]), (65, [.nilFunc]), (66, [.nilFunc]), (67, List.replicate 25 (.int .i64 0)), (68, List.replicate 50 (.int .i64 0)), (69, List.replicate 50 (.int .i64 0)), (70, [.nilFunc]), (71, [.nilFunc]), (72, [.nilFunc]), (73, [.nilFunc]), (74, [.nilFunc]), (75, [.slice none 0 0]), (76, [.slice none 0 0]), (77, [.nilFunc]), (78, [.nilFunc]), (80, [.nilFunc]), (81, [.nilFunc]), (82, [.nilFunc]), (83, [.nilFunc]), (86, [.nilFunc]), (88, [.nilFunc]), (89, [.nilFunc]), (90, List.replicate 24 (.int .u8 0)), (91, [.int .u64 0]), (92, [.nilFunc]), (93, [.nilFunc]), (95, [.nilFunc]), (98, [.nilFunc]), (100, [.nilFunc]), (101, [.nilFunc]), (103, [.nilFunc]), (104, [.int .u64 0]), (105, [.nilFunc]), (106, [.string ⟨#[]⟩, .string ⟨#[]⟩, .nilIface]), (107, [.string ⟨#[]⟩, .string ⟨#[]⟩, .nilIface]), (108, [.nilFunc]), (109, [.nilFunc]), (110, List.replicate 20 (.int .u64 0)), (111, [.int .u32 0]), (112, List.replicate 65 (.int .u8 0)), (113, [.nilFunc]), (114, [.nilFunc]), (115, [.nilFunc]), (116, [.nilFunc]), (118, [.string ⟨#[]⟩]), (119, [.string ⟨#[]⟩]), (120, [.nilFunc]), (121, List.replicate 256 (.int .u8 0)), (122, [.int .u8 0, .int .u8 0]), (123, [.int .u8 0, .int .u8 0]), (124, List.replicate 32 (.int .u8 0)), (126, [.nilFunc]), (127, List.replicate 32 (.int .u8 0)), (128, List.replicate 64 (.int .u8 0))]
theorem zcTOk : AllZ (fun p => zc Tryd.prog p.1 = some p.2.toArray) zcT := ⟨zc_1, zc_2, zc_3, zc_4, zc_5, zc_9, zc_12, zc_21, zc_22, zc_23, zc_24, zc_25, zc_26, zc_27, zc_29, zc_31, zc_32, zc_34, zc_35, zc_37, zc_38, zc_39, zc_40, zc_41, zc_43, zc_47, zc_48, zc_49, zc_50, zc_51, zc_52, zc_53, zc_55, zc_56, zc_57, zc_58, zc_59, zc_60, zc_62, zc_63, zc_64, zc_65, zc_66, zc_67, zc_68, zc_69, zc_70, zc_71, zc_72, zc_73, zc_74, zc_75, zc_76, zc_77, zc_78, zc_80, zc_81, zc_82, zc_83, zc_86, zc_88, zc_89, zc_90, zc_91, zc_92, zc_93, zc_95, zc_98, zc_100, zc_101, zc_103, zc_104, zc_105, zc_106, zc_107, zc_108, zc_109, zc_110, zc_111, zc_112, zc_113, zc_114, zc_115, zc_116, zc_118, zc_119, zc_120, zc_121, zc_122, zc_123, zc_124, zc_126, zc_127, zc_128, trivial⟩
theorem zcTOf {t : Nat} {r : List Value} (h : getT zcT t = some r) : zc Tryd.prog t = some r.toArray := zcTOk.of (t, r) (getT_mem h)
theorem zs_22 : zs Tryd.prog 22 = some ([.int .i64 0]).toArray := by kernel_rfl
theorem zs_39 : zs Tryd.prog 39 = some ([.string ⟨#[]⟩]).toArray := by kernel_rfl
theorem zs_62 : zs Tryd.prog 62 = some ([.int .u8 0]).toArray := by kernel_rfl
theorem zs_75 : zs Tryd.prog 75 = some ([.slice none 0 0]).toArray := by kernel_rfl
theorem zs_76 : zs Tryd.prog 76 = some ([.int .i64 0, .int .i64 0]).toArray := by kernel_rfl
def zsT : List (Nat × List Value) := [(22, [.int .i64 0]), (39, [.string ⟨#[]⟩]), (62, [.int .u8 0]), (75, [.slice none 0 0]), (76, [.int .i64 0, .int .i64 0])]
theorem zsTOk : AllZ (fun p => zs Tryd.prog p.1 = some p.2.toArray) zsT := ⟨zs_22, zs_39, zs_62, zs_75, zs_76, trivial⟩
theorem zsTOf {t : Nat} {r : List Value} (h : getT zsT t = some r) : zs Tryd.prog t = some r.toArray := zsTOk.of (t, r) (getT_mem h)
theorem mixed : Tryd.prog.follows .mixedOrders = true := by kernel_rfl
end Go.Proofs.YtmblgbcipniecaaDoor
