/- Closed facts on the types and functions of this translation, written by wip/ty.py. -/
import Derived.Test.YtgcjddlcgpjlcaaMRk
import Derived.Test.YtgcjddlcgpjlcaaRows
namespace Go.Proofs.Ytgcjddlcgpjlcaa
open Go.RowKit
def shT : List (Nat × Bool × Nat) := [(1, false, 1), (2, false, 1), (3, false, 1), (4, false, 1), (5, false, 1), (9, false, 1), (12, false, 1), (21, false, 1), (22, false, 1), (23, true, 3), (24, true, 3), (25, false, 1), (26, false, 1), (27, false, 1), (29, false, 1), (30, false, 1), (31, false, 1), (32, false, 1), (34, false, 1), (35, false, 1), (37, false, 1), (38, false, 1), (39, false, 1), (40, false, 1), (41, true, 2), (42, true, 2), (43, true, 2), (44, true, 2), (45, false, 1), (46, false, 1), (47, false, 1), (49, false, 1), (50, false, 1), (51, false, 1), (53, false, 1), (54, true, 2), (55, false, 1), (57, false, 1), (58, true, 2), (59, true, 2), (60, false, 1), (61, false, 1), (62, false, 1), (63, false, 1), (64, false, 1), (66, false, 1), (67, false, 1), (68, false, 1), (69, false, 1), (70, false, 1), (71, false, 1), (72, false, 1), (73, false, 1), (75, false, 1), (76, true, 3), (77, true, 3), (78, true, 3), (79, true, 3), (80, false, 1), (81, false, 1), (82, false, 1), (83, true, 4), (84, true, 4), (85, false, 1), (87, false, 1), (88, false, 1), (89, false, 1), (90, false, 1), (91, false, 1), (92, false, 1), (93, false, 1), (94, false, 1), (95, true, 5), (96, true, 5), (97, false, 1), (98, false, 1), (99, false, 1), (100, false, 1), (101, false, 1), (102, false, 1), (103, false, 1), (104, false, 1), (106, false, 1), (107, false, 1), (108, false, 1), (109, false, 1), (110, false, 1), (111, false, 1), (112, false, 1), (113, false, 1), (114, false, 1), (115, false, 1), (116, false, 1), (117, false, 1), (118, false, 1), (119, false, 1), (120, false, 1), (121, false, 1), (122, false, 1), (123, false, 1), (124, false, 1), (125, false, 1), (127, false, 1), (128, false, 1), (129, false, 1), (130, false, 1), (132, false, 1), (133, false, 1), (134, false, 1), (135, false, 1), (136, false, 1), (137, false, 1), (138, false, 1), (139, false, 1), (140, false, 1), (141, false, 1), (142, false, 1), (143, false, 1), (144, false, 1), (145, false, 1), (146, false, 1), (147, false, 1), (148, false, 1), (149, false, 1), (150, false, 1), (151, false, 1), (152, false, 1), (153, false, 1), (154, false, 1), (155, false, 1), (156, false, 1), (157, false, 1), (158, false, 1), (161, false, 1), (162, false, 1), (163, false, 1), (164, false, 1), (165, false, 1), (166, false, 1), (172, false, 1)]
set_option maxRecDepth 100000 in
theorem shTOk : shT.all (fun p => sh Try.prog p.1 == some p.2) = true := by kernel_rfl
theorem shTOf {t : Nat} {r : Bool × Nat} (h : getT shT t = some r) : sh Try.prog t = some r := by
  have := List.all_eq_true.1 shTOk _ (getT_mem h)
  simpa using this
def foT : List (Nat × Nat × Bool × Nat) := [(1472, 0, false, 1), (1473, 1, false, 1), (1474, 2, false, 1), (1536, 0, false, 1), (1537, 1, false, 1), (1538, 2, false, 1), (2624, 0, false, 1), (2625, 1, false, 1), (2688, 0, false, 1), (2689, 1, false, 1), (2752, 0, false, 1), (2753, 1, false, 1), (2816, 0, false, 1), (2817, 1, false, 1), (3712, 0, false, 1), (3713, 1, false, 1), (3776, 0, false, 1), (3777, 1, false, 1), (4864, 0, false, 1), (4865, 1, false, 1), (4866, 2, false, 1), (4928, 0, false, 1), (4929, 1, false, 1), (4930, 2, false, 1), (4992, 0, false, 1), (4993, 1, false, 1), (4994, 2, false, 1), (5056, 0, false, 1), (5057, 1, false, 1), (5058, 2, false, 1), (5312, 0, false, 1), (5313, 1, false, 1), (5314, 2, false, 1), (5315, 3, false, 1), (5376, 0, false, 1), (5377, 1, false, 1), (5378, 2, false, 1), (5379, 3, false, 1), (6080, 0, true, 4), (6081, 4, false, 1), (6144, 0, true, 4), (6145, 4, false, 1)]
set_option maxRecDepth 100000 in
theorem foTOk : foT.all (fun p => fo Try.prog (p.1 / 64) (p.1 % 64) == some p.2) = true := by kernel_rfl
theorem foTOf {t : Nat} {r : Nat × Bool × Nat} (h : getT foT t = some r) : fo Try.prog (t / 64) (t % 64) = some r := by
  have := List.all_eq_true.1 foTOk _ (getT_mem h)
  simpa using this
def arT : List (Nat × Nat × Bool × Nat) := [(54, 2, false, 1)]
set_option maxRecDepth 100000 in
theorem arTOk : arT.all (fun p => ar Try.prog p.1 == some p.2) = true := by kernel_rfl
theorem arTOf {t : Nat} {r : Nat × Bool × Nat} (h : getT arT t = some r) : ar Try.prog t = some r := by
  have := List.all_eq_true.1 arTOk _ (getT_mem h)
  simpa using this
def scT : List (Nat × Bool × Nat) := [(22, true, 4), (32, false, 1), (40, true, 3), (51, true, 2), (55, true, 2), (70, true, 3), (92, true, 5)]
set_option maxRecDepth 100000 in
theorem scTOk : scT.all (fun p => sc Try.prog p.1 == some p.2) = true := by kernel_rfl
theorem scTOf {t : Nat} {r : Bool × Nat} (h : getT scT t = some r) : sc Try.prog t = some r := by
  have := List.all_eq_true.1 scTOk _ (getT_mem h)
  simpa using this
def plT : List (Nat × List (Nat × Nat)) := [(23, [(0, 1), (1, 1), (2, 1)]), (24, [(0, 1), (1, 1), (2, 1)]), (41, [(0, 1), (1, 1)]), (42, [(0, 1), (1, 1)]), (43, [(0, 1), (1, 1)]), (44, [(0, 1), (1, 1)]), (58, [(0, 1), (1, 1)]), (59, [(0, 1), (1, 1)]), (76, [(0, 1), (1, 1), (2, 1)]), (77, [(0, 1), (1, 1), (2, 1)]), (78, [(0, 1), (1, 1), (2, 1)]), (79, [(0, 1), (1, 1), (2, 1)]), (83, [(0, 1), (1, 1), (2, 1), (3, 1)]), (84, [(0, 1), (1, 1), (2, 1), (3, 1)]), (95, [(0, 4), (4, 1)]), (96, [(0, 4), (4, 1)])]
set_option maxRecDepth 100000 in
theorem plTOk : plT.all (fun p => pl Try.prog p.1 == some p.2) = true := by kernel_rfl
theorem plTOf {t : Nat} {r : List (Nat × Nat)} (h : getT plT t = some r) : pl Try.prog t = some r := by
  have := List.all_eq_true.1 plTOk _ (getT_mem h)
  simpa using this
def apT : List (Nat × Nat × Nat) := [(22, 4, 32), (32, 1, 8), (40, 3, 24), (51, 2, 16), (55, 2, 16), (70, 3, 24), (92, 5, 40)]
set_option maxRecDepth 100000 in
theorem apTOk : apT.all (fun p => ap Try.prog p.1 == some p.2) = true := by kernel_rfl
theorem apTOf {t : Nat} {r : Nat × Nat} (h : getT apT t = some r) : ap Try.prog t = some r := by
  have := List.all_eq_true.1 apTOk _ (getT_mem h)
  simpa using this
def goT : List (Nat × Unit) := [(3, ()), (4, ()), (5, ()), (6, ()), (7, ()), (8, ()), (9, ()), (10, ()), (11, ()), (12, ()), (13, ()), (14, ()), (15, ()), (16, ()), (17, ()), (18, ()), (19, ()), (20, ()), (21, ()), (22, ()), (23, ()), (24, ()), (25, ()), (26, ()), (27, ()), (28, ()), (29, ()), (30, ()), (31, ()), (32, ()), (33, ()), (34, ()), (35, ()), (36, ()), (37, ()), (38, ()), (39, ()), (40, ()), (41, ()), (42, ()), (43, ()), (44, ()), (45, ()), (46, ()), (47, ()), (48, ()), (49, ()), (50, ()), (51, ()), (52, ()), (53, ()), (54, ()), (55, ()), (56, ()), (57, ()), (58, ()), (59, ()), (60, ()), (61, ()), (62, ()), (63, ()), (64, ()), (65, ()), (66, ()), (67, ()), (68, ()), (69, ()), (70, ()), (71, ()), (72, ()), (73, ()), (74, ()), (75, ()), (76, ()), (77, ()), (78, ()), (79, ()), (80, ()), (81, ()), (82, ()), (83, ()), (84, ()), (85, ()), (86, ()), (87, ()), (88, ()), (89, ()), (90, ()), (91, ()), (93, ()), (94, ()), (95, ()), (96, ()), (97, ()), (98, ()), (99, ()), (100, ()), (101, ()), (102, ()), (103, ()), (104, ()), (105, ()), (106, ()), (107, ()), (108, ()), (109, ()), (112, ()), (113, ()), (114, ()), (115, ()), (116, ()), (117, ()), (118, ()), (119, ()), (120, ()), (121, ()), (122, ()), (123, ()), (124, ()), (126, ()), (127, ()), (128, ()), (129, ()), (130, ()), (131, ()), (132, ()), (133, ()), (134, ()), (135, ()), (136, ()), (137, ()), (138, ()), (139, ()), (140, ()), (141, ()), (142, ()), (143, ()), (144, ()), (145, ()), (146, ()), (147, ()), (148, ())]
set_option maxRecDepth 100000 in
theorem goTOk : goT.all (fun p => isGo Try.prog p.1) = true := by kernel_rfl
set_option maxRecDepth 100000 in
theorem goTOf {t : Nat} (h : getT goT t = some ()) : isGo Try.prog t = true := List.all_eq_true.1 goTOk _ (getT_mem h)
theorem foTOf2 {t f : Nat} {r : Nat × Bool × Nat} (hf : Nat.blt f 64 = true) (h : getT foT (64 * t + f) = some r) : fo Try.prog t f = some r := by
  have h1 : f < 64 := by simpa using hf
  have := foTOf h
  rwa [show (64 * t + f) / 64 = t by omega, show (64 * t + f) % 64 = f by omega] at this
theorem zc_1 : zc Try.prog 1 = some ([.nilFunc]).toArray := by kernel_rfl
theorem zc_2 : zc Try.prog 2 = some ([.int .i64 0]).toArray := by kernel_rfl
theorem zc_3 : zc Try.prog 3 = some ([.int .i64 0]).toArray := by kernel_rfl
theorem zc_4 : zc Try.prog 4 = some ([.bool false]).toArray := by kernel_rfl
theorem zc_5 : zc Try.prog 5 = some ([.int .u8 0]).toArray := by kernel_rfl
theorem zc_9 : zc Try.prog 9 = some ([.string ⟨#[]⟩]).toArray := by kernel_rfl
theorem zc_12 : zc Try.prog 12 = some ([.int .u64 0]).toArray := by kernel_rfl
theorem zc_21 : zc Try.prog 21 = some ([.int .i32 0]).toArray := by kernel_rfl
theorem zc_22 : zc Try.prog 22 = some ([.slice none 0 0]).toArray := by kernel_rfl
theorem zc_23 : zc Try.prog 23 = some ([.slice none 0 0, .int .i64 0, .int .i64 0]).toArray := by kernel_rfl
theorem zc_24 : zc Try.prog 24 = some ([.slice none 0 0, .int .i64 0, .int .i64 0]).toArray := by kernel_rfl
theorem zc_25 : zc Try.prog 25 = some ([.nilFunc]).toArray := by kernel_rfl
theorem zc_26 : zc Try.prog 26 = some ([.nilFunc]).toArray := by kernel_rfl
theorem zc_27 : zc Try.prog 27 = some ([.int .i64 0]).toArray := by kernel_rfl
theorem zc_29 : zc Try.prog 29 = some ([.nilFunc]).toArray := by kernel_rfl
theorem zc_30 : zc Try.prog 30 = some ([.nilFunc]).toArray := by kernel_rfl
theorem zc_31 : zc Try.prog 31 = some ([.nilFunc]).toArray := by kernel_rfl
theorem zc_32 : zc Try.prog 32 = some ([.slice none 0 0]).toArray := by kernel_rfl
theorem zc_34 : zc Try.prog 34 = some ([.nilFunc]).toArray := by kernel_rfl
theorem zc_35 : zc Try.prog 35 = some ([.nilFunc]).toArray := by kernel_rfl
theorem zc_37 : zc Try.prog 37 = some ([.nilFunc]).toArray := by kernel_rfl
theorem zc_38 : zc Try.prog 38 = some ([.nilFunc]).toArray := by kernel_rfl
theorem zc_39 : zc Try.prog 39 = some ([.nilFunc]).toArray := by kernel_rfl
theorem zc_40 : zc Try.prog 40 = some ([.slice none 0 0]).toArray := by kernel_rfl
theorem zc_41 : zc Try.prog 41 = some ([.slice none 0 0, .slice none 0 0]).toArray := by kernel_rfl
theorem zc_42 : zc Try.prog 42 = some ([.slice none 0 0, .slice none 0 0]).toArray := by kernel_rfl
theorem zc_43 : zc Try.prog 43 = some ([.int .i64 0, .int .i64 0]).toArray := by kernel_rfl
theorem zc_44 : zc Try.prog 44 = some ([.int .i64 0, .int .i64 0]).toArray := by kernel_rfl
theorem zc_45 : zc Try.prog 45 = some ([.nilFunc]).toArray := by kernel_rfl
theorem zc_46 : zc Try.prog 46 = some ([.nilFunc]).toArray := by kernel_rfl
theorem zc_47 : zc Try.prog 47 = some ([.nilFunc]).toArray := by kernel_rfl
theorem zc_49 : zc Try.prog 49 = some ([.nilFunc]).toArray := by kernel_rfl
theorem zc_50 : zc Try.prog 50 = some ([.nilFunc]).toArray := by kernel_rfl
theorem zc_51 : zc Try.prog 51 = some ([.slice none 0 0]).toArray := by kernel_rfl
theorem zc_53 : zc Try.prog 53 = some ([.nilFunc]).toArray := by kernel_rfl
theorem zc_54 : zc Try.prog 54 = some ([.int .i64 0, .int .i64 0]).toArray := by kernel_rfl
theorem zc_55 : zc Try.prog 55 = some ([.slice none 0 0]).toArray := by kernel_rfl
theorem zc_57 : zc Try.prog 57 = some ([.nilFunc]).toArray := by kernel_rfl
theorem zc_58 : zc Try.prog 58 = some ([.int .i64 0, .int .i64 0]).toArray := by kernel_rfl
theorem zc_59 : zc Try.prog 59 = some ([.int .i64 0, .int .i64 0]).toArray := by kernel_rfl
theorem zc_60 : zc Try.prog 60 = some ([.nilFunc]).toArray := by kernel_rfl
theorem zc_61 : zc Try.prog 61 = some ([.nilFunc]).toArray := by kernel_rfl
theorem zc_62 : zc Try.prog 62 = some ([.nilFunc]).toArray := by kernel_rfl
theorem zc_63 : zc Try.prog 63 = some ([.nilFunc]).toArray := by kernel_rfl
theorem zc_64 : zc Try.prog 64 = some ([.nilFunc]).toArray := by kernel_rfl
theorem zc_66 : zc Try.prog 66 = some ([.nilFunc]).toArray := by kernel_rfl
theorem zc_67 : zc Try.prog 67 = some ([.nilFunc]).toArray := by kernel_rfl
theorem zc_68 : zc Try.prog 68 = some ([.nilFunc]).toArray := by kernel_rfl
theorem zc_69 : zc Try.prog 69 = some ([.nilFunc]).toArray := by kernel_rfl
theorem zc_70 : zc Try.prog 70 = some ([.slice none 0 0]).toArray := by kernel_rfl
theorem zc_71 : zc Try.prog 71 = some ([.nilFunc]).toArray := by kernel_rfl
theorem zc_72 : zc Try.prog 72 = some ([.nilFunc]).toArray := by kernel_rfl
theorem zc_73 : zc Try.prog 73 = some ([.nilFunc]).toArray := by kernel_rfl
theorem zc_75 : zc Try.prog 75 = some ([.nilFunc]).toArray := by kernel_rfl
theorem zc_76 : zc Try.prog 76 = some ([.int .i64 0, .int .i64 0, .int .i64 0]).toArray := by kernel_rfl
theorem zc_77 : zc Try.prog 77 = some ([.int .i64 0, .int .i64 0, .int .i64 0]).toArray := by kernel_rfl
theorem zc_78 : zc Try.prog 78 = some ([.int .i64 0, .int .i64 0, .int .i64 0]).toArray := by kernel_rfl
theorem zc_79 : zc Try.prog 79 = some ([.int .i64 0, .int .i64 0, .int .i64 0]).toArray := by kernel_rfl
theorem zc_80 : zc Try.prog 80 = some ([.nilFunc]).toArray := by kernel_rfl
theorem zc_81 : zc Try.prog 81 = some ([.nilFunc]).toArray := by kernel_rfl
theorem zc_82 : zc Try.prog 82 = some ([.nilFunc]).toArray := by kernel_rfl
theorem zc_83 : zc Try.prog 83 = some ([.int .i64 0, .int .i64 0, .int .i64 0, .int .i64 0]).toArray := by kernel_rfl
theorem zc_84 : zc Try.prog 84 = some ([.int .i64 0, .int .i64 0, .int .i64 0, .int .i64 0]).toArray := by kernel_rfl
theorem zc_85 : zc Try.prog 85 = some ([.nilFunc]).toArray := by kernel_rfl
theorem zc_87 : zc Try.prog 87 = some ([.nilFunc]).toArray := by kernel_rfl
theorem zc_88 : zc Try.prog 88 = some ([.nilFunc]).toArray := by kernel_rfl
theorem zc_89 : zc Try.prog 89 = some ([.nilFunc]).toArray := by kernel_rfl
theorem zc_90 : zc Try.prog 90 = some ([.nilFunc]).toArray := by kernel_rfl
theorem zc_91 : zc Try.prog 91 = some ([.nilFunc]).toArray := by kernel_rfl
theorem zc_92 : zc Try.prog 92 = some ([.slice none 0 0]).toArray := by kernel_rfl
theorem zc_93 : zc Try.prog 93 = some ([.nilFunc]).toArray := by kernel_rfl
theorem zc_94 : zc Try.prog 94 = some ([.nilFunc]).toArray := by kernel_rfl
theorem zc_95 : zc Try.prog 95 = some ([.int .i64 0, .int .i64 0, .int .i64 0, .int .i64 0, .int .i64 0]).toArray := by kernel_rfl
theorem zc_96 : zc Try.prog 96 = some ([.int .i64 0, .int .i64 0, .int .i64 0, .int .i64 0, .int .i64 0]).toArray := by kernel_rfl
theorem zc_97 : zc Try.prog 97 = some ([.nilFunc]).toArray := by kernel_rfl
theorem zc_98 : zc Try.prog 98 = some ([.nilFunc]).toArray := by kernel_rfl
theorem zc_99 : zc Try.prog 99 = some ([.nilFunc]).toArray := by kernel_rfl
theorem zc_100 : zc Try.prog 100 = some ([.nilFunc]).toArray := by kernel_rfl
theorem zc_101 : zc Try.prog 101 = some ([.nilFunc]).toArray := by kernel_rfl
theorem zc_102 : zc Try.prog 102 = some ([.nilFunc]).toArray := by kernel_rfl
theorem zc_103 : zc Try.prog 103 = some ([.nilFunc]).toArray := by kernel_rfl
theorem zc_104 : zc Try.prog 104 = some ([.nilFunc]).toArray := by kernel_rfl
theorem zc_106 : zc Try.prog 106 = some ([.nilFunc]).toArray := by kernel_rfl
theorem zc_107 : zc Try.prog 107 = some ([.nilFunc]).toArray := by kernel_rfl
theorem zc_108 : zc Try.prog 108 = some ([.nilFunc]).toArray := by kernel_rfl
theorem zc_109 : zc Try.prog 109 = some ([.nilFunc]).toArray := by kernel_rfl
theorem zc_110 : zc Try.prog 110 = some ([.nilFunc]).toArray := by kernel_rfl
theorem zc_111 : zc Try.prog 111 = some ([.nilFunc]).toArray := by kernel_rfl
theorem zc_112 : zc Try.prog 112 = some ([.nilFunc]).toArray := by kernel_rfl
theorem zc_113 : zc Try.prog 113 = some ([.nilFunc]).toArray := by kernel_rfl
theorem zc_114 : zc Try.prog 114 = some ([.nilFunc]).toArray := by kernel_rfl
theorem zc_115 : zc Try.prog 115 = some ([.nilFunc]).toArray := by kernel_rfl
theorem zc_116 : zc Try.prog 116 = some ([.nilFunc]).toArray := by kernel_rfl
theorem zc_117 : zc Try.prog 117 = some ([.int .u64 0]).toArray := by kernel_rfl
theorem zc_118 : zc Try.prog 118 = some ([.nilFunc]).toArray := by kernel_rfl
theorem zc_119 : zc Try.prog 119 = some ([.nilFunc]).toArray := by kernel_rfl
theorem zc_120 : zc Try.prog 120 = some ([.nilFunc]).toArray := by kernel_rfl
theorem zc_121 : zc Try.prog 121 = some ([.nilFunc]).toArray := by kernel_rfl
theorem zc_122 : zc Try.prog 122 = some ([.nilFunc]).toArray := by kernel_rfl
theorem zc_123 : zc Try.prog 123 = some ([.nilFunc]).toArray := by kernel_rfl
theorem zc_124 : zc Try.prog 124 = some ([.nilFunc]).toArray := by kernel_rfl
theorem zc_125 : zc Try.prog 125 = some ([.int .i64 0]).toArray := by kernel_rfl
theorem zc_127 : zc Try.prog 127 = some ([.nilFunc]).toArray := by kernel_rfl
theorem zc_128 : zc Try.prog 128 = some ([.nilFunc]).toArray := by kernel_rfl
theorem zc_129 : zc Try.prog 129 = some ([.nilFunc]).toArray := by kernel_rfl
theorem zc_130 : zc Try.prog 130 = some ([.nilFunc]).toArray := by kernel_rfl
theorem zc_132 : zc Try.prog 132 = some ([.nilFunc]).toArray := by kernel_rfl
theorem zc_133 : zc Try.prog 133 = some ([.nilFunc]).toArray := by kernel_rfl
theorem zc_134 : zc Try.prog 134 = some ([.int .u32 0]).toArray := by kernel_rfl
theorem zc_135 : zc Try.prog 135 = some ([.nilFunc]).toArray := by kernel_rfl
theorem zc_136 : zc Try.prog 136 = some ([.int .u64 0]).toArray := by kernel_rfl
theorem zc_137 : zc Try.prog 137 = some ([.nilFunc]).toArray := by kernel_rfl
theorem zc_138 : zc Try.prog 138 = some ([.nilFunc]).toArray := by kernel_rfl
theorem zc_139 : zc Try.prog 139 = some ([.nilFunc]).toArray := by kernel_rfl
theorem zc_140 : zc Try.prog 140 = some ([.nilFunc]).toArray := by kernel_rfl
theorem zc_141 : zc Try.prog 141 = some ([.nilFunc]).toArray := by kernel_rfl
theorem zc_142 : zc Try.prog 142 = some ([.nilFunc]).toArray := by kernel_rfl
theorem zc_143 : zc Try.prog 143 = some ([.nilFunc]).toArray := by kernel_rfl
theorem zc_144 : zc Try.prog 144 = some ([.int .u64 0]).toArray := by kernel_rfl
theorem zc_145 : zc Try.prog 145 = some ([.nilFunc]).toArray := by kernel_rfl
theorem zc_146 : zc Try.prog 146 = some ([.nilFunc]).toArray := by kernel_rfl
theorem zc_147 : zc Try.prog 147 = some ([.nilFunc]).toArray := by kernel_rfl
theorem zc_148 : zc Try.prog 148 = some ([.pointer none]).toArray := by kernel_rfl
theorem zc_149 : zc Try.prog 149 = some ([.nilFunc]).toArray := by kernel_rfl
theorem zc_150 : zc Try.prog 150 = some ([.nilFunc]).toArray := by kernel_rfl
theorem zc_151 : zc Try.prog 151 = some ([.nilFunc]).toArray := by kernel_rfl
theorem zc_152 : zc Try.prog 152 = some ([.nilFunc]).toArray := by kernel_rfl
theorem zc_153 : zc Try.prog 153 = some ([.nilFunc]).toArray := by kernel_rfl
theorem zc_154 : zc Try.prog 154 = some ([.nilFunc]).toArray := by kernel_rfl
theorem zc_155 : zc Try.prog 155 = some ([.nilFunc]).toArray := by kernel_rfl
theorem zc_156 : zc Try.prog 156 = some ([.nilFunc]).toArray := by kernel_rfl
theorem zc_157 : zc Try.prog 157 = some ([.nilFunc]).toArray := by kernel_rfl
theorem zc_158 : zc Try.prog 158 = some ([.nilFunc]).toArray := by kernel_rfl
theorem zc_161 : zc Try.prog 161 = some ([.nilFunc]).toArray := by kernel_rfl
theorem zc_162 : zc Try.prog 162 = some ([.nilFunc]).toArray := by kernel_rfl
theorem zc_163 : zc Try.prog 163 = some ([.nilFunc]).toArray := by kernel_rfl
theorem zc_164 : zc Try.prog 164 = some ([.nilFunc]).toArray := by kernel_rfl
theorem zc_165 : zc Try.prog 165 = some ([.nilFunc]).toArray := by kernel_rfl
theorem zc_166 : zc Try.prog 166 = some ([.nilFunc]).toArray := by kernel_rfl
theorem zc_172 : zc Try.prog 172 = some ([.nilFunc]).toArray := by kernel_rfl
def zcT : List (Nat × List Value) := [(1, [.nilFunc]), (2, [.int .i64 0]), (3, [.int .i64 0]), (4, [.bool false]), (5, [.int .u8 0]), (9, [.string ⟨#[]⟩]), (12, [.int .u64 0]), (21, [.int .i32 0]), (22, [.slice none 0 0]), (23, [.slice none 0 0, .int .i64 0, .int .i64 0]), (24, [.slice none 0 0, .int .i64 0, .int .i64 0]), (25, [.nilFunc]), (26, [.nilFunc]), (27, [.int .i64 0]), (29, [.nilFunc]), (30, [.nilFunc]), (31, [.nilFunc]), (32, [.slice none 0 0]), (34, [.nilFunc]), (35, [.nilFunc]), (37, [.nilFunc]), (38, [.nilFunc]), (39, [.nilFunc]), (40, [.slice none 0 0]), (41, [.slice none 0 0, .slice none 0 0]), (42, [.slice none 0 0, .slice none 0 0]), (43, [.int .i64 0, .int .i64 0]), (44, [.int .i64 0, .int .i64 0]), (45, [.nilFunc]), (46, [.nilFunc]), (47, [.nilFunc]), (49, [.nilFunc]), (50, [.nilFunc]), (51, [.slice none 0 0]), (53, [.nilFunc]), (54, [.int .i64 0, .int .i64 0]), (55, [.slice none 0 0]), (57, [.nilFunc]), (58, [.int .i64 0, .int .i64 0]), (59, [.int .i64 0, .int .i64 0]), (60, [.nilFunc]), (61, [.nilFunc]), (62, [.nilFunc]), (63, [.nilFunc]), (64, [.nilFunc]), (66, [.nilFunc]), (67, [.nilFunc]), (68, [.nilFunc]), (69, [.nilFunc]), (70, [.slice none 0 0]), (71, [.nilFunc]), (72, [.nilFunc]), (73, [.nilFunc]), (75, [.nilFunc]), (76, [.int .i64 0, .int .i64 0, .int .i64 0]), (77, [.int .i64 0, .int .i64 0, .int .i64 0]), (78, [.int .i64 0, .int .i64 0, .int .i64 0]), (79, [.int .i64 0, .int .i64 0, .int .i64 0]), (80, [.nilFunc]), (81, [.nilFunc]), (82, [.nilFunc]), (83, [.int .i64 0, .int .i64 0, .int .i64 0, .int .i64 0]), (84, [.int .i64 0, .int .i64 0, .int .i64 0, .int .i64 0]), (85, [.nilFunc]), (87, [.nilFunc]), (88, [.nilFunc]), (89, [.nilFunc]), (90, [.nilFunc]), (91, [.nilFunc]), (92, [.slice none 0 0]), (93, [.nilFunc]), (94, [.nilFunc]), (95, [.int .i64 0, .int .i64 0, .int .i64 0, .int .i64 0, .int .i64 0]), (96, [.int .i64 0, .int .i64 0, .int .i64 0, .int .i64 0, .int .i64 0]), (97, [.nilFunc]), (98, [.nilFunc]), (99, [.nilFunc]), (100, [.nilFunc]), (101, [.nilFunc]), (102, [.nilFunc]), (103, [.nilFunc]), (104, [.nilFunc]), (106, [.nilFunc]), (107, [.nilFunc]), (108, [.nilFunc]), (109, [.nilFunc]), (110, [.nilFunc]), (111, [.nilFunc]), (112, [.nilFunc]), (113, [.nilFunc]), (114, [.nilFunc]), (115, [.nilFunc]), (116, [.nilFunc]), (117, [.int .u64 0]), (118, [.nilFunc]), (119, [.nilFunc]), (120, [.nilFunc]), (121, [.nilFunc]), (122, [.nilFunc]), (123, [.nilFunc]), (124, [.nilFunc]), (125, [.int .i64 0]), (127, [.nilFunc]), (128, [.nilFunc]), (129, [.nilFunc]), (130, [.nilFunc]), (132, [.nilFunc]), (133, [.nilFunc]), (134, [.int .u32 0]), (135, [.nilFunc]), (136, [.int .u64 0]), (137, [.nilFunc]), (138, [.nilFunc]), (139, [.nilFunc]), (140, [.nilFunc]), (141, [.nilFunc]), (142, [.nilFunc]), (143, [.nilFunc]), (144, [.int .u64 0]), (145, [.nilFunc]), (146, [.nilFunc]), (147, [.nilFunc]), (148, [.pointer none]), (149, [.nilFunc]), (150, [.nilFunc]), (151, [.nilFunc]), (152, [.nilFunc]), (153, [.nilFunc]), (154, [.nilFunc]), (155, [.nilFunc]), (156, [.nilFunc]), (157, [.nilFunc]), (158, [.nilFunc]), (161, [.nilFunc]), (162, [.nilFunc]), (163, [.nilFunc]), (164, [.nilFunc]), (165, [.nilFunc]), (166, [.nilFunc]), (172, [.nilFunc])]
theorem zcTOk : AllZ (fun p => zc Try.prog p.1 = some p.2.toArray) zcT := ⟨zc_1, zc_2, zc_3, zc_4, zc_5, zc_9, zc_12, zc_21, zc_22, zc_23, zc_24, zc_25, zc_26, zc_27, zc_29, zc_30, zc_31, zc_32, zc_34, zc_35, zc_37, zc_38, zc_39, zc_40, zc_41, zc_42, zc_43, zc_44, zc_45, zc_46, zc_47, zc_49, zc_50, zc_51, zc_53, zc_54, zc_55, zc_57, zc_58, zc_59, zc_60, zc_61, zc_62, zc_63, zc_64, zc_66, zc_67, zc_68, zc_69, zc_70, zc_71, zc_72, zc_73, zc_75, zc_76, zc_77, zc_78, zc_79, zc_80, zc_81, zc_82, zc_83, zc_84, zc_85, zc_87, zc_88, zc_89, zc_90, zc_91, zc_92, zc_93, zc_94, zc_95, zc_96, zc_97, zc_98, zc_99, zc_100, zc_101, zc_102, zc_103, zc_104, zc_106, zc_107, zc_108, zc_109, zc_110, zc_111, zc_112, zc_113, zc_114, zc_115, zc_116, zc_117, zc_118, zc_119, zc_120, zc_121, zc_122, zc_123, zc_124, zc_125, zc_127, zc_128, zc_129, zc_130, zc_132, zc_133, zc_134, zc_135, zc_136, zc_137, zc_138, zc_139, zc_140, zc_141, zc_142, zc_143, zc_144, zc_145, zc_146, zc_147, zc_148, zc_149, zc_150, zc_151, zc_152, zc_153, zc_154, zc_155, zc_156, zc_157, zc_158, zc_161, zc_162, zc_163, zc_164, zc_165, zc_166, zc_172, trivial⟩
theorem zcTOf {t : Nat} {r : List Value} (h : getT zcT t = some r) : zc Try.prog t = some r.toArray := zcTOk.of (t, r) (getT_mem h)
theorem zs_22 : zs Try.prog 22 = some ([.int .i64 0, .int .i64 0, .int .i64 0, .int .i64 0]).toArray := by kernel_rfl
theorem zs_32 : zs Try.prog 32 = some ([.int .i64 0]).toArray := by kernel_rfl
theorem zs_40 : zs Try.prog 40 = some ([.int .i64 0, .int .i64 0, .int .i64 0]).toArray := by kernel_rfl
theorem zs_51 : zs Try.prog 51 = some ([.int .i64 0, .int .i64 0]).toArray := by kernel_rfl
theorem zs_55 : zs Try.prog 55 = some ([.int .i64 0, .int .i64 0]).toArray := by kernel_rfl
theorem zs_70 : zs Try.prog 70 = some ([.int .i64 0, .int .i64 0, .int .i64 0]).toArray := by kernel_rfl
theorem zs_92 : zs Try.prog 92 = some ([.int .i64 0, .int .i64 0, .int .i64 0, .int .i64 0, .int .i64 0]).toArray := by kernel_rfl
def zsT : List (Nat × List Value) := [(22, [.int .i64 0, .int .i64 0, .int .i64 0, .int .i64 0]), (32, [.int .i64 0]), (40, [.int .i64 0, .int .i64 0, .int .i64 0]), (51, [.int .i64 0, .int .i64 0]), (55, [.int .i64 0, .int .i64 0]), (70, [.int .i64 0, .int .i64 0, .int .i64 0]), (92, [.int .i64 0, .int .i64 0, .int .i64 0, .int .i64 0, .int .i64 0])]
theorem zsTOk : AllZ (fun p => zs Try.prog p.1 = some p.2.toArray) zsT := ⟨zs_22, zs_32, zs_40, zs_51, zs_55, zs_70, zs_92, trivial⟩
theorem zsTOf {t : Nat} {r : List Value} (h : getT zsT t = some r) : zs Try.prog t = some r.toArray := zsTOk.of (t, r) (getT_mem h)
theorem mixed : Try.prog.follows .mixedOrders = true := by kernel_rfl
end Go.Proofs.Ytgcjddlcgpjlcaa
