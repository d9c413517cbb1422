/- Closed facts on the types and functions of this translation, written by wip/ty.py. -/
import Derived.Test.YtmblgbcipniecaaGreatDoorMA0
import Derived.Test.YtmblgbcipniecaaGreatDoorRows
namespace Go.Proofs.YtmblgbcipniecaaGreatDoor
open Go.RowKit
def shT : List (Nat × Bool × Nat) := [(1, false, 1), (2, false, 1), (3, false, 1), (4, false, 1), (5, false, 1), (9, false, 1), (12, false, 1), (21, false, 1), (22, false, 1), (23, false, 1), (24, true, 3), (25, true, 3), (26, false, 1), (27, false, 1), (28, false, 1), (30, false, 1), (32, false, 1), (33, false, 1), (34, false, 1), (35, false, 1), (36, true, 2), (37, true, 2), (38, true, 4), (39, true, 4), (41, false, 1), (42, false, 1), (44, false, 1), (45, false, 1), (46, false, 1), (47, false, 1), (48, false, 1), (49, false, 1), (50, false, 1), (51, false, 1), (52, false, 1), (53, false, 1), (54, false, 1), (55, false, 1), (56, false, 1), (57, false, 1), (58, false, 1), (59, false, 1), (60, false, 1), (61, true, 6), (62, true, 6), (63, false, 1), (64, false, 1), (65, false, 1), (66, false, 1), (68, false, 1), (69, true, 2), (70, true, 2), (74, false, 1), (75, false, 1), (76, false, 1), (77, false, 1), (78, false, 1), (79, false, 1), (80, false, 1), (81, false, 1), (83, true, 4), (84, true, 4), (85, false, 1), (86, false, 1), (87, false, 1), (88, false, 1), (89, false, 1), (90, false, 1), (91, false, 1), (93, false, 1), (94, true, 2), (96, false, 1), (97, false, 1), (99, false, 1), (100, false, 1), (101, false, 1), (102, false, 1), (103, false, 1), (104, false, 1), (105, false, 1), (106, false, 1), (109, false, 1), (110, false, 1), (113, false, 1), (115, false, 1), (116, false, 1), (117, false, 1), (118, false, 1), (120, false, 1), (121, false, 1), (122, false, 1), (123, false, 1), (125, false, 1), (126, false, 1), (127, false, 1), (128, false, 1), (129, false, 1), (130, true, 24), (131, false, 1), (133, false, 1), (134, true, 256), (135, true, 2), (136, true, 2), (137, true, 32), (138, false, 1), (140, false, 1), (141, false, 1), (142, true, 3), (143, true, 3), (144, false, 1), (145, false, 1), (146, false, 1), (147, false, 1), (148, false, 1), (149, false, 1), (150, false, 1), (151, false, 1), (152, true, 20), (153, true, 65), (155, false, 1), (156, false, 1), (158, true, 1), (159, true, 1), (162, false, 1), (163, true, 32), (164, true, 64), (170, false, 1)]
set_option maxRecDepth 100000 in
theorem shTOk : shT.all (fun p => sh Tryz.prog p.1 == some p.2) = true := by kernel_rfl
theorem shTOf {t : Nat} {r : Bool × Nat} (h : getT shT t = some r) : sh Tryz.prog t = some r := by
  have := List.all_eq_true.1 shTOk _ (getT_mem h)
  simpa using this
def foT : List (Nat × Nat × Bool × Nat) := [(1536, 0, false, 1), (1537, 1, false, 1), (1538, 2, false, 1), (1600, 0, false, 1), (1601, 1, false, 1), (1602, 2, false, 1), (2304, 0, false, 1), (2305, 1, false, 1), (2368, 0, false, 1), (2369, 1, false, 1), (2432, 0, false, 1), (2433, 1, false, 1), (2434, 2, false, 1), (2435, 3, false, 1), (2496, 0, false, 1), (2497, 1, false, 1), (2498, 2, false, 1), (2499, 3, false, 1), (3904, 0, true, 3), (3905, 3, false, 1), (3906, 4, false, 1), (3907, 5, false, 1), (3968, 0, true, 3), (3969, 3, false, 1), (3970, 4, false, 1), (3971, 5, false, 1), (4417, 1, false, 1), (4481, 1, false, 1), (5312, 0, false, 1), (5313, 1, false, 1), (5314, 2, false, 1), (5315, 3, false, 1), (5376, 0, false, 1), (5377, 1, false, 1), (5378, 2, false, 1), (5379, 3, false, 1), (8640, 0, false, 1), (8641, 1, false, 1), (8704, 0, false, 1), (8705, 1, false, 1), (9088, 0, false, 1), (9089, 1, false, 1), (9152, 0, false, 1), (9153, 1, false, 1), (10112, 0, false, 1), (10176, 0, false, 1)]
set_option maxRecDepth 100000 in
theorem foTOk : foT.all (fun p => fo Tryz.prog (p.1 / 64) (p.1 % 64) == some p.2) = true := by kernel_rfl
theorem foTOf {t : Nat} {r : Nat × Bool × Nat} (h : getT foT t = some r) : fo Tryz.prog (t / 64) (t % 64) = some r := by
  have := List.all_eq_true.1 foTOk _ (getT_mem h)
  simpa using this
def arT : List (Nat × Nat × Bool × Nat) := [(94, 2, false, 1), (130, 24, false, 1), (134, 256, false, 1), (137, 16, true, 2), (152, 20, false, 1), (153, 65, false, 1), (163, 32, false, 1), (164, 64, false, 1)]
set_option maxRecDepth 100000 in
theorem arTOk : arT.all (fun p => ar Tryz.prog p.1 == some p.2) = true := by kernel_rfl
theorem arTOf {t : Nat} {r : Nat × Bool × Nat} (h : getT arT t = some r) : ar Tryz.prog t = some r := by
  have := List.all_eq_true.1 arTOk _ (getT_mem h)
  simpa using this
def scT : List (Nat × Bool × Nat) := [(22, true, 2), (23, true, 4), (35, false, 1), (42, false, 1), (53, false, 1), (59, true, 4), (68, false, 1)]
set_option maxRecDepth 100000 in
theorem scTOk : scT.all (fun p => sc Tryz.prog p.1 == some p.2) = true := by kernel_rfl
theorem scTOf {t : Nat} {r : Bool × Nat} (h : getT scT t = some r) : sc Tryz.prog t = some r := by
  have := List.all_eq_true.1 scTOk _ (getT_mem h)
  simpa using this
def plT : List (Nat × List (Nat × Nat)) := [(24, [(0, 1), (1, 1), (2, 1)]), (25, [(0, 1), (1, 1), (2, 1)]), (36, [(0, 1), (1, 1)]), (37, [(0, 1), (1, 1)]), (38, [(0, 1), (1, 1), (2, 1), (3, 1)]), (39, [(0, 1), (1, 1), (2, 1), (3, 1)]), (61, [(0, 3), (3, 1), (4, 1), (5, 1)]), (62, [(0, 3), (3, 1), (4, 1), (5, 1)]), (83, [(0, 1), (1, 1), (2, 1), (3, 1)]), (84, [(0, 1), (1, 1), (2, 1), (3, 1)]), (135, [(0, 1), (1, 1)]), (136, [(0, 1), (1, 1)]), (158, [(0, 1)]), (159, [(0, 1)])]
set_option maxRecDepth 100000 in
theorem plTOk : plT.all (fun p => pl Tryz.prog p.1 == some p.2) = true := by kernel_rfl
theorem plTOf {t : Nat} {r : List (Nat × Nat)} (h : getT plT t = some r) : pl Tryz.prog t = some r := by
  have := List.all_eq_true.1 plTOk _ (getT_mem h)
  simpa using this
def apT : List (Nat × Nat × Nat) := [(22, 2, 48), (23, 4, 32), (35, 1, 8), (42, 1, 24), (53, 1, 16), (59, 4, 48), (68, 1, 1)]
set_option maxRecDepth 100000 in
theorem apTOk : apT.all (fun p => ap Tryz.prog p.1 == some p.2) = true := by kernel_rfl
theorem apTOf {t : Nat} {r : Nat × Nat} (h : getT apT t = some r) : ap Tryz.prog t = some r := by
  have := List.all_eq_true.1 apTOk _ (getT_mem h)
  simpa using this
def goT : List (Nat × Unit) := [(3, ()), (4, ()), (5, ()), (6, ()), (7, ()), (8, ()), (9, ()), (10, ()), (11, ()), (12, ()), (13, ()), (14, ()), (15, ()), (16, ()), (17, ()), (18, ()), (19, ()), (20, ()), (21, ()), (22, ()), (23, ()), (24, ()), (25, ()), (26, ()), (27, ()), (28, ()), (29, ()), (30, ()), (31, ()), (32, ()), (33, ()), (34, ()), (35, ()), (36, ()), (37, ()), (38, ()), (39, ()), (40, ()), (41, ()), (42, ()), (43, ()), (44, ()), (45, ()), (46, ()), (47, ()), (48, ()), (50, ()), (51, ()), (52, ()), (54, ()), (55, ()), (57, ()), (58, ()), (59, ()), (65, ()), (66, ()), (68, ()), (69, ()), (70, ()), (71, ()), (72, ()), (73, ()), (74, ()), (75, ()), (76, ()), (77, ()), (78, ()), (79, ()), (80, ()), (96, ()), (97, ()), (99, ()), (100, ()), (101, ()), (110, ())]
set_option maxRecDepth 100000 in
theorem goTOk : goT.all (fun p => isGo Tryz.prog p.1) = true := by kernel_rfl
set_option maxRecDepth 100000 in
theorem goTOf {t : Nat} (h : getT goT t = some ()) : isGo Tryz.prog t = true := List.all_eq_true.1 goTOk _ (getT_mem h)
theorem foTOf2 {t f : Nat} {r : Nat × Bool × Nat} (hf : Nat.blt f 64 = true) (h : getT foT (64 * t + f) = some r) : fo Tryz.prog t f = some r := by
  have h1 : f < 64 := by simpa using hf
  have := foTOf h
  rwa [show (64 * t + f) / 64 = t by omega, show (64 * t + f) % 64 = f by omega] at this
theorem zc_1 : zc Tryz.prog 1 = some ([.nilFunc]).toArray := by kernel_rfl
theorem zc_2 : zc Tryz.prog 2 = some ([.int .i64 0]).toArray := by kernel_rfl
theorem zc_3 : zc Tryz.prog 3 = some ([.int .i64 0]).toArray := by kernel_rfl
theorem zc_4 : zc Tryz.prog 4 = some ([.bool false]).toArray := by kernel_rfl
theorem zc_5 : zc Tryz.prog 5 = some ([.int .u8 0]).toArray := by kernel_rfl
theorem zc_9 : zc Tryz.prog 9 = some ([.string ⟨#[]⟩]).toArray := by kernel_rfl
theorem zc_12 : zc Tryz.prog 12 = some ([.int .u64 0]).toArray := by kernel_rfl
theorem zc_21 : zc Tryz.prog 21 = some ([.int .i32 0]).toArray := by kernel_rfl
theorem zc_22 : zc Tryz.prog 22 = some ([.slice none 0 0]).toArray := by kernel_rfl
theorem zc_23 : zc Tryz.prog 23 = some ([.slice none 0 0]).toArray := by kernel_rfl
theorem zc_24 : zc Tryz.prog 24 = some ([.slice none 0 0, .slice none 0 0, .int .i64 0]).toArray := by kernel_rfl
theorem zc_25 : zc Tryz.prog 25 = some ([.slice none 0 0, .slice none 0 0, .int .i64 0]).toArray := by kernel_rfl
theorem zc_26 : zc Tryz.prog 26 = some ([.nilFunc]).toArray := by kernel_rfl
theorem zc_27 : zc Tryz.prog 27 = some ([.nilFunc]).toArray := by kernel_rfl
theorem zc_28 : zc Tryz.prog 28 = some ([.int .i64 0]).toArray := by kernel_rfl
theorem zc_30 : zc Tryz.prog 30 = some ([.nilFunc]).toArray := by kernel_rfl
theorem zc_32 : zc Tryz.prog 32 = some ([.nilFunc]).toArray := by kernel_rfl
theorem zc_33 : zc Tryz.prog 33 = some ([.nilFunc]).toArray := by kernel_rfl
theorem zc_34 : zc Tryz.prog 34 = some ([.nilFunc]).toArray := by kernel_rfl
theorem zc_35 : zc Tryz.prog 35 = some ([.slice none 0 0]).toArray := by kernel_rfl
theorem zc_36 : zc Tryz.prog 36 = some ([.slice none 0 0, .slice none 0 0]).toArray := by kernel_rfl
theorem zc_37 : zc Tryz.prog 37 = some ([.slice none 0 0, .slice none 0 0]).toArray := by kernel_rfl
theorem zc_38 : zc Tryz.prog 38 = some ([.int .i64 0, .int .i64 0, .int .i64 0, .int .i64 0]).toArray := by kernel_rfl
theorem zc_39 : zc Tryz.prog 39 = some ([.int .i64 0, .int .i64 0, .int .i64 0, .int .i64 0]).toArray := by kernel_rfl
theorem zc_41 : zc Tryz.prog 41 = some ([.nilFunc]).toArray := by kernel_rfl
theorem zc_42 : zc Tryz.prog 42 = some ([.slice none 0 0]).toArray := by kernel_rfl
theorem zc_44 : zc Tryz.prog 44 = some ([.nilFunc]).toArray := by kernel_rfl
theorem zc_45 : zc Tryz.prog 45 = some ([.nilFunc]).toArray := by kernel_rfl
theorem zc_46 : zc Tryz.prog 46 = some ([.nilFunc]).toArray := by kernel_rfl
theorem zc_47 : zc Tryz.prog 47 = some ([.nilFunc]).toArray := by kernel_rfl
theorem zc_48 : zc Tryz.prog 48 = some ([.nilFunc]).toArray := by kernel_rfl
theorem zc_49 : zc Tryz.prog 49 = some ([.nilFunc]).toArray := by kernel_rfl
theorem zc_50 : zc Tryz.prog 50 = some ([.nilFunc]).toArray := by kernel_rfl
theorem zc_51 : zc Tryz.prog 51 = some ([.nilFunc]).toArray := by kernel_rfl
theorem zc_52 : zc Tryz.prog 52 = some ([.pointer none]).toArray := by kernel_rfl
theorem zc_53 : zc Tryz.prog 53 = some ([.slice none 0 0]).toArray := by kernel_rfl
theorem zc_54 : zc Tryz.prog 54 = some ([.nilFunc]).toArray := by kernel_rfl
theorem zc_55 : zc Tryz.prog 55 = some ([.nilFunc]).toArray := by kernel_rfl
theorem zc_56 : zc Tryz.prog 56 = some ([.nilFunc]).toArray := by kernel_rfl
theorem zc_57 : zc Tryz.prog 57 = some ([.pointer none]).toArray := by kernel_rfl
theorem zc_58 : zc Tryz.prog 58 = some ([.nilFunc]).toArray := by kernel_rfl
theorem zc_59 : zc Tryz.prog 59 = some ([.slice none 0 0]).toArray := by kernel_rfl
theorem zc_60 : zc Tryz.prog 60 = some ([.nilFunc]).toArray := by kernel_rfl
theorem zc_61 : zc Tryz.prog 61 = some ([.slice none 0 0, .slice none 0 0, .int .i64 0, .slice none 0 0, .slice none 0 0, .slice none 0 0]).toArray := by kernel_rfl
theorem zc_62 : zc Tryz.prog 62 = some ([.slice none 0 0, .slice none 0 0, .int .i64 0, .slice none 0 0, .slice none 0 0, .slice none 0 0]).toArray := by kernel_rfl
theorem zc_63 : zc Tryz.prog 63 = some ([.nilFunc]).toArray := by kernel_rfl
theorem zc_64 : zc Tryz.prog 64 = some ([.nilFunc]).toArray := by kernel_rfl
theorem zc_65 : zc Tryz.prog 65 = some ([.nilFunc]).toArray := by kernel_rfl
theorem zc_66 : zc Tryz.prog 66 = some ([.nilFunc]).toArray := by kernel_rfl
theorem zc_68 : zc Tryz.prog 68 = some ([.slice none 0 0]).toArray := by kernel_rfl
theorem zc_69 : zc Tryz.prog 69 = some ([.pointer none, .slice none 0 0]).toArray := by kernel_rfl
theorem zc_70 : zc Tryz.prog 70 = some ([.pointer none, .slice none 0 0]).toArray := by kernel_rfl
theorem zc_74 : zc Tryz.prog 74 = some ([.nilFunc]).toArray := by kernel_rfl
theorem zc_75 : zc Tryz.prog 75 = some ([.nilFunc]).toArray := by kernel_rfl
theorem zc_76 : zc Tryz.prog 76 = some ([.nilFunc]).toArray := by kernel_rfl
theorem zc_77 : zc Tryz.prog 77 = some ([.nilFunc]).toArray := by kernel_rfl
theorem zc_78 : zc Tryz.prog 78 = some ([.nilFunc]).toArray := by kernel_rfl
theorem zc_79 : zc Tryz.prog 79 = some ([.nilFunc]).toArray := by kernel_rfl
theorem zc_80 : zc Tryz.prog 80 = some ([.nilFunc]).toArray := by kernel_rfl
theorem zc_81 : zc Tryz.prog 81 = some ([.nilFunc]).toArray := by kernel_rfl
theorem zc_83 : zc Tryz.prog 83 = some ([.slice none 0 0, .bool false, .int .i64 0, .int .i64 0]).toArray := by kernel_rfl
theorem zc_84 : zc Tryz.prog 84 = some ([.slice none 0 0, .bool false, .int .i64 0, .int .i64 0]).toArray := by kernel_rfl
theorem zc_85 : zc Tryz.prog 85 = some ([.nilFunc]).toArray := by kernel_rfl
theorem zc_86 : zc Tryz.prog 86 = some ([.nilFunc]).toArray := by kernel_rfl
theorem zc_87 : zc Tryz.prog 87 = some ([.nilFunc]).toArray := by kernel_rfl
theorem zc_88 : zc Tryz.prog 88 = some ([.nilFunc]).toArray := by kernel_rfl
theorem zc_89 : zc Tryz.prog 89 = some ([.nilFunc]).toArray := by kernel_rfl
theorem zc_90 : zc Tryz.prog 90 = some ([.nilFunc]).toArray := by kernel_rfl
theorem zc_91 : zc Tryz.prog 91 = some ([.nilFunc]).toArray := by kernel_rfl
theorem zc_93 : zc Tryz.prog 93 = some ([.nilFunc]).toArray := by kernel_rfl
theorem zc_94 : zc Tryz.prog 94 = some ([.int .i64 0, .int .i64 0]).toArray := by kernel_rfl
theorem zc_96 : zc Tryz.prog 96 = some ([.nilFunc]).toArray := by kernel_rfl
theorem zc_97 : zc Tryz.prog 97 = some ([.nilFunc]).toArray := by kernel_rfl
theorem zc_99 : zc Tryz.prog 99 = some ([.nilFunc]).toArray := by kernel_rfl
theorem zc_100 : zc Tryz.prog 100 = some ([.nilFunc]).toArray := by kernel_rfl
theorem zc_101 : zc Tryz.prog 101 = some ([.nilFunc]).toArray := by kernel_rfl
theorem zc_102 : zc Tryz.prog 102 = some ([.nilFunc]).toArray := by kernel_rfl
theorem zc_103 : zc Tryz.prog 103 = some ([.nilFunc]).toArray := by kernel_rfl
theorem zc_104 : zc Tryz.prog 104 = some ([.nilFunc]).toArray := by kernel_rfl
theorem zc_105 : zc Tryz.prog 105 = some ([.nilFunc]).toArray := by kernel_rfl
theorem zc_106 : zc Tryz.prog 106 = some ([.int .u64 0]).toArray := by kernel_rfl
theorem zc_109 : zc Tryz.prog 109 = some ([.nilFunc]).toArray := by kernel_rfl
theorem zc_110 : zc Tryz.prog 110 = some ([.nilFunc]).toArray := by kernel_rfl
theorem zc_113 : zc Tryz.prog 113 = some ([.nilFunc]).toArray := by kernel_rfl
theorem zc_115 : zc Tryz.prog 115 = some ([.nilFunc]).toArray := by kernel_rfl
theorem zc_116 : zc Tryz.prog 116 = some ([.nilFunc]).toArray := by kernel_rfl
theorem zc_117 : zc Tryz.prog 117 = some ([.nilFunc]).toArray := by kernel_rfl
theorem zc_118 : zc Tryz.prog 118 = some ([.int .i64 0]).toArray := by kernel_rfl
theorem zc_120 : zc Tryz.prog 120 = some ([.nilFunc]).toArray := by kernel_rfl
theorem zc_121 : zc Tryz.prog 121 = some ([.nilFunc]).toArray := by kernel_rfl
theorem zc_122 : zc Tryz.prog 122 = some ([.nilFunc]).toArray := by kernel_rfl
theorem zc_123 : zc Tryz.prog 123 = some ([.nilFunc]).toArray := by kernel_rfl
theorem zc_125 : zc Tryz.prog 125 = some ([.nilFunc]).toArray := by kernel_rfl
theorem zc_126 : zc Tryz.prog 126 = some ([.nilFunc]).toArray := by kernel_rfl
theorem zc_127 : zc Tryz.prog 127 = some ([.int .u32 0]).toArray := by kernel_rfl
theorem zc_128 : zc Tryz.prog 128 = some ([.nilFunc]).toArray := by kernel_rfl
theorem zc_129 : zc Tryz.prog 129 = some ([.int .u64 0]).toArray := by kernel_rfl
theorem zc_130 : zc Tryz.prog 130 = some (List.replicate 24 (.int .u8 0)).toArray := by kernel_rfl
theorem zc_131 : zc Tryz.prog 131 = some ([.nilFunc]).toArray := by kernel_rfl
theorem zc_133 : zc Tryz.prog 133 = some ([.nilFunc]).toArray := by kernel_rfl
theorem zc_134 : zc Tryz.prog 134 = some (List.replicate 256 (.int .u8 0)).toArray := by kernel_rfl
theorem zc_135 : zc Tryz.prog 135 = some ([.int .u8 0, .int .u8 0]).toArray := by kernel_rfl
theorem zc_136 : zc Tryz.prog 136 = some ([.int .u8 0, .int .u8 0]).toArray := by kernel_rfl
theorem zc_137 : zc Tryz.prog 137 = some (List.replicate 32 (.int .u8 0)).toArray := by kernel_rfl
theorem zc_138 : zc Tryz.prog 138 = some ([.nilFunc]).toArray := by kernel_rfl
theorem zc_140 : zc Tryz.prog 140 = some ([.nilFunc]).toArray := by kernel_rfl
theorem zc_141 : zc Tryz.prog 141 = some ([.nilFunc]).toArray := by kernel_rfl
theorem zc_142 : zc Tryz.prog 142 = some ([.string ⟨#[]⟩, .string ⟨#[]⟩, .nilIface]).toArray := by kernel_rfl
theorem zc_143 : zc Tryz.prog 143 = some ([.string ⟨#[]⟩, .string ⟨#[]⟩, .nilIface]).toArray := by kernel_rfl
theorem zc_144 : zc Tryz.prog 144 = some ([.nilFunc]).toArray := by kernel_rfl
theorem zc_145 : zc Tryz.prog 145 = some ([.int .u64 0]).toArray := by kernel_rfl
theorem zc_146 : zc Tryz.prog 146 = some ([.nilFunc]).toArray := by kernel_rfl
theorem zc_147 : zc Tryz.prog 147 = some ([.nilFunc]).toArray := by kernel_rfl
theorem zc_148 : zc Tryz.prog 148 = some ([.nilFunc]).toArray := by kernel_rfl
theorem zc_149 : zc Tryz.prog 149 = some ([.pointer none]).toArray := by kernel_rfl
theorem zc_150 : zc Tryz.prog 150 = some ([.nilFunc]).toArray := by kernel_rfl
theorem zc_151 : zc Tryz.prog 151 = some ([.nilFunc]).toArray := by kernel_rfl
theorem zc_152 : zc Tryz.prog 152 = some (List.replicate 20 (.int .u64 0)).toArray := by kernel_rfl
theorem zc_153 : zc Tryz.prog 153 = some (List.replicate 65 (.int .u8 0)).toArray := by kernel_rfl
theorem zc_155 : zc Tryz.prog 155 = some ([.nilFunc]).toArray := by kernel_rfl
theorem zc_156 : zc Tryz.prog 156 = some ([.nilFunc]).toArray := by kernel_rfl
theorem zc_158 : zc Tryz.prog 158 = some ([.string ⟨#[]⟩]).toArray := by kernel_rfl
theorem zc_159 : zc Tryz.prog 159 = some ([.string ⟨#[]⟩]).toArray := by kernel_rfl
theorem zc_162 : zc Tryz.prog 162 = some ([.nilFunc]).toArray := by kernel_rfl
theorem zc_163 : zc Tryz.prog 163 = some (List.replicate 32 (.int .u8 0)).toArray := by kernel_rfl
theorem zc_164 : zc Tryz.prog 164 = some (List.replicate 64 (.int .u8 0)).toArray := by kernel_rfl
theorem zc_170 : zc Tryz.prog 170 = some ([.nilFunc]).toArray := by kernel_rfl
def zcT : List (Nat × List Value) := [(1, [.nilFunc]), (2, [.int .i64 0]), (3, [.int .i64 0]), (4, [.bool false]), (5, [.int .u8 0]), (9, [.string ⟨#[]⟩]), (12, [.int .u64 0]), (21, [.int .i32 0]), (22, [.slice none 0 0]), (23, [.slice none 0 0]), (24, [.slice none 0 0, .slice none 0 0, .int .i64 0]), (25, [.slice none 0 0, .slice none 0 0, .int .i64 0]), (26, [.nilFunc]), (27, [.nilFunc]), (28, [.int .i64 0]), (30, [.nilFunc]), (32, [.nilFunc]), (33, [.nilFunc]), (34, [.nilFunc]), (35, [.slice none 0 0]), (36, [.slice none 0 0, .slice none 0 0]), (37, [.slice none 0 0, .slice none 0 0]), (38, [.int .i64 0, .int .i64 0, .int .i64 0, .int .i64 0]), (39, [.int .i64 0, .int .i64 0, .int .i64 0, .int .i64 0]), (41, [.nilFunc]), (42, [.slice none 0 0]), (44, [.nilFunc]), (45, [.nilFunc]), (46, [.nilFunc]), (47, [.nilFunc]), (48, [.nilFunc]), (49, [.nilFunc]), (50, [.nilFunc]), (51, [.nilFunc]), (52, [.pointer none]), (53, [.slice none 0 0]), (54, [.nilFunc]), (55, [.nilFunc]), (56, [.nilFunc]), (57, [.pointer none]), (58, [.nilFunc]), (59, [.slice none 0 0]), (60, [.nilFunc]), (61, [.slice none 0 0, .slice none 0 0, .int .i64 0, .slice none 0 0, .slice none 0 0, .slice none 0 0]), (62, [.slice none 0 0, .slice none 0 0, .int .i64 0, .slice none 0 0, .slice none 0 0, .slice none 0 0]), (63, [.nilFunc]), (64, [.nilFunc]), (65, [.nilFunc]), (66, [.nilFunc]), (68, [.slice none 0 0]), (69, [.pointer none, .slice none 0 0]), (70, [.pointer none, .slice none 0 0]), (74, [.nilFunc]), (75, [.nilFunc]), (76, [.nilFunc]), (77, [.nilFunc]), (78, [.nilFunc]), (79, [.nilFunc]), (80, [.nilFunc]), (81, [.nilFunc]), (83, [.slice none 0 0, .bool false, .int .i64 0, .int .i64 0]), (84, [.slice none 0 0, .bool false, .int .i64 0, .int .i64 0]), (85, [.nilFunc]), (86, [.nilFunc]), (87, [.nilFunc]), (88, [.nilFunc]), (89, [.nilFunc]), (90, [.nilFunc]), (91, [.nilFunc]), (93, [.nilFunc]), (94, [.int .i64 0, .int .i64 0]), (96, [.nilFunc]), (97, [.nilFunc]), (99, [.nilFunc]), (100, [.nilFunc]), (101, [.nilFunc]), (102, [.nilFunc]), (103, [.nilFunc]), (104, [.nilFunc]), (105, [.nilFunc]), (106, [.int .u64 0]), (109, [.nilFunc]), (110, [.nilFunc]), (113, [.nilFunc]), (115, [.nilFunc]), (116, [.nilFunc]), (117, [.nilFunc]), (118, [.int .i64 0]), (120, [.nilFunc]), (121, [.nilFunc]), (122, [.nilFunc]), (123, [.nilFunc]), (125, [.nilFunc]), (126, [.nilFunc]), (127, [.int .u32 0]), (128, [.nilFunc]), (129, [.int .u64 0]), (130, List.replicate 24 (.int .u8 0)), (131, [.nilFunc]), (133, [.nilFunc]), (134, List.replicate 256 (.int .u8 0)), (135, [.int .u8 0, .int .u8 0]), (136, [.int .u8 0, .int .u8 0]), (137, List.replicate 32 (.int .u8 0)), (138, [.nilFunc]), (140, [.nilFunc]), (141, [.nilFunc]), (142, [.string ⟨#[]⟩, .string ⟨#[]⟩, .nilIface]), (143, [.string ⟨#[]⟩, .string ⟨#[]⟩, .nilIface]), (144, [.nilFunc]), (145, [.int .u64 0]), (146, [.nilFunc]), (147, [.nilFunc]), (148, [.nilFunc]), (149, [.pointer none]), (150, [.nilFunc]), (151, [.nilFunc]), (152, List.replicate 20 (.int .u64 0)), (153, List.replicate 65 (.int .u8 0)), (155, [.nilFunc]), (156, [.nilFunc]), (158, [.string ⟨#[]⟩]), (159, [.string ⟨#[]⟩]), (162, [.nilFunc]), (163, List.replicate 32 (.int .u8 0)), (164, List.replicate 64 (.int .u8 0)), (170, [.nilFunc])]
theorem zcTOk : AllZ (fun p => zc Tryz.prog p.1 = some p.2.toArray) zcT := ⟨zc_1, zc_2, zc_3, zc_4, zc_5, zc_9, zc_12, zc_21, zc_22, zc_23, zc_24, zc_25, zc_26, zc_27, zc_28, zc_30, zc_32, zc_33, zc_34, zc_35, zc_36, zc_37, zc_38, zc_39, zc_41, zc_42, zc_44, zc_45, zc_46, zc_47, zc_48, zc_49, zc_50, zc_51, zc_52, zc_53, zc_54, zc_55, zc_56, zc_57, zc_58, zc_59, zc_60, zc_61, zc_62, zc_63, zc_64, zc_65, zc_66, zc_68, zc_69, zc_70, zc_74, zc_75, zc_76, zc_77, zc_78, zc_79, zc_80, zc_81, zc_83, zc_84, zc_85, zc_86, zc_87, zc_88, zc_89, zc_90, zc_91, zc_93, zc_94, zc_96, zc_97, zc_99, zc_100, zc_101, zc_102, zc_103, zc_104, zc_105, zc_106, zc_109, zc_110, zc_113, zc_115, zc_116, zc_117, zc_118, zc_120, zc_121, zc_122, zc_123, zc_125, zc_126, zc_127, zc_128, zc_129, zc_130, zc_131, zc_133, zc_134, zc_135, zc_136, zc_137, zc_138, zc_140, zc_141, zc_142, zc_143, zc_144, zc_145, zc_146, zc_147, zc_148, zc_149, zc_150, zc_151, zc_152, zc_153, zc_155, zc_156, zc_158, zc_159, zc_162, zc_163, zc_164, zc_170, trivial⟩
theorem zcTOf {t : Nat} {r : List Value} (h : getT zcT t = some r) : zc Tryz.prog t = some r.toArray := zcTOk.of (t, r) (getT_mem h)
theorem zs_22 : zs Tryz.prog 22 = some ([.slice none 0 0, .slice none 0 0]).toArray := by kernel_rfl
theorem zs_23 : zs Tryz.prog 23 = some ([.int .i64 0, .int .i64 0, .int .i64 0, .int .i64 0]).toArray := by kernel_rfl
theorem zs_35 : zs Tryz.prog 35 = some ([.int .i64 0]).toArray := by kernel_rfl
theorem zs_42 : zs Tryz.prog 42 = some ([.slice none 0 0]).toArray := by kernel_rfl
theorem zs_53 : zs Tryz.prog 53 = some ([.string ⟨#[]⟩]).toArray := by kernel_rfl
theorem zs_59 : zs Tryz.prog 59 = some ([.slice none 0 0, .bool false, .int .i64 0, .int .i64 0]).toArray := by kernel_rfl
theorem zs_68 : zs Tryz.prog 68 = some ([.int .u8 0]).toArray := by kernel_rfl
def zsT : List (Nat × List Value) := [(22, [.slice none 0 0, .slice none 0 0]), (23, [.int .i64 0, .int .i64 0, .int .i64 0, .int .i64 0]), (35, [.int .i64 0]), (42, [.slice none 0 0]), (53, [.string ⟨#[]⟩]), (59, [.slice none 0 0, .bool false, .int .i64 0, .int .i64 0]), (68, [.int .u8 0])]
theorem zsTOk : AllZ (fun p => zs Tryz.prog p.1 = some p.2.toArray) zsT := ⟨zs_22, zs_23, zs_35, zs_42, zs_53, zs_59, zs_68, trivial⟩
theorem zsTOf {t : Nat} {r : List Value} (h : getT zsT t = some r) : zs Tryz.prog t = some r.toArray := zsTOk.of (t, r) (getT_mem h)
theorem mixed : Tryz.prog.follows .mixedOrders = true := by kernel_rfl
end Go.Proofs.YtmblgbcipniecaaGreatDoor
