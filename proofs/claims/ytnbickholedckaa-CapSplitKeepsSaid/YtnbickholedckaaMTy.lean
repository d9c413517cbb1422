/- Closed facts on the types and functions of this translation, written by wip/ty.py. -/
import Derived.Test.YtnbickholedckaaMA0
import Derived.Test.YtnbickholedckaaRows
namespace Go.Proofs.Ytnbickholedckaa
open Go.RowKit
def shT : List (Nat × Bool × Nat) := [(1, false, 1), (2, false, 1), (3, false, 1), (4, false, 1), (5, false, 1), (9, false, 1), (12, false, 1), (21, false, 1), (22, false, 1), (23, false, 1), (24, true, 3), (25, true, 3), (26, false, 1), (27, false, 1), (28, false, 1), (29, false, 1), (30, false, 1), (31, false, 1), (32, false, 1), (34, false, 1), (35, false, 1), (36, false, 1), (38, false, 1), (39, false, 1), (40, true, 2), (41, true, 2), (42, false, 1), (43, true, 4), (44, true, 4), (46, false, 1), (47, false, 1), (48, false, 1), (49, true, 6), (50, true, 6), (52, false, 1), (53, false, 1), (54, false, 1), (55, true, 4), (56, true, 4), (58, false, 1), (59, false, 1), (60, false, 1), (61, true, 5), (62, true, 5), (63, false, 1), (65, false, 1), (66, true, 5), (67, true, 5), (68, false, 1), (69, false, 1), (70, false, 1), (72, false, 1), (73, false, 1), (74, false, 1), (75, false, 1), (76, false, 1), (77, false, 1), (78, false, 1), (79, false, 1), (80, false, 1), (81, false, 1), (82, false, 1), (83, false, 1), (84, false, 1), (85, true, 5), (86, true, 5), (87, false, 1), (88, false, 1), (89, false, 1), (90, false, 1), (91, true, 6), (92, false, 1), (93, false, 1), (94, false, 1), (95, false, 1), (96, false, 1), (99, false, 1), (100, false, 1), (101, false, 1), (102, true, 6), (103, true, 6), (104, false, 1), (105, false, 1), (107, true, 2), (108, false, 1), (110, false, 1), (111, false, 1), (112, false, 1), (113, false, 1), (114, false, 1), (115, false, 1), (116, false, 1), (117, false, 1), (118, false, 1), (119, false, 1), (120, false, 1), (121, false, 1), (122, false, 1), (124, false, 1), (125, false, 1), (126, false, 1), (127, false, 1), (129, false, 1), (130, false, 1), (131, false, 1), (132, false, 1), (133, false, 1), (134, false, 1), (135, false, 1), (136, false, 1), (137, false, 1), (138, false, 1), (139, false, 1), (141, false, 1), (142, false, 1), (148, false, 1)]
set_option maxRecDepth 100000 in
theorem shTOk : shT.all (fun p => sh Try.prog p.1 == some p.2) = true := by kernel_rfl
theorem shTOf {t : Nat} {r : Bool × Nat} (h : getT shT t = some r) : sh Try.prog t = some r := by
  have := List.all_eq_true.1 shTOk _ (getT_mem h)
  simpa using this
def foT : List (Nat × Nat × Bool × Nat) := [(1536, 0, false, 1), (1537, 1, false, 1), (1538, 2, false, 1), (1600, 0, false, 1), (1601, 1, false, 1), (1602, 2, false, 1), (2560, 0, false, 1), (2561, 1, false, 1), (2624, 0, false, 1), (2625, 1, false, 1), (2752, 0, false, 1), (2753, 1, false, 1), (2754, 2, false, 1), (2755, 3, false, 1), (2816, 0, false, 1), (2817, 1, false, 1), (2818, 2, false, 1), (2819, 3, false, 1), (3136, 0, false, 1), (3137, 1, false, 1), (3138, 2, false, 1), (3139, 3, false, 1), (3140, 4, false, 1), (3141, 5, false, 1), (3200, 0, false, 1), (3201, 1, false, 1), (3202, 2, false, 1), (3203, 3, false, 1), (3204, 4, false, 1), (3205, 5, false, 1), (3520, 0, false, 1), (3521, 1, false, 1), (3522, 2, false, 1), (3523, 3, false, 1), (3584, 0, false, 1), (3585, 1, false, 1), (3586, 2, false, 1), (3587, 3, false, 1), (3904, 0, false, 1), (3905, 1, false, 1), (3906, 2, false, 1), (3907, 3, false, 1), (3908, 4, false, 1), (3968, 0, false, 1), (3969, 1, false, 1), (3970, 2, false, 1), (3971, 3, false, 1), (3972, 4, false, 1), (4224, 0, false, 1), (4225, 1, false, 1), (4226, 2, false, 1), (4227, 3, false, 1), (4228, 4, false, 1), (4288, 0, false, 1), (4289, 1, false, 1), (4290, 2, false, 1), (4291, 3, false, 1), (4292, 4, false, 1), (5440, 0, false, 1), (5441, 1, false, 1), (5442, 2, false, 1), (5443, 3, false, 1), (5444, 4, false, 1), (5504, 0, false, 1), (5505, 1, false, 1), (5506, 2, false, 1), (5507, 3, false, 1), (5508, 4, false, 1), (6528, 0, true, 3), (6529, 3, false, 1), (6530, 4, false, 1), (6531, 5, false, 1), (6592, 0, true, 3), (6593, 3, false, 1), (6594, 4, false, 1), (6595, 5, false, 1)]
set_option maxRecDepth 100000 in
theorem foTOk : foT.all (fun p => fo Try.prog (p.1 / 64) (p.1 % 64) == some p.2) = true := by kernel_rfl
theorem foTOf {t : Nat} {r : Nat × Bool × Nat} (h : getT foT t = some r) : fo Try.prog (t / 64) (t % 64) = some r := by
  have := List.all_eq_true.1 foTOk _ (getT_mem h)
  simpa using this
def arT : List (Nat × Nat × Bool × Nat) := [(91, 6, false, 1), (107, 2, false, 1)]
set_option maxRecDepth 100000 in
theorem arTOk : arT.all (fun p => ar Try.prog p.1 == some p.2) = true := by kernel_rfl
theorem arTOf {t : Nat} {r : Nat × Bool × Nat} (h : getT arT t = some r) : ar Try.prog t = some r := by
  have := List.all_eq_true.1 arTOk _ (getT_mem h)
  simpa using this
def scT : List (Nat × Bool × Nat) := [(22, true, 2), (23, true, 4), (32, true, 4), (36, false, 1), (39, false, 1), (42, false, 1)]
set_option maxRecDepth 100000 in
theorem scTOk : scT.all (fun p => sc Try.prog p.1 == some p.2) = true := by kernel_rfl
theorem scTOf {t : Nat} {r : Bool × Nat} (h : getT scT t = some r) : sc Try.prog t = some r := by
  have := List.all_eq_true.1 scTOk _ (getT_mem h)
  simpa using this
def plT : List (Nat × List (Nat × Nat)) := [(24, [(0, 1), (1, 1), (2, 1)]), (25, [(0, 1), (1, 1), (2, 1)]), (40, [(0, 1), (1, 1)]), (41, [(0, 1), (1, 1)]), (43, [(0, 1), (1, 1), (2, 1), (3, 1)]), (44, [(0, 1), (1, 1), (2, 1), (3, 1)]), (49, [(0, 1), (1, 1), (2, 1), (3, 1), (4, 1), (5, 1)]), (50, [(0, 1), (1, 1), (2, 1), (3, 1), (4, 1), (5, 1)]), (55, [(0, 1), (1, 1), (2, 1), (3, 1)]), (56, [(0, 1), (1, 1), (2, 1), (3, 1)]), (61, [(0, 1), (1, 1), (2, 1), (3, 1), (4, 1)]), (62, [(0, 1), (1, 1), (2, 1), (3, 1), (4, 1)]), (66, [(0, 1), (1, 1), (2, 1), (3, 1), (4, 1)]), (67, [(0, 1), (1, 1), (2, 1), (3, 1), (4, 1)]), (85, [(0, 1), (1, 1), (2, 1), (3, 1), (4, 1)]), (86, [(0, 1), (1, 1), (2, 1), (3, 1), (4, 1)]), (102, [(0, 3), (3, 1), (4, 1), (5, 1)]), (103, [(0, 3), (3, 1), (4, 1), (5, 1)])]
set_option maxRecDepth 100000 in
theorem plTOk : plT.all (fun p => pl Try.prog p.1 == some p.2) = true := by kernel_rfl
theorem plTOf {t : Nat} {r : List (Nat × Nat)} (h : getT plT t = some r) : pl Try.prog t = some r := by
  have := List.all_eq_true.1 plTOk _ (getT_mem h)
  simpa using this
def apT : List (Nat × Nat × Nat) := [(22, 2, 48), (23, 4, 32), (32, 4, 48), (36, 1, 24), (39, 1, 8), (42, 1, 1)]
set_option maxRecDepth 100000 in
theorem apTOk : apT.all (fun p => ap Try.prog p.1 == some p.2) = true := by kernel_rfl
theorem apTOf {t : Nat} {r : Nat × Nat} (h : getT apT t = some r) : ap Try.prog t = some r := by
  have := List.all_eq_true.1 apTOk _ (getT_mem h)
  simpa using this
def goT : List (Nat × Unit) := [(3, ()), (4, ()), (5, ()), (6, ()), (7, ()), (8, ()), (9, ()), (10, ()), (11, ()), (12, ()), (13, ()), (14, ()), (15, ()), (16, ()), (17, ()), (18, ()), (19, ()), (20, ()), (21, ()), (22, ()), (23, ()), (24, ()), (25, ()), (26, ()), (27, ()), (28, ()), (29, ()), (30, ()), (31, ()), (32, ()), (33, ()), (34, ()), (35, ()), (36, ()), (37, ()), (38, ()), (39, ()), (40, ()), (41, ()), (42, ()), (43, ()), (44, ()), (45, ()), (46, ()), (47, ()), (48, ()), (49, ()), (50, ()), (51, ()), (52, ()), (53, ()), (54, ()), (55, ()), (56, ()), (57, ()), (58, ()), (59, ()), (60, ()), (61, ()), (62, ()), (63, ()), (64, ()), (65, ()), (66, ()), (67, ()), (68, ()), (69, ()), (70, ()), (71, ()), (72, ()), (73, ()), (74, ()), (75, ()), (76, ()), (77, ()), (78, ()), (79, ()), (80, ()), (81, ()), (82, ()), (83, ()), (84, ()), (85, ()), (86, ()), (87, ()), (88, ()), (89, ()), (90, ()), (91, ()), (92, ()), (93, ()), (94, ()), (95, ()), (96, ()), (97, ()), (98, ()), (100, ()), (101, ()), (102, ()), (103, ()), (104, ()), (105, ()), (106, ()), (107, ()), (108, ()), (111, ()), (112, ()), (114, ()), (115, ()), (116, ()), (117, ())]
set_option maxRecDepth 100000 in
theorem goTOk : goT.all (fun p => isGo Try.prog p.1) = true := by kernel_rfl
set_option maxRecDepth 100000 in
theorem goTOf {t : Nat} (h : getT goT t = some ()) : isGo Try.prog t = true := List.all_eq_true.1 goTOk _ (getT_mem h)
theorem foTOf2 {t f : Nat} {r : Nat × Bool × Nat} (hf : Nat.blt f 64 = true) (h : getT foT (64 * t + f) = some r) : fo Try.prog t f = some r := by
  have h1 : f < 64 := by simpa using hf
  have := foTOf h
  rwa [show (64 * t + f) / 64 = t by omega, show (64 * t + f) % 64 = f by omega] at this
theorem zc_1 : zc Try.prog 1 = some ([.nilFunc]).toArray := by kernel_rfl
theorem zc_2 : zc Try.prog 2 = some ([.int .i64 0]).toArray := by kernel_rfl
theorem zc_3 : zc Try.prog 3 = some ([.int .i64 0]).toArray := by kernel_rfl
theorem zc_4 : zc Try.prog 4 = some ([.bool false]).toArray := by kernel_rfl
theorem zc_5 : zc Try.prog 5 = some ([.int .u8 0]).toArray := by kernel_rfl
theorem zc_9 : zc Try.prog 9 = some ([.string ⟨#[]⟩]).toArray := by kernel_rfl
theorem zc_12 : zc Try.prog 12 = some ([.int .u64 0]).toArray := by kernel_rfl
theorem zc_21 : zc Try.prog 21 = some ([.int .i32 0]).toArray := by kernel_rfl
theorem zc_22 : zc Try.prog 22 = some ([.slice none 0 0]).toArray := by kernel_rfl
theorem zc_23 : zc Try.prog 23 = some ([.slice none 0 0]).toArray := by kernel_rfl
theorem zc_24 : zc Try.prog 24 = some ([.slice none 0 0, .slice none 0 0, .int .i64 0]).toArray := by kernel_rfl
theorem zc_25 : zc Try.prog 25 = some ([.slice none 0 0, .slice none 0 0, .int .i64 0]).toArray := by kernel_rfl
theorem zc_26 : zc Try.prog 26 = some ([.nilFunc]).toArray := by kernel_rfl
theorem zc_27 : zc Try.prog 27 = some ([.nilFunc]).toArray := by kernel_rfl
theorem zc_28 : zc Try.prog 28 = some ([.nilFunc]).toArray := by kernel_rfl
theorem zc_29 : zc Try.prog 29 = some ([.int .i64 0]).toArray := by kernel_rfl
theorem zc_30 : zc Try.prog 30 = some ([.nilFunc]).toArray := by kernel_rfl
theorem zc_31 : zc Try.prog 31 = some ([.nilFunc]).toArray := by kernel_rfl
theorem zc_32 : zc Try.prog 32 = some ([.slice none 0 0]).toArray := by kernel_rfl
theorem zc_34 : zc Try.prog 34 = some ([.nilFunc]).toArray := by kernel_rfl
theorem zc_35 : zc Try.prog 35 = some ([.nilFunc]).toArray := by kernel_rfl
theorem zc_36 : zc Try.prog 36 = some ([.slice none 0 0]).toArray := by kernel_rfl
theorem zc_38 : zc Try.prog 38 = some ([.nilFunc]).toArray := by kernel_rfl
theorem zc_39 : zc Try.prog 39 = some ([.slice none 0 0]).toArray := by kernel_rfl
theorem zc_40 : zc Try.prog 40 = some ([.slice none 0 0, .slice none 0 0]).toArray := by kernel_rfl
theorem zc_41 : zc Try.prog 41 = some ([.slice none 0 0, .slice none 0 0]).toArray := by kernel_rfl
theorem zc_42 : zc Try.prog 42 = some ([.slice none 0 0]).toArray := by kernel_rfl
theorem zc_43 : zc Try.prog 43 = some ([.slice none 0 0, .bool false, .int .i64 0, .int .i64 0]).toArray := by kernel_rfl
theorem zc_44 : zc Try.prog 44 = some ([.slice none 0 0, .bool false, .int .i64 0, .int .i64 0]).toArray := by kernel_rfl
theorem zc_46 : zc Try.prog 46 = some ([.nilFunc]).toArray := by kernel_rfl
theorem zc_47 : zc Try.prog 47 = some ([.nilFunc]).toArray := by kernel_rfl
theorem zc_48 : zc Try.prog 48 = some ([.nilFunc]).toArray := by kernel_rfl
theorem zc_49 : zc Try.prog 49 = some ([.int .i64 0, .int .i64 0, .int .i64 0, .int .i64 0, .int .i64 0, .int .i64 0]).toArray := by kernel_rfl
theorem zc_50 : zc Try.prog 50 = some ([.int .i64 0, .int .i64 0, .int .i64 0, .int .i64 0, .int .i64 0, .int .i64 0]).toArray := by kernel_rfl
theorem zc_52 : zc Try.prog 52 = some ([.nilFunc]).toArray := by kernel_rfl
theorem zc_53 : zc Try.prog 53 = some ([.nilFunc]).toArray := by kernel_rfl
theorem zc_54 : zc Try.prog 54 = some ([.nilFunc]).toArray := by kernel_rfl
theorem zc_55 : zc Try.prog 55 = some ([.int .i64 0, .int .i64 0, .int .i64 0, .int .i64 0]).toArray := by kernel_rfl
theorem zc_56 : zc Try.prog 56 = some ([.int .i64 0, .int .i64 0, .int .i64 0, .int .i64 0]).toArray := by kernel_rfl
theorem zc_58 : zc Try.prog 58 = some ([.nilFunc]).toArray := by kernel_rfl
theorem zc_59 : zc Try.prog 59 = some ([.nilFunc]).toArray := by kernel_rfl
theorem zc_60 : zc Try.prog 60 = some ([.nilFunc]).toArray := by kernel_rfl
theorem zc_61 : zc Try.prog 61 = some ([.int .i64 0, .int .i64 0, .int .i64 0, .int .i64 0, .int .i64 0]).toArray := by kernel_rfl
theorem zc_62 : zc Try.prog 62 = some ([.int .i64 0, .int .i64 0, .int .i64 0, .int .i64 0, .int .i64 0]).toArray := by kernel_rfl
theorem zc_63 : zc Try.prog 63 = some ([.nilFunc]).toArray := by kernel_rfl
theorem zc_65 : zc Try.prog 65 = some ([.nilFunc]).toArray := by kernel_rfl
theorem zc_66 : zc Try.prog 66 = some ([.int .i64 0, .int .i64 0, .int .i64 0, .int .i64 0, .int .i64 0]).toArray := by kernel_rfl
theorem zc_67 : zc Try.prog 67 = some ([.int .i64 0, .int .i64 0, .int .i64 0, .int .i64 0, .int .i64 0]).toArray := by kernel_rfl
theorem zc_68 : zc Try.prog 68 = some ([.nilFunc]).toArray := by kernel_rfl
theorem zc_69 : zc Try.prog 69 = some ([.nilFunc]).toArray := by kernel_rfl
theorem zc_70 : zc Try.prog 70 = some ([.nilFunc]).toArray := by kernel_rfl
theorem zc_72 : zc Try.prog 72 = some ([.nilFunc]).toArray := by kernel_rfl
theorem zc_73 : zc Try.prog 73 = some ([.nilFunc]).toArray := by kernel_rfl
theorem zc_74 : zc Try.prog 74 = some ([.nilFunc]).toArray := by kernel_rfl
theorem zc_75 : zc Try.prog 75 = some ([.nilFunc]).toArray := by kernel_rfl
theorem zc_76 : zc Try.prog 76 = some ([.nilFunc]).toArray := by kernel_rfl
theorem zc_77 : zc Try.prog 77 = some ([.nilFunc]).toArray := by kernel_rfl
theorem zc_78 : zc Try.prog 78 = some ([.nilFunc]).toArray := by kernel_rfl
theorem zc_79 : zc Try.prog 79 = some ([.nilFunc]).toArray := by kernel_rfl
theorem zc_80 : zc Try.prog 80 = some ([.nilFunc]).toArray := by kernel_rfl
theorem zc_81 : zc Try.prog 81 = some ([.nilFunc]).toArray := by kernel_rfl
theorem zc_82 : zc Try.prog 82 = some ([.pointer none]).toArray := by kernel_rfl
theorem zc_83 : zc Try.prog 83 = some ([.nilFunc]).toArray := by kernel_rfl
theorem zc_84 : zc Try.prog 84 = some ([.nilFunc]).toArray := by kernel_rfl
theorem zc_85 : zc Try.prog 85 = some ([.slice none 0 0, .slice none 0 0, .slice none 0 0, .slice none 0 0, .slice none 0 0]).toArray := by kernel_rfl
theorem zc_86 : zc Try.prog 86 = some ([.slice none 0 0, .slice none 0 0, .slice none 0 0, .slice none 0 0, .slice none 0 0]).toArray := by kernel_rfl
theorem zc_87 : zc Try.prog 87 = some ([.nilFunc]).toArray := by kernel_rfl
theorem zc_88 : zc Try.prog 88 = some ([.nilFunc]).toArray := by kernel_rfl
theorem zc_89 : zc Try.prog 89 = some ([.nilFunc]).toArray := by kernel_rfl
theorem zc_90 : zc Try.prog 90 = some ([.nilFunc]).toArray := by kernel_rfl
theorem zc_91 : zc Try.prog 91 = some ([.int .i64 0, .int .i64 0, .int .i64 0, .int .i64 0, .int .i64 0, .int .i64 0]).toArray := by kernel_rfl
theorem zc_92 : zc Try.prog 92 = some ([.nilFunc]).toArray := by kernel_rfl
theorem zc_93 : zc Try.prog 93 = some ([.nilFunc]).toArray := by kernel_rfl
theorem zc_94 : zc Try.prog 94 = some ([.nilFunc]).toArray := by kernel_rfl
theorem zc_95 : zc Try.prog 95 = some ([.nilFunc]).toArray := by kernel_rfl
theorem zc_96 : zc Try.prog 96 = some ([.nilFunc]).toArray := by kernel_rfl
theorem zc_99 : zc Try.prog 99 = some ([.nilFunc]).toArray := by kernel_rfl
theorem zc_100 : zc Try.prog 100 = some ([.nilFunc]).toArray := by kernel_rfl
theorem zc_101 : zc Try.prog 101 = some ([.nilFunc]).toArray := by kernel_rfl
theorem zc_102 : zc Try.prog 102 = some ([.slice none 0 0, .slice none 0 0, .int .i64 0, .slice none 0 0, .slice none 0 0, .slice none 0 0]).toArray := by kernel_rfl
theorem zc_103 : zc Try.prog 103 = some ([.slice none 0 0, .slice none 0 0, .int .i64 0, .slice none 0 0, .slice none 0 0, .slice none 0 0]).toArray := by kernel_rfl
theorem zc_104 : zc Try.prog 104 = some ([.nilFunc]).toArray := by kernel_rfl
theorem zc_105 : zc Try.prog 105 = some ([.nilFunc]).toArray := by kernel_rfl
theorem zc_107 : zc Try.prog 107 = some ([.int .i64 0, .int .i64 0]).toArray := by kernel_rfl
theorem zc_108 : zc Try.prog 108 = some ([.nilFunc]).toArray := by kernel_rfl
theorem zc_110 : zc Try.prog 110 = some ([.nilFunc]).toArray := by kernel_rfl
theorem zc_111 : zc Try.prog 111 = some ([.nilFunc]).toArray := by kernel_rfl
theorem zc_112 : zc Try.prog 112 = some ([.nilFunc]).toArray := by kernel_rfl
theorem zc_113 : zc Try.prog 113 = some ([.nilFunc]).toArray := by kernel_rfl
theorem zc_114 : zc Try.prog 114 = some ([.nilFunc]).toArray := by kernel_rfl
theorem zc_115 : zc Try.prog 115 = some ([.nilFunc]).toArray := by kernel_rfl
theorem zc_116 : zc Try.prog 116 = some ([.nilFunc]).toArray := by kernel_rfl
theorem zc_117 : zc Try.prog 117 = some ([.nilFunc]).toArray := by kernel_rfl
theorem zc_118 : zc Try.prog 118 = some ([.nilFunc]).toArray := by kernel_rfl
theorem zc_119 : zc Try.prog 119 = some ([.nilFunc]).toArray := by kernel_rfl
theorem zc_120 : zc Try.prog 120 = some ([.int .u64 0]).toArray := by kernel_rfl
theorem zc_121 : zc Try.prog 121 = some ([.nilFunc]).toArray := by kernel_rfl
theorem zc_122 : zc Try.prog 122 = some ([.int .i64 0]).toArray := by kernel_rfl
theorem zc_124 : zc Try.prog 124 = some ([.nilFunc]).toArray := by kernel_rfl
theorem zc_125 : zc Try.prog 125 = some ([.nilFunc]).toArray := by kernel_rfl
theorem zc_126 : zc Try.prog 126 = some ([.nilFunc]).toArray := by kernel_rfl
theorem zc_127 : zc Try.prog 127 = some ([.nilFunc]).toArray := by kernel_rfl
theorem zc_129 : zc Try.prog 129 = some ([.nilFunc]).toArray := by kernel_rfl
theorem zc_130 : zc Try.prog 130 = some ([.nilFunc]).toArray := by kernel_rfl
theorem zc_131 : zc Try.prog 131 = some ([.int .u32 0]).toArray := by kernel_rfl
theorem zc_132 : zc Try.prog 132 = some ([.nilFunc]).toArray := by kernel_rfl
theorem zc_133 : zc Try.prog 133 = some ([.int .u64 0]).toArray := by kernel_rfl
theorem zc_134 : zc Try.prog 134 = some ([.int .u64 0]).toArray := by kernel_rfl
theorem zc_135 : zc Try.prog 135 = some ([.nilFunc]).toArray := by kernel_rfl
theorem zc_136 : zc Try.prog 136 = some ([.nilFunc]).toArray := by kernel_rfl
theorem zc_137 : zc Try.prog 137 = some ([.nilFunc]).toArray := by kernel_rfl
theorem zc_138 : zc Try.prog 138 = some ([.pointer none]).toArray := by kernel_rfl
theorem zc_139 : zc Try.prog 139 = some ([.nilFunc]).toArray := by kernel_rfl
theorem zc_141 : zc Try.prog 141 = some ([.nilFunc]).toArray := by kernel_rfl
theorem zc_142 : zc Try.prog 142 = some ([.nilFunc]).toArray := by kernel_rfl
theorem zc_148 : zc Try.prog 148 = some ([.nilFunc]).toArray := by kernel_rfl
def zcT : List (Nat × List Value) := [(1, [.nilFunc]), (2, [.int .i64 0]), (3, [.int .i64 0]), (4, [.bool false]), (5, [.int .u8 0]), (9, [.string ⟨#[]⟩]), (12, [.int .u64 0]), (21, [.int .i32 0]), (22, [.slice none 0 0]), (23, [.slice none 0 0]), (24, [.slice none 0 0, .slice none 0 0, .int .i64 0]), (25, [.slice none 0 0, .slice none 0 0, .int .i64 0]), (26, [.nilFunc]), (27, [.nilFunc]), (28, [.nilFunc]), (29, [.int .i64 0]), (30, [.nilFunc]), (31, [.nilFunc]), (32, [.slice none 0 0]), (34, [.nilFunc]), (35, [.nilFunc]), (36, [.slice none 0 0]), (38, [.nilFunc]), (39, [.slice none 0 0]), (40, [.slice none 0 0, .slice none 0 0]), (41, [.slice none 0 0, .slice none 0 0]), (42, [.slice none 0 0]), (43, [.slice none 0 0, .bool false, .int .i64 0, .int .i64 0]), (44, [.slice none 0 0, .bool false, .int .i64 0, .int .i64 0]), (46, [.nilFunc]), (47, [.nilFunc]), (48, [.nilFunc]), (49, [.int .i64 0, .int .i64 0, .int .i64 0, .int .i64 0, .int .i64 0, .int .i64 0]), (50, [.int .i64 0, .int .i64 0, .int .i64 0, .int .i64 0, .int .i64 0, .int .i64 0]), (52, [.nilFunc]), (53, [.nilFunc]), (54, [.nilFunc]), (55, [.int .i64 0, .int .i64 0, .int .i64 0, .int .i64 0]), (56, [.int .i64 0, .int .i64 0, .int .i64 0, .int .i64 0]), (58, [.nilFunc]), (59, [.nilFunc]), (60, [.nilFunc]), (61, [.int .i64 0, .int .i64 0, .int .i64 0, .int .i64 0, .int .i64 0]), (62, [.int .i64 0, .int .i64 0, .int .i64 0, .int .i64 0, .int .i64 0]), (63, [.nilFunc]), (65, [.nilFunc]), (66, [.int .i64 0, .int .i64 0, .int .i64 0, .int .i64 0, .int .i64 0]), (67, [.int .i64 0, .int .i64 0, .int .i64 0, .int .i64 0, .int .i64 0]), (68, [.nilFunc]), (69, [.nilFunc]), (70, [.nilFunc]), (72, [.nilFunc]), (73, [.nilFunc]), (74, [.nilFunc]), (75, [.nilFunc]), (76, [.nilFunc]), (77, [.nilFunc]), (78, [.nilFunc]), (79, [.nilFunc]), (80, [.nilFunc]), (81, [.nilFunc]), (82, [.pointer none]), (83, [.nilFunc]), (84, [.nilFunc]), (85, [.slice none 0 0, .slice none 0 0, .slice none 0 0, .slice none 0 0, .slice none 0 0]), (86, [.slice none 0 0, .slice none 0 0, .slice none 0 0, .slice none 0 0, .slice none 0 0]), (87, [.nilFunc]), (88, [.nilFunc]), (89, [.nilFunc]), (90, [.nilFunc]), (91, [.int .i64 0, .int .i64 0, .int .i64 0, .int .i64 0, .int .i64 0, .int .i64 0]), (92, [.nilFunc]), (93, [.nilFunc]), (94, [.nilFunc]), (95, [.nilFunc]), (96, [.nilFunc]), (99, [.nilFunc]), (100, [.nilFunc]), (101, [.nilFunc]), (102, [.slice none 0 0, .slice none 0 0, .int .i64 0, .slice none 0 0, .slice none 0 0, .slice none 0 0]), (103, [.slice none 0 0, .slice none 0 0, .int .i64 0, .slice none 0 0, .slice none 0 0, .slice none 0 0]), (104, [.nilFunc]), (105, [.nilFunc]), (107, [.int .i64 0, .int .i64 0]), (108, [.nilFunc]), (110, [.nilFunc]), (111, [.nilFunc]), (112, [.nilFunc]), (113, [.nilFunc]), (114, [.nilFunc]), (115, [.nilFunc]), (116, [.nilFunc]), (117, [.nilFunc]), (118, [.nilFunc]), (119, [.nilFunc]), (120, [.int .u64 0]), (121, [.nilFunc]), (122, [.int .i64 0]), (124, [.nilFunc]), (125, [.nilFunc]), (126, [.nilFunc]), (127, [.nilFunc]), (129, [.nilFunc]), (130, [.nilFunc]), (131, [.int .u32 0]), (132, [.nilFunc]), (133, [.int .u64 0]), (134, [.int .u64 0]), (135, [.nilFunc]), (136, [.nilFunc]), (137, [.nilFunc]), (138, [.pointer none]), (139, [.nilFunc]), (141, [.nilFunc]), (142, [.nilFunc]), (148, [.nilFunc])]
theorem zcTOk : AllZ (fun p => zc Try.prog p.1 = some p.2.toArray) zcT := ⟨zc_1, zc_2, zc_3, zc_4, zc_5, zc_9, zc_12, zc_21, zc_22, zc_23, zc_24, zc_25, zc_26, zc_27, zc_28, zc_29, zc_30, zc_31, zc_32, zc_34, zc_35, zc_36, zc_38, zc_39, zc_40, zc_41, zc_42, zc_43, zc_44, zc_46, zc_47, zc_48, zc_49, zc_50, zc_52, zc_53, zc_54, zc_55, zc_56, zc_58, zc_59, zc_60, zc_61, zc_62, zc_63, zc_65, zc_66, zc_67, zc_68, zc_69, zc_70, zc_72, zc_73, zc_74, zc_75, zc_76, zc_77, zc_78, zc_79, zc_80, zc_81, zc_82, zc_83, zc_84, zc_85, zc_86, zc_87, zc_88, zc_89, zc_90, zc_91, zc_92, zc_93, zc_94, zc_95, zc_96, zc_99, zc_100, zc_101, zc_102, zc_103, zc_104, zc_105, zc_107, zc_108, zc_110, zc_111, zc_112, zc_113, zc_114, zc_115, zc_116, zc_117, zc_118, zc_119, zc_120, zc_121, zc_122, zc_124, zc_125, zc_126, zc_127, zc_129, zc_130, zc_131, zc_132, zc_133, zc_134, zc_135, zc_136, zc_137, zc_138, zc_139, zc_141, zc_142, zc_148, trivial⟩
theorem zcTOf {t : Nat} {r : List Value} (h : getT zcT t = some r) : zc Try.prog t = some r.toArray := zcTOk.of (t, r) (getT_mem h)
theorem zs_22 : zs Try.prog 22 = some ([.slice none 0 0, .slice none 0 0]).toArray := by kernel_rfl
theorem zs_23 : zs Try.prog 23 = some ([.int .i64 0, .int .i64 0, .int .i64 0, .int .i64 0]).toArray := by kernel_rfl
theorem zs_32 : zs Try.prog 32 = some ([.slice none 0 0, .bool false, .int .i64 0, .int .i64 0]).toArray := by kernel_rfl
theorem zs_36 : zs Try.prog 36 = some ([.slice none 0 0]).toArray := by kernel_rfl
theorem zs_39 : zs Try.prog 39 = some ([.int .i64 0]).toArray := by kernel_rfl
theorem zs_42 : zs Try.prog 42 = some ([.bool false]).toArray := by kernel_rfl
def zsT : List (Nat × List Value) := [(22, [.slice none 0 0, .slice none 0 0]), (23, [.int .i64 0, .int .i64 0, .int .i64 0, .int .i64 0]), (32, [.slice none 0 0, .bool false, .int .i64 0, .int .i64 0]), (36, [.slice none 0 0]), (39, [.int .i64 0]), (42, [.bool false])]
theorem zsTOk : AllZ (fun p => zs Try.prog p.1 = some p.2.toArray) zsT := ⟨zs_22, zs_23, zs_32, zs_36, zs_39, zs_42, trivial⟩
theorem zsTOf {t : Nat} {r : List Value} (h : getT zsT t = some r) : zs Try.prog t = some r.toArray := zsTOk.of (t, r) (getT_mem h)
theorem mixed : Try.prog.follows .mixedOrders = true := by kernel_rfl
end Go.Proofs.Ytnbickholedckaa
