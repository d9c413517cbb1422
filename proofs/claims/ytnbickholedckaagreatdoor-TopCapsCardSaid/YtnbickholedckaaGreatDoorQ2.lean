/- Texts of this claim, put together; the parts that it needs. -/
import Derived.Test.YtnbickholedckaaGreatDoorQ1
import Derived.Test.YtnbickholedckaaGreatDoorRows
namespace Go.Proofs.YtnbickholedckaaGreatDoor
open Go.RowKit
def shT : List (Nat × Bool × Nat) := [(1, false, 1), (2, false, 1), (3, false, 1), (4, false, 1), (5, false, 1), (9, false, 1), (12, false, 1), (21, false, 1), (22, false, 1), (23, false, 1), (24, true, 3), (25, true, 3), (26, false, 1), (27, false, 1), (28, true, 2), (29, true, 2), (30, false, 1), (31, false, 1), (32, false, 1), (34, false, 1), (36, false, 1), (37, false, 1), (38, true, 4), (39, true, 4), (40, true, 5), (41, true, 5), (42, true, 10), (43, true, 10), (44, false, 1), (45, false, 1), (47, false, 1), (49, false, 1), (50, false, 1), (52, false, 1), (53, true, 4), (54, true, 4), (55, false, 1), (56, false, 1), (57, false, 1), (58, false, 1), (59, false, 1), (60, false, 1), (61, false, 1), (62, false, 1), (63, false, 1), (64, false, 1), (65, false, 1), (66, false, 1), (67, false, 1), (68, false, 1), (69, false, 1), (70, false, 1), (71, false, 1), (72, true, 6), (73, true, 6), (74, false, 1), (75, false, 1), (76, false, 1), (77, false, 1), (79, false, 1), (80, true, 2), (82, false, 1), (83, true, 2), (84, true, 2), (88, false, 1), (89, false, 1), (90, false, 1), (91, false, 1), (92, false, 1), (93, false, 1), (94, false, 1), (95, false, 1), (96, false, 1), (97, false, 1), (98, false, 1), (99, false, 1), (100, false, 1), (101, false, 1), (104, false, 1), (105, false, 1), (106, false, 1), (107, false, 1), (108, false, 1), (110, false, 1), (112, false, 1), (113, false, 1), (114, false, 1), (115, false, 1), (116, false, 1), (117, false, 1), (118, false, 1), (119, false, 1), (120, false, 1), (122, false, 1), (123, false, 1), (124, false, 1), (125, false, 1), (127, false, 1), (128, false, 1), (129, false, 1), (130, false, 1), (131, false, 1), (134, false, 1), (135, false, 1), (138, false, 1), (140, false, 1), (141, false, 1), (142, false, 1), (143, false, 1), (144, false, 1), (145, false, 1), (146, false, 1), (147, false, 1), (148, true, 24), (149, false, 1), (151, false, 1), (152, true, 256), (153, true, 2), (154, true, 2), (155, true, 32), (156, false, 1), (157, false, 1), (159, false, 1), (160, false, 1), (161, true, 3), (162, true, 3), (163, false, 1), (165, false, 1), (166, false, 1), (167, true, 20), (168, true, 65), (170, false, 1), (171, false, 1), (173, true, 1), (174, true, 1), (175, true, 32), (176, true, 64), (182, false, 1)]
set_option maxRecDepth 100000 in
theorem shTOk : shT.all (fun p => sh Tryz.prog p.1 == some p.2) = true := by kernel_rfl
theorem shTOf {t : Nat} {r : Bool × Nat} (h : getT shT t = some r) : sh Tryz.prog t = some r := by
  have := List.all_eq_true.1 shTOk _ (getT_mem h)
  simpa using this
def foT : List (Nat × Nat × Bool × Nat) := [(1536, 0, false, 1), (1537, 1, false, 1), (1538, 2, false, 1), (1600, 0, false, 1), (1601, 1, false, 1), (1602, 2, false, 1), (1792, 0, false, 1), (1793, 1, false, 1), (1856, 0, false, 1), (1857, 1, false, 1), (2432, 0, false, 1), (2433, 1, false, 1), (2434, 2, false, 1), (2435, 3, false, 1), (2496, 0, false, 1), (2497, 1, false, 1), (2498, 2, false, 1), (2499, 3, false, 1), (2560, 0, false, 1), (2561, 1, false, 1), (2562, 2, false, 1), (2563, 3, false, 1), (2564, 4, false, 1), (2624, 0, false, 1), (2625, 1, false, 1), (2626, 2, false, 1), (2627, 3, false, 1), (2628, 4, false, 1), (2688, 0, false, 1), (2689, 1, true, 4), (2690, 5, true, 5), (2752, 0, false, 1), (2753, 1, true, 4), (2754, 5, true, 5), (3392, 0, false, 1), (3393, 1, false, 1), (3394, 2, false, 1), (3395, 3, false, 1), (3456, 0, false, 1), (3457, 1, false, 1), (3458, 2, false, 1), (3459, 3, false, 1), (4608, 0, true, 3), (4609, 3, false, 1), (4610, 4, false, 1), (4611, 5, false, 1), (4672, 0, true, 3), (4673, 3, false, 1), (4674, 4, false, 1), (4675, 5, false, 1), (5313, 1, false, 1), (5377, 1, false, 1), (9792, 0, false, 1), (9793, 1, false, 1), (9856, 0, false, 1), (9857, 1, false, 1), (10304, 0, false, 1), (10305, 1, false, 1), (10368, 0, false, 1), (10369, 1, false, 1), (11072, 0, false, 1), (11136, 0, false, 1)]
set_option maxRecDepth 100000 in
theorem foTOk : foT.all (fun p => fo Tryz.prog (p.1 / 64) (p.1 % 64) == some p.2) = true := by kernel_rfl
theorem foTOf {t : Nat} {r : Nat × Bool × Nat} (h : getT foT t = some r) : fo Tryz.prog (t / 64) (t % 64) = some r := by
  have := List.all_eq_true.1 foTOk _ (getT_mem h)
  simpa using this
def arT : List (Nat × Nat × Bool × Nat) := [(80, 2, false, 1), (148, 24, false, 1), (152, 256, false, 1), (155, 16, true, 2), (167, 20, false, 1), (168, 65, false, 1), (175, 32, false, 1), (176, 64, false, 1)]
set_option maxRecDepth 100000 in
theorem arTOk : arT.all (fun p => ar Tryz.prog p.1 == some p.2) = true := by kernel_rfl
theorem arTOf {t : Nat} {r : Nat × Bool × Nat} (h : getT arT t = some r) : ar Tryz.prog t = some r := by
  have := List.all_eq_true.1 arTOk _ (getT_mem h)
  simpa using this
def scT : List (Nat × Bool × Nat) := [(22, true, 2), (23, true, 4), (26, true, 10), (27, false, 1), (45, true, 4), (50, false, 1), (82, false, 1), (93, false, 1)]
set_option maxRecDepth 100000 in
theorem scTOk : scT.all (fun p => sc Tryz.prog p.1 == some p.2) = true := by kernel_rfl
theorem scTOf {t : Nat} {r : Bool × Nat} (h : getT scT t = some r) : sc Tryz.prog t = some r := by
  have := List.all_eq_true.1 scTOk _ (getT_mem h)
  simpa using this
def plT : List (Nat × List (Nat × Nat)) := [(24, [(0, 1), (1, 1), (2, 1)]), (25, [(0, 1), (1, 1), (2, 1)]), (28, [(0, 1), (1, 1)]), (29, [(0, 1), (1, 1)]), (38, [(0, 1), (1, 1), (2, 1), (3, 1)]), (39, [(0, 1), (1, 1), (2, 1), (3, 1)]), (40, [(0, 1), (1, 1), (2, 1), (3, 1), (4, 1)]), (41, [(0, 1), (1, 1), (2, 1), (3, 1), (4, 1)]), (42, [(0, 1), (1, 4), (5, 5)]), (43, [(0, 1), (1, 4), (5, 5)]), (53, [(0, 1), (1, 1), (2, 1), (3, 1)]), (54, [(0, 1), (1, 1), (2, 1), (3, 1)]), (72, [(0, 3), (3, 1), (4, 1), (5, 1)]), (73, [(0, 3), (3, 1), (4, 1), (5, 1)]), (153, [(0, 1), (1, 1)]), (154, [(0, 1), (1, 1)]), (173, [(0, 1)]), (174, [(0, 1)])]
set_option maxRecDepth 100000 in
theorem plTOk : plT.all (fun p => pl Tryz.prog p.1 == some p.2) = true := by kernel_rfl
theorem plTOf {t : Nat} {r : List (Nat × Nat)} (h : getT plT t = some r) : pl Tryz.prog t = some r := by
  have := List.all_eq_true.1 plTOk _ (getT_mem h)
  simpa using this
def apT : List (Nat × Nat × Nat) := [(22, 2, 48), (23, 4, 32), (26, 10, 80), (27, 1, 8), (45, 4, 48), (50, 1, 24), (82, 1, 1), (93, 1, 16)]
set_option maxRecDepth 100000 in
theorem apTOk : apT.all (fun p => ap Tryz.prog p.1 == some p.2) = true := by kernel_rfl
theorem apTOf {t : Nat} {r : Nat × Nat} (h : getT apT t = some r) : ap Tryz.prog t = some r := by
  have := List.all_eq_true.1 apTOk _ (getT_mem h)
  simpa using this
def goT : List (Nat × Unit) := [(3, ()), (4, ()), (5, ()), (6, ()), (7, ()), (8, ()), (9, ()), (10, ()), (11, ()), (12, ()), (13, ()), (14, ()), (15, ()), (16, ()), (17, ()), (18, ()), (19, ()), (20, ()), (21, ()), (22, ()), (23, ()), (24, ()), (25, ()), (26, ()), (27, ()), (28, ()), (29, ()), (30, ()), (31, ()), (32, ()), (33, ()), (34, ()), (35, ()), (36, ()), (37, ()), (38, ()), (39, ()), (40, ()), (41, ()), (42, ()), (43, ()), (44, ()), (45, ()), (46, ()), (47, ()), (48, ()), (49, ()), (50, ()), (52, ()), (54, ()), (56, ()), (57, ()), (59, ()), (60, ()), (61, ()), (62, ()), (63, ()), (64, ()), (65, ()), (66, ()), (67, ()), (68, ()), (69, ()), (70, ()), (71, ()), (72, ()), (79, ()), (80, ()), (82, ()), (83, ()), (84, ()), (85, ()), (86, ()), (87, ()), (89, ()), (90, ()), (91, ()), (105, ())]
set_option maxRecDepth 100000 in
theorem goTOk : goT.all (fun p => isGo Tryz.prog p.1) = true := by kernel_rfl
set_option maxRecDepth 100000 in
theorem goTOf {t : Nat} (h : getT goT t = some ()) : isGo Tryz.prog t = true := List.all_eq_true.1 goTOk _ (getT_mem h)
theorem foTOf2 {t f : Nat} {r : Nat × Bool × Nat} (hf : Nat.blt f 64 = true) (h : getT foT (64 * t + f) = some r) : fo Tryz.prog t f = some r := by
  have h1 : f < 64 := by simpa using hf
  have := foTOf h
  rwa [show (64 * t + f) / 64 = t by omega, show (64 * t + f) % 64 = f by omega] at this
theorem zc_1 : zc Tryz.prog 1 = some ([.nilFunc]).toArray := by kernel_rfl
theorem zc_2 : zc Tryz.prog 2 = some ([.int .i64 0]).toArray := by kernel_rfl
theorem zc_3 : zc Tryz.prog 3 = some ([.int .i64 0]).toArray := by kernel_rfl
theorem zc_4 : zc Tryz.prog 4 = some ([.bool false]).toArray := by kernel_rfl
theorem zc_5 : zc Tryz.prog 5 = some ([.int .u8 0]).toArray := by kernel_rfl
theorem zc_9 : zc Tryz.prog 9 = some ([.string ⟨#[]⟩]).toArray := by kernel_rfl
theorem zc_12 : zc Tryz.prog 12 = some ([.int .u64 0]).toArray := by kernel_rfl
theorem zc_21 : zc Tryz.prog 21 = some ([.int .i32 0]).toArray := by kernel_rfl
theorem zc_22 : zc Tryz.prog 22 = some ([.slice none 0 0]).toArray := by kernel_rfl
theorem zc_23 : zc Tryz.prog 23 = some ([.slice none 0 0]).toArray := by kernel_rfl
theorem zc_24 : zc Tryz.prog 24 = some ([.slice none 0 0, .slice none 0 0, .int .i64 0]).toArray := by kernel_rfl
theorem zc_25 : zc Tryz.prog 25 = some ([.slice none 0 0, .slice none 0 0, .int .i64 0]).toArray := by kernel_rfl
theorem zc_26 : zc Tryz.prog 26 = some ([.slice none 0 0]).toArray := by kernel_rfl
theorem zc_27 : zc Tryz.prog 27 = some ([.slice none 0 0]).toArray := by kernel_rfl
theorem zc_28 : zc Tryz.prog 28 = some ([.slice none 0 0, .slice none 0 0]).toArray := by kernel_rfl
theorem zc_29 : zc Tryz.prog 29 = some ([.slice none 0 0, .slice none 0 0]).toArray := by kernel_rfl
theorem zc_30 : zc Tryz.prog 30 = some ([.nilFunc]).toArray := by kernel_rfl
theorem zc_31 : zc Tryz.prog 31 = some ([.int .i64 0]).toArray := by kernel_rfl
theorem zc_32 : zc Tryz.prog 32 = some ([.nilFunc]).toArray := by kernel_rfl
theorem zc_34 : zc Tryz.prog 34 = some ([.nilFunc]).toArray := by kernel_rfl
theorem zc_36 : zc Tryz.prog 36 = some ([.nilFunc]).toArray := by kernel_rfl
theorem zc_37 : zc Tryz.prog 37 = some ([.nilFunc]).toArray := by kernel_rfl
theorem zc_38 : zc Tryz.prog 38 = some ([.int .i64 0, .int .i64 0, .int .i64 0, .int .i64 0]).toArray := by kernel_rfl
theorem zc_39 : zc Tryz.prog 39 = some ([.int .i64 0, .int .i64 0, .int .i64 0, .int .i64 0]).toArray := by kernel_rfl
theorem zc_40 : zc Tryz.prog 40 = some ([.int .i64 0, .int .i64 0, .int .i64 0, .int .i64 0, .int .i64 0]).toArray := by kernel_rfl
theorem zc_41 : zc Tryz.prog 41 = some ([.int .i64 0, .int .i64 0, .int .i64 0, .int .i64 0, .int .i64 0]).toArray := by kernel_rfl
theorem zc_42 : zc Tryz.prog 42 = some (List.replicate 10 (.int .i64 0)).toArray := by kernel_rfl
theorem zc_43 : zc Tryz.prog 43 = some (List.replicate 10 (.int .i64 0)).toArray := by kernel_rfl
theorem zc_44 : zc Tryz.prog 44 = some ([.nilFunc]).toArray := by kernel_rfl
theorem zc_45 : zc Tryz.prog 45 = some ([.slice none 0 0]).toArray := by kernel_rfl
theorem zc_47 : zc Tryz.prog 47 = some ([.nilFunc]).toArray := by kernel_rfl
theorem zc_49 : zc Tryz.prog 49 = some ([.nilFunc]).toArray := by kernel_rfl
theorem zc_50 : zc Tryz.prog 50 = some ([.slice none 0 0]).toArray := by kernel_rfl
theorem zc_52 : zc Tryz.prog 52 = some ([.nilFunc]).toArray := by kernel_rfl
theorem zc_53 : zc Tryz.prog 53 = some ([.slice none 0 0, .bool false, .int .i64 0, .int .i64 0]).toArray := by kernel_rfl
theorem zc_54 : zc Tryz.prog 54 = some ([.slice none 0 0, .bool false, .int .i64 0, .int .i64 0]).toArray := by kernel_rfl
theorem zc_55 : zc Tryz.prog 55 = some ([.nilFunc]).toArray := by kernel_rfl
theorem zc_56 : zc Tryz.prog 56 = some ([.nilFunc]).toArray := by kernel_rfl
theorem zc_57 : zc Tryz.prog 57 = some ([.nilFunc]).toArray := by kernel_rfl
theorem zc_58 : zc Tryz.prog 58 = some ([.nilFunc]).toArray := by kernel_rfl
theorem zc_59 : zc Tryz.prog 59 = some ([.nilFunc]).toArray := by kernel_rfl
theorem zc_60 : zc Tryz.prog 60 = some ([.nilFunc]).toArray := by kernel_rfl
theorem zc_61 : zc Tryz.prog 61 = some ([.nilFunc]).toArray := by kernel_rfl
theorem zc_62 : zc Tryz.prog 62 = some ([.nilFunc]).toArray := by kernel_rfl
theorem zc_63 : zc Tryz.prog 63 = some ([.pointer none]).toArray := by kernel_rfl
theorem zc_64 : zc Tryz.prog 64 = some ([.int .u64 0]).toArray := by kernel_rfl
theorem zc_65 : zc Tryz.prog 65 = some ([.nilFunc]).toArray := by kernel_rfl
theorem zc_66 : zc Tryz.prog 66 = some ([.nilFunc]).toArray := by kernel_rfl
theorem zc_67 : zc Tryz.prog 67 = some ([.nilFunc]).toArray := by kernel_rfl
theorem zc_68 : zc Tryz.prog 68 = some ([.nilFunc]).toArray := by kernel_rfl
theorem zc_69 : zc Tryz.prog 69 = some ([.pointer none]).toArray := by kernel_rfl
theorem zc_70 : zc Tryz.prog 70 = some ([.nilFunc]).toArray := by kernel_rfl
theorem zc_71 : zc Tryz.prog 71 = some ([.nilFunc]).toArray := by kernel_rfl
theorem zc_72 : zc Tryz.prog 72 = some ([.slice none 0 0, .slice none 0 0, .int .i64 0, .slice none 0 0, .slice none 0 0, .slice none 0 0]).toArray := by kernel_rfl
theorem zc_73 : zc Tryz.prog 73 = some ([.slice none 0 0, .slice none 0 0, .int .i64 0, .slice none 0 0, .slice none 0 0, .slice none 0 0]).toArray := by kernel_rfl
theorem zc_74 : zc Tryz.prog 74 = some ([.nilFunc]).toArray := by kernel_rfl
theorem zc_75 : zc Tryz.prog 75 = some ([.nilFunc]).toArray := by kernel_rfl
theorem zc_76 : zc Tryz.prog 76 = some ([.nilFunc]).toArray := by kernel_rfl
theorem zc_77 : zc Tryz.prog 77 = some ([.nilFunc]).toArray := by kernel_rfl
theorem zc_79 : zc Tryz.prog 79 = some ([.nilFunc]).toArray := by kernel_rfl
theorem zc_80 : zc Tryz.prog 80 = some ([.int .i64 0, .int .i64 0]).toArray := by kernel_rfl
theorem zc_82 : zc Tryz.prog 82 = some ([.slice none 0 0]).toArray := by kernel_rfl
theorem zc_83 : zc Tryz.prog 83 = some ([.pointer none, .slice none 0 0]).toArray := by kernel_rfl
theorem zc_84 : zc Tryz.prog 84 = some ([.pointer none, .slice none 0 0]).toArray := by kernel_rfl
theorem zc_88 : zc Tryz.prog 88 = some ([.nilFunc]).toArray := by kernel_rfl
theorem zc_89 : zc Tryz.prog 89 = some ([.nilFunc]).toArray := by kernel_rfl
theorem zc_90 : zc Tryz.prog 90 = some ([.nilFunc]).toArray := by kernel_rfl
theorem zc_91 : zc Tryz.prog 91 = some ([.nilFunc]).toArray := by kernel_rfl
theorem zc_92 : zc Tryz.prog 92 = some ([.nilFunc]).toArray := by kernel_rfl
theorem zc_93 : zc Tryz.prog 93 = some ([.slice none 0 0]).toArray := by kernel_rfl
theorem zc_94 : zc Tryz.prog 94 = some ([.nilFunc]).toArray := by kernel_rfl
theorem zc_95 : zc Tryz.prog 95 = some ([.nilFunc]).toArray := by kernel_rfl
theorem zc_96 : zc Tryz.prog 96 = some ([.nilFunc]).toArray := by kernel_rfl
theorem zc_97 : zc Tryz.prog 97 = some ([.nilFunc]).toArray := by kernel_rfl
theorem zc_98 : zc Tryz.prog 98 = some ([.nilFunc]).toArray := by kernel_rfl
theorem zc_99 : zc Tryz.prog 99 = some ([.nilFunc]).toArray := by kernel_rfl
theorem zc_100 : zc Tryz.prog 100 = some ([.nilFunc]).toArray := by kernel_rfl
theorem zc_101 : zc Tryz.prog 101 = some ([.nilFunc]).toArray := by kernel_rfl
theorem zc_104 : zc Tryz.prog 104 = some ([.nilFunc]).toArray := by kernel_rfl
theorem zc_105 : zc Tryz.prog 105 = some ([.nilFunc]).toArray := by kernel_rfl
theorem zc_106 : zc Tryz.prog 106 = some ([.nilFunc]).toArray := by kernel_rfl
theorem zc_107 : zc Tryz.prog 107 = some ([.nilFunc]).toArray := by kernel_rfl
theorem zc_108 : zc Tryz.prog 108 = some ([.nilFunc]).toArray := by kernel_rfl
theorem zc_110 : zc Tryz.prog 110 = some ([.nilFunc]).toArray := by kernel_rfl
theorem zc_112 : zc Tryz.prog 112 = some ([.nilFunc]).toArray := by kernel_rfl
theorem zc_113 : zc Tryz.prog 113 = some ([.nilFunc]).toArray := by kernel_rfl
theorem zc_114 : zc Tryz.prog 114 = some ([.nilFunc]).toArray := by kernel_rfl
theorem zc_115 : zc Tryz.prog 115 = some ([.nilFunc]).toArray := by kernel_rfl
theorem zc_116 : zc Tryz.prog 116 = some ([.nilFunc]).toArray := by kernel_rfl
theorem zc_117 : zc Tryz.prog 117 = some ([.nilFunc]).toArray := by kernel_rfl
theorem zc_118 : zc Tryz.prog 118 = some ([.nilFunc]).toArray := by kernel_rfl
theorem zc_119 : zc Tryz.prog 119 = some ([.nilFunc]).toArray := by kernel_rfl
theorem zc_120 : zc Tryz.prog 120 = some ([.int .i64 0]).toArray := by kernel_rfl
theorem zc_122 : zc Tryz.prog 122 = some ([.nilFunc]).toArray := by kernel_rfl
theorem zc_123 : zc Tryz.prog 123 = some ([.nilFunc]).toArray := by kernel_rfl
theorem zc_124 : zc Tryz.prog 124 = some ([.nilFunc]).toArray := by kernel_rfl
theorem zc_125 : zc Tryz.prog 125 = some ([.nilFunc]).toArray := by kernel_rfl
theorem zc_127 : zc Tryz.prog 127 = some ([.nilFunc]).toArray := by kernel_rfl
theorem zc_128 : zc Tryz.prog 128 = some ([.nilFunc]).toArray := by kernel_rfl
theorem zc_129 : zc Tryz.prog 129 = some ([.int .u32 0]).toArray := by kernel_rfl
theorem zc_130 : zc Tryz.prog 130 = some ([.nilFunc]).toArray := by kernel_rfl
theorem zc_131 : zc Tryz.prog 131 = some ([.int .u64 0]).toArray := by kernel_rfl
theorem zc_134 : zc Tryz.prog 134 = some ([.nilFunc]).toArray := by kernel_rfl
theorem zc_135 : zc Tryz.prog 135 = some ([.nilFunc]).toArray := by kernel_rfl
theorem zc_138 : zc Tryz.prog 138 = some ([.nilFunc]).toArray := by kernel_rfl
theorem zc_140 : zc Tryz.prog 140 = some ([.nilFunc]).toArray := by kernel_rfl
theorem zc_141 : zc Tryz.prog 141 = some ([.nilFunc]).toArray := by kernel_rfl
theorem zc_142 : zc Tryz.prog 142 = some ([.int .u64 0]).toArray := by kernel_rfl
theorem zc_143 : zc Tryz.prog 143 = some ([.nilFunc]).toArray := by kernel_rfl
theorem zc_144 : zc Tryz.prog 144 = some ([.nilFunc]).toArray := by kernel_rfl
theorem zc_145 : zc Tryz.prog 145 = some ([.nilFunc]).toArray := by kernel_rfl
theorem zc_146 : zc Tryz.prog 146 = some ([.pointer none]).toArray := by kernel_rfl
theorem zc_147 : zc Tryz.prog 147 = some ([.nilFunc]).toArray := by kernel_rfl
theorem zc_148 : zc Tryz.prog 148 = some (List.replicate 24 (.int .u8 0)).toArray := by kernel_rfl
theorem zc_149 : zc Tryz.prog 149 = some ([.nilFunc]).toArray := by kernel_rfl
theorem zc_151 : zc Tryz.prog 151 = some ([.nilFunc]).toArray := by kernel_rfl
theorem zc_152 : zc Tryz.prog 152 = some (List.replicate 256 (.int .u8 0)).toArray := by kernel_rfl
theorem zc_153 : zc Tryz.prog 153 = some ([.int .u8 0, .int .u8 0]).toArray := by kernel_rfl
theorem zc_154 : zc Tryz.prog 154 = some ([.int .u8 0, .int .u8 0]).toArray := by kernel_rfl
theorem zc_155 : zc Tryz.prog 155 = some (List.replicate 32 (.int .u8 0)).toArray := by kernel_rfl
theorem zc_156 : zc Tryz.prog 156 = some ([.nilFunc]).toArray := by kernel_rfl
theorem zc_157 : zc Tryz.prog 157 = some ([.nilFunc]).toArray := by kernel_rfl
theorem zc_159 : zc Tryz.prog 159 = some ([.nilFunc]).toArray := by kernel_rfl
theorem zc_160 : zc Tryz.prog 160 = some ([.nilFunc]).toArray := by kernel_rfl
theorem zc_161 : zc Tryz.prog 161 = some ([.string ⟨#[]⟩, .string ⟨#[]⟩, .nilIface]).toArray := by kernel_rfl
theorem zc_162 : zc Tryz.prog 162 = some ([.string ⟨#[]⟩, .string ⟨#[]⟩, .nilIface]).toArray := by kernel_rfl
theorem zc_163 : zc Tryz.prog 163 = some ([.nilFunc]).toArray := by kernel_rfl
theorem zc_165 : zc Tryz.prog 165 = some ([.nilFunc]).toArray := by kernel_rfl
theorem zc_166 : zc Tryz.prog 166 = some ([.nilFunc]).toArray := by kernel_rfl
theorem zc_167 : zc Tryz.prog 167 = some (List.replicate 20 (.int .u64 0)).toArray := by kernel_rfl
theorem zc_168 : zc Tryz.prog 168 = some (List.replicate 65 (.int .u8 0)).toArray := by kernel_rfl
theorem zc_170 : zc Tryz.prog 170 = some ([.nilFunc]).toArray := by kernel_rfl
theorem zc_171 : zc Tryz.prog 171 = some ([.nilFunc]).toArray := by kernel_rfl
theorem zc_173 : zc Tryz.prog 173 = some ([.string ⟨#[]⟩]).toArray := by kernel_rfl
theorem zc_174 : zc Tryz.prog 174 = some ([.string ⟨#[]⟩]).toArray := by kernel_rfl
theorem zc_175 : zc Tryz.prog 175 = some (List.replicate 32 (.int .u8 0)).toArray := by kernel_rfl
theorem zc_176 : zc Tryz.prog 176 = some (List.replicate 64 (.int .u8 0)).toArray := by kernel_rfl
theorem zc_182 : zc Tryz.prog 182 = some ([.nilFunc]).toArray := by kernel_rfl
def zcT : List (Nat × List Value) := [(1, [.nilFunc]), (2, [.int .i64 0]), (3, [.int .i64 0]), (4, [.bool false]), (5, [.int .u8 0]), (9, [.string ⟨#[]⟩]), (12, [.int .u64 0]), (21, [.int .i32 0]), (22, [.slice none 0 0]), (23, [.slice none 0 0]), (24, [.slice none 0 0, .slice none 0 0, .int .i64 0]), (25, [.slice none 0 0, .slice none 0 0, .int .i64 0]), (26, [.slice none 0 0]), (27, [.slice none 0 0]), (28, [.slice none 0 0, .slice none 0 0]), (29, [.slice none 0 0, .slice none 0 0]), (30, [.nilFunc]), (31, [.int .i64 0]), (32, [.nilFunc]), (34, [.nilFunc]), (36, [.nilFunc]), (37, [.nilFunc]), (38, [.int .i64 0, .int .i64 0, .int .i64 0, .int .i64 0]), (39, [.int .i64 0, .int .i64 0, .int .i64 0, .int .i64 0]), (40, [.int .i64 0, .int .i64 0, .int .i64 0, .int .i64 0, .int .i64 0]), (41, [.int .i64 0, .int .i64 0, .int .i64 0, .int .i64 0, .int .i64 0]), (42, List.replicate 10 (.int .i64 0)), (43, List.replicate 10 (.int .i64 0)), (44, [.nilFunc]), (45, [.slice none 0 0]), (47, [.nilFunc]), (49, [.nilFunc]), (50, [.slice none 0 0]), (52, [.nilFunc]), (53, [.slice none 0 0, .bool false, .int .i64 0, .int .i64 0]), (54, [.slice none 0 0, .bool false, .int .i64 0, .int .i64 0]), (55, [.nilFunc]), (56, [.nilFunc]), (57, [.nilFunc]), (58, [.nilFunc]), (59, [.nilFunc]), (60, [.nilFunc]), (61, [.nilFunc]), (62, [.nilFunc]), (63, [.pointer none]), (64, [.int .u64 0]), (65, [.nilFunc]), (66, [.nilFunc]), (67, [.nilFunc]), (68, [.nilFunc]), (69, [.pointer none]), (70, [.nilFunc]), (71, [.nilFunc]), (72, [.slice none 0 0, .slice none 0 0, .int .i64 0, .slice none 0 0, .slice none 0 0, .slice none 0 0]), (73, [.slice none 0 0, .slice none 0 0, .int .i64 0, .slice none 0 0, .slice none 0 0, .slice none 0 0]), (74, [.nilFunc]), (75, [.nilFunc]), (76, [.nilFunc]), (77, [.nilFunc]), (79, [.nilFunc]), (80, [.int .i64 0, .int .i64 0]), (82, [.slice none 0 0]), (83, [.pointer none, .slice none 0 0]), (84, [.pointer none, .slice none 0 0]), (88, [.nilFunc]), (89, [.nilFunc]), (90, [.nilFunc]), (91, [.nilFunc]), (92, [.nilFunc]), (93, [.slice none 0 0]), (94, [.nilFunc]), (95, [.nilFunc]), (96, [.nilFunc]), (97, [.nilFunc]), (98, [.nilFunc]), (99, [.nilFunc]), (100, [.nilFunc]), (101, [.nilFunc]), (104, [.nilFunc]), (105, [.nilFunc]), (106, [.nilFunc]), (107, [.nilFunc]), (108, [.nilFunc]), (110, [.nilFunc]), (112, [.nilFunc]), (113, [.nilFunc]), (114, [.nilFunc]), (115, [.nilFunc]), (116, [.nilFunc]), (117, [.nilFunc]), (118, [.nilFunc]), (119, [.nilFunc]), (120, [.int .i64 0]), (122, [.nilFunc]), (123, [.nilFunc]), (124, [.nilFunc]), (125, [.nilFunc]), (127, [.nilFunc]), (128, [.nilFunc]), (129, [.int .u32 0]), (130, [.nilFunc]), (131, [.int .u64 0]), (134, [.nilFunc]), (135, [.nilFunc]), (138, [.nilFunc]), (140, [.nilFunc]), (141, [.nilFunc]), (142, [.int .u64 0]), (143, [.nilFunc]), (144, [.nilFunc]), (145, [.nilFunc]), (146, [.pointer none]), (147, [.nilFunc]), (148, List.replicate 24 (.int .u8 0)), (149, [.nilFunc]), (151, [.nilFunc]), (152, List.replicate 256 (.int .u8 0)), (153, [.int .u8 0, .int .u8 0]), (154, [.int .u8 0, .int .u8 0]), (155, List.replicate 32 (.int .u8 0)), (156, [.nilFunc]), (157, [.nilFunc]), (159, [.nilFunc]), (160, [.nilFunc]), (161, [.string ⟨#[]⟩, .string ⟨#[]⟩, .nilIface]), (162, [.string ⟨#[]⟩, .string ⟨#[]⟩, .nilIface]), (163, [.nilFunc]), (165, [.nilFunc]), (166, [.nilFunc]), (167, List.replicate 20 (.int .u64 0)), (168, List.replicate 65 (.int .u8 0)), (170, [.nilFunc]), (171, [.nilFunc]), (173, [.string ⟨#[]⟩]), (174, [.string ⟨#[]⟩]), (175, List.replicate 32 (.int .u8 0)), (176, List.replicate 64 (.int .u8 0)), (182, [.nilFunc])]
theorem zcTOk : AllZ (fun p => zc Tryz.prog p.1 = some p.2.toArray) zcT := ⟨zc_1, zc_2, zc_3, zc_4, zc_5, zc_9, zc_12, zc_21, zc_22, zc_23, zc_24, zc_25, zc_26, zc_27, zc_28, zc_29, zc_30, zc_31, zc_32, zc_34, zc_36, zc_37, zc_38, zc_39, zc_40, zc_41, zc_42, zc_43, zc_44, zc_45, zc_47, zc_49, zc_50, zc_52, zc_53, zc_54, zc_55, zc_56, zc_57, zc_58, zc_59, zc_60, zc_61, zc_62, zc_63, zc_64, zc_65, zc_66, zc_67, zc_68, zc_69, zc_70, zc_71, zc_72, zc_73, zc_74, zc_75, zc_76, zc_77, zc_79, zc_80, zc_82, zc_83, zc_84, zc_88, zc_89, zc_90, zc_91, zc_92, zc_93, zc_94, zc_95, zc_96, zc_97, zc_98, zc_99, zc_100, zc_101, zc_104, zc_105, zc_106, zc_107, zc_108, zc_110, zc_112, zc_113, zc_114, zc_115, zc_116, zc_117, zc_118, zc_119, zc_120, zc_122, zc_123, zc_124, zc_125, zc_127, zc_128, zc_129, zc_130, zc_131, zc_134, zc_135, zc_138, zc_140, zc_141, zc_142, zc_143, zc_144, zc_145, zc_146, zc_147, zc_148, zc_149, zc_151, zc_152, zc_153, zc_154, zc_155, zc_156, zc_157, zc_159, zc_160, zc_161, zc_162, zc_163, zc_165, zc_166, zc_167, zc_168, zc_170, zc_171, zc_173, zc_174, zc_175, zc_176, zc_182, trivial⟩
theorem zcTOf {t : Nat} {r : List Value} (h : getT zcT t = some r) : zc Tryz.prog t = some r.toArray := zcTOk.of (t, r) (getT_mem h)
theorem zs_22 : zs Tryz.prog 22 = some ([.slice none 0 0, .slice none 0 0]).toArray := by kernel_rfl
theorem zs_23 : zs Tryz.prog 23 = some ([.int .i64 0, .int .i64 0, .int .i64 0, .int .i64 0]).toArray := by kernel_rfl
theorem zs_26 : zs Tryz.prog 26 = some (List.replicate 10 (.int .i64 0)).toArray := by kernel_rfl
theorem zs_27 : zs Tryz.prog 27 = some ([.int .i64 0]).toArray := by kernel_rfl
theorem zs_45 : zs Tryz.prog 45 = some ([.slice none 0 0, .bool false, .int .i64 0, .int .i64 0]).toArray := by kernel_rfl
theorem zs_50 : zs Tryz.prog 50 = some ([.slice none 0 0]).toArray := by kernel_rfl
theorem zs_82 : zs Tryz.prog 82 = some ([.int .u8 0]).toArray := by kernel_rfl
theorem zs_93 : zs Tryz.prog 93 = some ([.string ⟨#[]⟩]).toArray := by kernel_rfl
def zsT : List (Nat × List Value) := [(22, [.slice none 0 0, .slice none 0 0]), (23, [.int .i64 0, .int .i64 0, .int .i64 0, .int .i64 0]), (26, List.replicate 10 (.int .i64 0)), (27, [.int .i64 0]), (45, [.slice none 0 0, .bool false, .int .i64 0, .int .i64 0]), (50, [.slice none 0 0]), (82, [.int .u8 0]), (93, [.string ⟨#[]⟩])]
theorem zsTOk : AllZ (fun p => zs Tryz.prog p.1 = some p.2.toArray) zsT := ⟨zs_22, zs_23, zs_26, zs_27, zs_45, zs_50, zs_82, zs_93, trivial⟩
theorem zsTOf {t : Nat} {r : List Value} (h : getT zsT t = some r) : zs Tryz.prog t = some r.toArray := zsTOk.of (t, r) (getT_mem h)
theorem mixed : Tryz.prog.follows .mixedOrders = true := by kernel_rfl
end Go.Proofs.YtnbickholedckaaGreatDoor
