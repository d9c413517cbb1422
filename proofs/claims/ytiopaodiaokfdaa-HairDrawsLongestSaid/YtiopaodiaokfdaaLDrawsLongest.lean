/- HairDrawsLongest holds: drawing takes the longest hairs, loses none, and can be done in two steps. -/
import Derived.Test.YtiopaodiaokfdaaH26
import Derived.Test.YtiopaodiaokfdaaClose2
namespace Go.Proofs.Ytiopaodiaokfdaa
open Go.RowKit Go.ChangeShapes Go.WideShapes Go.ChangeAt

set_option maxRecDepth 100000 in
set_option maxHeartbeats 8000000 in
theorem l_longest (o1 o2 : Option Addr) (c1 c2 : Nat) (r g : List Int) (n m : Int) (B : Nat) (w0 : World) (hs : HS) (h1 : Sl B w0 hs o1 r) (h2 : Sl B w0 hs o2 g) :
    Fn Try.prog 14 #[bv o1 o2 r.length g.length c1 c2, iv n, iv m] B w0 hs (fun v _ => v = .bool true) := by
  refine fn_enter Try.func14 rfl Try.ntmps14 (by simp) ?_
  by_cases hlong : r.length ≤ 100 ∧ g.length ≤ 100
  rotate_left
  · repeat' (first | ((with_reducible apply kF 17); refine sC 17 (l_long o1 o2 _ _ c1 c2 B w0 _) ?_) | ((with_reducible apply kF 18); refine sC 18 (l_known B w0 _) ?_) | (with_reducible first | refine c_seq ?_ | refine c_reg ?_ | refine c_region ?_ | refine c_block ?_ | refine c_skip ?_ | refine c_exit ?_ | refine c_ret ?_ | refine s_nil ?_ | refine x_then ?_ | refine x_then_exit ?_ | refine x_then_ret ?_ | refine x_block ?_ | refine x_block_ret ?_ | refine x_block_same ?_ | refine x_block_other (by rfl) ?_ | refine q_nil ?_ | refine k_nil ?_) | ((with_reducible apply kP (.makeFunc _ _ _)); refine sMF ?_) | ((with_reducible apply kG); first | refine gY1 ?_ | refine gN1 ?_ | refine gU1 ?_ | (refine gD1 (fun h => ?_) (fun h => ?_) <;> (try (exfalso; omega))) | refine gB1 (fun h => ?_) (fun h => ?_)) | ((with_reducible apply kN); first | refine stP ?_ | refine stI ?_ | refine st1 ?_ | refine stW ?_) | ((with_reducible apply kP (.alloc _)); refine sA (fun b => ?_)) | ((with_reducible apply kP (.box _ _)); first | refine sBA (fun b => ?_) | refine sB (fun b => ?_)) | ((with_reducible apply kP (.buildSlice _ 1 _)); first | refine sl1A (fun b => ?_) | refine sl1 (fun b => ?_)) | ((with_reducible apply kP (.buildSlice _ 2 _)); refine sl2 (fun b => ?_)) | ((with_reducible apply kP (.buildSlice _ 3 _)); refine sl3 (fun b => ?_)) | ((with_reducible apply kP (.buildSlice _ 4 _)); refine sl4 (fun b => ?_)) | ((with_reducible apply kP (.buildSlice _ 0 _)); refine s_bs0 (scTOf rfl) (zsTOf rfl) (by decide) (fun b => ?_)) | ((with_reducible apply kP (.makeSlice _ _ _)); refine sMk (fun b => ?_)) | ((with_reducible apply kP (.call ⟨.builtin .append, _, _⟩)); refine sAp (fun oa2 c2 blk2 hrow2 => ?_)) | ((with_reducible apply kP _); refine sP ?_) | ((with_reducible apply kP _); refine sX ?_) | ((with_reducible apply kQG); first | refine qY1 ?_ | refine qN1 ?_ | refine qU1 ?_ | (refine qD1 (fun h => ?_) (fun h => ?_) <;> (try (exfalso; omega))) | refine qB1 (fun h => ?_) (fun h => ?_)) | ((with_reducible apply kQP); refine qP ?_) | ((with_reducible apply kQP); refine qX ?_) | ((with_reducible apply kC); first | refine cT ?_ | refine cF ?_ | (refine cI (fun h => ?_) (fun h => ?_) <;> (try (exfalso; omega))) | refine cB (fun h => ?_) (fun h => ?_)) | ((with_reducible apply kR); refine cQ ?_))
    all_goals first
      | exact e_ret1 rfl rfl rfl SCt
      | (exfalso; omega)
  obtain ⟨hr100, hg100⟩ := hlong
  have f1 := fun hs q1 q2 => h_Draw o1 o2 c1 c2 r g n B w0 hs q1 q2
  by_cases hE : drE r g n = 0
  rotate_left
  · rw [lif_no hE, lif_no hE, lif_no hE, lif_no hE] at f1
    generalize drE r g n = e at *
    generalize hL : ([] : List Int) = L0 at f1
    have hL0 : L0.length = 0 := by rw [← hL]; rfl
    repeat' (first | ((with_reducible apply kF 17); refine sC 17 (l_long o1 o2 _ _ c1 c2 B w0 _) ?_) | ((with_reducible apply kF 50); refine sN 50 (f1 _ (h1.sub SBt) (h2.sub SBt)) ?_; rintro u ka hN; obtain ⟨a1, a2, ca1, ca2, a3, a4, ca3, ca4, k1, k2, rfl, ha1, ha2, ha3, hb1, hb2, hb3, rfl⟩ := hN.use; rw [List.append_assoc]) | ((with_reducible apply kF 18); refine sC 18 (l_known B w0 _) ?_) | (with_reducible first | refine c_seq ?_ | refine c_reg ?_ | refine c_region ?_ | refine c_block ?_ | refine c_skip ?_ | refine c_exit ?_ | refine c_ret ?_ | refine s_nil ?_ | refine x_then ?_ | refine x_then_exit ?_ | refine x_then_ret ?_ | refine x_block ?_ | refine x_block_ret ?_ | refine x_block_same ?_ | refine x_block_other (by rfl) ?_ | refine q_nil ?_ | refine k_nil ?_) | ((with_reducible apply kP (.makeFunc _ _ _)); refine sMF ?_) | ((with_reducible apply kG); first | refine gY1 ?_ | refine gN1 ?_ | refine gU1 ?_ | (refine gD1 (fun h => ?_) (fun h => ?_) <;> (try (exfalso; omega))) | refine gB1 (fun h => ?_) (fun h => ?_)) | ((with_reducible apply kN); first | refine stP ?_ | refine stI ?_ | refine st1 ?_ | refine stW ?_) | ((with_reducible apply kP (.alloc _)); refine sA (fun b => ?_)) | ((with_reducible apply kP (.box _ _)); first | refine sBA (fun b => ?_) | refine sB (fun b => ?_)) | ((with_reducible apply kP (.buildSlice _ 1 _)); first | refine sl1A (fun b => ?_) | refine sl1 (fun b => ?_)) | ((with_reducible apply kP (.buildSlice _ 2 _)); refine sl2 (fun b => ?_)) | ((with_reducible apply kP (.buildSlice _ 3 _)); refine sl3 (fun b => ?_)) | ((with_reducible apply kP (.buildSlice _ 4 _)); refine sl4 (fun b => ?_)) | ((with_reducible apply kP (.buildSlice _ 0 _)); refine s_bs0 (scTOf rfl) (zsTOf rfl) (by decide) (fun b => ?_)) | ((with_reducible apply kP (.makeSlice _ _ _)); refine sMk (fun b => ?_)) | ((with_reducible apply kP (.call ⟨.builtin .append, _, _⟩)); refine sAp (fun oa2 c2 blk2 hrow2 => ?_)) | ((with_reducible apply kP _); refine sP ?_) | ((with_reducible apply kP _); refine sX ?_) | ((with_reducible apply kQG); first | refine qY1 ?_ | refine qN1 ?_ | refine qU1 ?_ | (refine qD1 (fun h => ?_) (fun h => ?_) <;> (try (exfalso; omega))) | refine qB1 (fun h => ?_) (fun h => ?_)) | ((with_reducible apply kQP); refine qP ?_) | ((with_reducible apply kQP); refine qX ?_) | ((with_reducible apply kC); first | refine cT ?_ | refine cF ?_ | (refine cI (fun h => ?_) (fun h => ?_) <;> (try (exfalso; omega))) | refine cB (fun h => ?_) (fun h => ?_)) | ((with_reducible apply kR); refine cQ ?_))
    all_goals first
      | exact e_ret1 rfl rfl rfl SCt
      | exact absurd rfl ‹¬ _ = _›
      | (exfalso; omega)
  obtain ⟨hv, hn, hn2⟩ := dr_facts hE
  obtain ⟨d1, d2, d3, d4⟩ := dr_ok hv hn
  have hv2 := vErr_trmO d3 d4
  have hv1 := vErr_trmO d1 d2
  have hle := le_cnt hv hn hn2
  obtain ⟨hr, hg, q3, q4, q5, q6⟩ := vErr_zero hv
  have hcb := cnt_to (cn r) (cn g) 1 (okf_cn q3 q5) (okf_cn q4 q6) 25 (by omega)
  have hcb2 : cnt (cn r) (cn g) 1 = sumTo (fun i => if 1 ≤ i ∧ (1 : Int) ≤ i then cn r i + cn g i else 0) 25 := rfl
  rw [← hcb2] at hcb
  have hz : drF r g n 0 = 0 ∧ drG r g n 0 = 0 ∧ leF r g n 0 = 0 ∧ leG r g n 0 = 0 := ⟨rfl, rfl, by unfold leF; rw [cn_zero, (oF_0 _ _ _).1]; rfl, by unfold leG; rw [cn_zero, (oF_0 _ _ _).2]; rfl⟩
  obtain ⟨m1, m2, m3, m4, m5⟩ := mix_parts hv d1 d3 d2 d4 hz.1 hz.2.2.1 hz.2.1 hz.2.2.2 (fun i _ => (dr_sum i).1) (fun i _ => (dr_sum i).2)
  have hab : ∀ k : Nat, k ≤ 25 → aboveR (trm (drF r g n)) (trm (drG r g n)) k = .tuple #[iv (min n (cnt (cn r) (cn g) k)), iv 0] := fun k hk => by
    unfold aboveR; rw [hv1, if_pos rfl, dr_above hv hn hn2 hk]
  have hab2 : ∀ k : Nat, aboveR r g k = .tuple #[iv (cnt (cn r) (cn g) k), iv 0] := fun k => by
    unfold aboveR; rw [hv, if_pos rfl]
  have hd := fun (hm : 0 ≤ m) => dr_two (r := r) (g := g) (n := n) hv hn hm
  have hx := fun (hm : 0 ≤ m) => dr_mix (r := r) (g := g) (n := n) hv hn hm
  have hdr := fun (hm : 0 ≤ m) (h : m ≤ cnt (cn r) (cn g) 1 - n) => dr_of (r := r) (g := g) (n := n + m) hv (by omega) (by omega)
  have hdf : drE (trm (leF r g n)) (trm (leG r g n)) m = 0 → 0 ≤ m ∧ m ≤ cnt (cn r) (cn g) 1 - n := fun h => by
    obtain ⟨_, x1, x2⟩ := dr_facts h; rw [hle] at x2; exact ⟨x1, x2⟩
  rw [lif_yes hE, lif_yes hE, lif_yes hE, lif_yes hE, hE] at f1
  have l1 := trm_length (drF r g n); have l2 := trm_length (drG r g n); have l3 := trm_length (leF r g n); have l4 := trm_length (leG r g n)
  generalize trm (drF r g n) = X1 at *
  generalize trm (drG r g n) = X2 at *
  generalize trm (leF r g n) = U1 at *
  generalize trm (leG r g n) = U2 at *
  have f5 := fun a1 a2 ca1 ca2 a3 a4 ca3 ca4 hs q1 q2 q3 q4 => h_Mix a1 a2 a3 a4 ca1 ca2 ca3 ca4 X1 X2 U1 U2 B w0 hs q1 q2 q3 q4
  rw [m1, m2, m3] at f5
  have f6 := fun a1 a2 ca1 ca2 hs q1 q2 q3 q4 => h_Same a1 a2 o1 o2 ca1 ca2 c1 c2 (trm (cn r)) (trm (cn g)) r g B w0 hs q1 q2 q3 q4
  rw [m5, m4] at f6
  clear m1 m2 m3 m4 m5
  repeat' (first | ((with_reducible apply kF 17); refine sC 17 (l_long o1 o2 _ _ c1 c2 B w0 _) ?_) | ((with_reducible apply kF 50); refine sN 50 (f1 _ (h1.sub SBt) (h2.sub SBt)) ?_; rintro u ka hN; obtain ⟨a1, a2, ca1, ca2, a3, a4, ca3, ca4, k1, k2, rfl, ha1, ha2, ha3, hb1, hb2, hb3, rfl⟩ := hN.use; rw [List.append_assoc]) | ((with_reducible apply kF 18); refine sC 18 (l_known B w0 _) ?_) | ((with_reducible apply kF 42); refine sN 42 (f5 a1 a2 ca1 ca2 a3 a4 ca3 ca4 _ ((ha1 B w0).sub SBt) ((ha2 B w0).sub SBt) ((hb1 B w0).sub SBt) ((hb2 B w0).sub SBt)) ?_; rintro u kx hN; obtain ⟨x1, x2, cx1, cx2, rfl, hx1, hx2, hx3⟩ := hN.use) | ((with_reducible apply kF 44); refine sC 44 (f6 x1 x2 cx1 cx2 _ ((hx1 B w0).sub SBt) ((hx2 B w0).sub SBt) (h1.sub SBt) (h2.sub SBt)) ?_) | (with_reducible first | refine c_seq ?_ | refine c_reg ?_ | refine c_region ?_ | refine c_block ?_ | refine c_skip ?_ | refine c_exit ?_ | refine c_ret ?_ | refine s_nil ?_ | refine x_then ?_ | refine x_then_exit ?_ | refine x_then_ret ?_ | refine x_block ?_ | refine x_block_ret ?_ | refine x_block_same ?_ | refine x_block_other (by rfl) ?_ | refine q_nil ?_ | refine k_nil ?_) | ((with_reducible apply kP (.makeFunc _ _ _)); refine sMF ?_) | ((with_reducible apply kG); first | refine gY1 ?_ | refine gN1 ?_ | refine gU1 ?_ | (refine gD1 (fun h => ?_) (fun h => ?_) <;> (try (exfalso; omega))) | refine gB1 (fun h => ?_) (fun h => ?_)) | ((with_reducible apply kN); first | refine stP ?_ | refine stI ?_ | refine st1 ?_ | refine stW ?_) | ((with_reducible apply kP (.alloc _)); refine sA (fun b => ?_)) | ((with_reducible apply kP (.box _ _)); first | refine sBA (fun b => ?_) | refine sB (fun b => ?_)) | ((with_reducible apply kP (.buildSlice _ 1 _)); first | refine sl1A (fun b => ?_) | refine sl1 (fun b => ?_)) | ((with_reducible apply kP (.buildSlice _ 2 _)); refine sl2 (fun b => ?_)) | ((with_reducible apply kP (.buildSlice _ 3 _)); refine sl3 (fun b => ?_)) | ((with_reducible apply kP (.buildSlice _ 4 _)); refine sl4 (fun b => ?_)) | ((with_reducible apply kP (.buildSlice _ 0 _)); refine s_bs0 (scTOf rfl) (zsTOf rfl) (by decide) (fun b => ?_)) | ((with_reducible apply kP (.makeSlice _ _ _)); refine sMk (fun b => ?_)) | ((with_reducible apply kP (.call ⟨.builtin .append, _, _⟩)); refine sAp (fun oa2 c2 blk2 hrow2 => ?_)) | ((with_reducible apply kP _); refine sP ?_) | ((with_reducible apply kP _); refine sX ?_) | ((with_reducible apply kQG); first | refine qY1 ?_ | refine qN1 ?_ | refine qU1 ?_ | (refine qD1 (fun h => ?_) (fun h => ?_) <;> (try (exfalso; omega))) | refine qB1 (fun h => ?_) (fun h => ?_)) | ((with_reducible apply kQP); refine qP ?_) | ((with_reducible apply kQP); refine qX ?_) | ((with_reducible apply kC); first | refine cT ?_ | refine cF ?_ | (refine cI (fun h => ?_) (fun h => ?_) <;> (try (exfalso; omega))) | refine cB (fun h => ?_) (fun h => ?_)) | ((with_reducible apply kR); refine cQ ?_))
  all_goals try (exfalso; omega)
  all_goals try exact absurd rfl ‹¬ _ = _›
  rename_i b3 hNN b7 b8
  refine c_loop (fun k : Nat => [(1, iv n), (2, iv m), (3, .pointer (some ⟨b3, 0, none⟩)), (7, .pointer (some ⟨b7, 0, none⟩)), (8, .pointer (some ⟨b8, 0, none⟩)), (14, iv k)])
    (fun _ => (b8, [.slice a3 U1.length ca3, .slice a4 U2.length ca4]) :: (b7, [.slice a1 X1.length ca1, .slice a2 X2.length ca2]) :: (k2 ++ (k1 ++ (b3, [.slice o1 r.length c1, .slice o2 g.length c2]) :: hs))) (fun k => k ≤ 26) (fun k => 26 - k) 0 (by omega) (by repeat' first | trivial | rfl | apply And.intro) SCt ?_
  intro k hk
  by_cases hk' : k < 26
  · have f7 := fun hs q1 q2 => h_above a1 a2 ca1 ca2 X1 X2 k B w0 hs q1 q2
    have f8 := fun hs q1 q2 => h_above o1 o2 c1 c2 r g k B w0 hs q1 q2
    rw [hab k (by omega)] at f7
    rw [hab2 k] at f8
    repeat' (first | ((with_reducible apply kF 23); refine sC 23 (f7 _ ((ha1 B w0).sub SBt) ((ha2 B w0).sub SBt)) ?_) | ((with_reducible apply kF 23); refine sC 23 (f8 _ (h1.sub SBt) (h2.sub SBt)) ?_) | (with_reducible first | refine c_seq ?_ | refine c_reg ?_ | refine c_region ?_ | refine c_block ?_ | refine c_skip ?_ | refine c_exit ?_ | refine c_ret ?_ | refine s_nil ?_ | refine x_then ?_ | refine x_then_exit ?_ | refine x_then_ret ?_ | refine x_block ?_ | refine x_block_ret ?_ | refine x_block_same ?_ | refine x_block_other (by rfl) ?_ | refine q_nil ?_ | refine k_nil ?_) | ((with_reducible apply kP (.makeFunc _ _ _)); refine sMF ?_) | ((with_reducible apply kG); first | refine gY1 ?_ | refine gN1 ?_ | refine gU1 ?_ | (refine gD1 (fun h => ?_) (fun h => ?_) <;> (try (exfalso; omega))) | refine gB1 (fun h => ?_) (fun h => ?_)) | ((with_reducible apply kN); first | refine stP ?_ | refine stI ?_ | refine st1 ?_ | refine stW ?_) | ((with_reducible apply kP (.alloc _)); refine sA (fun b => ?_)) | ((with_reducible apply kP (.box _ _)); first | refine sBA (fun b => ?_) | refine sB (fun b => ?_)) | ((with_reducible apply kP (.buildSlice _ 1 _)); first | refine sl1A (fun b => ?_) | refine sl1 (fun b => ?_)) | ((with_reducible apply kP (.buildSlice _ 2 _)); refine sl2 (fun b => ?_)) | ((with_reducible apply kP (.buildSlice _ 3 _)); refine sl3 (fun b => ?_)) | ((with_reducible apply kP (.buildSlice _ 4 _)); refine sl4 (fun b => ?_)) | ((with_reducible apply kP (.buildSlice _ 0 _)); refine s_bs0 (scTOf rfl) (zsTOf rfl) (by decide) (fun b => ?_)) | ((with_reducible apply kP (.makeSlice _ _ _)); refine sMk (fun b => ?_)) | ((with_reducible apply kP (.call ⟨.builtin .append, _, _⟩)); refine sAp (fun oa2 c2 blk2 hrow2 => ?_)) | ((with_reducible apply kP _); refine sP ?_) | ((with_reducible apply kP _); refine sX ?_) | ((with_reducible apply kQG); first | refine qY1 ?_ | refine qN1 ?_ | refine qU1 ?_ | (refine qD1 (fun h => ?_) (fun h => ?_) <;> (try (exfalso; omega))) | refine qB1 (fun h => ?_) (fun h => ?_)) | ((with_reducible apply kQP); refine qP ?_) | ((with_reducible apply kQP); refine qX ?_) | ((with_reducible apply kC); first | refine cT ?_ | refine cF ?_ | (refine cI (fun h => ?_) (fun h => ?_) <;> (try (exfalso; omega))) | refine cB (fun h => ?_) (fun h => ?_)) | ((with_reducible apply kR); refine cQ ?_))
    all_goals try (exfalso; omega)
    all_goals try exact absurd rfl ‹¬ _ = _›
    exact r_end (k + 1) (by omega) (by omega) ⟨rfl, rfl, rfl, rfl, rfl, rfl, trivial⟩ SCt
  obtain rfl : k = 26 := by omega
  have f9 := fun hs q1 q2 => h_Draw a3 a4 ca3 ca4 U1 U2 m B w0 hs q1 q2
  by_cases hM : drE U1 U2 m = 0
  · obtain ⟨hm, hm2⟩ := hdf hM
    obtain ⟨w1, w2, w3, w4⟩ := hd hm
    obtain ⟨y1, y2, y3⟩ := hx hm
    have hD := hdr hm hm2
    have f10 := fun hs q1 q2 => h_Draw o1 o2 c1 c2 r g (n + m) B w0 hs q1 q2
    rw [lif_yes hM, lif_yes hM, lif_yes hM, lif_yes hM, hM] at f9
    rw [lif_yes hD, lif_yes hD, lif_yes hD, lif_yes hD, hD, w3, w4] at f10
    have f11 := fun a1 a2 ca1 ca2 a3 a4 ca3 ca4 hs q1 q2 q3 q4 => h_Mix a1 a2 a3 a4 ca1 ca2 ca3 ca4 X1 X2 (trm (drF U1 U2 m)) (trm (drG U1 U2 m)) B w0 hs q1 q2 q3 q4
    rw [y1, y2, y3] at f11
    have v1 := trm_length (leF U1 U2 m); have v2 := trm_length (leG U1 U2 m); have v3 := trm_length (drF r g (n + m)); have v4 := trm_length (drG r g (n + m))
    clear hab hab2 hd hx hdr hdf y1 y2 y3 w1 w2 w3 w4
    generalize trm (leF U1 U2 m) = V1 at *
    generalize trm (leG U1 U2 m) = V2 at *
    generalize trm (drF U1 U2 m) = Y1 at *
    generalize trm (drG U1 U2 m) = Y2 at *
    generalize trm (drF r g (n + m)) = Z1 at *
    generalize trm (drG r g (n + m)) = Z2 at *
    repeat' (first | ((with_reducible apply kF 50); refine sN 50 (f9 _ ((hb1 B w0).sub SBt) ((hb2 B w0).sub SBt)) ?_; rintro u ka hN; obtain ⟨s1, s2, cs1, cs2, s3, s4, cs3, cs4, j1, j2, rfl, hs1, hs2, _, hs3, hs4, _, rfl⟩ := hN.use; rw [List.append_assoc]) | ((with_reducible apply kF 50); refine sN 50 (f10 _ (h1.sub SBt) (h2.sub SBt)) ?_; rintro u kb hN; obtain ⟨p1, p2, cp1, cp2, p3, p4, cp3, cp4, i1, i2, rfl, hp1, hp2, _, hp3, hp4, _, rfl⟩ := hN.use; rw [List.append_assoc]) | (with_reducible first | refine c_seq ?_ | refine c_reg ?_ | refine c_region ?_ | refine c_block ?_ | refine c_skip ?_ | refine c_exit ?_ | refine c_ret ?_ | refine s_nil ?_ | refine x_then ?_ | refine x_then_exit ?_ | refine x_then_ret ?_ | refine x_block ?_ | refine x_block_ret ?_ | refine x_block_same ?_ | refine x_block_other (by rfl) ?_ | refine q_nil ?_ | refine k_nil ?_) | ((with_reducible apply kP (.makeFunc _ _ _)); refine sMF ?_) | ((with_reducible apply kG); first | refine gY1 ?_ | refine gN1 ?_ | refine gU1 ?_ | (refine gD1 (fun h => ?_) (fun h => ?_) <;> (try (exfalso; omega))) | refine gB1 (fun h => ?_) (fun h => ?_)) | ((with_reducible apply kN); first | refine stP ?_ | refine stI ?_ | refine st1 ?_ | refine stW ?_) | ((with_reducible apply kP (.alloc _)); refine sA (fun b => ?_)) | ((with_reducible apply kP (.box _ _)); first | refine sBA (fun b => ?_) | refine sB (fun b => ?_)) | ((with_reducible apply kP (.buildSlice _ 1 _)); first | refine sl1A (fun b => ?_) | refine sl1 (fun b => ?_)) | ((with_reducible apply kP (.buildSlice _ 2 _)); refine sl2 (fun b => ?_)) | ((with_reducible apply kP (.buildSlice _ 3 _)); refine sl3 (fun b => ?_)) | ((with_reducible apply kP (.buildSlice _ 4 _)); refine sl4 (fun b => ?_)) | ((with_reducible apply kP (.buildSlice _ 0 _)); refine s_bs0 (scTOf rfl) (zsTOf rfl) (by decide) (fun b => ?_)) | ((with_reducible apply kP (.makeSlice _ _ _)); refine sMk (fun b => ?_)) | ((with_reducible apply kP (.call ⟨.builtin .append, _, _⟩)); refine sAp (fun oa2 c2 blk2 hrow2 => ?_)) | ((with_reducible apply kP _); refine sP ?_) | ((with_reducible apply kP _); refine sX ?_) | ((with_reducible apply kQG); first | refine qY1 ?_ | refine qN1 ?_ | refine qU1 ?_ | (refine qD1 (fun h => ?_) (fun h => ?_) <;> (try (exfalso; omega))) | refine qB1 (fun h => ?_) (fun h => ?_)) | ((with_reducible apply kQP); refine qP ?_) | ((with_reducible apply kQP); refine qX ?_) | ((with_reducible apply kC); first | refine cT ?_ | refine cF ?_ | (refine cI (fun h => ?_) (fun h => ?_) <;> (try (exfalso; omega))) | refine cB (fun h => ?_) (fun h => ?_)) | ((with_reducible apply kR); refine cQ ?_))
    all_goals try exact absurd rfl ‹¬ _ = _›
    all_goals try exact absurd rfl ‹_ ≠ _›
    repeat' (first | ((with_reducible apply kF 42); refine sN 42 (f11 a1 a2 ca1 ca2 s1 s2 cs1 cs2 _ ((ha1 B w0).sub SBt) ((ha2 B w0).sub SBt) ((hs1 B w0).sub SBt) ((hs2 B w0).sub SBt)) ?_; rintro u kx hN; obtain ⟨x3, x4, cx3, cx4, rfl, hx3, hx4, _⟩ := hN.use) | ((with_reducible apply kF 50); refine sN 50 (f10 _ (h1.sub SBt) (h2.sub SBt)) ?_; rintro u kb hN; obtain ⟨t1, t2, ct1, ct2, t3, t4, ct3, ct4, n1, n2, rfl, ht1, ht2, _, ht3, ht4, _, rfl⟩ := hN.use; rw [List.append_assoc]) | ((with_reducible apply kF 34); refine sC 34 (r_equal s3 s4 p3 p4 cs3 cs4 cp3 cp4 V1 V2 V1 V2 (by omega) (by omega) B w0 _ ((hs3 B w0).sub SBt) ((hs4 B w0).sub SBt) ((hp3 B w0).sub SBt) ((hp4 B w0).sub SBt)) ?_) | ((with_reducible apply kF 34); refine sC 34 (r_equal t1 t2 x3 x4 ct1 ct2 cx3 cx4 Z1 Z2 Z1 Z2 (by omega) (by omega) B w0 _ ((ht1 B w0).sub SBt) ((ht2 B w0).sub SBt) ((hx3 B w0).sub SBt) ((hx4 B w0).sub SBt)) ?_) | ((with_reducible apply kF 18); refine sC 18 (l_known B w0 _) ?_) | (with_reducible first | refine c_seq ?_ | refine c_reg ?_ | refine c_region ?_ | refine c_block ?_ | refine c_skip ?_ | refine c_exit ?_ | refine c_ret ?_ | refine s_nil ?_ | refine x_then ?_ | refine x_then_exit ?_ | refine x_then_ret ?_ | refine x_block ?_ | refine x_block_ret ?_ | refine x_block_same ?_ | refine x_block_other (by rfl) ?_ | refine q_nil ?_ | refine k_nil ?_) | ((with_reducible apply kP (.makeFunc _ _ _)); refine sMF ?_) | ((with_reducible apply kG); first | refine gY1 ?_ | refine gN1 ?_ | refine gU1 ?_ | (refine gD1 (fun h => ?_) (fun h => ?_) <;> (try (exfalso; omega))) | refine gB1 (fun h => ?_) (fun h => ?_)) | ((with_reducible apply kN); first | refine stP ?_ | refine stI ?_ | refine st1 ?_ | refine stW ?_) | ((with_reducible apply kP (.alloc _)); refine sA (fun b => ?_)) | ((with_reducible apply kP (.box _ _)); first | refine sBA (fun b => ?_) | refine sB (fun b => ?_)) | ((with_reducible apply kP (.buildSlice _ 1 _)); first | refine sl1A (fun b => ?_) | refine sl1 (fun b => ?_)) | ((with_reducible apply kP (.buildSlice _ 2 _)); refine sl2 (fun b => ?_)) | ((with_reducible apply kP (.buildSlice _ 3 _)); refine sl3 (fun b => ?_)) | ((with_reducible apply kP (.buildSlice _ 4 _)); refine sl4 (fun b => ?_)) | ((with_reducible apply kP (.buildSlice _ 0 _)); refine s_bs0 (scTOf rfl) (zsTOf rfl) (by decide) (fun b => ?_)) | ((with_reducible apply kP (.makeSlice _ _ _)); refine sMk (fun b => ?_)) | ((with_reducible apply kP (.call ⟨.builtin .append, _, _⟩)); refine sAp (fun oa2 c2 blk2 hrow2 => ?_)) | ((with_reducible apply kP _); refine sP ?_) | ((with_reducible apply kP _); refine sX ?_) | ((with_reducible apply kQG); first | refine qY1 ?_ | refine qN1 ?_ | refine qU1 ?_ | (refine qD1 (fun h => ?_) (fun h => ?_) <;> (try (exfalso; omega))) | refine qB1 (fun h => ?_) (fun h => ?_)) | ((with_reducible apply kQP); refine qP ?_) | ((with_reducible apply kQP); refine qX ?_) | ((with_reducible apply kC); first | refine cT ?_ | refine cF ?_ | (refine cI (fun h => ?_) (fun h => ?_) <;> (try (exfalso; omega))) | refine cB (fun h => ?_) (fun h => ?_)) | ((with_reducible apply kR); refine cQ ?_))
    all_goals first
      | exact e_ret1 rfl rfl rfl SCt
      | exact absurd rfl ‹¬ _ = _›
      | exact absurd ⟨rfl, rfl⟩ ‹¬ (_ ∧ _)›
      | (exfalso; omega)
  · rw [lif_no hM, lif_no hM, lif_no hM, lif_no hM] at f9
    generalize drE U1 U2 m = e at *
    repeat' (first | ((with_reducible apply kF 50); refine sN 50 (f9 _ ((hb1 B w0).sub SBt) ((hb2 B w0).sub SBt)) ?_; rintro u ka hN; obtain ⟨s1, s2, cs1, cs2, s3, s4, cs3, cs4, j1, j2, rfl, hs1, hs2, _, hs3, hs4, _, rfl⟩ := hN.use; rw [List.append_assoc]) | ((with_reducible apply kF 18); refine sC 18 (l_known B w0 _) ?_) | (with_reducible first | refine c_seq ?_ | refine c_reg ?_ | refine c_region ?_ | refine c_block ?_ | refine c_skip ?_ | refine c_exit ?_ | refine c_ret ?_ | refine s_nil ?_ | refine x_then ?_ | refine x_then_exit ?_ | refine x_then_ret ?_ | refine x_block ?_ | refine x_block_ret ?_ | refine x_block_same ?_ | refine x_block_other (by rfl) ?_ | refine q_nil ?_ | refine k_nil ?_) | ((with_reducible apply kP (.makeFunc _ _ _)); refine sMF ?_) | ((with_reducible apply kG); first | refine gY1 ?_ | refine gN1 ?_ | refine gU1 ?_ | (refine gD1 (fun h => ?_) (fun h => ?_) <;> (try (exfalso; omega))) | refine gB1 (fun h => ?_) (fun h => ?_)) | ((with_reducible apply kN); first | refine stP ?_ | refine stI ?_ | refine st1 ?_ | refine stW ?_) | ((with_reducible apply kP (.alloc _)); refine sA (fun b => ?_)) | ((with_reducible apply kP (.box _ _)); first | refine sBA (fun b => ?_) | refine sB (fun b => ?_)) | ((with_reducible apply kP (.buildSlice _ 1 _)); first | refine sl1A (fun b => ?_) | refine sl1 (fun b => ?_)) | ((with_reducible apply kP (.buildSlice _ 2 _)); refine sl2 (fun b => ?_)) | ((with_reducible apply kP (.buildSlice _ 3 _)); refine sl3 (fun b => ?_)) | ((with_reducible apply kP (.buildSlice _ 4 _)); refine sl4 (fun b => ?_)) | ((with_reducible apply kP (.buildSlice _ 0 _)); refine s_bs0 (scTOf rfl) (zsTOf rfl) (by decide) (fun b => ?_)) | ((with_reducible apply kP (.makeSlice _ _ _)); refine sMk (fun b => ?_)) | ((with_reducible apply kP (.call ⟨.builtin .append, _, _⟩)); refine sAp (fun oa2 c2 blk2 hrow2 => ?_)) | ((with_reducible apply kP _); refine sP ?_) | ((with_reducible apply kP _); refine sX ?_) | ((with_reducible apply kQG); first | refine qY1 ?_ | refine qN1 ?_ | refine qU1 ?_ | (refine qD1 (fun h => ?_) (fun h => ?_) <;> (try (exfalso; omega))) | refine qB1 (fun h => ?_) (fun h => ?_)) | ((with_reducible apply kQP); refine qP ?_) | ((with_reducible apply kQP); refine qX ?_) | ((with_reducible apply kC); first | refine cT ?_ | refine cF ?_ | (refine cI (fun h => ?_) (fun h => ?_) <;> (try (exfalso; omega))) | refine cB (fun h => ?_) (fun h => ?_)) | ((with_reducible apply kR); refine cQ ?_))
    all_goals first
      | exact e_ret1 rfl rfl rfl SCt
      | exact absurd rfl ‹¬ _ = _›
      | (exfalso; omega)
set_option maxRecDepth 100000 in
theorem longest_holds_lifted (os : Os) (started : os.Started) (H : Type) (enc : TypeId × Value → H) :
    ReturnsInHanded {} Try.checked os 14 .any (Rows.hairDrawsLongestSpec.pre6 enc Try.prog Try.f14 Rows.hairDrawsLongestRow.domain false) (Rows.hairDrawsLongestSpec.post enc Try.prog Try.f14 false true false false) := by
  refine returnsInHanded_of_change (C := Try.checked) ownK started (by kernel_rfl) Try.func14
    (ChangeSpec.witness6 (enc := enc) (C := Try.checked) false ⟨#[], #[.agg #[.slice none 0 0, .slice none 0 0], .int .i64 0, .int .i64 0], []⟩ 8 (by kernel_rfl) (by kernel_rfl) (by kernel_rfl) (by kernel_rfl)) ?_
  intro W base args ds gs before hval0 hW hcnd _
  have hval : ∀ (j : Nat) t v, Try.f14.params[j]? = some t → args[j]? = some v → Value.okWide Try.prog W .any base t v := hval0
  have hW' := hW
  obtain ⟨p, q, hA0, hV, rfl, hfz, hnd⟩ := hW
  have hA : DataW.TrodAll enc Try.prog W 0 (fun _ => true) true Try.f14.params.toList args.toList ds p := hA0
  rw [Try.params14] at hA hval
  obtain ⟨v0, v1, v2, d_0, d_1, d_2, p_0, p_1, p_2, rfl, rfl, rfl, h0, h1, h2⟩ := trodAll_three hA
  obtain ⟨oa0, ob0, c0, d0, r0, g0, rfl, m0, q0, _, _, I0, J0, s0, t0⟩ := arg_bundle (by kernel_rfl) (hval 0 _ v0 rfl rfl) h0
  obtain ⟨z1, rfl, I1⟩ := arg_int (by kernel_rfl) (hval 1 _ v1 rfl rfl) h1
  obtain ⟨z2, rfl, I2⟩ := arg_int (by kernel_rfl) (hval 2 _ v2 rfl rfl) h2
  refine (law_calls (by exact l_longest oa0 ob0 c0 d0 r0 g0 z1 z2 _ W [] s0 t0)).mono fun e W' ⟨he, hb⟩ => ⟨.bool true, he, ?_⟩
  exact law_post rfl ⟨⟨by kernel_rfl, of_decide_eq_true (by kernel_rfl)⟩, ⟨by kernel_rfl, of_decide_eq_true (by kernel_rfl)⟩, ⟨by kernel_rfl, of_decide_eq_true (by kernel_rfl)⟩, trivial⟩ rfl hW' ⟨rfl, rfl, rfl⟩ hb
theorem longest_holds : Rows.HairDrawsLongestSaid :=
  OpenClaim.holds_of_wide 14 Try.f14 rfl rfl rfl rfl rfl rfl rfl ⟨rfl, rfl, rfl, rfl, rfl⟩ rfl rfl rfl rfl rfl (by kernel_rfl) Try.func14 (by kernel_rfl)
    (of_decide_eq_true (by kernel_rfl)) (by unfold Func.isWrapper; first | (rw [if_pos (by decide +kernel)]; kernel_rfl) | (rw [if_neg (by decide +kernel)]; exact ⟨rfl, rfl⟩))
    (fun os started H enc _ => longest_holds_lifted os started H enc)
#print axioms longest_holds
end Go.Proofs.Ytiopaodiaokfdaa
