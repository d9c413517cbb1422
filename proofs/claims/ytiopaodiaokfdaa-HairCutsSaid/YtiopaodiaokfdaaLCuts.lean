/- HairCuts holds: which hairs are left, how much is lost, and where hairs are lacking. -/
import Derived.Test.YtiopaodiaokfdaaH22
import Derived.Test.YtiopaodiaokfdaaClose2
namespace Go.Proofs.Ytiopaodiaokfdaa
open Go.RowKit Go.ChangeShapes Go.WideShapes Go.ChangeAt

theorem NewBL.use {r g : List Int} {l e : Int} {u : Value} {blk : HS} (h : NewBL r g l e u blk) : ∃ o1 o2 c1 c2, u = .tuple #[bv o1 o2 r.length g.length c1 c2, iv l, iv e] ∧ (∀ B w0, Sl B w0 blk o1 r) ∧ (∀ B w0, Sl B w0 blk o2 g) := by
  obtain ⟨v, rfl, h1⟩ := h
  obtain ⟨o1, o2, c1, c2, rfl, a1, a2, a3⟩ := h1.use
  exact ⟨_, _, _, _, rfl, a1, a2⟩
set_option maxRecDepth 100000 in
set_option maxHeartbeats 8000000 in
theorem l_cuts1 (o1 o2 p1 p2 : Option Addr) (c1 c2 d1 d2 : Nat) (r g r' g' L1 L2 : List Int) (e l q : Int) (is : Bool) (t1 : L1.length ≤ 24) (t2 : L2.length ≤ 24) (B : Nat) (w0 : World) (hs : HS) (h1 : Sl B w0 hs o1 r) (h2 : Sl B w0 hs o2 g) (h3 : Sl B w0 hs p1 r') (h4 : Sl B w0 hs p2 g')
    (x0 : ctL r g r' g' = l) (x1 : lif (ctE r g r' g') (trm (ctF r g r' g')) = L1) (x2 : lif (ctE r g r' g') (trm (ctG r g r' g')) = L2) (x3 : ctE r g r' g' = e) (x4 : lkV r g r' g' = .tuple #[iv q, .bool is, iv 0]) (x5 : (e = 0 ∧ is = false) ∨ (e = 6 ∧ is = true))
    (x6 : e = 0 → vErr L1 L2 = 0 ∧ inc (cn r) (cn g) = inc (cn r') (cn g') + inc (cn L1) (cn L2) + l ∧ 0 ≤ l) (x7 : vErr r g = 0) (x8 : vErr r' g' = 0) (y1 : r.length ≤ 100) (y2 : g.length ≤ 100) (y3 : r'.length ≤ 100) (y4 : g'.length ≤ 100) :
    Fn Try.prog 12 #[bv o1 o2 r.length g.length c1 c2, bv p1 p2 r'.length g'.length d1 d2] B w0 hs (fun v _ => v = .bool true) := by
  have f1 := fun p p' e1 e2 hs q1 q2 q3 q4 => h_Cut p p' p1 p2 e1 e2 d1 d2 r g r' g' B w0 hs q1 q2 q3 q4
  have f2 := fun hs q1 q2 q3 q4 => r_Cut o1 o2 p1 p2 c1 c2 d1 d2 r g r' g' B w0 hs q1 q2 q3 q4
  have f3 := fun hs q1 q2 q3 q4 => h_Lack o1 o2 p1 p2 c1 c2 d1 d2 r g r' g' B w0 hs q1 q2 q3 q4
  have f4 := fun hs q1 q2 q3 q4 => r_Lack o1 o2 p1 p2 c1 c2 d1 d2 r g r' g' B w0 hs q1 q2 q3 q4
  rw [x0, x1, x2, x3] at f1 f2
  rw [x4] at f3 f4
  have n1 := h_inchesB o1 o2 c1 c2 r g B w0; unfold inchR at n1; rw [if_pos x7, x7] at n1
  have n2 := h_inchesB p1 p2 d1 d2 r' g' B w0; unfold inchR at n2; rw [if_pos x8, x8] at n2
  have n3 := fun a1 a2 ca1 ca2 => h_inchesB a1 a2 ca1 ca2 L1 L2 B w0
  have b1 : 0 ≤ inc (cn r) (cn g) ∧ inc (cn r) (cn g) ≤ 12500000000 := by obtain ⟨_, _, q3, q4, q5, q6⟩ := vErr_zero x7; exact inc_to _ _ (okf_cn q3 q5) (okf_cn q4 q6) 25 (by omega)
  have b2 : 0 ≤ inc (cn r') (cn g') ∧ inc (cn r') (cn g') ≤ 12500000000 := by obtain ⟨_, _, q3, q4, q5, q6⟩ := vErr_zero x8; exact inc_to _ _ (okf_cn q3 q5) (okf_cn q4 q6) 25 (by omega)
  refine fn_enter Try.func12 rfl Try.ntmps12 (by simp) ?_
  rcases x5 with ⟨rfl, rfl⟩ | ⟨rfl, rfl⟩
  · obtain ⟨x9, x10, x11⟩ := x6 rfl
    have b3 : 0 ≤ inc (cn L1) (cn L2) ∧ inc (cn L1) (cn L2) ≤ 12500000000 := by obtain ⟨_, _, q3, q4, q5, q6⟩ := vErr_zero x9; exact inc_to _ _ (okf_cn q3 q5) (okf_cn q4 q6) 25 (by omega)
    unfold inchR at n3; rw [if_pos x9, x9] at n3
    clear x0 x1 x2 x3 x4
    repeat' (first | ((with_reducible apply kF 17); refine sC 17 (l_long o1 o2 _ _ c1 c2 B w0 _) ?_) | ((with_reducible apply kF 17); refine sC 17 (l_long p1 p2 _ _ d1 d2 B w0 _) ?_) | ((with_reducible apply kF 27); refine sN 27 (r_copy o1 o2 c1 c2 r g y1 y2 B w0 _ (h1.sub SBt) (h2.sub SBt)) ?_; rintro u ko hN; obtain ⟨q1, q2, e1, e2, rfl, ho1, ho2, ho3⟩ := hN.use) | ((with_reducible apply kF 55); refine sN 55 (f1 q1 q2 e1 e2 _ ((ho1 B w0).sub SBt) ((ho2 B w0).sub SBt) (h3.sub SBt) (h4.sub SBt)) ?_; rintro u ka hN; obtain ⟨a1, a2, ca1, ca2, rfl, ha1, ha2⟩ := hN.use) | ((with_reducible apply kF 56); refine sN 56 (f2 _ (h1.sub SBt) (h2.sub SBt) (h3.sub SBt) (h4.sub SBt)) ?_; rintro u kt hN; obtain ⟨b1, b2, cb1, cb2, rfl, ht1, ht2⟩ := hN.use) | ((with_reducible apply kF 57); refine sC 57 (f3 _ (h1.sub SBt) (h2.sub SBt) (h3.sub SBt) (h4.sub SBt)) ?_) | ((with_reducible apply kF 58); refine sC 58 (f4 _ (h1.sub SBt) (h2.sub SBt) (h3.sub SBt) (h4.sub SBt)) ?_) | ((with_reducible apply kF 34); refine sC 34 (r_equal a1 a2 b1 b2 ca1 ca2 cb1 cb2 L1 L2 L1 L2 (by omega) (by omega) B w0 _ ((ha1 B w0).sub SBt) ((ha2 B w0).sub SBt) ((ht1 B w0).sub SBt) ((ht2 B w0).sub SBt)) ?_) | ((with_reducible apply kF 34); refine sC 34 (r_equal q1 q2 o1 o2 e1 e2 c1 c2 r g r g (by omega) (by omega) B w0 _ ((ho1 B w0).sub SBt) ((ho2 B w0).sub SBt) (h1.sub SBt) (h2.sub SBt)) ?_) | ((with_reducible apply kF 21); refine sC 21 (n1 _ (h1.sub SBt) (h2.sub SBt)) ?_) | ((with_reducible apply kF 21); refine sC 21 (n2 _ (h3.sub SBt) (h4.sub SBt)) ?_) | ((with_reducible apply kF 21); refine sC 21 (n3 a1 a2 ca1 ca2 _ ((ha1 B w0).sub SBt) ((ha2 B w0).sub SBt)) ?_) | ((with_reducible apply kF 18); refine sC 18 (l_known B w0 _) ?_) | (with_reducible first | refine c_seq ?_ | refine c_reg ?_ | refine c_region ?_ | refine c_block ?_ | refine c_skip ?_ | refine c_exit ?_ | refine c_ret ?_ | refine s_nil ?_ | refine x_then ?_ | refine x_then_exit ?_ | refine x_then_ret ?_ | refine x_block ?_ | refine x_block_ret ?_ | refine x_block_same ?_ | refine x_block_other (by rfl) ?_ | refine q_nil ?_ | refine k_nil ?_) | ((with_reducible apply kP (.makeFunc _ _ _)); refine sMF ?_) | ((with_reducible apply kG); first | refine gY1 ?_ | refine gN1 ?_ | refine gU1 ?_ | (refine gD1 (fun h => ?_) (fun h => ?_) <;> (try (exfalso; omega))) | refine gB1 (fun h => ?_) (fun h => ?_)) | ((with_reducible apply kN); first | refine stP ?_ | refine stI ?_ | refine st1 ?_ | refine stW ?_) | ((with_reducible apply kP (.alloc _)); refine sA (fun b => ?_)) | ((with_reducible apply kP (.box _ _)); first | refine sBA (fun b => ?_) | refine sB (fun b => ?_)) | ((with_reducible apply kP (.buildSlice _ 1 _)); first | refine sl1A (fun b => ?_) | refine sl1 (fun b => ?_)) | ((with_reducible apply kP (.buildSlice _ 2 _)); refine sl2 (fun b => ?_)) | ((with_reducible apply kP (.buildSlice _ 3 _)); refine sl3 (fun b => ?_)) | ((with_reducible apply kP (.buildSlice _ 4 _)); refine sl4 (fun b => ?_)) | ((with_reducible apply kP (.buildSlice _ 0 _)); refine s_bs0 (scTOf rfl) (zsTOf rfl) (by decide) (fun b => ?_)) | ((with_reducible apply kP (.makeSlice _ _ _)); refine sMk (fun b => ?_)) | ((with_reducible apply kP (.call ⟨.builtin .append, _, _⟩)); refine sAp (fun oa2 c2 blk2 hrow2 => ?_)) | ((with_reducible apply kP _); refine sP ?_) | ((with_reducible apply kP _); refine sX ?_) | ((with_reducible apply kQG); first | refine qY1 ?_ | refine qN1 ?_ | refine qU1 ?_ | (refine qD1 (fun h => ?_) (fun h => ?_) <;> (try (exfalso; omega))) | refine qB1 (fun h => ?_) (fun h => ?_)) | ((with_reducible apply kQP); refine qP ?_) | ((with_reducible apply kQP); refine qX ?_) | ((with_reducible apply kC); first | refine cT ?_ | refine cF ?_ | (refine cI (fun h => ?_) (fun h => ?_) <;> (try (exfalso; omega))) | refine cB (fun h => ?_) (fun h => ?_)) | ((with_reducible apply kR); refine cQ ?_))
    all_goals first
      | exact e_ret1 rfl rfl rfl SCt
      | exact absurd rfl ‹¬ _ = _›
      | exact absurd ⟨rfl, rfl⟩ ‹¬ (_ ∧ _)›
      | (exfalso; omega)
  · unfold inchR at n3
    clear x0 x1 x2 x3 x4
    repeat' (first | ((with_reducible apply kF 17); refine sC 17 (l_long o1 o2 _ _ c1 c2 B w0 _) ?_) | ((with_reducible apply kF 17); refine sC 17 (l_long p1 p2 _ _ d1 d2 B w0 _) ?_) | ((with_reducible apply kF 27); refine sN 27 (r_copy o1 o2 c1 c2 r g y1 y2 B w0 _ (h1.sub SBt) (h2.sub SBt)) ?_; rintro u ko hN; obtain ⟨q1, q2, e1, e2, rfl, ho1, ho2, ho3⟩ := hN.use) | ((with_reducible apply kF 55); refine sN 55 (f1 q1 q2 e1 e2 _ ((ho1 B w0).sub SBt) ((ho2 B w0).sub SBt) (h3.sub SBt) (h4.sub SBt)) ?_; rintro u ka hN; obtain ⟨a1, a2, ca1, ca2, rfl, ha1, ha2⟩ := hN.use) | ((with_reducible apply kF 56); refine sN 56 (f2 _ (h1.sub SBt) (h2.sub SBt) (h3.sub SBt) (h4.sub SBt)) ?_; rintro u kt hN; obtain ⟨b1, b2, cb1, cb2, rfl, ht1, ht2⟩ := hN.use) | ((with_reducible apply kF 57); refine sC 57 (f3 _ (h1.sub SBt) (h2.sub SBt) (h3.sub SBt) (h4.sub SBt)) ?_) | ((with_reducible apply kF 58); refine sC 58 (f4 _ (h1.sub SBt) (h2.sub SBt) (h3.sub SBt) (h4.sub SBt)) ?_) | ((with_reducible apply kF 34); refine sC 34 (r_equal a1 a2 b1 b2 ca1 ca2 cb1 cb2 L1 L2 L1 L2 (by omega) (by omega) B w0 _ ((ha1 B w0).sub SBt) ((ha2 B w0).sub SBt) ((ht1 B w0).sub SBt) ((ht2 B w0).sub SBt)) ?_) | ((with_reducible apply kF 34); refine sC 34 (r_equal q1 q2 o1 o2 e1 e2 c1 c2 r g r g (by omega) (by omega) B w0 _ ((ho1 B w0).sub SBt) ((ho2 B w0).sub SBt) (h1.sub SBt) (h2.sub SBt)) ?_) | ((with_reducible apply kF 21); refine sC 21 (n1 _ (h1.sub SBt) (h2.sub SBt)) ?_) | ((with_reducible apply kF 21); refine sC 21 (n2 _ (h3.sub SBt) (h4.sub SBt)) ?_) | ((with_reducible apply kF 21); refine sC 21 (n3 a1 a2 ca1 ca2 _ ((ha1 B w0).sub SBt) ((ha2 B w0).sub SBt)) ?_) | ((with_reducible apply kF 18); refine sC 18 (l_known B w0 _) ?_) | (with_reducible first | refine c_seq ?_ | refine c_reg ?_ | refine c_region ?_ | refine c_block ?_ | refine c_skip ?_ | refine c_exit ?_ | refine c_ret ?_ | refine s_nil ?_ | refine x_then ?_ | refine x_then_exit ?_ | refine x_then_ret ?_ | refine x_block ?_ | refine x_block_ret ?_ | refine x_block_same ?_ | refine x_block_other (by rfl) ?_ | refine q_nil ?_ | refine k_nil ?_) | ((with_reducible apply kP (.makeFunc _ _ _)); refine sMF ?_) | ((with_reducible apply kG); first | refine gY1 ?_ | refine gN1 ?_ | refine gU1 ?_ | (refine gD1 (fun h => ?_) (fun h => ?_) <;> (try (exfalso; omega))) | refine gB1 (fun h => ?_) (fun h => ?_)) | ((with_reducible apply kN); first | refine stP ?_ | refine stI ?_ | refine st1 ?_ | refine stW ?_) | ((with_reducible apply kP (.alloc _)); refine sA (fun b => ?_)) | ((with_reducible apply kP (.box _ _)); first | refine sBA (fun b => ?_) | refine sB (fun b => ?_)) | ((with_reducible apply kP (.buildSlice _ 1 _)); first | refine sl1A (fun b => ?_) | refine sl1 (fun b => ?_)) | ((with_reducible apply kP (.buildSlice _ 2 _)); refine sl2 (fun b => ?_)) | ((with_reducible apply kP (.buildSlice _ 3 _)); refine sl3 (fun b => ?_)) | ((with_reducible apply kP (.buildSlice _ 4 _)); refine sl4 (fun b => ?_)) | ((with_reducible apply kP (.buildSlice _ 0 _)); refine s_bs0 (scTOf rfl) (zsTOf rfl) (by decide) (fun b => ?_)) | ((with_reducible apply kP (.makeSlice _ _ _)); refine sMk (fun b => ?_)) | ((with_reducible apply kP (.call ⟨.builtin .append, _, _⟩)); refine sAp (fun oa2 c2 blk2 hrow2 => ?_)) | ((with_reducible apply kP _); refine sP ?_) | ((with_reducible apply kP _); refine sX ?_) | ((with_reducible apply kQG); first | refine qY1 ?_ | refine qN1 ?_ | refine qU1 ?_ | (refine qD1 (fun h => ?_) (fun h => ?_) <;> (try (exfalso; omega))) | refine qB1 (fun h => ?_) (fun h => ?_)) | ((with_reducible apply kQP); refine qP ?_) | ((with_reducible apply kQP); refine qX ?_) | ((with_reducible apply kC); first | refine cT ?_ | refine cF ?_ | (refine cI (fun h => ?_) (fun h => ?_) <;> (try (exfalso; omega))) | refine cB (fun h => ?_) (fun h => ?_)) | ((with_reducible apply kR); refine cQ ?_))
    all_goals first
      | exact e_ret1 rfl rfl rfl SCt
      | exact absurd rfl ‹¬ _ = _›
      | exact absurd ⟨rfl, rfl⟩ ‹¬ (_ ∧ _)›
      | (exfalso; omega)
set_option maxRecDepth 100000 in
set_option maxHeartbeats 8000000 in
theorem l_cuts0 (o1 o2 p1 p2 : Option Addr) (c1 c2 d1 d2 : Nat) (r g r' g' : List Int) (B : Nat) (w0 : World) (hs : HS) (h1 : Sl B w0 hs o1 r) (h2 : Sl B w0 hs o2 g) (h3 : Sl B w0 hs p1 r') (h4 : Sl B w0 hs p2 g') (hE : ¬ pErr r g r' g' = 0) (y1 : r.length ≤ 100) (y2 : g.length ≤ 100) (y3 : r'.length ≤ 100) (y4 : g'.length ≤ 100) :
    Fn Try.prog 12 #[bv o1 o2 r.length g.length c1 c2, bv p1 p2 r'.length g'.length d1 d2] B w0 hs (fun v _ => v = .bool true) := by
  have f1 := fun p p' e1 e2 hs q1 q2 q3 q4 => h_Cut p p' p1 p2 e1 e2 d1 d2 r g r' g' B w0 hs q1 q2 q3 q4
  have f2 := fun hs q1 q2 q3 q4 => r_Cut o1 o2 p1 p2 c1 c2 d1 d2 r g r' g' B w0 hs q1 q2 q3 q4
  have f3 := fun hs q1 q2 q3 q4 => h_Lack o1 o2 p1 p2 c1 c2 d1 d2 r g r' g' B w0 hs q1 q2 q3 q4
  have f4 := fun hs q1 q2 q3 q4 => r_Lack o1 o2 p1 p2 c1 c2 d1 d2 r g r' g' B w0 hs q1 q2 q3 q4
  have x3 : ctE r g r' g' = pErr r g r' g' := if_neg hE
  have x3' : ¬ ctE r g r' g' = 0 := by rw [x3]; exact hE
  have x4 : lkV r g r' g' = .tuple #[iv 0, .bool false, iv (pErr r g r' g')] := if_neg hE
  rw [show ctL r g r' g' = 0 from if_neg x3', lif_no x3', lif_no x3', x3] at f1 f2
  rw [x4] at f3 f4
  generalize pErr r g r' g' = e at *
  refine fn_enter Try.func12 rfl Try.ntmps12 (by simp) ?_
  repeat' (first | ((with_reducible apply kF 17); refine sC 17 (l_long o1 o2 _ _ c1 c2 B w0 _) ?_) | ((with_reducible apply kF 17); refine sC 17 (l_long p1 p2 _ _ d1 d2 B w0 _) ?_) | ((with_reducible apply kF 27); refine sN 27 (r_copy o1 o2 c1 c2 r g y1 y2 B w0 _ (h1.sub SBt) (h2.sub SBt)) ?_; rintro u ko hN; obtain ⟨q1, q2, e1, e2, rfl, ho1, ho2, ho3⟩ := hN.use) | ((with_reducible apply kF 55); refine sN 55 (f1 q1 q2 e1 e2 _ ((ho1 B w0).sub SBt) ((ho2 B w0).sub SBt) (h3.sub SBt) (h4.sub SBt)) ?_; rintro u ka hN; obtain ⟨a1, a2, ca1, ca2, rfl, ha1, ha2⟩ := hN.use) | ((with_reducible apply kF 56); refine sN 56 (f2 _ (h1.sub SBt) (h2.sub SBt) (h3.sub SBt) (h4.sub SBt)) ?_; rintro u kt hN; obtain ⟨b1, b2, cb1, cb2, rfl, ht1, ht2⟩ := hN.use) | ((with_reducible apply kF 57); refine sC 57 (f3 _ (h1.sub SBt) (h2.sub SBt) (h3.sub SBt) (h4.sub SBt)) ?_) | ((with_reducible apply kF 58); refine sC 58 (f4 _ (h1.sub SBt) (h2.sub SBt) (h3.sub SBt) (h4.sub SBt)) ?_) | ((with_reducible apply kF 34); refine sC 34 (r_equal a1 a2 b1 b2 ca1 ca2 cb1 cb2 [] [] [] [] (by simp) (by simp) B w0 _ ((ha1 B w0).sub SBt) ((ha2 B w0).sub SBt) ((ht1 B w0).sub SBt) ((ht2 B w0).sub SBt)) ?_) | ((with_reducible apply kF 34); refine sC 34 (r_equal q1 q2 o1 o2 e1 e2 c1 c2 r g r g (by omega) (by omega) B w0 _ ((ho1 B w0).sub SBt) ((ho2 B w0).sub SBt) (h1.sub SBt) (h2.sub SBt)) ?_) | ((with_reducible apply kF 18); refine sC 18 (l_known B w0 _) ?_) | (with_reducible first | refine c_seq ?_ | refine c_reg ?_ | refine c_region ?_ | refine c_block ?_ | refine c_skip ?_ | refine c_exit ?_ | refine c_ret ?_ | refine s_nil ?_ | refine x_then ?_ | refine x_then_exit ?_ | refine x_then_ret ?_ | refine x_block ?_ | refine x_block_ret ?_ | refine x_block_same ?_ | refine x_block_other (by rfl) ?_ | refine q_nil ?_ | refine k_nil ?_) | ((with_reducible apply kP (.makeFunc _ _ _)); refine sMF ?_) | ((with_reducible apply kG); first | refine gY1 ?_ | refine gN1 ?_ | refine gU1 ?_ | (refine gD1 (fun h => ?_) (fun h => ?_) <;> (try (exfalso; omega))) | refine gB1 (fun h => ?_) (fun h => ?_)) | ((with_reducible apply kN); first | refine stP ?_ | refine stI ?_ | refine st1 ?_ | refine stW ?_) | ((with_reducible apply kP (.alloc _)); refine sA (fun b => ?_)) | ((with_reducible apply kP (.box _ _)); first | refine sBA (fun b => ?_) | refine sB (fun b => ?_)) | ((with_reducible apply kP (.buildSlice _ 1 _)); first | refine sl1A (fun b => ?_) | refine sl1 (fun b => ?_)) | ((with_reducible apply kP (.buildSlice _ 2 _)); refine sl2 (fun b => ?_)) | ((with_reducible apply kP (.buildSlice _ 3 _)); refine sl3 (fun b => ?_)) | ((with_reducible apply kP (.buildSlice _ 4 _)); refine sl4 (fun b => ?_)) | ((with_reducible apply kP (.buildSlice _ 0 _)); refine s_bs0 (scTOf rfl) (zsTOf rfl) (by decide) (fun b => ?_)) | ((with_reducible apply kP (.makeSlice _ _ _)); refine sMk (fun b => ?_)) | ((with_reducible apply kP (.call ⟨.builtin .append, _, _⟩)); refine sAp (fun oa2 c2 blk2 hrow2 => ?_)) | ((with_reducible apply kP _); refine sP ?_) | ((with_reducible apply kP _); refine sX ?_) | ((with_reducible apply kQG); first | refine qY1 ?_ | refine qN1 ?_ | refine qU1 ?_ | (refine qD1 (fun h => ?_) (fun h => ?_) <;> (try (exfalso; omega))) | refine qB1 (fun h => ?_) (fun h => ?_)) | ((with_reducible apply kQP); refine qP ?_) | ((with_reducible apply kQP); refine qX ?_) | ((with_reducible apply kC); first | refine cT ?_ | refine cF ?_ | (refine cI (fun h => ?_) (fun h => ?_) <;> (try (exfalso; omega))) | refine cB (fun h => ?_) (fun h => ?_)) | ((with_reducible apply kR); refine cQ ?_))
  all_goals first
    | exact e_ret1 rfl rfl rfl SCt
    | exact absurd rfl ‹¬ _ = _›
    | exact absurd ⟨rfl, rfl⟩ ‹¬ (_ ∧ _)›
    | (exfalso; omega)
set_option maxRecDepth 100000 in
set_option maxHeartbeats 8000000 in
theorem l_cuts (o1 o2 p1 p2 : Option Addr) (c1 c2 d1 d2 : Nat) (r g r' g' : List Int) (B : Nat) (w0 : World) (hs : HS) (h1 : Sl B w0 hs o1 r) (h2 : Sl B w0 hs o2 g) (h3 : Sl B w0 hs p1 r') (h4 : Sl B w0 hs p2 g') :
    Fn Try.prog 12 #[bv o1 o2 r.length g.length c1 c2, bv p1 p2 r'.length g'.length d1 d2] B w0 hs (fun v _ => v = .bool true) := by
  by_cases hy : r.length ≤ 100 ∧ g.length ≤ 100 ∧ r'.length ≤ 100 ∧ g'.length ≤ 100
  · obtain ⟨y1, y2, y3, y4⟩ := hy
    by_cases hE : pErr r g r' g' = 0
    · obtain ⟨z1, z2⟩ := pErr_zero hE
      obtain ⟨_, _, q3, q4, q5, q6⟩ := vErr_zero z1
      obtain ⟨_, _, s3, s4, s5, s6⟩ := vErr_zero z2
      have k1 := okh_cn q3 q5; have k2 := okh_cn q4 q6; have k3 := okh_cn s3 s5; have k4 := okh_cn s4 s6
      have hc := ct_lak k1 k2 k3 k4
      have hE2 : ctE r g r' g' = if ctB (cn r) (cn g) (cn r') (cn g') = true then 0 else 6 := if_pos hE
      have hV : lkV r g r' g' = if lak (cn r) (cn g) (cn r') (cn g') 24 = 0 then .tuple #[iv 0, .bool false, iv 0] else .tuple #[iv (lak (cn r) (cn g) (cn r') (cn g') 24 : Nat), .bool true, iv 0] := if_pos hE
      by_cases hl : lak (cn r) (cn g) (cn r') (cn g') 24 = 0
      · have hb := hc.2 hl
        rw [if_pos hb] at hE2
        rw [if_pos hl] at hV
        refine l_cuts1 o1 o2 p1 p2 c1 c2 d1 d2 r g r' g' (trm (ctF r g r' g')) (trm (ctG r g r' g')) 0 _ 0 false (trm_length _) (trm_length _) B w0 hs h1 h2 h3 h4 rfl (lif_yes hE2) (lif_yes hE2) hE2 hV (.inl ⟨rfl, rfl⟩) (fun _ => ?_) z1 z2 y1 y2 y3 y4
        have hn := of_decide_eq_true hb
        have hok := (cutO_ok k1 k2 k3 k4 24).1
        have hi := (cutO_inv k1 k2 k3 k4 24 (by omega) (fun j hj => hn j (by omega))).2
        rw [pI_end] at hi
        obtain ⟨e1, e2⟩ := cutO_0 (cn r) (cn g) (cn r') (cn g') 24 (by omega)
        rw [cn_zero] at e1 e2
        have hL : ctL r g r' g' = (cutO (cn r) (cn g) (cn r') (cn g') 24).lost := if_pos hE2
        refine ⟨(tie_ok (okh_okf hok.1) (okh_okf hok.2.1) (tie_okh hok.1 hok.2.1).2.2).2.2, ?_, ?_⟩
        · rw [show ctF r g r' g' = (cutO (cn r) (cn g) (cn r') (cn g') 24).f from rfl, show ctG r g r' g' = (cutO (cn r) (cn g) (cn r') (cn g') 24).g from rfl, inc_trm e1 e2, hL]
          omega
        · rw [hL]; exact cutO_lost k1 k2 k3 k4 24
      · have hb : ¬ ctB (cn r) (cn g) (cn r') (cn g') = true := fun h => hl (hc.1 h)
        rw [if_neg hb] at hE2
        rw [if_neg hl] at hV
        have hE3 : ¬ ctE r g r' g' = 0 := by omega
        exact l_cuts1 o1 o2 p1 p2 c1 c2 d1 d2 r g r' g' [] [] 6 0 _ true (by simp) (by simp) B w0 hs h1 h2 h3 h4 (if_neg hE3) (lif_no hE3) (lif_no hE3) hE2 hV (.inr ⟨rfl, rfl⟩) (fun h => absurd h (by decide)) z1 z2 y1 y2 y3 y4
    · exact l_cuts0 o1 o2 p1 p2 c1 c2 d1 d2 r g r' g' B w0 hs h1 h2 h3 h4 hE y1 y2 y3 y4
  · refine fn_enter Try.func12 rfl Try.ntmps12 (by simp) ?_
    repeat' (first | ((with_reducible apply kF 17); refine sC 17 (l_long o1 o2 _ _ c1 c2 B w0 _) ?_) | ((with_reducible apply kF 17); refine sC 17 (l_long p1 p2 _ _ d1 d2 B w0 _) ?_) | ((with_reducible apply kF 18); refine sC 18 (l_known B w0 _) ?_) | (with_reducible first | refine c_seq ?_ | refine c_reg ?_ | refine c_region ?_ | refine c_block ?_ | refine c_skip ?_ | refine c_exit ?_ | refine c_ret ?_ | refine s_nil ?_ | refine x_then ?_ | refine x_then_exit ?_ | refine x_then_ret ?_ | refine x_block ?_ | refine x_block_ret ?_ | refine x_block_same ?_ | refine x_block_other (by rfl) ?_ | refine q_nil ?_ | refine k_nil ?_) | ((with_reducible apply kP (.makeFunc _ _ _)); refine sMF ?_) | ((with_reducible apply kG); first | refine gY1 ?_ | refine gN1 ?_ | refine gU1 ?_ | (refine gD1 (fun h => ?_) (fun h => ?_) <;> (try (exfalso; omega))) | refine gB1 (fun h => ?_) (fun h => ?_)) | ((with_reducible apply kN); first | refine stP ?_ | refine stI ?_ | refine st1 ?_ | refine stW ?_) | ((with_reducible apply kP (.alloc _)); refine sA (fun b => ?_)) | ((with_reducible apply kP (.box _ _)); first | refine sBA (fun b => ?_) | refine sB (fun b => ?_)) | ((with_reducible apply kP (.buildSlice _ 1 _)); first | refine sl1A (fun b => ?_) | refine sl1 (fun b => ?_)) | ((with_reducible apply kP (.buildSlice _ 2 _)); refine sl2 (fun b => ?_)) | ((with_reducible apply kP (.buildSlice _ 3 _)); refine sl3 (fun b => ?_)) | ((with_reducible apply kP (.buildSlice _ 4 _)); refine sl4 (fun b => ?_)) | ((with_reducible apply kP (.buildSlice _ 0 _)); refine s_bs0 (scTOf rfl) (zsTOf rfl) (by decide) (fun b => ?_)) | ((with_reducible apply kP (.makeSlice _ _ _)); refine sMk (fun b => ?_)) | ((with_reducible apply kP (.call ⟨.builtin .append, _, _⟩)); refine sAp (fun oa2 c2 blk2 hrow2 => ?_)) | ((with_reducible apply kP _); refine sP ?_) | ((with_reducible apply kP _); refine sX ?_) | ((with_reducible apply kQG); first | refine qY1 ?_ | refine qN1 ?_ | refine qU1 ?_ | (refine qD1 (fun h => ?_) (fun h => ?_) <;> (try (exfalso; omega))) | refine qB1 (fun h => ?_) (fun h => ?_)) | ((with_reducible apply kQP); refine qP ?_) | ((with_reducible apply kQP); refine qX ?_) | ((with_reducible apply kC); first | refine cT ?_ | refine cF ?_ | (refine cI (fun h => ?_) (fun h => ?_) <;> (try (exfalso; omega))) | refine cB (fun h => ?_) (fun h => ?_)) | ((with_reducible apply kR); refine cQ ?_))
    all_goals first
      | exact e_ret1 rfl rfl rfl SCt
      | (exfalso; omega)
set_option maxRecDepth 100000 in
theorem cuts_holds_lifted (os : Os) (started : os.Started) (H : Type) (enc : TypeId × Value → H) :
    ReturnsInHanded {} Try.checked os 12 .any (Rows.hairCutsSpec.pre6 enc Try.prog Try.f12 Rows.hairCutsRow.domain false) (Rows.hairCutsSpec.post enc Try.prog Try.f12 false true false false) := by
  refine returnsInHanded_of_change (C := Try.checked) ownK started (by kernel_rfl) Try.func12
    (ChangeSpec.witness6 (enc := enc) (C := Try.checked) false ⟨#[], #[.agg #[.slice none 0 0, .slice none 0 0], .agg #[.slice none 0 0, .slice none 0 0]], []⟩ 8 (by kernel_rfl) (by kernel_rfl) (by kernel_rfl) (by kernel_rfl)) ?_
  intro W base args ds gs before hval0 hW hcnd _
  have hval : ∀ (j : Nat) t v, Try.f12.params[j]? = some t → args[j]? = some v → Value.okWide Try.prog W .any base t v := hval0
  have hW' := hW
  obtain ⟨p, q, hA0, hV, rfl, hfz, hnd⟩ := hW
  have hA : DataW.TrodAll enc Try.prog W 0 (fun _ => true) true Try.f12.params.toList args.toList ds p := hA0
  rw [Try.params12] at hA hval
  obtain ⟨v0, v1, d_0, d_1, p_0, p_1, rfl, rfl, rfl, h0, h1⟩ := trodAll_two hA
  obtain ⟨oa0, ob0, c0, d0, r0, g0, rfl, m0, q0, _, _, I0, J0, s0, t0⟩ := arg_bundle (by kernel_rfl) (hval 0 _ v0 rfl rfl) h0
  obtain ⟨oa1, ob1, c1, d1, r1, g1, rfl, m1, q1, _, _, I1, J1, s1, t1⟩ := arg_bundle (by kernel_rfl) (hval 1 _ v1 rfl rfl) h1
  refine (law_calls (by exact l_cuts oa0 ob0 oa1 ob1 c0 d0 c1 d1 r0 g0 r1 g1 _ W [] s0 t0 s1 t1)).mono fun e W' ⟨he, hb⟩ => ⟨.bool true, he, ?_⟩
  exact law_post rfl ⟨⟨by kernel_rfl, of_decide_eq_true (by kernel_rfl)⟩, ⟨by kernel_rfl, of_decide_eq_true (by kernel_rfl)⟩, trivial⟩ rfl hW' ⟨rfl, rfl, rfl⟩ hb
theorem cuts_holds : Rows.HairCutsSaid :=
  OpenClaim.holds_of_wide 12 Try.f12 rfl rfl rfl rfl rfl rfl rfl ⟨rfl, rfl, rfl, rfl, rfl⟩ rfl rfl rfl rfl rfl (by kernel_rfl) Try.func12 (by kernel_rfl)
    (of_decide_eq_true (by kernel_rfl)) (by unfold Func.isWrapper; first | (rw [if_pos (by decide +kernel)]; kernel_rfl) | (rw [if_neg (by decide +kernel)]; exact ⟨rfl, rfl⟩))
    (fun os started H enc _ => cuts_holds_lifted os started H enc)
#print axioms cuts_holds
end Go.Proofs.Ytiopaodiaokfdaa
