/- HairHackles holds: which hairs stay in the hackle, and what turning gives. -/
import Derived.Test.YtiopaodiaokfdaaH25
import Derived.Test.YtiopaodiaokfdaaClose2
namespace Go.Proofs.Ytiopaodiaokfdaa
open Go.RowKit Go.ChangeShapes Go.WideShapes Go.ChangeAt

theorem lif_lenH (e : Int) (f : Nat → Int) : (lif e (trm f)).length ≤ 24 := by unfold lif; split; exact trm_length _; simp
theorem tieR_lenH (f g : Nat → Int) : (tieR f g).length ≤ 24 := by unfold tieR; split; simp; exact trm_length _
theorem tieG_lenH (f g : Nat → Int) : (tieG f g).length ≤ 24 := by unfold tieG; split; simp; exact trm_length _
theorem tuR_len (r g : List Int) : (tuR r g).length ≤ 24 := by unfold tuR; split; exact tieR_lenH _ _; simp
theorem tuL_len (r g : List Int) : (tuL r g).length ≤ 24 := by unfold tuL; split; exact tieG_lenH _ _; simp
theorem hk_facts {r g : List Int} {L : Int} (h : hkE r g L = 0) : vErr r g = 0 ∧ 1 ≤ L ∧ L ≤ 25 := by
  unfold hkE at h
  split at h
  · rename_i hv
    split at h
    · rename_i hx; exact ⟨hv, hx⟩
    · omega
  · rename_i hv; exact absurd h hv
set_option maxRecDepth 100000 in
set_option maxHeartbeats 8000000 in
theorem l_hackles (o1 o2 : Option Addr) (c1 c2 : Nat) (r g : List Int) (L : Int) (B : Nat) (w0 : World) (hs : HS) (h1 : Sl B w0 hs o1 r) (h2 : Sl B w0 hs o2 g) :
    Fn Try.prog 13 #[bv o1 o2 r.length g.length c1 c2, iv L] B w0 hs (fun v _ => v = .bool true) := by
  have t1 := lif_lenH (hkE r g L) (khF (cn r) L.toNat); have t2 := lif_lenH (hkE r g L) (khF (cn g) L.toNat); have t3 := lif_lenH (hkE r g L) (shF (cn r) L.toNat); have t4 := lif_lenH (hkE r g L) (shF (cn g) L.toNat)
  have t5 := tuR_len r g; have t6 := tuL_len r g
  refine fn_enter Try.func13 rfl Try.ntmps13 (by simp) ?_
  repeat' (first | ((with_reducible apply kF 17); refine sC 17 (l_long o1 o2 _ _ c1 c2 B w0 _) ?_) | ((with_reducible apply kF 18); refine sC 18 (l_known B w0 _) ?_) | (with_reducible first | refine c_seq ?_ | refine c_reg ?_ | refine c_region ?_ | refine c_block ?_ | refine c_skip ?_ | refine c_exit ?_ | refine c_ret ?_ | refine s_nil ?_ | refine x_then ?_ | refine x_then_exit ?_ | refine x_then_ret ?_ | refine x_block ?_ | refine x_block_ret ?_ | refine x_block_same ?_ | refine x_block_other (by rfl) ?_ | refine q_nil ?_ | refine k_nil ?_) | ((with_reducible apply kP (.makeFunc _ _ _)); refine sMF ?_) | ((with_reducible apply kG); first | refine gY1 ?_ | refine gN1 ?_ | refine gU1 ?_ | (refine gD1 (fun h => ?_) (fun h => ?_) <;> (try (exfalso; omega))) | refine gB1 (fun h => ?_) (fun h => ?_)) | ((with_reducible apply kN); first | refine stP ?_ | refine stI ?_ | refine st1 ?_ | refine stW ?_) | ((with_reducible apply kP (.alloc _)); refine sA (fun b => ?_)) | ((with_reducible apply kP (.box _ _)); first | refine sBA (fun b => ?_) | refine sB (fun b => ?_)) | ((with_reducible apply kP (.buildSlice _ 1 _)); first | refine sl1A (fun b => ?_) | refine sl1 (fun b => ?_)) | ((with_reducible apply kP (.buildSlice _ 2 _)); refine sl2 (fun b => ?_)) | ((with_reducible apply kP (.buildSlice _ 3 _)); refine sl3 (fun b => ?_)) | ((with_reducible apply kP (.buildSlice _ 4 _)); refine sl4 (fun b => ?_)) | ((with_reducible apply kP (.buildSlice _ 0 _)); refine s_bs0 (scTOf rfl) (zsTOf rfl) (by decide) (fun b => ?_)) | ((with_reducible apply kP (.makeSlice _ _ _)); refine sMk (fun b => ?_)) | ((with_reducible apply kP (.call ⟨.builtin .append, _, _⟩)); refine sAp (fun oa2 c2 blk2 hrow2 => ?_)) | ((with_reducible apply kP _); refine sP ?_) | ((with_reducible apply kP _); refine sX ?_) | ((with_reducible apply kQG); first | refine qY1 ?_ | refine qN1 ?_ | refine qU1 ?_ | (refine qD1 (fun h => ?_) (fun h => ?_) <;> (try (exfalso; omega))) | refine qB1 (fun h => ?_) (fun h => ?_)) | ((with_reducible apply kQP); refine qP ?_) | ((with_reducible apply kQP); refine qX ?_) | ((with_reducible apply kC); first | refine cT ?_ | refine cF ?_ | (refine cI (fun h => ?_) (fun h => ?_) <;> (try (exfalso; omega))) | refine cB (fun h => ?_) (fun h => ?_)) | ((with_reducible apply kR); refine cQ ?_))
  · exact e_ret1 rfl rfl rfl SCt
  have f1 := fun hs q1 q2 => h_Hackle o1 o2 c1 c2 r g L B w0 hs q1 q2
  have f2 := fun hs q1 q2 => r_Hackle o1 o2 c1 c2 r g L B w0 hs q1 q2
  have f3 := fun hs q1 q2 => h_Turn o1 o2 c1 c2 r g B w0 hs q1 q2
  have f4 := fun hs q1 q2 => r_Turn o1 o2 c1 c2 r g B w0 hs q1 q2
  by_cases hE : hkE r g L = 0
  · obtain ⟨hv, hL1, hL2⟩ := hk_facts hE
    obtain ⟨hr, hg, q3, q4, q5, q6⟩ := vErr_zero hv
    have k1 := okh_cn q3 q5; have k2 := okh_cn q4 q6
    have hz : ∀ l : List Int, khF (cn l) L.toNat 0 = 0 ∧ shF (cn l) L.toNat 0 = 0 := fun l => ⟨if_pos (by omega), by unfold shF; rw [cn_zero]; split <;> rfl⟩
    have hsum : ∀ l : List Int, ∀ i, i < 25 → khF (cn l) L.toNat i + shF (cn l) L.toNat i = cn l i := fun l i _ => by unfold khF shF; split <;> omega
    obtain ⟨m1, m2, m3, m4, m5⟩ := mix_parts hv (khF_ok k1 L.toNat) (shF_ok k1 L.toNat) (khF_ok k2 L.toNat) (shF_ok k2 L.toNat) (hz r).1 (hz r).2 (hz g).1 (hz g).2 (hsum r) (hsum g)
    rw [lif_yes hE] at t1 t2 t3 t4
    rw [lif_yes hE, lif_yes hE, lif_yes hE, lif_yes hE, hE] at f1 f2
    have f5 := fun a1 a2 ca1 ca2 a3 a4 ca3 ca4 hs q1 q2 q3 q4 => h_Mix a1 a2 a3 a4 ca1 ca2 ca3 ca4 (trm (khF (cn r) L.toNat)) (trm (khF (cn g) L.toNat)) (trm (shF (cn r) L.toNat)) (trm (shF (cn g) L.toNat)) B w0 hs q1 q2 q3 q4
    rw [m1, m2, m3] at f5
    have f6 := fun a1 a2 ca1 ca2 hs q1 q2 q3 q4 => h_Same a1 a2 o1 o2 ca1 ca2 c1 c2 (trm (cn r)) (trm (cn g)) r g B w0 hs q1 q2 q3 q4
    rw [m5, m4] at f6
    generalize trm (khF (cn r) L.toNat) = L1 at *
    generalize trm (khF (cn g) L.toNat) = L2 at *
    generalize trm (shF (cn r) L.toNat) = L3 at *
    generalize trm (shF (cn g) L.toNat) = L4 at *
    generalize tuR r g = L5 at *
    generalize tuL r g = L6 at *
    generalize tuE r g = e5 at *
    repeat' (first | ((with_reducible apply kF 59); refine sN 59 (f1 _ (h1.sub SBt) (h2.sub SBt)) ?_; rintro u ka hN; obtain ⟨a1, a2, ca1, ca2, a3, a4, ca3, ca4, k1', k2', rfl, ha1, ha2, ha3, hb1, hb2, hb3, rfl⟩ := hN.use; rw [List.append_assoc]) | ((with_reducible apply kF 60); refine sN 60 (f2 _ (h1.sub SBt) (h2.sub SBt)) ?_; rintro u kt hN; obtain ⟨e1, e2, ce1, ce2, e3, e4, ce3, ce4, m1', m2', rfl, hd1, hd2, hd3, he1, he2, he3, rfl⟩ := hN.use; rw [List.append_assoc]) | ((with_reducible apply kF 61); refine sN 61 (f3 _ (h1.sub SBt) (h2.sub SBt)) ?_; rintro u ka hN; obtain ⟨y1, y2, cy1, cy2, rfl, hy1, hy2, hy3⟩ := hN.use) | ((with_reducible apply kF 62); refine sN 62 (f4 _ (h1.sub SBt) (h2.sub SBt)) ?_; rintro u ka hN; obtain ⟨z1, z2, cz1, cz2, rfl, hz1, hz2, hz3⟩ := hN.use) | ((with_reducible apply kF 34); refine sC 34 (r_equal a1 a2 e1 e2 ca1 ca2 ce1 ce2 L1 L2 L1 L2 (by omega) (by omega) B w0 _ ((ha1 B w0).sub SBt) ((ha2 B w0).sub SBt) ((hd1 B w0).sub SBt) ((hd2 B w0).sub SBt)) ?_) | ((with_reducible apply kF 34); refine sC 34 (r_equal a3 a4 e3 e4 ca3 ca4 ce3 ce4 L3 L4 L3 L4 (by omega) (by omega) B w0 _ ((hb1 B w0).sub SBt) ((hb2 B w0).sub SBt) ((he1 B w0).sub SBt) ((he2 B w0).sub SBt)) ?_) | ((with_reducible apply kF 34); refine sC 34 (r_equal y1 y2 z1 z2 cy1 cy2 cz1 cz2 L5 L6 L5 L6 (by omega) (by omega) B w0 _ ((hy1 B w0).sub SBt) ((hy2 B w0).sub SBt) ((hz1 B w0).sub SBt) ((hz2 B w0).sub SBt)) ?_) | ((with_reducible apply kF 42); refine sN 42 (f5 a1 a2 ca1 ca2 a3 a4 ca3 ca4 _ ((ha1 B w0).sub SBt) ((ha2 B w0).sub SBt) ((hb1 B w0).sub SBt) ((hb2 B w0).sub SBt)) ?_; rintro u kx hN; obtain ⟨x1, x2, cx1, cx2, rfl, hx1, hx2, hx3⟩ := hN.use) | ((with_reducible apply kF 44); refine sC 44 (f6 x1 x2 cx1 cx2 _ ((hx1 B w0).sub SBt) ((hx2 B w0).sub SBt) (h1.sub SBt) (h2.sub SBt)) ?_) | ((with_reducible apply kF 18); refine sC 18 (l_known B w0 _) ?_) | (with_reducible first | refine c_seq ?_ | refine c_reg ?_ | refine c_region ?_ | refine c_block ?_ | refine c_skip ?_ | refine c_exit ?_ | refine c_ret ?_ | refine s_nil ?_ | refine x_then ?_ | refine x_then_exit ?_ | refine x_then_ret ?_ | refine x_block ?_ | refine x_block_ret ?_ | refine x_block_same ?_ | refine x_block_other (by rfl) ?_ | refine q_nil ?_ | refine k_nil ?_) | ((with_reducible apply kP (.makeFunc _ _ _)); refine sMF ?_) | ((with_reducible apply kG); first | refine gY1 ?_ | refine gN1 ?_ | refine gU1 ?_ | (refine gD1 (fun h => ?_) (fun h => ?_) <;> (try (exfalso; omega))) | refine gB1 (fun h => ?_) (fun h => ?_)) | ((with_reducible apply kN); first | refine stP ?_ | refine stI ?_ | refine st1 ?_ | refine stW ?_) | ((with_reducible apply kP (.alloc _)); refine sA (fun b => ?_)) | ((with_reducible apply kP (.box _ _)); first | refine sBA (fun b => ?_) | refine sB (fun b => ?_)) | ((with_reducible apply kP (.buildSlice _ 1 _)); first | refine sl1A (fun b => ?_) | refine sl1 (fun b => ?_)) | ((with_reducible apply kP (.buildSlice _ 2 _)); refine sl2 (fun b => ?_)) | ((with_reducible apply kP (.buildSlice _ 3 _)); refine sl3 (fun b => ?_)) | ((with_reducible apply kP (.buildSlice _ 4 _)); refine sl4 (fun b => ?_)) | ((with_reducible apply kP (.buildSlice _ 0 _)); refine s_bs0 (scTOf rfl) (zsTOf rfl) (by decide) (fun b => ?_)) | ((with_reducible apply kP (.makeSlice _ _ _)); refine sMk (fun b => ?_)) | ((with_reducible apply kP (.call ⟨.builtin .append, _, _⟩)); refine sAp (fun oa2 c2 blk2 hrow2 => ?_)) | ((with_reducible apply kP _); refine sP ?_) | ((with_reducible apply kP _); refine sX ?_) | ((with_reducible apply kQG); first | refine qY1 ?_ | refine qN1 ?_ | refine qU1 ?_ | (refine qD1 (fun h => ?_) (fun h => ?_) <;> (try (exfalso; omega))) | refine qB1 (fun h => ?_) (fun h => ?_)) | ((with_reducible apply kQP); refine qP ?_) | ((with_reducible apply kQP); refine qX ?_) | ((with_reducible apply kC); first | refine cT ?_ | refine cF ?_ | (refine cI (fun h => ?_) (fun h => ?_) <;> (try (exfalso; omega))) | refine cB (fun h => ?_) (fun h => ?_)) | ((with_reducible apply kR); refine cQ ?_))
    all_goals first
      | exact e_ret1 rfl rfl rfl SCt
      | exact absurd rfl ‹¬ _ = _›
      | exact absurd ⟨rfl, rfl⟩ ‹¬ (_ ∧ _)›
  · rw [lif_no hE] at t1 t2 t3 t4
    rw [lif_no hE, lif_no hE, lif_no hE, lif_no hE] at f1 f2
    have f5 := fun a1 a2 ca1 ca2 a3 a4 ca3 ca4 hs q1 q2 q3 q4 => h_Mix a1 a2 a3 a4 ca1 ca2 ca3 ca4 [] [] [] [] B w0 hs q1 q2 q3 q4
    generalize mxR [] [] [] [] = X1 at f5
    generalize mxG [] [] [] [] = X2 at f5
    generalize mxE [] [] [] [] = X3 at f5
    have f6 := fun a1 a2 ca1 ca2 hs q1 q2 q3 q4 => h_Same a1 a2 o1 o2 ca1 ca2 c1 c2 X1 X2 r g B w0 hs q1 q2 q3 q4
    generalize pErr X1 X2 r g = X4 at f6
    generalize decide (X4 = 0 ∧ sameF (cn X1) (cn X2) (cn r) (cn g)) = X5 at f6
    generalize hL1 : ([] : List Int) = L1 at *
    generalize tuR r g = L5 at *
    generalize tuL r g = L6 at *
    generalize tuE r g = e5 at *
    generalize hkE r g L = e6 at *
    repeat' (first | ((with_reducible apply kF 59); refine sN 59 (f1 _ (h1.sub SBt) (h2.sub SBt)) ?_; rintro u ka hN; obtain ⟨a1, a2, ca1, ca2, a3, a4, ca3, ca4, k1', k2', rfl, ha1, ha2, ha3, hb1, hb2, hb3, rfl⟩ := hN.use; rw [List.append_assoc]) | ((with_reducible apply kF 60); refine sN 60 (f2 _ (h1.sub SBt) (h2.sub SBt)) ?_; rintro u kt hN; obtain ⟨e1, e2, ce1, ce2, e3, e4, ce3, ce4, m1', m2', rfl, hd1, hd2, hd3, he1, he2, he3, rfl⟩ := hN.use; rw [List.append_assoc]) | ((with_reducible apply kF 61); refine sN 61 (f3 _ (h1.sub SBt) (h2.sub SBt)) ?_; rintro u ka hN; obtain ⟨y1, y2, cy1, cy2, rfl, hy1, hy2, hy3⟩ := hN.use) | ((with_reducible apply kF 62); refine sN 62 (f4 _ (h1.sub SBt) (h2.sub SBt)) ?_; rintro u ka hN; obtain ⟨z1, z2, cz1, cz2, rfl, hz1, hz2, hz3⟩ := hN.use) | ((with_reducible apply kF 34); refine sC 34 (r_equal a1 a2 e1 e2 ca1 ca2 ce1 ce2 L1 L1 L1 L1 (by omega) (by omega) B w0 _ ((ha1 B w0).sub SBt) ((ha2 B w0).sub SBt) ((hd1 B w0).sub SBt) ((hd2 B w0).sub SBt)) ?_) | ((with_reducible apply kF 34); refine sC 34 (r_equal a3 a4 e3 e4 ca3 ca4 ce3 ce4 L1 L1 L1 L1 (by omega) (by omega) B w0 _ ((hb1 B w0).sub SBt) ((hb2 B w0).sub SBt) ((he1 B w0).sub SBt) ((he2 B w0).sub SBt)) ?_) | ((with_reducible apply kF 34); refine sC 34 (r_equal y1 y2 z1 z2 cy1 cy2 cz1 cz2 L5 L6 L5 L6 (by omega) (by omega) B w0 _ ((hy1 B w0).sub SBt) ((hy2 B w0).sub SBt) ((hz1 B w0).sub SBt) ((hz2 B w0).sub SBt)) ?_) | ((with_reducible apply kF 42); refine sN 42 (f5 a1 a2 ca1 ca2 a3 a4 ca3 ca4 _ ((ha1 B w0).sub SBt) ((ha2 B w0).sub SBt) ((hb1 B w0).sub SBt) ((hb2 B w0).sub SBt)) ?_; rintro u kx hN; obtain ⟨x1, x2, cx1, cx2, rfl, hx1, hx2, hx3⟩ := hN.use) | ((with_reducible apply kF 44); refine sC 44 (f6 x1 x2 cx1 cx2 _ ((hx1 B w0).sub SBt) ((hx2 B w0).sub SBt) (h1.sub SBt) (h2.sub SBt)) ?_) | ((with_reducible apply kF 18); refine sC 18 (l_known B w0 _) ?_) | (with_reducible first | refine c_seq ?_ | refine c_reg ?_ | refine c_region ?_ | refine c_block ?_ | refine c_skip ?_ | refine c_exit ?_ | refine c_ret ?_ | refine s_nil ?_ | refine x_then ?_ | refine x_then_exit ?_ | refine x_then_ret ?_ | refine x_block ?_ | refine x_block_ret ?_ | refine x_block_same ?_ | refine x_block_other (by rfl) ?_ | refine q_nil ?_ | refine k_nil ?_) | ((with_reducible apply kP (.makeFunc _ _ _)); refine sMF ?_) | ((with_reducible apply kG); first | refine gY1 ?_ | refine gN1 ?_ | refine gU1 ?_ | (refine gD1 (fun h => ?_) (fun h => ?_) <;> (try (exfalso; omega))) | refine gB1 (fun h => ?_) (fun h => ?_)) | ((with_reducible apply kN); first | refine stP ?_ | refine stI ?_ | refine st1 ?_ | refine stW ?_) | ((with_reducible apply kP (.alloc _)); refine sA (fun b => ?_)) | ((with_reducible apply kP (.box _ _)); first | refine sBA (fun b => ?_) | refine sB (fun b => ?_)) | ((with_reducible apply kP (.buildSlice _ 1 _)); first | refine sl1A (fun b => ?_) | refine sl1 (fun b => ?_)) | ((with_reducible apply kP (.buildSlice _ 2 _)); refine sl2 (fun b => ?_)) | ((with_reducible apply kP (.buildSlice _ 3 _)); refine sl3 (fun b => ?_)) | ((with_reducible apply kP (.buildSlice _ 4 _)); refine sl4 (fun b => ?_)) | ((with_reducible apply kP (.buildSlice _ 0 _)); refine s_bs0 (scTOf rfl) (zsTOf rfl) (by decide) (fun b => ?_)) | ((with_reducible apply kP (.makeSlice _ _ _)); refine sMk (fun b => ?_)) | ((with_reducible apply kP (.call ⟨.builtin .append, _, _⟩)); refine sAp (fun oa2 c2 blk2 hrow2 => ?_)) | ((with_reducible apply kP _); refine sP ?_) | ((with_reducible apply kP _); refine sX ?_) | ((with_reducible apply kQG); first | refine qY1 ?_ | refine qN1 ?_ | refine qU1 ?_ | (refine qD1 (fun h => ?_) (fun h => ?_) <;> (try (exfalso; omega))) | refine qB1 (fun h => ?_) (fun h => ?_)) | ((with_reducible apply kQP); refine qP ?_) | ((with_reducible apply kQP); refine qX ?_) | ((with_reducible apply kC); first | refine cT ?_ | refine cF ?_ | (refine cI (fun h => ?_) (fun h => ?_) <;> (try (exfalso; omega))) | refine cB (fun h => ?_) (fun h => ?_)) | ((with_reducible apply kR); refine cQ ?_))
    all_goals first
      | exact e_ret1 rfl rfl rfl SCt
      | exact absurd rfl ‹¬ _ = _›
      | exact absurd ⟨rfl, rfl⟩ ‹¬ (_ ∧ _)›
      | (exfalso; omega)
set_option maxRecDepth 100000 in
theorem hackles_holds_lifted (os : Os) (started : os.Started) (H : Type) (enc : TypeId × Value → H) :
    ReturnsInHanded {} Try.checked os 13 .any (Rows.hairHacklesSpec.pre6 enc Try.prog Try.f13 Rows.hairHacklesRow.domain false) (Rows.hairHacklesSpec.post enc Try.prog Try.f13 false true false false) := by
  refine returnsInHanded_of_change (C := Try.checked) ownK started (by kernel_rfl) Try.func13
    (ChangeSpec.witness6 (enc := enc) (C := Try.checked) false ⟨#[], #[.agg #[.slice none 0 0, .slice none 0 0], .int .i64 0], []⟩ 8 (by kernel_rfl) (by kernel_rfl) (by kernel_rfl) (by kernel_rfl)) ?_
  intro W base args ds gs before hval0 hW hcnd _
  have hval : ∀ (j : Nat) t v, Try.f13.params[j]? = some t → args[j]? = some v → Value.okWide Try.prog W .any base t v := hval0
  have hW' := hW
  obtain ⟨p, q, hA0, hV, rfl, hfz, hnd⟩ := hW
  have hA : DataW.TrodAll enc Try.prog W 0 (fun _ => true) true Try.f13.params.toList args.toList ds p := hA0
  rw [Try.params13] at hA hval
  obtain ⟨v0, v1, d_0, d_1, p_0, p_1, rfl, rfl, rfl, h0, h1⟩ := trodAll_two hA
  obtain ⟨oa0, ob0, c0, d0, r0, g0, rfl, m0, q0, _, _, I0, J0, s0, t0⟩ := arg_bundle (by kernel_rfl) (hval 0 _ v0 rfl rfl) h0
  obtain ⟨z1, rfl, I1⟩ := arg_int (by kernel_rfl) (hval 1 _ v1 rfl rfl) h1
  refine (law_calls (by exact l_hackles oa0 ob0 c0 d0 r0 g0 z1 _ W [] s0 t0)).mono fun e W' ⟨he, hb⟩ => ⟨.bool true, he, ?_⟩
  exact law_post rfl ⟨⟨by kernel_rfl, of_decide_eq_true (by kernel_rfl)⟩, ⟨by kernel_rfl, of_decide_eq_true (by kernel_rfl)⟩, trivial⟩ rfl hW' ⟨rfl, rfl, rfl⟩ hb
theorem hackles_holds : Rows.HairHacklesSaid :=
  OpenClaim.holds_of_wide 13 Try.f13 rfl rfl rfl rfl rfl rfl rfl ⟨rfl, rfl, rfl, rfl, rfl⟩ rfl rfl rfl rfl rfl (by kernel_rfl) Try.func13 (by kernel_rfl)
    (of_decide_eq_true (by kernel_rfl)) (by unfold Func.isWrapper; first | (rw [if_pos (by decide +kernel)]; kernel_rfl) | (rw [if_neg (by decide +kernel)]; exact ⟨rfl, rfl⟩))
    (fun os started H enc _ => hackles_holds_lifted os started H enc)
#print axioms hackles_holds
end Go.Proofs.Ytiopaodiaokfdaa
