/- Mix: the program's. -/
import Derived.Test.YtphobgibcpmgdaaMD51
namespace Go.Proofs.Ytphobgibcpmgdaa
open Go.RowKit

theorem nf_len {V : Nat → Int} (hz : ∀ k, 240 ≤ k → V k = 0) (hp : ∃ k, k < 240 ∧ 0 < V k) : (kp (nW V) 240).length = (kpr V 240).length * 4 ∧ 0 < (kpr V 240).length ∧ (nfB V ↔ vbE (kpr V 240).length (kp (nW V) 240) = 0) := by
  have hpos : 0 < (kpr V 240).length := by
    obtain ⟨k0, h1, h2⟩ := hp
    exact List.length_pos_of_mem (List.mem_filter.2 ⟨List.mem_range.2 h1, by simpa using h2⟩)
  refine ⟨by rw [kp_len, kpr_nW hz], hpos, ?_⟩
  rw [vb_kp (by rw [kpr_nW hz]) hpos]; rfl
set_option maxRecDepth 100000 in
set_option maxHeartbeats 8000000 in
theorem k_Mix (N M : Nat) (lz wz : List Int) (x y : Int) (c d : Nat) (oa ob : Option Addr) (hN : N ≤ 100) (hM : M ≤ 100) (hl : lz.length = N * 4) (hw : wz.length = M * 4) (B : Nat) (w0 : Wd) (hs : HS) (hL : Sl B w0 hs oa lz) (hW : Sl B w0 hs ob wz) :
    Fn Try.prog 54 #[.slice oa N c, iv x, .slice ob M d, iv y] B w0 hs (fun u h => ∃ blk, MRes N M lz wz x y u blk ∧ h = blk ++ hs) := by
  have kb := k_both N M lz wz c d oa ob hN hM hl hw B w0
  by_cases hz : boE N M lz wz = 0
  · obtain ⟨h1, h2⟩ := bo_to hz
    rw [hz] at kb
    by_cases hk : okW x y
    · have hv := mv_of h1 h2 hk
      have hR : MRes N M lz wz x y = NRes (mxV N M lz wz x y) := by
        funext u blk; unfold MRes; simp [hz, hk]
      rw [hR]
      have k3 := k_total N lz c oa h1.le hl h1.w B w0
      have k4 := k_total M wz d ob h2.le hw h2.w B w0
      rw [show sumTo (wgt lz) N = tW lz N from rfl] at k3
      rw [show sumTo (wgt wz) M = tW wz M from rfl] at k4
      obtain ⟨a1, a2, b1, b2, hs'⟩ := hk
      have ha := hv.a
      have hc := hv.c
      have l1 := h1.le
      have l2 := h2.le
      have p1 := h1.pos
      have pv1 := PV.nil.scl h1 (K := x * tW wz M) (by omega) N (Nat.le_refl _)
      have pv2 := pv1.scl h2 (K := y * tW lz N) (by omega) M (Nat.le_refl _)
      have hW2 : wS (([] ++ scl (x * tW wz M) lz N) ++ scl (y * tW lz N) wz M) (0 + N + M) = mxV N M lz wz x y := funext fun k => by
        rw [wS_scl pv1.len, wS_scl rfl, wS_nil, Int.zero_add]; rfl
      have hpos2 : ∃ k, k < 240 ∧ 0 < wS (([] ++ scl (x * tW wz M) lz N) ++ scl (y * tW lz N) wz M) (0 + N + M) k := by rw [hW2]; exact hv.pos
      have hz2 : ∀ k, 240 ≤ k → mxV N M lz wz x y k = 0 := hv.z
      obtain ⟨hnl, hmp, hq⟩ := nf_len hz2 hv.pos
      have hlen := kpr_wS pv2.sd (0 + N + M) (Nat.le_refl _)
      have kn := fun c a hs hL => k_normal (0 + N + M) c (([] ++ scl (x * tW wz M) lz N) ++ scl (y * tW lz N) wz M) a pv2.len (by omega) (by omega) pv2.sd pv2.w hpos2 B w0 hs hL
      rw [hW2] at hlen kn
      rw [show kp (fun k => mxV N M lz wz x y k / (gcs (mxV N M lz wz x y) 240 : Int)) 240 = kp (nW (mxV N M lz wz x y)) 240 from rfl] at kn
      unfold NRes
      have k2 := fun c oa => k_VB (kpr (mxV N M lz wz x y) 240).length (kp (nW (mxV N M lz wz x y)) 240) c oa (by omega) hnl B w0
      have ks1 := fun b hs hL => k_scale N c 0 0 b lz [] (x * tW wz M) oa none [] hl h1 (by omega) (by decide) rfl .nil B w0 hs hL
      have ks2 := fun cB b oB blkB hr hs hL => k_scale M d (0 + N) cB b wz ([] ++ scl (x * tW wz M) lz N) (y * tW lz N) ob oB blkB hw h2 (by omega) (by omega) pv1.len hr B w0 hs hL
      clear hpos2 hW2 hv hz2 pv1
      have hal := pv2.len
      generalize (kpr (mxV N M lz wz x y) 240).length = m at *
      generalize kp (nW (mxV N M lz wz x y)) 240 = out at *
      generalize nfB (mxV N M lz wz x y) = nb at *
      generalize vbE m out = e at *
      clear pv2 h1 h2 hR
      generalize tW lz N = p at *
      generalize tW wz M = q at *
      generalize ([] ++ scl (x * q) lz N) ++ scl (y * p) wz M = all at *
      by_cases he : e = 0
      · have hnb := hq.2 he
        refine fn_enter Try.func54 rfl Try.ntmps54 (by simp) ?_
        repeat' (first | ((with_reducible apply kF 75); refine sC 75 (kb _ (hL.sub SBt) (hW.sub SBt)) ?_) | ((with_reducible apply kF 77); refine sC 77 (k3 _ (hL.sub SBt)) ?_) | ((with_reducible apply kF 77); refine sC 77 (k4 _ (hW.sub SBt)) ?_) | ((with_reducible apply kT 41); refine sFG (g := 76) (ks1 b hs hL) ?_ (goF rfl); rintro u h' ⟨rfl, oB, cB, blkB, hrB, rfl⟩) | ((with_reducible apply kT 48); refine sFG (g := 76) (ks2 cB b oB blkB hrB hs hW) ?_ (goF rfl); rintro u h' ⟨rfl, oC, cC, blkC, hrC, rfl⟩; obtain ⟨b1, z1, rfl, rfl, _, _⟩ := row_some hrC (by rw [ivs_length]; omega)) | ((with_reducible apply kF 73); refine sN 73 (kn cC _ _ (Sl.own' (.head _))) ?_; rintro u blk ⟨oa2, c2, rfl, hrow⟩) | ((with_reducible apply kF 50); refine sC 50 (k2 c2 oa2 _ ((Sv.row hrow).ints.sub SBt)) ?_) | (with_reducible first | refine c_seq ?_ | refine c_reg ?_ | refine c_region ?_ | refine c_block ?_ | refine c_skip ?_ | refine c_exit ?_ | refine c_ret ?_ | refine s_nil ?_ | refine x_then ?_ | refine x_then_exit ?_ | refine x_then_ret ?_ | refine x_block ?_ | refine x_block_ret ?_ | refine x_block_same ?_ | refine x_block_other (by rfl) ?_ | refine q_nil ?_ | refine k_nil ?_) | ((with_reducible apply kP (.makeFunc _ _ _)); refine sMF ?_) | ((with_reducible apply kG); first | refine gY1 ?_ | refine gN1 ?_ | refine gU1 ?_ | (refine gD1 (fun h => ?_) (fun h => ?_) <;> (try (exfalso; omega))) | refine gB1 (fun h => ?_) (fun h => ?_)) | ((with_reducible apply kN); first | refine stP ?_ | refine stI ?_ | refine st1 ?_ | refine stW ?_) | ((with_reducible apply kP (.alloc _)); refine sA (fun b => ?_)) | ((with_reducible apply kP (.box _ _)); first | refine sBA (fun b => ?_) | refine sB (fun b => ?_)) | ((with_reducible apply kP (.buildSlice _ 1 _)); first | refine sl1A (fun b => ?_) | refine sl1 (fun b => ?_)) | ((with_reducible apply kP (.buildSlice _ 2 _)); refine sl2 (fun b => ?_)) | ((with_reducible apply kP (.buildSlice _ 3 _)); refine sl3 (fun b => ?_)) | ((with_reducible apply kP (.buildSlice _ 4 _)); refine sl4 (fun b => ?_)) | ((with_reducible apply kP (.buildSlice _ 0 _)); refine s_bs0 (scTOf rfl) (zsTOf rfl) (by decide) (fun b => ?_)) | ((with_reducible apply kP (.makeSlice _ _ _)); refine sMk (fun b => ?_)) | ((with_reducible apply kP (.call ⟨.builtin .append, _, _⟩)); refine sAp (fun oa2 c2 blk2 hrow2 => ?_)) | ((with_reducible apply kP _); refine sP ?_) | ((with_reducible apply kP _); refine sX ?_) | ((with_reducible apply kQG); first | refine qY1 ?_ | refine qN1 ?_ | refine qU1 ?_ | (refine qD1 (fun h => ?_) (fun h => ?_) <;> (try (exfalso; omega))) | refine qB1 (fun h => ?_) (fun h => ?_)) | ((with_reducible apply kQP); refine qP ?_) | ((with_reducible apply kQP); refine qX ?_) | ((with_reducible apply kC); first | refine cT ?_ | refine cF ?_ | (refine cI (fun h => ?_) (fun h => ?_) <;> (try (exfalso; omega))) | refine cB (fun h => ?_) (fun h => ?_)) | ((with_reducible apply kR); refine cQ ?_))
        all_goals first
          | exact e_ret2 rfl rfl rfl ⟨_, .inl ⟨hnb, _, _, rfl, hrow⟩, rfl⟩ (List.Sublist.append (.refl _) (.cons _ (.cons _ (.refl _))))
          | (exfalso; omega)
          | trace_state
      · have hnb : ¬ nb := fun h => he (hq.1 h)
        refine fn_enter Try.func54 rfl Try.ntmps54 (by simp) ?_
        repeat' (first | ((with_reducible apply kF 75); refine sC 75 (kb _ (hL.sub SBt) (hW.sub SBt)) ?_) | ((with_reducible apply kF 77); refine sC 77 (k3 _ (hL.sub SBt)) ?_) | ((with_reducible apply kF 77); refine sC 77 (k4 _ (hW.sub SBt)) ?_) | ((with_reducible apply kT 41); refine sFG (g := 76) (ks1 b hs hL) ?_ (goF rfl); rintro u h' ⟨rfl, oB, cB, blkB, hrB, rfl⟩) | ((with_reducible apply kT 48); refine sFG (g := 76) (ks2 cB b oB blkB hrB hs hW) ?_ (goF rfl); rintro u h' ⟨rfl, oC, cC, blkC, hrC, rfl⟩; obtain ⟨b1, z1, rfl, rfl, _, _⟩ := row_some hrC (by rw [ivs_length]; omega)) | ((with_reducible apply kF 73); refine sN 73 (kn cC _ _ (Sl.own' (.head _))) ?_; rintro u blk ⟨oa2, c2, rfl, hrow⟩) | ((with_reducible apply kF 50); refine sC 50 (k2 c2 oa2 _ ((Sv.row hrow).ints.sub SBt)) ?_) | (with_reducible first | refine c_seq ?_ | refine c_reg ?_ | refine c_region ?_ | refine c_block ?_ | refine c_skip ?_ | refine c_exit ?_ | refine c_ret ?_ | refine s_nil ?_ | refine x_then ?_ | refine x_then_exit ?_ | refine x_then_ret ?_ | refine x_block ?_ | refine x_block_ret ?_ | refine x_block_same ?_ | refine x_block_other (by rfl) ?_ | refine q_nil ?_ | refine k_nil ?_) | ((with_reducible apply kP (.makeFunc _ _ _)); refine sMF ?_) | ((with_reducible apply kG); first | refine gY1 ?_ | refine gN1 ?_ | refine gU1 ?_ | (refine gD1 (fun h => ?_) (fun h => ?_) <;> (try (exfalso; omega))) | refine gB1 (fun h => ?_) (fun h => ?_)) | ((with_reducible apply kN); first | refine stP ?_ | refine stI ?_ | refine st1 ?_ | refine stW ?_) | ((with_reducible apply kP (.alloc _)); refine sA (fun b => ?_)) | ((with_reducible apply kP (.box _ _)); first | refine sBA (fun b => ?_) | refine sB (fun b => ?_)) | ((with_reducible apply kP (.buildSlice _ 1 _)); first | refine sl1A (fun b => ?_) | refine sl1 (fun b => ?_)) | ((with_reducible apply kP (.buildSlice _ 2 _)); refine sl2 (fun b => ?_)) | ((with_reducible apply kP (.buildSlice _ 3 _)); refine sl3 (fun b => ?_)) | ((with_reducible apply kP (.buildSlice _ 4 _)); refine sl4 (fun b => ?_)) | ((with_reducible apply kP (.buildSlice _ 0 _)); refine s_bs0 (scTOf rfl) (zsTOf rfl) (by decide) (fun b => ?_)) | ((with_reducible apply kP (.makeSlice _ _ _)); refine sMk (fun b => ?_)) | ((with_reducible apply kP (.call ⟨.builtin .append, _, _⟩)); refine sAp (fun oa2 c2 blk2 hrow2 => ?_)) | ((with_reducible apply kP _); refine sP ?_) | ((with_reducible apply kP _); refine sX ?_) | ((with_reducible apply kQG); first | refine qY1 ?_ | refine qN1 ?_ | refine qU1 ?_ | (refine qD1 (fun h => ?_) (fun h => ?_) <;> (try (exfalso; omega))) | refine qB1 (fun h => ?_) (fun h => ?_)) | ((with_reducible apply kQP); refine qP ?_) | ((with_reducible apply kQP); refine qX ?_) | ((with_reducible apply kC); first | refine cT ?_ | refine cF ?_ | (refine cI (fun h => ?_) (fun h => ?_) <;> (try (exfalso; omega))) | refine cB (fun h => ?_) (fun h => ?_)) | ((with_reducible apply kR); refine cQ ?_))
        all_goals first
          | exact e_ret2 rfl rfl rfl ⟨[], .inr ⟨hnb, rfl, rfl⟩, rfl⟩ (List.Sublist.trans (.cons _ (.cons _ (.refl _))) (List.sublist_append_right _ _))
          | (exfalso; omega)
          | trace_state
    · have hR : MRes N M lz wz x y = fun u blk => u = .tuple #[.slice none 0 0, iv 1] ∧ blk = [] := by
        funext u blk; unfold MRes; simp [hz, hk]
      rw [hR]
      unfold okW at hk
      refine fn_enter Try.func54 rfl Try.ntmps54 (by simp) ?_
      repeat' (first | ((with_reducible apply kF 75); refine sC 75 (kb _ (hL.sub SBt) (hW.sub SBt)) ?_) | (with_reducible first | refine c_seq ?_ | refine c_reg ?_ | refine c_region ?_ | refine c_block ?_ | refine c_skip ?_ | refine c_exit ?_ | refine c_ret ?_ | refine s_nil ?_ | refine x_then ?_ | refine x_then_exit ?_ | refine x_then_ret ?_ | refine x_block ?_ | refine x_block_ret ?_ | refine x_block_same ?_ | refine x_block_other (by rfl) ?_ | refine q_nil ?_ | refine k_nil ?_) | ((with_reducible apply kP (.makeFunc _ _ _)); refine sMF ?_) | ((with_reducible apply kG); first | refine gY1 ?_ | refine gN1 ?_ | refine gU1 ?_ | (refine gD1 (fun h => ?_) (fun h => ?_) <;> (try (exfalso; omega))) | refine gB1 (fun h => ?_) (fun h => ?_)) | ((with_reducible apply kN); first | refine stP ?_ | refine stI ?_ | refine st1 ?_ | refine stW ?_) | ((with_reducible apply kP (.alloc _)); refine sA (fun b => ?_)) | ((with_reducible apply kP (.box _ _)); first | refine sBA (fun b => ?_) | refine sB (fun b => ?_)) | ((with_reducible apply kP (.buildSlice _ 1 _)); first | refine sl1A (fun b => ?_) | refine sl1 (fun b => ?_)) | ((with_reducible apply kP (.buildSlice _ 2 _)); refine sl2 (fun b => ?_)) | ((with_reducible apply kP (.buildSlice _ 3 _)); refine sl3 (fun b => ?_)) | ((with_reducible apply kP (.buildSlice _ 4 _)); refine sl4 (fun b => ?_)) | ((with_reducible apply kP (.buildSlice _ 0 _)); refine s_bs0 (scTOf rfl) (zsTOf rfl) (by decide) (fun b => ?_)) | ((with_reducible apply kP (.makeSlice _ _ _)); refine sMk (fun b => ?_)) | ((with_reducible apply kP (.call ⟨.builtin .append, _, _⟩)); refine sAp (fun oa2 c2 blk2 hrow2 => ?_)) | ((with_reducible apply kP _); refine sP ?_) | ((with_reducible apply kP _); refine sX ?_) | ((with_reducible apply kQG); first | refine qY1 ?_ | refine qN1 ?_ | refine qU1 ?_ | (refine qD1 (fun h => ?_) (fun h => ?_) <;> (try (exfalso; omega))) | refine qB1 (fun h => ?_) (fun h => ?_)) | ((with_reducible apply kQP); refine qP ?_) | ((with_reducible apply kQP); refine qX ?_) | ((with_reducible apply kC); first | refine cT ?_ | refine cF ?_ | (refine cI (fun h => ?_) (fun h => ?_) <;> (try (exfalso; omega))) | refine cB (fun h => ?_) (fun h => ?_)) | ((with_reducible apply kR); refine cQ ?_))
      all_goals first
        | exact e_ret2 rfl rfl rfl ⟨[], ⟨rfl, rfl⟩, rfl⟩ (.refl _)
        | (exfalso; omega)
        | trace_state
  · have hR : MRes N M lz wz x y = fun u blk => u = .tuple #[.slice none 0 0, iv (boE N M lz wz)] ∧ blk = [] := by
      funext u blk; unfold MRes; simp [hz]
    rw [hR]
    generalize boE N M lz wz = e at *
    refine fn_enter Try.func54 rfl Try.ntmps54 (by simp) ?_
    repeat' (first | ((with_reducible apply kF 75); refine sC 75 (kb _ (hL.sub SBt) (hW.sub SBt)) ?_) | (with_reducible first | refine c_seq ?_ | refine c_reg ?_ | refine c_region ?_ | refine c_block ?_ | refine c_skip ?_ | refine c_exit ?_ | refine c_ret ?_ | refine s_nil ?_ | refine x_then ?_ | refine x_then_exit ?_ | refine x_then_ret ?_ | refine x_block ?_ | refine x_block_ret ?_ | refine x_block_same ?_ | refine x_block_other (by rfl) ?_ | refine q_nil ?_ | refine k_nil ?_) | ((with_reducible apply kP (.makeFunc _ _ _)); refine sMF ?_) | ((with_reducible apply kG); first | refine gY1 ?_ | refine gN1 ?_ | refine gU1 ?_ | (refine gD1 (fun h => ?_) (fun h => ?_) <;> (try (exfalso; omega))) | refine gB1 (fun h => ?_) (fun h => ?_)) | ((with_reducible apply kN); first | refine stP ?_ | refine stI ?_ | refine st1 ?_ | refine stW ?_) | ((with_reducible apply kP (.alloc _)); refine sA (fun b => ?_)) | ((with_reducible apply kP (.box _ _)); first | refine sBA (fun b => ?_) | refine sB (fun b => ?_)) | ((with_reducible apply kP (.buildSlice _ 1 _)); first | refine sl1A (fun b => ?_) | refine sl1 (fun b => ?_)) | ((with_reducible apply kP (.buildSlice _ 2 _)); refine sl2 (fun b => ?_)) | ((with_reducible apply kP (.buildSlice _ 3 _)); refine sl3 (fun b => ?_)) | ((with_reducible apply kP (.buildSlice _ 4 _)); refine sl4 (fun b => ?_)) | ((with_reducible apply kP (.buildSlice _ 0 _)); refine s_bs0 (scTOf rfl) (zsTOf rfl) (by decide) (fun b => ?_)) | ((with_reducible apply kP (.makeSlice _ _ _)); refine sMk (fun b => ?_)) | ((with_reducible apply kP (.call ⟨.builtin .append, _, _⟩)); refine sAp (fun oa2 c2 blk2 hrow2 => ?_)) | ((with_reducible apply kP _); refine sP ?_) | ((with_reducible apply kP _); refine sX ?_) | ((with_reducible apply kQG); first | refine qY1 ?_ | refine qN1 ?_ | refine qU1 ?_ | (refine qD1 (fun h => ?_) (fun h => ?_) <;> (try (exfalso; omega))) | refine qB1 (fun h => ?_) (fun h => ?_)) | ((with_reducible apply kQP); refine qP ?_) | ((with_reducible apply kQP); refine qX ?_) | ((with_reducible apply kC); first | refine cT ?_ | refine cF ?_ | (refine cI (fun h => ?_) (fun h => ?_) <;> (try (exfalso; omega))) | refine cB (fun h => ?_) (fun h => ?_)) | ((with_reducible apply kR); refine cQ ?_))
    all_goals first
      | exact e_ret2 rfl rfl rfl ⟨[], ⟨rfl, rfl⟩, rfl⟩ (.refl _)
      | trace_state
end Go.Proofs.Ytphobgibcpmgdaa
