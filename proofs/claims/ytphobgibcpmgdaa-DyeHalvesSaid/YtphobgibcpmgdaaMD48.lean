/- Normal: the program's and the reference's. -/
import Derived.Test.YtphobgibcpmgdaaMD47
namespace Go.Proofs.Ytphobgibcpmgdaa
open Go.RowKit

/-- What Normal gives: the normal blend in new memory, or an error. -/
def NRm (N : Nat) (lz : List Int) (u : Value) (blk : HS) : Prop :=
  (vbE N lz = 0 ∧ NRes (wS lz N) u blk) ∨ (vbE N lz ≠ 0 ∧ u = .tuple #[.slice none 0 0, iv (vbE N lz)] ∧ blk = [])
theorem nres_tup {V : Nat → Int} {u : Value} {blk : HS} (h : NRes V u blk) : ∃ oa n c e, u = .tuple #[.slice oa n c, iv e] := by
  rcases h with ⟨_, oa, c, h, _⟩ | ⟨_, h, _⟩
  · exact ⟨_, _, _, _, h⟩
  · exact ⟨_, _, _, _, h⟩
set_option maxRecDepth 100000 in
set_option maxHeartbeats 8000000 in
theorem k_Normal (N c : Nat) (lz : List Int) (oa : Option Addr) (hl : lz.length = N * 4) (hN : N ≤ 100) (B : Nat) (w0 : Wd) (hs : HS) (hL : Sl B w0 hs oa lz) :
    Fn Try.prog 48 #[.slice oa N c] B w0 hs (fun u h => ∃ blk, NRm N lz u blk ∧ h = blk ++ hs) := by
  have k1 := k_VB N lz c oa hN hl B w0
  by_cases hv : vbE N lz = 0
  · have hb := VB.of hv
    have hoa : oa.isSome = true := hL.any (i := 0) (by have := hb.pos; omega)
    obtain ⟨a, rfl⟩ := Option.isSome_iff_exists.1 hoa
    have kn := k_normal N c lz a hl hb.pos (by have := hb.le; omega) hb.sd (fun i hi => by have := hb.w i hi; omega) (vb_some hb) B w0
    have hz : ∀ k, 240 ≤ k → wS lz N k = 0 := fun k hk => wS_out hb.sd hk N (Nat.le_refl _)
    have hlen := kpr_wS hb.sd N (Nat.le_refl _)
    have hle := hb.le
    have hpos : 0 < (kpr (wS lz N) 240).length := by
      obtain ⟨k0, h1, h2⟩ := vb_some hb
      exact List.length_pos_of_mem (List.mem_filter.2 ⟨List.mem_range.2 h1, by simpa using h2⟩)
    have hnl : (kp (nW (wS lz N)) 240).length = (kpr (wS lz N) 240).length * 4 := by rw [kp_len, kpr_nW hz]
    have hq : nfB (wS lz N) ↔ vbE (kpr (wS lz N) 240).length (kp (nW (wS lz N)) 240) = 0 := by
      rw [vb_kp (by rw [kpr_nW hz]) hpos]; rfl
    have hkn : kp (fun k => wS lz N k / (gcs (wS lz N) 240 : Int)) 240 = kp (nW (wS lz N)) 240 := rfl
    rw [hkn] at kn
    have hR : NRm N lz = NRes (wS lz N) := by
      funext u blk; unfold NRm; simp [hv]
    rw [hR]
    unfold NRes
    rw [hv] at k1
    have k2 := fun c oa => k_VB (kpr (wS lz N) 240).length (kp (nW (wS lz N)) 240) c oa (by omega) hnl B w0
    generalize (kpr (wS lz N) 240).length = m at *
    generalize kp (nW (wS lz N)) 240 = out at *
    generalize vbE m out = e at *
    by_cases he : e = 0
    · have hnb := hq.2 he
      refine fn_enter Try.func48 rfl Try.ntmps48 (by simp) ?_
      repeat' (first | ((with_reducible apply kF 50); refine sC 50 (k1 _ (hL.sub SBt)) ?_) | ((with_reducible apply kF 73); refine sN 73 (kn _ (hL.sub SBt)) ?_; rintro u blk ⟨oa2, c2, rfl, hrow⟩) | ((with_reducible apply kF 50); refine sC 50 (k2 c2 oa2 _ ((Sv.row hrow).ints.sub SBt)) ?_) | (with_reducible first | refine c_seq ?_ | refine c_reg ?_ | refine c_region ?_ | refine c_block ?_ | refine c_skip ?_ | refine c_exit ?_ | refine c_ret ?_ | refine s_nil ?_ | refine x_then ?_ | refine x_then_exit ?_ | refine x_then_ret ?_ | refine x_block ?_ | refine x_block_ret ?_ | refine x_block_same ?_ | refine x_block_other (by rfl) ?_ | refine q_nil ?_ | refine k_nil ?_) | ((with_reducible apply kP (.makeFunc _ _ _)); refine sMF ?_) | ((with_reducible apply kG); first | refine gY1 ?_ | refine gN1 ?_ | refine gU1 ?_ | (refine gD1 (fun h => ?_) (fun h => ?_) <;> (try (exfalso; omega))) | refine gB1 (fun h => ?_) (fun h => ?_)) | ((with_reducible apply kN); first | refine stP ?_ | refine stI ?_ | refine st1 ?_ | refine stW ?_) | ((with_reducible apply kP (.alloc _)); refine sA (fun b => ?_)) | ((with_reducible apply kP (.box _ _)); first | refine sBA (fun b => ?_) | refine sB (fun b => ?_)) | ((with_reducible apply kP (.buildSlice _ 1 _)); first | refine sl1A (fun b => ?_) | refine sl1 (fun b => ?_)) | ((with_reducible apply kP (.buildSlice _ 2 _)); refine sl2 (fun b => ?_)) | ((with_reducible apply kP (.buildSlice _ 3 _)); refine sl3 (fun b => ?_)) | ((with_reducible apply kP (.buildSlice _ 4 _)); refine sl4 (fun b => ?_)) | ((with_reducible apply kP (.buildSlice _ 0 _)); refine s_bs0 (scTOf rfl) (zsTOf rfl) (by decide) (fun b => ?_)) | ((with_reducible apply kP (.makeSlice _ _ _)); refine sMk (fun b => ?_)) | ((with_reducible apply kP (.call ⟨.builtin .append, _, _⟩)); refine sAp (fun oa2 c2 blk2 hrow2 => ?_)) | ((with_reducible apply kP _); refine sP ?_) | ((with_reducible apply kP _); refine sX ?_) | ((with_reducible apply kQG); first | refine qY1 ?_ | refine qN1 ?_ | refine qU1 ?_ | (refine qD1 (fun h => ?_) (fun h => ?_) <;> (try (exfalso; omega))) | refine qB1 (fun h => ?_) (fun h => ?_)) | ((with_reducible apply kQP); refine qP ?_) | ((with_reducible apply kQP); refine qX ?_) | ((with_reducible apply kC); first | refine cT ?_ | refine cF ?_ | (refine cI (fun h => ?_) (fun h => ?_) <;> (try (exfalso; omega))) | refine cB (fun h => ?_) (fun h => ?_)) | ((with_reducible apply kR); refine cQ ?_))
      all_goals first
        | exact e_ret2 rfl rfl rfl ⟨_, .inl ⟨hnb, _, _, rfl, hrow⟩, rfl⟩ SCt
        | trace_state
    · have hnb : ¬ nfB (wS lz N) := fun h => he (hq.1 h)
      refine fn_enter Try.func48 rfl Try.ntmps48 (by simp) ?_
      repeat' (first | ((with_reducible apply kF 50); refine sC 50 (k1 _ (hL.sub SBt)) ?_) | ((with_reducible apply kF 73); refine sN 73 (kn _ (hL.sub SBt)) ?_; rintro u blk ⟨oa2, c2, rfl, hrow⟩) | ((with_reducible apply kF 50); refine sC 50 (k2 c2 oa2 _ ((Sv.row hrow).ints.sub SBt)) ?_) | (with_reducible first | refine c_seq ?_ | refine c_reg ?_ | refine c_region ?_ | refine c_block ?_ | refine c_skip ?_ | refine c_exit ?_ | refine c_ret ?_ | refine s_nil ?_ | refine x_then ?_ | refine x_then_exit ?_ | refine x_then_ret ?_ | refine x_block ?_ | refine x_block_ret ?_ | refine x_block_same ?_ | refine x_block_other (by rfl) ?_ | refine q_nil ?_ | refine k_nil ?_) | ((with_reducible apply kP (.makeFunc _ _ _)); refine sMF ?_) | ((with_reducible apply kG); first | refine gY1 ?_ | refine gN1 ?_ | refine gU1 ?_ | (refine gD1 (fun h => ?_) (fun h => ?_) <;> (try (exfalso; omega))) | refine gB1 (fun h => ?_) (fun h => ?_)) | ((with_reducible apply kN); first | refine stP ?_ | refine stI ?_ | refine st1 ?_ | refine stW ?_) | ((with_reducible apply kP (.alloc _)); refine sA (fun b => ?_)) | ((with_reducible apply kP (.box _ _)); first | refine sBA (fun b => ?_) | refine sB (fun b => ?_)) | ((with_reducible apply kP (.buildSlice _ 1 _)); first | refine sl1A (fun b => ?_) | refine sl1 (fun b => ?_)) | ((with_reducible apply kP (.buildSlice _ 2 _)); refine sl2 (fun b => ?_)) | ((with_reducible apply kP (.buildSlice _ 3 _)); refine sl3 (fun b => ?_)) | ((with_reducible apply kP (.buildSlice _ 4 _)); refine sl4 (fun b => ?_)) | ((with_reducible apply kP (.buildSlice _ 0 _)); refine s_bs0 (scTOf rfl) (zsTOf rfl) (by decide) (fun b => ?_)) | ((with_reducible apply kP (.makeSlice _ _ _)); refine sMk (fun b => ?_)) | ((with_reducible apply kP (.call ⟨.builtin .append, _, _⟩)); refine sAp (fun oa2 c2 blk2 hrow2 => ?_)) | ((with_reducible apply kP _); refine sP ?_) | ((with_reducible apply kP _); refine sX ?_) | ((with_reducible apply kQG); first | refine qY1 ?_ | refine qN1 ?_ | refine qU1 ?_ | (refine qD1 (fun h => ?_) (fun h => ?_) <;> (try (exfalso; omega))) | refine qB1 (fun h => ?_) (fun h => ?_)) | ((with_reducible apply kQP); refine qP ?_) | ((with_reducible apply kQP); refine qX ?_) | ((with_reducible apply kC); first | refine cT ?_ | refine cF ?_ | (refine cI (fun h => ?_) (fun h => ?_) <;> (try (exfalso; omega))) | refine cB (fun h => ?_) (fun h => ?_)) | ((with_reducible apply kR); refine cQ ?_))
      all_goals first
        | exact e_ret2 rfl rfl rfl ⟨[], .inr ⟨hnb, rfl, rfl⟩, rfl⟩ (List.sublist_append_right _ _)
        | trace_state
  · have hR : NRm N lz = fun u blk => u = .tuple #[.slice none 0 0, iv (vbE N lz)] ∧ blk = [] := by
      funext u blk; unfold NRm; simp [hv]
    rw [hR]
    generalize vbE N lz = e at *
    refine fn_enter Try.func48 rfl Try.ntmps48 (by simp) ?_
    repeat' (first | ((with_reducible apply kF 50); refine sC 50 (k1 _ (hL.sub SBt)) ?_) | (with_reducible first | refine c_seq ?_ | refine c_reg ?_ | refine c_region ?_ | refine c_block ?_ | refine c_skip ?_ | refine c_exit ?_ | refine c_ret ?_ | refine s_nil ?_ | refine x_then ?_ | refine x_then_exit ?_ | refine x_then_ret ?_ | refine x_block ?_ | refine x_block_ret ?_ | refine x_block_same ?_ | refine x_block_other (by rfl) ?_ | refine q_nil ?_ | refine k_nil ?_) | ((with_reducible apply kP (.makeFunc _ _ _)); refine sMF ?_) | ((with_reducible apply kG); first | refine gY1 ?_ | refine gN1 ?_ | refine gU1 ?_ | (refine gD1 (fun h => ?_) (fun h => ?_) <;> (try (exfalso; omega))) | refine gB1 (fun h => ?_) (fun h => ?_)) | ((with_reducible apply kN); first | refine stP ?_ | refine stI ?_ | refine st1 ?_ | refine stW ?_) | ((with_reducible apply kP (.alloc _)); refine sA (fun b => ?_)) | ((with_reducible apply kP (.box _ _)); first | refine sBA (fun b => ?_) | refine sB (fun b => ?_)) | ((with_reducible apply kP (.buildSlice _ 1 _)); first | refine sl1A (fun b => ?_) | refine sl1 (fun b => ?_)) | ((with_reducible apply kP (.buildSlice _ 2 _)); refine sl2 (fun b => ?_)) | ((with_reducible apply kP (.buildSlice _ 3 _)); refine sl3 (fun b => ?_)) | ((with_reducible apply kP (.buildSlice _ 4 _)); refine sl4 (fun b => ?_)) | ((with_reducible apply kP (.buildSlice _ 0 _)); refine s_bs0 (scTOf rfl) (zsTOf rfl) (by decide) (fun b => ?_)) | ((with_reducible apply kP (.makeSlice _ _ _)); refine sMk (fun b => ?_)) | ((with_reducible apply kP (.call ⟨.builtin .append, _, _⟩)); refine sAp (fun oa2 c2 blk2 hrow2 => ?_)) | ((with_reducible apply kP _); refine sP ?_) | ((with_reducible apply kP _); refine sX ?_) | ((with_reducible apply kQG); first | refine qY1 ?_ | refine qN1 ?_ | refine qU1 ?_ | (refine qD1 (fun h => ?_) (fun h => ?_) <;> (try (exfalso; omega))) | refine qB1 (fun h => ?_) (fun h => ?_)) | ((with_reducible apply kQP); refine qP ?_) | ((with_reducible apply kQP); refine qX ?_) | ((with_reducible apply kC); first | refine cT ?_ | refine cF ?_ | (refine cI (fun h => ?_) (fun h => ?_) <;> (try (exfalso; omega))) | refine cB (fun h => ?_) (fun h => ?_)) | ((with_reducible apply kR); refine cQ ?_))
    all_goals first
      | exact e_ret2 rfl rfl rfl ⟨[], ⟨rfl, rfl⟩, rfl⟩ (.refl _)
      | trace_state
theorem wS_nil (k : Nat) : wS [] 0 k = 0 := rfl
set_option maxRecDepth 100000 in
set_option maxHeartbeats 8000000 in
theorem r_Normal (N c : Nat) (lz : List Int) (oa : Option Addr) (hl : lz.length = N * 4) (hN : N ≤ 100) (B : Nat) (w0 : Wd) (hs : HS) (hL : Sl B w0 hs oa lz) :
    Fn Try.prog 49 #[.slice oa N c] B w0 hs (fun u h => ∃ blk, NRm N lz u blk ∧ h = blk ++ hs) := by
  have k1 := r_VB N lz c oa hN hl B w0
  by_cases hv : vbE N lz = 0
  · have hb := VB.of hv
    have hz : ∀ k, 240 ≤ k → wS lz N k = 0 := fun k hk => wS_out hb.sd hk N (Nat.le_refl _)
    have hle := hb.le
    have hR : NRm N lz = NRes (wS lz N) := by
      funext u blk; unfold NRm; simp [hv]
    rw [hR]
    have km := fun hs hL => r_merged N 0 lz [] 1 0 c 0 oa none hb.le (by omega) hl rfl hb.w (fun i hi => absurd hi (Nat.not_lt_zero _)) (wS lz N) (fun k => by rw [wS_nil]; omega) (fun k => by have := hb.wS k; omega) (fun k => by rw [wS_nil]; omega) hz (vb_some hb) B w0 hs hL Sl.nil
    rw [hv] at k1
    refine fn_enter Try.func49 rfl Try.ntmps49 (by simp) ?_
    repeat' (first | ((with_reducible apply kF 51); refine sC 51 (k1 _ (hL.sub SBt)) ?_) | ((with_reducible apply kF 74); refine sN 74 (km _ (hL.sub SBt)) ?_; rintro u blk hu; obtain ⟨oa2, n2, c2, e2, rfl⟩ := nres_tup hu) | (with_reducible first | refine c_seq ?_ | refine c_reg ?_ | refine c_region ?_ | refine c_block ?_ | refine c_skip ?_ | refine c_exit ?_ | refine c_ret ?_ | refine s_nil ?_ | refine x_then ?_ | refine x_then_exit ?_ | refine x_then_ret ?_ | refine x_block ?_ | refine x_block_ret ?_ | refine x_block_same ?_ | refine x_block_other (by rfl) ?_ | refine q_nil ?_ | refine k_nil ?_) | ((with_reducible apply kP (.makeFunc _ _ _)); refine sMF ?_) | ((with_reducible apply kG); first | refine gY1 ?_ | refine gN1 ?_ | refine gU1 ?_ | (refine gD1 (fun h => ?_) (fun h => ?_) <;> (try (exfalso; omega))) | refine gB1 (fun h => ?_) (fun h => ?_)) | ((with_reducible apply kN); first | refine stP ?_ | refine stI ?_ | refine st1 ?_ | refine stW ?_) | ((with_reducible apply kP (.alloc _)); refine sA (fun b => ?_)) | ((with_reducible apply kP (.box _ _)); first | refine sBA (fun b => ?_) | refine sB (fun b => ?_)) | ((with_reducible apply kP (.buildSlice _ 1 _)); first | refine sl1A (fun b => ?_) | refine sl1 (fun b => ?_)) | ((with_reducible apply kP (.buildSlice _ 2 _)); refine sl2 (fun b => ?_)) | ((with_reducible apply kP (.buildSlice _ 3 _)); refine sl3 (fun b => ?_)) | ((with_reducible apply kP (.buildSlice _ 4 _)); refine sl4 (fun b => ?_)) | ((with_reducible apply kP (.buildSlice _ 0 _)); refine s_bs0 (scTOf rfl) (zsTOf rfl) (by decide) (fun b => ?_)) | ((with_reducible apply kP (.makeSlice _ _ _)); refine sMk (fun b => ?_)) | ((with_reducible apply kP (.call ⟨.builtin .append, _, _⟩)); refine sAp (fun oa2 c2 blk2 hrow2 => ?_)) | ((with_reducible apply kP _); refine sP ?_) | ((with_reducible apply kP _); refine sX ?_) | ((with_reducible apply kQG); first | refine qY1 ?_ | refine qN1 ?_ | refine qU1 ?_ | (refine qD1 (fun h => ?_) (fun h => ?_) <;> (try (exfalso; omega))) | refine qB1 (fun h => ?_) (fun h => ?_)) | ((with_reducible apply kQP); refine qP ?_) | ((with_reducible apply kQP); refine qX ?_) | ((with_reducible apply kC); first | refine cT ?_ | refine cF ?_ | (refine cI (fun h => ?_) (fun h => ?_) <;> (try (exfalso; omega))) | refine cB (fun h => ?_) (fun h => ?_)) | ((with_reducible apply kR); refine cQ ?_))
    all_goals first
      | exact e_ret2 rfl rfl rfl ⟨_, hu, rfl⟩ (.refl _)
      | trace_state
  · have hR : NRm N lz = fun u blk => u = .tuple #[.slice none 0 0, iv (vbE N lz)] ∧ blk = [] := by
      funext u blk; unfold NRm; simp [hv]
    rw [hR]
    generalize vbE N lz = e at *
    refine fn_enter Try.func49 rfl Try.ntmps49 (by simp) ?_
    repeat' (first | ((with_reducible apply kF 51); refine sC 51 (k1 _ (hL.sub SBt)) ?_) | (with_reducible first | refine c_seq ?_ | refine c_reg ?_ | refine c_region ?_ | refine c_block ?_ | refine c_skip ?_ | refine c_exit ?_ | refine c_ret ?_ | refine s_nil ?_ | refine x_then ?_ | refine x_then_exit ?_ | refine x_then_ret ?_ | refine x_block ?_ | refine x_block_ret ?_ | refine x_block_same ?_ | refine x_block_other (by rfl) ?_ | refine q_nil ?_ | refine k_nil ?_) | ((with_reducible apply kP (.makeFunc _ _ _)); refine sMF ?_) | ((with_reducible apply kG); first | refine gY1 ?_ | refine gN1 ?_ | refine gU1 ?_ | (refine gD1 (fun h => ?_) (fun h => ?_) <;> (try (exfalso; omega))) | refine gB1 (fun h => ?_) (fun h => ?_)) | ((with_reducible apply kN); first | refine stP ?_ | refine stI ?_ | refine st1 ?_ | refine stW ?_) | ((with_reducible apply kP (.alloc _)); refine sA (fun b => ?_)) | ((with_reducible apply kP (.box _ _)); first | refine sBA (fun b => ?_) | refine sB (fun b => ?_)) | ((with_reducible apply kP (.buildSlice _ 1 _)); first | refine sl1A (fun b => ?_) | refine sl1 (fun b => ?_)) | ((with_reducible apply kP (.buildSlice _ 2 _)); refine sl2 (fun b => ?_)) | ((with_reducible apply kP (.buildSlice _ 3 _)); refine sl3 (fun b => ?_)) | ((with_reducible apply kP (.buildSlice _ 4 _)); refine sl4 (fun b => ?_)) | ((with_reducible apply kP (.buildSlice _ 0 _)); refine s_bs0 (scTOf rfl) (zsTOf rfl) (by decide) (fun b => ?_)) | ((with_reducible apply kP (.makeSlice _ _ _)); refine sMk (fun b => ?_)) | ((with_reducible apply kP (.call ⟨.builtin .append, _, _⟩)); refine sAp (fun oa2 c2 blk2 hrow2 => ?_)) | ((with_reducible apply kP _); refine sP ?_) | ((with_reducible apply kP _); refine sX ?_) | ((with_reducible apply kQG); first | refine qY1 ?_ | refine qN1 ?_ | refine qU1 ?_ | (refine qD1 (fun h => ?_) (fun h => ?_) <;> (try (exfalso; omega))) | refine qB1 (fun h => ?_) (fun h => ?_)) | ((with_reducible apply kQP); refine qP ?_) | ((with_reducible apply kQP); refine qX ?_) | ((with_reducible apply kC); first | refine cT ?_ | refine cF ?_ | (refine cI (fun h => ?_) (fun h => ?_) <;> (try (exfalso; omega))) | refine cB (fun h => ?_) (fun h => ?_)) | ((with_reducible apply kR); refine cQ ?_))
    all_goals first
      | exact e_ret2 rfl rfl rfl ⟨[], ⟨rfl, rfl⟩, rfl⟩ (.refl _)
      | trace_state
end Go.Proofs.Ytphobgibcpmgdaa
