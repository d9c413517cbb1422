/- DyeBlends holds: which blends are valid, and their normal forms, in new memory. -/
import Derived.Test.YtphobgibcpmgdaaMD48
import Derived.Test.YtphobgibcpmgdaaMD13
import Derived.Test.YtphobgibcpmgdaaMD49
import Derived.Test.YtphobgibcpmgdaaMClose2
namespace Go.Proofs.Ytphobgibcpmgdaa
open Go.RowKit Go.ChangeShapes Go.WideShapes Go.ChangeAt

/- Where there is no normal blend. -/
set_option maxRecDepth 100000 in
set_option maxHeartbeats 8000000 in
theorem l_blends0 (oa : Option Addr) (N c : Nat) (lz : List Int) (hl : lz.length = N * 4) (hN : N ≤ 100) (h1 : ¬ 100 < N) (e : Int) (he : e ≠ 0) (B : Nat) (w0 : Wd) (hs : HS) (hL : Sl B w0 hs oa lz)
    (kN : ∀ c oa hs, Sl B w0 hs oa lz → Fn Try.prog 48 #[.slice oa N c] B w0 hs (fun u h => u = .tuple #[.slice none 0 0, iv e] ∧ h = hs))
    (rN : ∀ hs, Sl B w0 hs oa lz → Fn Try.prog 49 #[.slice oa N c] B w0 hs (fun u h => u = .tuple #[.slice none 0 0, iv e] ∧ h = hs)) :
    Fn Try.prog 14 #[.slice oa N c] B w0 hs (fun v _ => v = .bool true) := by
  have m1 := k_many N c oa B w0
  rw [show decide (100 < N) = false from by simp [h1]] at m1
  have kc := r_copied N c lz oa hl (by omega) B w0
  have v1 := k_VB N lz c oa hN hl B w0
  have v2 := r_VB N lz c oa hN hl B w0
  have ks := fun oa' c' hs hL' hL => r_Same N N c' c lz lz oa' oa hl hl (by omega) (by omega) B w0 hs hL' hL
  rw [show decide (lz = lz) = true from by simp] at ks
  have ka := fun hs => r_Same 0 0 0 0 [] [] none none rfl rfl (by decide) (by decide) B w0 hs Sl.nil Sl.nil
  rw [show decide (([] : List Int) = []) = true from by simp] at ka
  have kA : ∀ hs, Fn Try.prog 48 #[.slice none 0 0] B w0 hs (fun u h => u = .tuple #[.slice none 0 0, iv 1] ∧ h = hs) := fun hs => (k_Normal 0 0 [] none rfl (by decide) B w0 hs Sl.nil).mono fun u h ⟨blk, hR, e⟩ => by
    rcases hR with ⟨h, _⟩ | ⟨_, rfl, rfl⟩
    · exact absurd h (by rw [vb_zero]; decide)
    · exact ⟨rfl, e⟩
  have kp : ∀ hs, Fn Try.prog 53 #[.slice none 0 0] B w0 hs (fun v h => v = .tuple #[] ∧ h = hs) := fun hs => k_spoil 0 0 [] none [] rfl (by decide) .nil B w0 hs
  generalize vbE N lz = e2 at *
  refine fn_enter Try.func14 rfl Try.ntmps14 (by simp) ?_
  repeat' (first | ((with_reducible apply kF 43); refine sC 43 (m1 _) ?_) | ((with_reducible apply kF 24); refine sC 24 (k_known B w0 _) ?_) | ((with_reducible apply kF 47); refine sN 47 (kc _ (hL.sub SBt)) ?_; rintro u blk0 ⟨oa0, c0, rfl, hr0⟩) | ((with_reducible apply kF 48); refine sC 48 (kN _ _ _ ((Sv.row hr0).ints.sub SBt)) ?_) | ((with_reducible apply kF 49); refine sC 49 (rN _ (hL.sub SBt)) ?_) | ((with_reducible apply kF 50); refine sC 50 (v1 _ (hL.sub SBt)) ?_) | ((with_reducible apply kF 51); refine sC 51 (v2 _ (hL.sub SBt)) ?_) | ((with_reducible apply kF 52); refine sC 52 (ka _) ?_) | ((with_reducible apply kF 48); refine sC 48 (kA _) ?_) | ((with_reducible apply kF 53); refine sC 53 (kp _) ?_) | ((with_reducible apply kF 52); refine sC 52 (ks oa0 c0 _ ((Sv.row hr0).ints.sub SBt) (hL.sub SBt)) ?_) | (with_reducible first | refine c_seq ?_ | refine c_reg ?_ | refine c_region ?_ | refine c_block ?_ | refine c_skip ?_ | refine c_exit ?_ | refine c_ret ?_ | refine s_nil ?_ | refine x_then ?_ | refine x_then_exit ?_ | refine x_then_ret ?_ | refine x_block ?_ | refine x_block_ret ?_ | refine x_block_same ?_ | refine x_block_other (by rfl) ?_ | refine q_nil ?_ | refine k_nil ?_) | ((with_reducible apply kP (.makeFunc _ _ _)); refine sMF ?_) | ((with_reducible apply kG); first | refine gY1 ?_ | refine gN1 ?_ | refine gU1 ?_ | (refine gD1 (fun h => ?_) (fun h => ?_) <;> (try (exfalso; omega))) | refine gB1 (fun h => ?_) (fun h => ?_)) | ((with_reducible apply kN); first | refine stP ?_ | refine stI ?_ | refine st1 ?_ | refine stW ?_) | ((with_reducible apply kP (.alloc _)); refine sA (fun b => ?_)) | ((with_reducible apply kP (.box _ _)); first | refine sBA (fun b => ?_) | refine sB (fun b => ?_)) | ((with_reducible apply kP (.buildSlice _ 1 _)); first | refine sl1A (fun b => ?_) | refine sl1 (fun b => ?_)) | ((with_reducible apply kP (.buildSlice _ 2 _)); refine sl2 (fun b => ?_)) | ((with_reducible apply kP (.buildSlice _ 3 _)); refine sl3 (fun b => ?_)) | ((with_reducible apply kP (.buildSlice _ 4 _)); refine sl4 (fun b => ?_)) | ((with_reducible apply kP (.buildSlice _ 0 _)); refine s_bs0 (scTOf rfl) (zsTOf rfl) (by decide) (fun b => ?_)) | ((with_reducible apply kP (.makeSlice _ _ _)); refine sMk (fun b => ?_)) | ((with_reducible apply kP (.call ⟨.builtin .append, _, _⟩)); refine sAp (fun oa2 c2 blk2 hrow2 => ?_)) | ((with_reducible apply kP _); refine sP ?_) | ((with_reducible apply kP _); refine sX ?_) | ((with_reducible apply kQG); first | refine qY1 ?_ | refine qN1 ?_ | refine qU1 ?_ | (refine qD1 (fun h => ?_) (fun h => ?_) <;> (try (exfalso; omega))) | refine qB1 (fun h => ?_) (fun h => ?_)) | ((with_reducible apply kQP); refine qP ?_) | ((with_reducible apply kQP); refine qX ?_) | ((with_reducible apply kC); first | refine cT ?_ | refine cF ?_ | (refine cI (fun h => ?_) (fun h => ?_) <;> (try (exfalso; omega))) | refine cB (fun h => ?_) (fun h => ?_)) | ((with_reducible apply kR); refine cQ ?_))
  all_goals first
    | exact e_ret1 rfl rfl rfl (List.Sublist.refl _)
    | exact absurd rfl ‹¬ _ = _›
    | exact absurd rfl ‹_ ≠ _›
    | (exfalso; omega)
    | trace_state
set_option maxRecDepth 100000 in
set_option maxHeartbeats 8000000 in
theorem l_blends (oa : Option Addr) (N c : Nat) (lz : List Int) (hl : lz.length = N * 4) (B : Nat) (w0 : Wd) (hs : HS) (hL : Sl B w0 hs oa lz) : Fn Try.prog 14 #[.slice oa N c] B w0 hs (fun v _ => v = .bool true) := by
  have m1 := k_many N c oa B w0
  by_cases h1 : 100 < N
  · rw [show decide (100 < N) = true from by simp [h1]] at m1
    refine fn_enter Try.func14 rfl Try.ntmps14 (by simp) ?_
    repeat' (first | ((with_reducible apply kF 43); refine sC 43 (m1 _) ?_) | ((with_reducible apply kF 24); refine sC 24 (k_known B w0 _) ?_) | (with_reducible first | refine c_seq ?_ | refine c_reg ?_ | refine c_region ?_ | refine c_block ?_ | refine c_skip ?_ | refine c_exit ?_ | refine c_ret ?_ | refine s_nil ?_ | refine x_then ?_ | refine x_then_exit ?_ | refine x_then_ret ?_ | refine x_block ?_ | refine x_block_ret ?_ | refine x_block_same ?_ | refine x_block_other (by rfl) ?_ | refine q_nil ?_ | refine k_nil ?_) | ((with_reducible apply kP (.makeFunc _ _ _)); refine sMF ?_) | ((with_reducible apply kG); first | refine gY1 ?_ | refine gN1 ?_ | refine gU1 ?_ | (refine gD1 (fun h => ?_) (fun h => ?_) <;> (try (exfalso; omega))) | refine gB1 (fun h => ?_) (fun h => ?_)) | ((with_reducible apply kN); first | refine stP ?_ | refine stI ?_ | refine st1 ?_ | refine stW ?_) | ((with_reducible apply kP (.alloc _)); refine sA (fun b => ?_)) | ((with_reducible apply kP (.box _ _)); first | refine sBA (fun b => ?_) | refine sB (fun b => ?_)) | ((with_reducible apply kP (.buildSlice _ 1 _)); first | refine sl1A (fun b => ?_) | refine sl1 (fun b => ?_)) | ((with_reducible apply kP (.buildSlice _ 2 _)); refine sl2 (fun b => ?_)) | ((with_reducible apply kP (.buildSlice _ 3 _)); refine sl3 (fun b => ?_)) | ((with_reducible apply kP (.buildSlice _ 4 _)); refine sl4 (fun b => ?_)) | ((with_reducible apply kP (.buildSlice _ 0 _)); refine s_bs0 (scTOf rfl) (zsTOf rfl) (by decide) (fun b => ?_)) | ((with_reducible apply kP (.makeSlice _ _ _)); refine sMk (fun b => ?_)) | ((with_reducible apply kP (.call ⟨.builtin .append, _, _⟩)); refine sAp (fun oa2 c2 blk2 hrow2 => ?_)) | ((with_reducible apply kP _); refine sP ?_) | ((with_reducible apply kP _); refine sX ?_) | ((with_reducible apply kQG); first | refine qY1 ?_ | refine qN1 ?_ | refine qU1 ?_ | (refine qD1 (fun h => ?_) (fun h => ?_) <;> (try (exfalso; omega))) | refine qB1 (fun h => ?_) (fun h => ?_)) | ((with_reducible apply kQP); refine qP ?_) | ((with_reducible apply kQP); refine qX ?_) | ((with_reducible apply kC); first | refine cT ?_ | refine cF ?_ | (refine cI (fun h => ?_) (fun h => ?_) <;> (try (exfalso; omega))) | refine cB (fun h => ?_) (fun h => ?_)) | ((with_reducible apply kR); refine cQ ?_))
    all_goals first
      | exact e_ret1 rfl rfl rfl SCt
      | trace_state
  · rw [show decide (100 < N) = false from by simp [h1]] at m1
    have hN : N ≤ 100 := by omega
    have kc := r_copied N c lz oa hl (by omega) B w0
    have v1 := k_VB N lz c oa hN hl B w0
    have v2 := r_VB N lz c oa hN hl B w0
    have kN := fun c oa hs hL => k_Normal N c lz oa hl hN B w0 hs hL
    have rN := r_Normal N c lz oa hl hN B w0
    have ks := fun oa' c' hs hL' hL => r_Same N N c' c lz lz oa' oa hl hl (by omega) (by omega) B w0 hs hL' hL
    rw [show decide (lz = lz) = true from by simp] at ks
    by_cases hv : vbE N lz = 0
    · have hb := VB.of hv
      have hz : ∀ k, 240 ≤ k → wS lz N k = 0 := fun k hk => wS_out hb.sd hk N (Nat.le_refl _)
      have h0 : ∀ k, 0 ≤ wS lz N k := fun k => (hb.wS k).1
      have hp := vb_some hb
      by_cases hnf : nfB (wS lz N)
      · have kN' : ∀ c oa hs, Sl B w0 hs oa lz → Fn Try.prog 48 #[.slice oa N c] B w0 hs (fun u h => ∃ blk, (∃ oa c, u = .tuple #[.slice oa (kpr (wS lz N) 240).length c, iv 0] ∧ RowOk oa c 4 (ivs (kp (nW (wS lz N)) 240)) blk) ∧ h = blk ++ hs) := fun c oa hs hL => (kN c oa hs hL).mono fun u h ⟨blk, hR, e⟩ => by
          refine ⟨blk, ?_, e⟩
          rcases hR with ⟨_, ⟨_, h⟩ | ⟨h, _⟩⟩ | ⟨h, _⟩
          · exact h
          · exact absurd hnf h
          · exact absurd hv h
        have rN' : ∀ hs, Sl B w0 hs oa lz → Fn Try.prog 49 #[.slice oa N c] B w0 hs (fun u h => ∃ blk, (∃ oa c, u = .tuple #[.slice oa (kpr (wS lz N) 240).length c, iv 0] ∧ RowOk oa c 4 (ivs (kp (nW (wS lz N)) 240)) blk) ∧ h = blk ++ hs) := fun hs hL => (rN hs hL).mono fun u h ⟨blk, hR, e⟩ => by
          refine ⟨blk, ?_, e⟩
          rcases hR with ⟨_, ⟨_, h⟩ | ⟨h, _⟩⟩ | ⟨h, _⟩
          · exact h
          · exact absurd hnf h
          · exact absurd hv h
        have hlen := kpr_wS hb.sd N (Nat.le_refl _)
        have hnl : (kp (nW (wS lz N)) 240).length = (kpr (wS lz N) 240).length * 4 := by rw [kp_len, kpr_nW hz]
        have hwk : wS (kp (nW (wS lz N)) 240) (kpr (wS lz N) 240).length = nW (wS lz N) := by rw [← kpr_nW hz]; exact wS_kp (nW_z hz) (nW_0 h0)
        have hmp : 0 < (kpr (wS lz N) 240).length := by
          obtain ⟨k0, h1, h2⟩ := hp
          exact List.length_pos_of_mem (List.mem_filter.2 ⟨List.mem_range.2 h1, by simpa using h2⟩)
        have hve : vbE (kpr (wS lz N) 240).length (kp (nW (wS lz N)) 240) = 0 := by
          rw [vb_kp (by rw [kpr_nW hz]) hmp]; exact hnf
        have kA : ∀ c oa hs, Sl B w0 hs oa (kp (nW (wS lz N)) 240) → Fn Try.prog 48 #[.slice oa (kpr (wS lz N) 240).length c] B w0 hs (fun u h => ∃ blk, (∃ oa c, u = .tuple #[.slice oa (kpr (wS lz N) 240).length c, iv 0] ∧ RowOk oa c 4 (ivs (kp (nW (wS lz N)) 240)) blk) ∧ h = blk ++ hs) := fun c oa hs hL => (k_Normal _ c _ oa hnl (by omega) B w0 hs hL).mono fun u h ⟨blk, hR, e⟩ => by
          refine ⟨blk, ?_, e⟩
          unfold NRm NRes at hR
          rw [hwk, hve, nW_nW h0 hp, kpr_nW hz] at hR
          rcases hR with ⟨_, ⟨_, h⟩ | ⟨h, _⟩⟩ | ⟨h, _⟩
          · exact h
          · exact absurd ((nfB_nW hz h0 hp).2 hnf) h
          · exact absurd rfl h
        rw [hv] at v1 v2
        generalize (kpr (wS lz N) 240).length = m at *
        generalize kp (nW (wS lz N)) 240 = out at *
        have hm : m ≤ 1000 := by omega
        have ka := fun oa ob c d hs hL hW => r_Same m m c d out out oa ob hnl hnl hm hm B w0 hs hL hW
        rw [show decide (out = out) = true from by simp] at ka
        clear kN rN hz h0 hp hnf hwk hve hb hv
        refine fn_enter Try.func14 rfl Try.ntmps14 (by simp) ?_
        repeat' (first | ((with_reducible apply kF 43); refine sC 43 (m1 _) ?_) | ((with_reducible apply kF 24); refine sC 24 (k_known B w0 _) ?_) | ((with_reducible apply kF 47); refine sN 47 (kc _ (hL.sub SBt)) ?_; rintro u blk0 ⟨oa0, c0, rfl, hr0⟩) | ((with_reducible apply kF 48); refine sN 48 (kN' _ _ _ ((Sv.row hr0).ints.sub SBt)) ?_; rintro u blkA ⟨oaA, cA, rfl, hrA⟩) | ((with_reducible apply kF 49); refine sN 49 (rN' _ (hL.sub SBt)) ?_; rintro u blkB ⟨oaB, cB, rfl, hrB⟩) | ((with_reducible apply kF 50); refine sC 50 (v1 _ (hL.sub SBt)) ?_) | ((with_reducible apply kF 51); refine sC 51 (v2 _ (hL.sub SBt)) ?_) | ((with_reducible apply kF 52); refine sC 52 (ka oaA oaB cA cB _ ((Sv.row hrA).ints.sub SBt) ((Sv.row hrB).ints.sub SBt)) ?_) | ((with_reducible apply kF 48); refine sN 48 (kA _ _ _ ((Sv.row hrA).ints.sub SBt)) ?_; rintro u blkC ⟨oaC, cC, rfl, hrC⟩) | ((with_reducible apply kF 52); refine sC 52 (ka oaC oaB cC cB _ ((Sv.row hrC).ints.sub SBt) ((Sv.row hrB).ints.sub SBt)) ?_) | ((with_reducible apply kF 53); refine s_take (goTOf rfl) rfl (by with_reducible ((repeat (first | exact Take.head | exact Take.one | apply Take.tail | apply Take.app)); done)) (k_spoil m cA out oaA blkA hnl hm hrA B w0 _) (by decide) ?_) | ((with_reducible apply kF 52); refine sC 52 (ks oa0 c0 _ ((Sv.row hr0).ints.sub SBt) (hL.sub SBt)) ?_) | (with_reducible first | refine c_seq ?_ | refine c_reg ?_ | refine c_region ?_ | refine c_block ?_ | refine c_skip ?_ | refine c_exit ?_ | refine c_ret ?_ | refine s_nil ?_ | refine x_then ?_ | refine x_then_exit ?_ | refine x_then_ret ?_ | refine x_block ?_ | refine x_block_ret ?_ | refine x_block_same ?_ | refine x_block_other (by rfl) ?_ | refine q_nil ?_ | refine k_nil ?_) | ((with_reducible apply kP (.makeFunc _ _ _)); refine sMF ?_) | ((with_reducible apply kG); first | refine gY1 ?_ | refine gN1 ?_ | refine gU1 ?_ | (refine gD1 (fun h => ?_) (fun h => ?_) <;> (try (exfalso; omega))) | refine gB1 (fun h => ?_) (fun h => ?_)) | ((with_reducible apply kN); first | refine stP ?_ | refine stI ?_ | refine st1 ?_ | refine stW ?_) | ((with_reducible apply kP (.alloc _)); refine sA (fun b => ?_)) | ((with_reducible apply kP (.box _ _)); first | refine sBA (fun b => ?_) | refine sB (fun b => ?_)) | ((with_reducible apply kP (.buildSlice _ 1 _)); first | refine sl1A (fun b => ?_) | refine sl1 (fun b => ?_)) | ((with_reducible apply kP (.buildSlice _ 2 _)); refine sl2 (fun b => ?_)) | ((with_reducible apply kP (.buildSlice _ 3 _)); refine sl3 (fun b => ?_)) | ((with_reducible apply kP (.buildSlice _ 4 _)); refine sl4 (fun b => ?_)) | ((with_reducible apply kP (.buildSlice _ 0 _)); refine s_bs0 (scTOf rfl) (zsTOf rfl) (by decide) (fun b => ?_)) | ((with_reducible apply kP (.makeSlice _ _ _)); refine sMk (fun b => ?_)) | ((with_reducible apply kP (.call ⟨.builtin .append, _, _⟩)); refine sAp (fun oa2 c2 blk2 hrow2 => ?_)) | ((with_reducible apply kP _); refine sP ?_) | ((with_reducible apply kP _); refine sX ?_) | ((with_reducible apply kQG); first | refine qY1 ?_ | refine qN1 ?_ | refine qU1 ?_ | (refine qD1 (fun h => ?_) (fun h => ?_) <;> (try (exfalso; omega))) | refine qB1 (fun h => ?_) (fun h => ?_)) | ((with_reducible apply kQP); refine qP ?_) | ((with_reducible apply kQP); refine qX ?_) | ((with_reducible apply kC); first | refine cT ?_ | refine cF ?_ | (refine cI (fun h => ?_) (fun h => ?_) <;> (try (exfalso; omega))) | refine cB (fun h => ?_) (fun h => ?_)) | ((with_reducible apply kR); refine cQ ?_))
        all_goals first
          | exact e_ret1 rfl rfl rfl (List.Sublist.refl _)
          | exact absurd rfl ‹¬ _ = _›
          | exact absurd rfl ‹_ ≠ _›
          | trace_state
      · refine l_blends0 oa N c lz hl hN h1 4 (by decide) B w0 hs hL (fun c oa hs hL => (kN c oa hs hL).mono fun u h ⟨blk, hR, e⟩ => ?_) (fun hs hL => (rN hs hL).mono fun u h ⟨blk, hR, e⟩ => ?_)
        all_goals
          rcases hR with ⟨_, ⟨h, _⟩ | ⟨_, rfl, rfl⟩⟩ | ⟨h, _⟩
          · exact absurd h hnf
          · exact ⟨rfl, e⟩
          · exact absurd hv h
    · refine l_blends0 oa N c lz hl hN h1 (vbE N lz) hv B w0 hs hL (fun c oa hs hL => (kN c oa hs hL).mono fun u h ⟨blk, hR, e⟩ => ?_) (fun hs hL => (rN hs hL).mono fun u h ⟨blk, hR, e⟩ => ?_)
      all_goals
        rcases hR with ⟨h, _⟩ | ⟨_, rfl, rfl⟩
        · exact absurd h hv
        · exact ⟨rfl, e⟩
set_option maxRecDepth 100000 in
theorem blends_holds_lifted (os : Os) (started : os.Started) (H : Type) (enc : TypeId × Value → H) :
    ReturnsInHanded {} Try.checked os 14 .any (Rows.dyeBlendsSpec.pre6 enc Try.prog Try.f14 Rows.dyeBlendsRow.domain false) (Rows.dyeBlendsSpec.post enc Try.prog Try.f14 false true false false) := by
  refine returnsInHanded_of_change (C := Try.checked) ownK started (by kernel_rfl) Try.func14
    (ChangeSpec.witness6 (enc := enc) (C := Try.checked) false ⟨#[], #[.slice none 0 0], []⟩ 8 (by kernel_rfl) (by kernel_rfl) (by kernel_rfl) (by kernel_rfl)) ?_
  intro W base args ds gs before hval0 hW hcnd _
  have hval : ∀ (j : Nat) t v, Try.f14.params[j]? = some t → args[j]? = some v → Value.okWide Try.prog W .any base t v := hval0
  have hW' := hW
  obtain ⟨p, q, hA0, hV, rfl, hfz, hnd⟩ := hW
  have hA : DataW.TrodAll enc Try.prog W 0 (fun _ => true) true Try.f14.params.toList args.toList ds p := hA0
  rw [Try.params14] at hA hval
  obtain ⟨v0, d_0, rfl, rfl, h0⟩ := trodAll_one hA
  obtain ⟨oa0, n0, c0, l0, rfl, e0, m0, g0, I0, s0⟩ := arg_sl (m := 5) (k := 4) (by kernel_rfl) (hval 0 _ v0 rfl rfl) h0
  refine (law_calls (l_blends _ _ _ _ e0 _ ⟨W, []⟩ [] s0)).mono fun e W' ⟨he, hb⟩ => ⟨.bool true, he, ?_⟩
  exact law_post rfl ⟨⟨by kernel_rfl, of_decide_eq_true (by kernel_rfl)⟩, trivial⟩ rfl hW' ⟨rfl, rfl, rfl⟩ hb
theorem blends_holds : Rows.DyeBlendsSaid :=
  OpenClaim.holds_of_wide 14 Try.f14 rfl rfl rfl rfl rfl rfl rfl ⟨rfl, rfl, rfl, rfl, rfl⟩ rfl rfl rfl rfl rfl (by kernel_rfl) Try.func14 (by kernel_rfl)
    (of_decide_eq_true (by kernel_rfl)) (by unfold Func.isWrapper; first | (rw [if_pos (by decide +kernel)]; kernel_rfl) | (rw [if_neg (by decide +kernel)]; exact ⟨rfl, rfl⟩))
    (fun os started H enc _ => blends_holds_lifted os started H enc)
#print axioms blends_holds
end Go.Proofs.Ytphobgibcpmgdaa
