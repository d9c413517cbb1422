/- DyeMixes holds: the normal blend that a mixture is, whichever blend comes first. -/
import Derived.Test.YtphobgibcpmgdaaMD52
import Derived.Test.YtphobgibcpmgdaaMD13
import Derived.Test.YtphobgibcpmgdaaMD49
import Derived.Test.YtphobgibcpmgdaaMCloseX
namespace Go.Proofs.Ytphobgibcpmgdaa
open Go.RowKit Go.ChangeShapes Go.WideShapes Go.ChangeAt

theorem mxV_sym (N M : Nat) (lz wz : List Int) (x y : Int) : mxV M N wz lz y x = mxV N M lz wz x y := funext fun k => Int.add_comm _ _
theorem okW_sym {x y : Int} : okW y x ↔ okW x y := by unfold okW; omega
theorem bo_sym {N M : Nat} {lz wz : List Int} : boE M N wz lz = 0 ↔ boE N M lz wz = 0 := by
  unfold boE
  split <;> split <;> simp_all
theorem m_tup {N M : Nat} {lz wz : List Int} {x y : Int} {u : Value} {blk : HS} (h : MRes N M lz wz x y u blk) : ∃ oa n c e, u = .tuple #[.slice oa n c, iv e] := by
  rcases h with ⟨_, _, h⟩ | ⟨_, _, h, _⟩ | ⟨_, h, _⟩
  · exact nres_tup h
  · exact ⟨_, _, _, _, h⟩
  · exact ⟨_, _, _, _, h⟩
set_option maxRecDepth 100000 in
set_option maxHeartbeats 8000000 in
theorem l_mixes (oa ob : Option Addr) (N M c d : Nat) (lz wz : List Int) (x y : Int) (hl : lz.length = N * 4) (hw : wz.length = M * 4) (B : Nat) (w0 : Wd) (hs : HS) (hL : Sl B w0 hs oa lz) (hW : Sl B w0 hs ob wz) : Fn Try.prog 15 #[.agg #[.slice oa N c, .slice ob M d, iv x, iv y]] B w0 hs (fun v _ => v = .bool true) := by
  have m1 := k_many N c oa B w0
  have m2 := k_many M d ob B w0
  by_cases h1 : 100 < N
  · rw [show decide (100 < N) = true from by simp [h1]] at m1
    refine fn_enter Try.func15 rfl Try.ntmps15 (by simp) ?_
    repeat' (first | ((with_reducible apply kF 43); refine sC 43 (m1 _) ?_) | ((with_reducible apply kF 24); refine sC 24 (k_known B w0 _) ?_) | (with_reducible first | refine c_seq ?_ | refine c_reg ?_ | refine c_region ?_ | refine c_block ?_ | refine c_skip ?_ | refine c_exit ?_ | refine c_ret ?_ | refine s_nil ?_ | refine x_then ?_ | refine x_then_exit ?_ | refine x_then_ret ?_ | refine x_block ?_ | refine x_block_ret ?_ | refine x_block_same ?_ | refine x_block_other (by rfl) ?_ | refine q_nil ?_ | refine k_nil ?_) | ((with_reducible apply kP (.makeFunc _ _ _)); refine sMF ?_) | ((with_reducible apply kG); first | refine gY1 ?_ | refine gN1 ?_ | refine gU1 ?_ | (refine gD1 (fun h => ?_) (fun h => ?_) <;> (try (exfalso; omega))) | refine gB1 (fun h => ?_) (fun h => ?_)) | ((with_reducible apply kN); first | refine stP ?_ | refine stI ?_ | refine st1 ?_ | refine stW ?_) | ((with_reducible apply kP (.alloc _)); refine sA (fun b => ?_)) | ((with_reducible apply kP (.box _ _)); first | refine sBA (fun b => ?_) | refine sB (fun b => ?_)) | ((with_reducible apply kP (.buildSlice _ 1 _)); first | refine sl1A (fun b => ?_) | refine sl1 (fun b => ?_)) | ((with_reducible apply kP (.buildSlice _ 2 _)); refine sl2 (fun b => ?_)) | ((with_reducible apply kP (.buildSlice _ 3 _)); refine sl3 (fun b => ?_)) | ((with_reducible apply kP (.buildSlice _ 4 _)); refine sl4 (fun b => ?_)) | ((with_reducible apply kP (.buildSlice _ 0 _)); refine s_bs0 (scTOf rfl) (zsTOf rfl) (by decide) (fun b => ?_)) | ((with_reducible apply kP (.makeSlice _ _ _)); refine sMk (fun b => ?_)) | ((with_reducible apply kP (.call ⟨.builtin .append, _, _⟩)); refine sAp (fun oa2 c2 blk2 hrow2 => ?_)) | ((with_reducible apply kP _); refine sP ?_) | ((with_reducible apply kP _); refine sX ?_) | ((with_reducible apply kQG); first | refine qY1 ?_ | refine qN1 ?_ | refine qU1 ?_ | (refine qD1 (fun h => ?_) (fun h => ?_) <;> (try (exfalso; omega))) | refine qB1 (fun h => ?_) (fun h => ?_)) | ((with_reducible apply kQP); refine qP ?_) | ((with_reducible apply kQP); refine qX ?_) | ((with_reducible apply kC); first | refine cT ?_ | refine cF ?_ | (refine cI (fun h => ?_) (fun h => ?_) <;> (try (exfalso; omega))) | refine cB (fun h => ?_) (fun h => ?_)) | ((with_reducible apply kR); refine cQ ?_))
    all_goals first
      | exact e_ret1 rfl rfl rfl SCt
      | trace_state
  · rw [show decide (100 < N) = false from by simp [h1]] at m1
    by_cases h2 : 100 < M
    · rw [show decide (100 < M) = true from by simp [h2]] at m2
      refine fn_enter Try.func15 rfl Try.ntmps15 (by simp) ?_
      repeat' (first | ((with_reducible apply kF 43); refine sC 43 (m1 _) ?_) | ((with_reducible apply kF 43); refine sC 43 (m2 _) ?_) | ((with_reducible apply kF 24); refine sC 24 (k_known B w0 _) ?_) | (with_reducible first | refine c_seq ?_ | refine c_reg ?_ | refine c_region ?_ | refine c_block ?_ | refine c_skip ?_ | refine c_exit ?_ | refine c_ret ?_ | refine s_nil ?_ | refine x_then ?_ | refine x_then_exit ?_ | refine x_then_ret ?_ | refine x_block ?_ | refine x_block_ret ?_ | refine x_block_same ?_ | refine x_block_other (by rfl) ?_ | refine q_nil ?_ | refine k_nil ?_) | ((with_reducible apply kP (.makeFunc _ _ _)); refine sMF ?_) | ((with_reducible apply kG); first | refine gY1 ?_ | refine gN1 ?_ | refine gU1 ?_ | (refine gD1 (fun h => ?_) (fun h => ?_) <;> (try (exfalso; omega))) | refine gB1 (fun h => ?_) (fun h => ?_)) | ((with_reducible apply kN); first | refine stP ?_ | refine stI ?_ | refine st1 ?_ | refine stW ?_) | ((with_reducible apply kP (.alloc _)); refine sA (fun b => ?_)) | ((with_reducible apply kP (.box _ _)); first | refine sBA (fun b => ?_) | refine sB (fun b => ?_)) | ((with_reducible apply kP (.buildSlice _ 1 _)); first | refine sl1A (fun b => ?_) | refine sl1 (fun b => ?_)) | ((with_reducible apply kP (.buildSlice _ 2 _)); refine sl2 (fun b => ?_)) | ((with_reducible apply kP (.buildSlice _ 3 _)); refine sl3 (fun b => ?_)) | ((with_reducible apply kP (.buildSlice _ 4 _)); refine sl4 (fun b => ?_)) | ((with_reducible apply kP (.buildSlice _ 0 _)); refine s_bs0 (scTOf rfl) (zsTOf rfl) (by decide) (fun b => ?_)) | ((with_reducible apply kP (.makeSlice _ _ _)); refine sMk (fun b => ?_)) | ((with_reducible apply kP (.call ⟨.builtin .append, _, _⟩)); refine sAp (fun oa2 c2 blk2 hrow2 => ?_)) | ((with_reducible apply kP _); refine sP ?_) | ((with_reducible apply kP _); refine sX ?_) | ((with_reducible apply kQG); first | refine qY1 ?_ | refine qN1 ?_ | refine qU1 ?_ | (refine qD1 (fun h => ?_) (fun h => ?_) <;> (try (exfalso; omega))) | refine qB1 (fun h => ?_) (fun h => ?_)) | ((with_reducible apply kQP); refine qP ?_) | ((with_reducible apply kQP); refine qX ?_) | ((with_reducible apply kC); first | refine cT ?_ | refine cF ?_ | (refine cI (fun h => ?_) (fun h => ?_) <;> (try (exfalso; omega))) | refine cB (fun h => ?_) (fun h => ?_)) | ((with_reducible apply kR); refine cQ ?_))
      all_goals first
        | exact e_ret1 rfl rfl rfl SCt
        | trace_state
    · rw [show decide (100 < M) = false from by simp [h2]] at m2
      have k1 := fun hs hL hW => k_Mix N M lz wz x y c d oa ob (by omega) (by omega) hl hw B w0 hs hL hW
      have k2 := fun hs hL hW => r_Mix N M lz wz x y c d oa ob (by omega) (by omega) hl hw B w0 hs hL hW
      have k3 := fun hs hL hW => k_Mix M N wz lz y x d c ob oa (by omega) (by omega) hw hl B w0 hs hL hW
      by_cases hok : boE N M lz wz = 0 ∧ okW x y ∧ nfB (mxV N M lz wz x y)
      · obtain ⟨hz, ho, hn⟩ := hok
        have hz' := bo_sym.2 hz
        have ho' := okW_sym.2 ho
        obtain ⟨v1, v2⟩ := bo_to hz
        have hv := mv_of v1 v2 ho
        have hzz : ∀ k, 240 ≤ k → mxV N M lz wz x y k = 0 := hv.z
        obtain ⟨hnl, hmp, _⟩ := nf_len hzz hv.pos
        have hm0 : (kpr (mxV N M lz wz x y) 240).length ≤ 1000 := by have := kpr_le (mxV N M lz wz x y) 240; omega
        have e1 : ∀ u blk, MRes N M lz wz x y u blk → ∃ oa c, u = .tuple #[.slice oa (kpr (mxV N M lz wz x y) 240).length c, iv 0] ∧ RowOk oa c 4 (ivs (kp (nW (mxV N M lz wz x y)) 240)) blk := fun u blk h => by
          rcases h with ⟨_, _, ⟨_, h⟩ | ⟨h, _⟩⟩ | ⟨_, h, _⟩ | ⟨h, _⟩
          · exact h
          · exact absurd hn h
          · exact absurd ho h
          · exact absurd hz h
        have e3 : ∀ u blk, MRes M N wz lz y x u blk → ∃ oa c, u = .tuple #[.slice oa (kpr (mxV N M lz wz x y) 240).length c, iv 0] ∧ RowOk oa c 4 (ivs (kp (nW (mxV N M lz wz x y)) 240)) blk := fun u blk h => by
          unfold MRes at h
          rw [mxV_sym] at h
          rcases h with ⟨_, _, ⟨_, h⟩ | ⟨h, _⟩⟩ | ⟨_, h, _⟩ | ⟨h, _⟩
          · exact h
          · exact absurd hn h
          · exact absurd ho' h
          · exact absurd hz' h
        generalize (kpr (mxV N M lz wz x y) 240).length = m at *
        generalize kp (nW (mxV N M lz wz x y)) 240 = out at *
        have ka := fun oa ob c d hs hL hW => r_Same m m c d out out oa ob hnl hnl hm0 hm0 B w0 hs hL hW
        rw [show decide (out = out) = true from by simp] at ka
        refine fn_enter Try.func15 rfl Try.ntmps15 (by simp) ?_
        repeat' (first | ((with_reducible apply kF 43); refine sC 43 (m1 _) ?_) | ((with_reducible apply kF 43); refine sC 43 (m2 _) ?_) | ((with_reducible apply kF 24); refine sC 24 (k_known B w0 _) ?_) | ((with_reducible apply kF 54); refine sN 54 (k1 _ (hL.sub SBt) (hW.sub SBt)) ?_; rintro u blkA hu; obtain ⟨oaA, cA, rfl, hrA⟩ := e1 _ _ hu) | ((with_reducible apply kF 55); refine sN 55 (k2 _ (hL.sub SBt) (hW.sub SBt)) ?_; rintro u blkB hu; obtain ⟨oaB, cB, rfl, hrB⟩ := e1 _ _ hu) | ((with_reducible apply kF 52); refine sC 52 (ka oaA oaB cA cB _ ((Sv.row hrA).ints.sub SBt) ((Sv.row hrB).ints.sub SBt)) ?_) | ((with_reducible apply kF 54); refine sN 54 (k3 _ (hW.sub SBt) (hL.sub SBt)) ?_; rintro u blkC hu; obtain ⟨oaC, cC, rfl, hrC⟩ := e3 _ _ hu) | ((with_reducible apply kF 52); refine sC 52 (ka oaA oaC cA cC _ ((Sv.row hrA).ints.sub SBt) ((Sv.row hrC).ints.sub SBt)) ?_) | (with_reducible first | refine c_seq ?_ | refine c_reg ?_ | refine c_region ?_ | refine c_block ?_ | refine c_skip ?_ | refine c_exit ?_ | refine c_ret ?_ | refine s_nil ?_ | refine x_then ?_ | refine x_then_exit ?_ | refine x_then_ret ?_ | refine x_block ?_ | refine x_block_ret ?_ | refine x_block_same ?_ | refine x_block_other (by rfl) ?_ | refine q_nil ?_ | refine k_nil ?_) | ((with_reducible apply kP (.makeFunc _ _ _)); refine sMF ?_) | ((with_reducible apply kG); first | refine gY1 ?_ | refine gN1 ?_ | refine gU1 ?_ | (refine gD1 (fun h => ?_) (fun h => ?_) <;> (try (exfalso; omega))) | refine gB1 (fun h => ?_) (fun h => ?_)) | ((with_reducible apply kN); first | refine stP ?_ | refine stI ?_ | refine st1 ?_ | refine stW ?_) | ((with_reducible apply kP (.alloc _)); refine sA (fun b => ?_)) | ((with_reducible apply kP (.box _ _)); first | refine sBA (fun b => ?_) | refine sB (fun b => ?_)) | ((with_reducible apply kP (.buildSlice _ 1 _)); first | refine sl1A (fun b => ?_) | refine sl1 (fun b => ?_)) | ((with_reducible apply kP (.buildSlice _ 2 _)); refine sl2 (fun b => ?_)) | ((with_reducible apply kP (.buildSlice _ 3 _)); refine sl3 (fun b => ?_)) | ((with_reducible apply kP (.buildSlice _ 4 _)); refine sl4 (fun b => ?_)) | ((with_reducible apply kP (.buildSlice _ 0 _)); refine s_bs0 (scTOf rfl) (zsTOf rfl) (by decide) (fun b => ?_)) | ((with_reducible apply kP (.makeSlice _ _ _)); refine sMk (fun b => ?_)) | ((with_reducible apply kP (.call ⟨.builtin .append, _, _⟩)); refine sAp (fun oa2 c2 blk2 hrow2 => ?_)) | ((with_reducible apply kP _); refine sP ?_) | ((with_reducible apply kP _); refine sX ?_) | ((with_reducible apply kQG); first | refine qY1 ?_ | refine qN1 ?_ | refine qU1 ?_ | (refine qD1 (fun h => ?_) (fun h => ?_) <;> (try (exfalso; omega))) | refine qB1 (fun h => ?_) (fun h => ?_)) | ((with_reducible apply kQP); refine qP ?_) | ((with_reducible apply kQP); refine qX ?_) | ((with_reducible apply kC); first | refine cT ?_ | refine cF ?_ | (refine cI (fun h => ?_) (fun h => ?_) <;> (try (exfalso; omega))) | refine cB (fun h => ?_) (fun h => ?_)) | ((with_reducible apply kR); refine cQ ?_))
        all_goals first
          | exact e_ret1 rfl rfl rfl (List.Sublist.refl _)
          | exact absurd rfl ‹¬ _ = _›
          | exact absurd rfl ‹_ ≠ _›
          | trace_state
      · have e1 : ∃ e : Int, e ≠ 0 ∧ ∀ u blk, MRes N M lz wz x y u blk → u = .tuple #[.slice none 0 0, iv e] ∧ blk = [] := by
          by_cases hz : boE N M lz wz = 0
          · by_cases ho : okW x y
            · have hn : ¬ nfB (mxV N M lz wz x y) := fun h => hok ⟨hz, ho, h⟩
              refine ⟨4, by decide, fun u blk h => ?_⟩
              rcases h with ⟨_, _, ⟨h, _⟩ | ⟨_, h⟩⟩ | ⟨_, h, _⟩ | ⟨h, _⟩
              · exact absurd h hn
              · exact h
              · exact absurd ho h
              · exact absurd hz h
            · refine ⟨1, by decide, fun u blk h => ?_⟩
              rcases h with ⟨_, h, _⟩ | ⟨_, _, h⟩ | ⟨h, _⟩
              · exact absurd h ho
              · exact h
              · exact absurd hz h
          · refine ⟨boE N M lz wz, hz, fun u blk h => ?_⟩
            rcases h with ⟨h, _⟩ | ⟨h, _⟩ | ⟨_, h⟩
            · exact absurd h hz
            · exact absurd h hz
            · exact h
        obtain ⟨e, he, e1⟩ := e1
        have ka := fun hs => r_Same 0 0 0 0 [] [] none none rfl rfl (by decide) (by decide) B w0 hs Sl.nil Sl.nil
        rw [show decide (([] : List Int) = []) = true from by simp] at ka
        have k1' : ∀ hs, Sl B w0 hs oa lz → Sl B w0 hs ob wz → Fn Try.prog 54 #[.slice oa N c, iv x, .slice ob M d, iv y] B w0 hs (fun u h => u = .tuple #[.slice none 0 0, iv e] ∧ h = hs) := fun hs hL hW => (k1 hs hL hW).mono fun u h ⟨blk, hR, hh⟩ => by
          obtain ⟨rfl, rfl⟩ := e1 _ _ hR; exact ⟨rfl, hh⟩
        have k2' : ∀ hs, Sl B w0 hs oa lz → Sl B w0 hs ob wz → Fn Try.prog 55 #[.slice oa N c, iv x, .slice ob M d, iv y] B w0 hs (fun u h => u = .tuple #[.slice none 0 0, iv e] ∧ h = hs) := fun hs hL hW => (k2 hs hL hW).mono fun u h ⟨blk, hR, hh⟩ => by
          obtain ⟨rfl, rfl⟩ := e1 _ _ hR; exact ⟨rfl, hh⟩
        refine fn_enter Try.func15 rfl Try.ntmps15 (by simp) ?_
        repeat' (first | ((with_reducible apply kF 43); refine sC 43 (m1 _) ?_) | ((with_reducible apply kF 43); refine sC 43 (m2 _) ?_) | ((with_reducible apply kF 24); refine sC 24 (k_known B w0 _) ?_) | ((with_reducible apply kF 54); refine sC 54 (k1' _ (hL.sub SBt) (hW.sub SBt)) ?_) | ((with_reducible apply kF 55); refine sC 55 (k2' _ (hL.sub SBt) (hW.sub SBt)) ?_) | ((with_reducible apply kF 52); refine sC 52 (ka _) ?_) | ((with_reducible apply kF 54); refine sN 54 (k3 _ (hW.sub SBt) (hL.sub SBt)) ?_; rintro u blkC hu; obtain ⟨oaC, nC, cC, eC, rfl⟩ := m_tup hu) | (with_reducible first | refine c_seq ?_ | refine c_reg ?_ | refine c_region ?_ | refine c_block ?_ | refine c_skip ?_ | refine c_exit ?_ | refine c_ret ?_ | refine s_nil ?_ | refine x_then ?_ | refine x_then_exit ?_ | refine x_then_ret ?_ | refine x_block ?_ | refine x_block_ret ?_ | refine x_block_same ?_ | refine x_block_other (by rfl) ?_ | refine q_nil ?_ | refine k_nil ?_) | ((with_reducible apply kP (.makeFunc _ _ _)); refine sMF ?_) | ((with_reducible apply kG); first | refine gY1 ?_ | refine gN1 ?_ | refine gU1 ?_ | (refine gD1 (fun h => ?_) (fun h => ?_) <;> (try (exfalso; omega))) | refine gB1 (fun h => ?_) (fun h => ?_)) | ((with_reducible apply kN); first | refine stP ?_ | refine stI ?_ | refine st1 ?_ | refine stW ?_) | ((with_reducible apply kP (.alloc _)); refine sA (fun b => ?_)) | ((with_reducible apply kP (.box _ _)); first | refine sBA (fun b => ?_) | refine sB (fun b => ?_)) | ((with_reducible apply kP (.buildSlice _ 1 _)); first | refine sl1A (fun b => ?_) | refine sl1 (fun b => ?_)) | ((with_reducible apply kP (.buildSlice _ 2 _)); refine sl2 (fun b => ?_)) | ((with_reducible apply kP (.buildSlice _ 3 _)); refine sl3 (fun b => ?_)) | ((with_reducible apply kP (.buildSlice _ 4 _)); refine sl4 (fun b => ?_)) | ((with_reducible apply kP (.buildSlice _ 0 _)); refine s_bs0 (scTOf rfl) (zsTOf rfl) (by decide) (fun b => ?_)) | ((with_reducible apply kP (.makeSlice _ _ _)); refine sMk (fun b => ?_)) | ((with_reducible apply kP (.call ⟨.builtin .append, _, _⟩)); refine sAp (fun oa2 c2 blk2 hrow2 => ?_)) | ((with_reducible apply kP _); refine sP ?_) | ((with_reducible apply kP _); refine sX ?_) | ((with_reducible apply kQG); first | refine qY1 ?_ | refine qN1 ?_ | refine qU1 ?_ | (refine qD1 (fun h => ?_) (fun h => ?_) <;> (try (exfalso; omega))) | refine qB1 (fun h => ?_) (fun h => ?_)) | ((with_reducible apply kQP); refine qP ?_) | ((with_reducible apply kQP); refine qX ?_) | ((with_reducible apply kC); first | refine cT ?_ | refine cF ?_ | (refine cI (fun h => ?_) (fun h => ?_) <;> (try (exfalso; omega))) | refine cB (fun h => ?_) (fun h => ?_)) | ((with_reducible apply kR); refine cQ ?_))
        all_goals first
          | exact e_ret1 rfl rfl rfl (List.Sublist.refl _)
          | exact absurd rfl ‹¬ _ = _›
          | exact absurd rfl ‹_ ≠ _›
          | (exfalso; omega)
          | trace_state
set_option maxRecDepth 100000 in
theorem mixes_holds_lifted (os : Os) (started : os.Started) (H : Type) (enc : TypeId × Value → H) :
    ReturnsInHanded {} Try.checked os 15 .any (Rows.dyeMixesSpec.pre6 enc Try.prog Try.f15 Rows.dyeMixesRow.domain false) (Rows.dyeMixesSpec.post enc Try.prog Try.f15 false true false false) := by
  refine returnsInHanded_of_change (C := Try.checked) ownK started (by kernel_rfl) Try.func15
    (ChangeSpec.witness6 (enc := enc) (C := Try.checked) false ⟨#[], #[.agg #[.slice none 0 0, .slice none 0 0, .int .i64 0, .int .i64 0]], []⟩ 8 (by kernel_rfl) (by kernel_rfl) (by kernel_rfl) (by kernel_rfl)) ?_
  intro W base args ds gs before hval0 hW hcnd _
  have hval : ∀ (j : Nat) t v, Try.f15.params[j]? = some t → args[j]? = some v → Value.okWide Try.prog W .any base t v := hval0
  have hW' := hW
  obtain ⟨p, q, hA0, hV, rfl, hfz, hnd⟩ := hW
  have hA : DataW.TrodAll enc Try.prog W 0 (fun _ => true) true Try.f15.params.toList args.toList ds p := hA0
  rw [Try.params15] at hA hval
  obtain ⟨v0, d_0, rfl, rfl, h0⟩ := trodAll_one hA
  obtain ⟨oa0, ob0, n0, m0, c0, d0, r0, g0, x0, y0, rfl, e0, f0, I0, J0, s0, t0⟩ := arg_mixture (k := 4) (j := 4) (by kernel_rfl) (hval 0 _ v0 rfl rfl) h0
  refine (law_calls (l_mixes _ _ _ _ _ _ _ _ _ _ e0 f0 _ ⟨W, []⟩ [] s0 t0)).mono fun e W' ⟨he, hb⟩ => ⟨.bool true, he, ?_⟩
  exact law_post rfl ⟨⟨by kernel_rfl, of_decide_eq_true (by kernel_rfl)⟩, trivial⟩ rfl hW' ⟨rfl, rfl, rfl⟩ hb
theorem mixes_holds : Rows.DyeMixesSaid :=
  OpenClaim.holds_of_wide 15 Try.f15 rfl rfl rfl rfl rfl rfl rfl ⟨rfl, rfl, rfl, rfl, rfl⟩ rfl rfl rfl rfl rfl (by kernel_rfl) Try.func15 (by kernel_rfl)
    (of_decide_eq_true (by kernel_rfl)) (by unfold Func.isWrapper; first | (rw [if_pos (by decide +kernel)]; kernel_rfl) | (rw [if_neg (by decide +kernel)]; exact ⟨rfl, rfl⟩))
    (fun os started H enc _ => mixes_holds_lifted os started H enc)
#print axioms mixes_holds
end Go.Proofs.Ytphobgibcpmgdaa
