/- HairTexts, walked. -/
import Derived.Test.YtmblgbcipniecaaDoorMX9
namespace Go.Proofs.YtmblgbcipniecaaDoor
open Go.RowKit
theorem pbP_len (t : List UInt8) : (pbP t).1.length ≤ 24 ∧ (pbP t).2.1.length ≤ 24 := by
  have h0 : (([] : List Int), ([] : List Int), (4 : Int)).1.length ≤ 24 ∧ (([] : List Int), ([] : List Int), (4 : Int)).2.1.length ≤ 24 := ⟨Nat.zero_le _, Nat.zero_le _⟩
  unfold pbP
  split
  · exact ⟨Nat.zero_le _, Nat.zero_le _⟩
  · split
    · exact ⟨Nat.zero_le _, Nat.zero_le _⟩
    · rename_i R G _
      split
      · rename_i h
        refine ⟨Nat.le_of_not_lt fun h1 => ?_, Nat.le_of_not_lt fun h1 => ?_⟩
        · have := vErr_long1 (g := G) h1
          rw [h.1] at this; cases this
        · have := vErr_long2 (r := R) h1
          rw [h.1] at this; cases this
      · exact ⟨Nat.zero_le _, Nat.zero_le _⟩
theorem same_tr {r g : List Int} (h : vErr r g = 0) : pErr (trR r g) (trG r g) r g = 0 ∧ sameF (cn (trR r g)) (cn (trG r g)) (cn r) (cn g) := by
  have T := trOk h
  refine ⟨(pErr_two T.v).trans h, fun i hi => ?_⟩
  have e1 : trR r g = trm (cn r) := by unfold trR; rw [if_pos h]
  have e2 : trG r g = trm (cn g) := by unfold trG; rw [if_pos h]
  rw [e1, e2]
  by_cases h0 : i = 0
  · subst h0
    exact ⟨rfl, rfl⟩
  · exact ⟨cn_trm2 _ (by omega) hi, cn_trm2 _ (by omega) hi⟩
theorem nr_ok : ∀ x : Int, 0 ≤ x ∧ x ≤ 1000000 → nrF (Go.Lib.itoa x) = x := fun x h => nr_itoa h
attribute [local irreducible] OpF Ld CellAt Sl Sv
set_option maxRecDepth 100000 in
set_option maxHeartbeats 8000000 in
theorem k_HairTexts (o1 o2 : Option Addr) (c1 c2 : Nat) (r g : List Int) (t : List UInt8) (B : Nat) (w0 : Wd) (hT : TxW B w0) (hs : HS) (h1 : Sl B w0 hs o1 r) (h2 : Sl B w0 hs o2 g) :
    Fn Tryd.prog 3 #[bv o1 o2 r.length g.length c1 c2, sv t] B w0 hs (fun v h => v = .bool true ∧ h = hs) := by
  by_cases hl : 100 < r.length ∨ 100 < g.length
  · have kl := fun hs' => l_long o1 o2 r.length g.length c1 c2 B w0 hs'
    rw [decide_eq_true hl] at kl
    refine fn_enter Tryd.func3 rfl Tryd.ntmps3 (by simp) ?_
    repeat' (first | ((with_reducible apply kP (.box 24 _)); refine sBA (fun b1 => ?_)) | ((with_reducible apply kF 4); refine sC 4 (kl _) ?_) | ((with_reducible apply kF 5); refine sC 5 (l_known B w0 _) ?_) | ((with_reducible apply kP (.call ⟨.builtin .len, _, _⟩)); refine sP ?_ (o_sLen uStr rfl)) | ((with_reducible apply kDP (.call ⟨.builtin .len, _, _⟩)); refine dP ?_ (hX := rfl) (hv := o_sLen uStr rfl)) | ((with_reducible apply kQO (.call ⟨.builtin .len, _, _⟩)); refine qP ?_ (o_sLen uStr rfl)) | (with_reducible first | refine c_seq ?_ | refine c_reg ?_ | refine c_region ?_ | refine c_block ?_ | refine c_skip ?_ | refine c_exit ?_ | refine c_ret ?_ | refine s_nil ?_ | refine x_then ?_ | refine x_then_exit ?_ | refine x_then_ret ?_ | refine x_block ?_ | refine x_block_ret ?_ | refine x_block_same ?_ | refine x_block_other (by first | rfl | decide) ?_ | refine q_nil ?_ | refine k_nil ?_) | ((with_reducible apply kG); first | refine gY1 ?_ | refine gN1 ?_ | refine gU1 ?_ | (refine gD1 (fun h => ?_) (fun h => ?_) <;> (try (exfalso; omega))) | refine gB1 (fun h => ?_) (fun h => ?_)) | ((with_reducible apply kN); first | refine stP ?_ | refine stI ?_ | refine st1 ?_ | refine stW ?_) | ((with_reducible apply kP (.alloc _)); refine sA (fun b => ?_)) | ((with_reducible apply kP (.box _ _)); first | refine sBA (fun b => ?_) | refine sB (fun b => ?_)) | ((with_reducible apply kP _); refine sP ?_) | ((with_reducible apply kP _); refine sX ?_) | ((with_reducible apply kC); first | refine cT ?_ | refine cF ?_ | (refine cI (fun h => ?_) (fun h => ?_) <;> (try (exfalso; omega))) | refine cB (fun h => ?_) (fun h => ?_)))
    all_goals first
      | (exfalso; omega)
      | exact e_ret1 (hs' := hs) rfl rfl ⟨rfl, rfl⟩ (.cons _ (.refl _))
      | trace_state
  · have kl := fun hs' => l_long o1 o2 r.length g.length c1 c2 B w0 hs'
    rw [decide_eq_false hl] at kl
    by_cases ht : 5000 < t.length
    · refine fn_enter Tryd.func3 rfl Tryd.ntmps3 (by simp) ?_
      repeat' (first | ((with_reducible apply kP (.box 24 _)); refine sBA (fun b1 => ?_)) | ((with_reducible apply kF 4); refine sC 4 (kl _) ?_) | ((with_reducible apply kF 5); refine sC 5 (l_known B w0 _) ?_) | ((with_reducible apply kP (.call ⟨.builtin .len, _, _⟩)); refine sP ?_ (o_sLen uStr rfl)) | ((with_reducible apply kDP (.call ⟨.builtin .len, _, _⟩)); refine dP ?_ (hX := rfl) (hv := o_sLen uStr rfl)) | ((with_reducible apply kQO (.call ⟨.builtin .len, _, _⟩)); refine qP ?_ (o_sLen uStr rfl)) | (with_reducible first | refine c_seq ?_ | refine c_reg ?_ | refine c_region ?_ | refine c_block ?_ | refine c_skip ?_ | refine c_exit ?_ | refine c_ret ?_ | refine s_nil ?_ | refine x_then ?_ | refine x_then_exit ?_ | refine x_then_ret ?_ | refine x_block ?_ | refine x_block_ret ?_ | refine x_block_same ?_ | refine x_block_other (by first | rfl | decide) ?_ | refine q_nil ?_ | refine k_nil ?_) | ((with_reducible apply kG); first | refine gY1 ?_ | refine gN1 ?_ | refine gU1 ?_ | (refine gD1 (fun h => ?_) (fun h => ?_) <;> (try (exfalso; omega))) | refine gB1 (fun h => ?_) (fun h => ?_)) | ((with_reducible apply kN); first | refine stP ?_ | refine stI ?_ | refine st1 ?_ | refine stW ?_) | ((with_reducible apply kP (.alloc _)); refine sA (fun b => ?_)) | ((with_reducible apply kP (.box _ _)); first | refine sBA (fun b => ?_) | refine sB (fun b => ?_)) | ((with_reducible apply kP _); refine sP ?_) | ((with_reducible apply kP _); refine sX ?_) | ((with_reducible apply kC); first | refine cT ?_ | refine cF ?_ | (refine cI (fun h => ?_) (fun h => ?_) <;> (try (exfalso; omega))) | refine cB (fun h => ?_) (fun h => ?_)))
      all_goals first
        | (exfalso; omega)
        | exact e_ret1 (hs' := hs) rfl rfl ⟨rfl, rfl⟩ (.cons _ (.refl _))
        | trace_state
    · have kf1 := fun hs' (h : hs.Sublist hs') => h_Format o1 o2 c1 c2 r g B w0 hT hs' (h1.sub h) (h2.sub h)
      have kf2 := fun hs' (h : hs.Sublist hs') => r_Format o1 o2 c1 c2 r g B w0 hs' (h1.sub h) (h2.sub h)
      have kp1 := fun hs' => h_Parse t (by omega) B w0 hT hs'
      have kp2 := fun hs' => r_Parse t (by omega) B w0 hs'
      rw [← pb_eq nr_ok] at kp2
      obtain ⟨l1, l2⟩ := pbP_len t
      generalize pbP t = p at *
      obtain ⟨R, G, E⟩ := p
      dsimp only at l1 l2 kp1 kp2
      unfold fmV at kf1 kf2
      have kq := fun hs' (o3 o4 o5 o6 : Option Addr) (c3 c4 c5 c6 : Nat) => r_equal o3 o4 o5 o6 c3 c4 c5 c6 R G R G (by omega) (by omega) B w0 hs'
      rw [decide_eq_true ⟨rfl, rfl⟩] at kq
      by_cases hv : vErr r g = 0
      · rw [if_pos hv] at kf1 kf2
        rw [hv] at kf1 kf2
        have T := trOk hv
        have hfl := fmtT_len T.nR T.nG (trR_len r g) (trG_len r g)
        have kp3 := fun hs' => h_Parse (fmtT (trR r g) (trG r g)) (by omega) B w0 hT hs'
        rw [pbP_fmt hv] at kp3
        dsimp only at kp3
        obtain ⟨e1, e2⟩ := same_tr hv
        have ks := fun hs' (o3 o4 : Option Addr) (c3 c4 : Nat) => h_Same o3 o4 o1 o2 c3 c4 c1 c2 (trR r g) (trG r g) r g B w0 hs'
        rw [e1, decide_eq_true ⟨rfl, e2⟩] at ks
        generalize fmtT (trR r g) (trG r g) = F at *
        refine fn_enter Tryd.func3 rfl Tryd.ntmps3 (by simp) ?_
        repeat' (first | ((with_reducible apply kP (.box 24 _)); refine sBA (fun b1 => ?_)) | ((with_reducible apply kP (.alloc 24)); refine sA (fun b4 => ?_)) | ((with_reducible apply kN); refine stW ?_ (hf := flat_cons rfl (flat1 rfl))) | ((with_reducible apply kF 4); refine sC 4 (kl _) ?_) | ((with_reducible apply kF 5); refine sC 5 (l_known B w0 _) ?_) | ((with_reducible apply kP (.call ⟨.builtin .len, _, _⟩)); refine sP ?_ (o_sLen uStr rfl)) | ((with_reducible apply kDP (.call ⟨.builtin .len, _, _⟩)); refine dP ?_ (hX := rfl) (hv := o_sLen uStr rfl)) | ((with_reducible apply kQO (.call ⟨.builtin .len, _, _⟩)); refine qP ?_ (o_sLen uStr rfl)) | ((with_reducible apply kF 6); refine sC 6 (kf1 _ SBt) ?_) | ((with_reducible apply kF 7); refine sC 7 (kf2 _ SBt) ?_) | ((with_reducible apply kF 8); refine sR 8 (kp1 _) ?_; rintro v7 h7 ⟨blk7, hN7, rfl⟩; obtain ⟨o3, o4, c3, c4, rfl, s3, s4, _⟩ := hN7.use; clear hN7) | ((with_reducible apply kF 8); refine sR 8 (kp3 _) ?_; rintro v7 h7 ⟨blk7, hN7, rfl⟩; obtain ⟨o7, o8, c7, c8, rfl, s7, s8, _⟩ := hN7.use; clear hN7) | ((with_reducible apply kF 9); refine sR 9 (kp2 _) ?_; rintro v7 h7 ⟨blk7, hN7, rfl⟩; obtain ⟨o5, o6, c5, c6, rfl, s5, s6, _⟩ := hN7.use; clear hN7) | ((with_reducible apply kP (.binOp .neq 9 _ _ _)); refine sP ?_ (o_sNeqF rfl rfl rfl)) | ((with_reducible apply kDP (.binOp .neq 9 _ _ _)); refine dP ?_ (hX := rfl) (hv := o_sNeqF rfl rfl rfl)) | ((with_reducible apply kQO (.binOp .neq 9 _ _ _)); refine qP ?_ (o_sNeqF rfl rfl rfl)) | ((with_reducible apply kF 10); refine sC 10 (kq _ o3 o4 o5 o6 c3 c4 c5 c6 ((s3 B w0).sub SBt) ((s4 B w0).sub SBt) ((s5 B w0).sub SBt) ((s6 B w0).sub SBt)) ?_) | ((with_reducible apply kF 11); refine sC 11 (ks _ o7 o8 c7 c8 ((s7 B w0).sub SBt) ((s8 B w0).sub SBt) (h1.sub SBt) (h2.sub SBt)) ?_) | (with_reducible first | refine c_seq ?_ | refine c_reg ?_ | refine c_region ?_ | refine c_block ?_ | refine c_skip ?_ | refine c_exit ?_ | refine c_ret ?_ | refine s_nil ?_ | refine x_then ?_ | refine x_then_exit ?_ | refine x_then_ret ?_ | refine x_block ?_ | refine x_block_ret ?_ | refine x_block_same ?_ | refine x_block_other (by first | rfl | decide) ?_ | refine q_nil ?_ | refine k_nil ?_) | ((with_reducible apply kG); first | refine gY1 ?_ | refine gN1 ?_ | refine gU1 ?_ | (refine gD1 (fun h => ?_) (fun h => ?_) <;> (try (exfalso; omega))) | refine gB1 (fun h => ?_) (fun h => ?_)) | ((with_reducible apply kN); first | refine stP ?_ | refine stI ?_ | refine st1 ?_ | refine stW ?_) | ((with_reducible apply kP (.alloc _)); refine sA (fun b => ?_)) | ((with_reducible apply kP (.box _ _)); first | refine sBA (fun b => ?_) | refine sB (fun b => ?_)) | ((with_reducible apply kP _); refine sP ?_) | ((with_reducible apply kP _); refine sX ?_) | ((with_reducible apply kC); first | refine cT ?_ | refine cF ?_ | (refine cI (fun h => ?_) (fun h => ?_) <;> (try (exfalso; omega))) | refine cB (fun h => ?_) (fun h => ?_)))
        all_goals try (exfalso; omega)
        exact e_ret1 (hs' := hs) rfl rfl ⟨rfl, rfl⟩ (.cons _ (sbA (.cons _ (sbA (.cons _ (sbA (.cons _ (.refl _))))))))
      · rw [if_neg hv] at kf1 kf2
        generalize vErr r g = E' at *
        refine fn_enter Tryd.func3 rfl Tryd.ntmps3 (by simp) ?_
        repeat' (first | ((with_reducible apply kP (.box 24 _)); refine sBA (fun b1 => ?_)) | ((with_reducible apply kP (.alloc 24)); refine sA (fun b4 => ?_)) | ((with_reducible apply kN); refine stW ?_ (hf := flat_cons rfl (flat1 rfl))) | ((with_reducible apply kF 4); refine sC 4 (kl _) ?_) | ((with_reducible apply kF 5); refine sC 5 (l_known B w0 _) ?_) | ((with_reducible apply kP (.call ⟨.builtin .len, _, _⟩)); refine sP ?_ (o_sLen uStr rfl)) | ((with_reducible apply kDP (.call ⟨.builtin .len, _, _⟩)); refine dP ?_ (hX := rfl) (hv := o_sLen uStr rfl)) | ((with_reducible apply kQO (.call ⟨.builtin .len, _, _⟩)); refine qP ?_ (o_sLen uStr rfl)) | ((with_reducible apply kF 6); refine sC 6 (kf1 _ SBt) ?_) | ((with_reducible apply kF 7); refine sC 7 (kf2 _ SBt) ?_) | ((with_reducible apply kF 8); refine sR 8 (kp1 _) ?_; rintro v7 h7 ⟨blk7, hN7, rfl⟩; obtain ⟨o3, o4, c3, c4, rfl, s3, s4, _⟩ := hN7.use; clear hN7) | ((with_reducible apply kF 9); refine sR 9 (kp2 _) ?_; rintro v7 h7 ⟨blk7, hN7, rfl⟩; obtain ⟨o5, o6, c5, c6, rfl, s5, s6, _⟩ := hN7.use; clear hN7) | ((with_reducible apply kP (.binOp .neq 9 _ _ _)); refine sP ?_ (o_sNeqF rfl rfl rfl)) | ((with_reducible apply kDP (.binOp .neq 9 _ _ _)); refine dP ?_ (hX := rfl) (hv := o_sNeqF rfl rfl rfl)) | ((with_reducible apply kQO (.binOp .neq 9 _ _ _)); refine qP ?_ (o_sNeqF rfl rfl rfl)) | ((with_reducible apply kF 10); refine sC 10 (kq _ o3 o4 o5 o6 c3 c4 c5 c6 ((s3 B w0).sub SBt) ((s4 B w0).sub SBt) ((s5 B w0).sub SBt) ((s6 B w0).sub SBt)) ?_) | (with_reducible first | refine c_seq ?_ | refine c_reg ?_ | refine c_region ?_ | refine c_block ?_ | refine c_skip ?_ | refine c_exit ?_ | refine c_ret ?_ | refine s_nil ?_ | refine x_then ?_ | refine x_then_exit ?_ | refine x_then_ret ?_ | refine x_block ?_ | refine x_block_ret ?_ | refine x_block_same ?_ | refine x_block_other (by first | rfl | decide) ?_ | refine q_nil ?_ | refine k_nil ?_) | ((with_reducible apply kG); first | refine gY1 ?_ | refine gN1 ?_ | refine gU1 ?_ | (refine gD1 (fun h => ?_) (fun h => ?_) <;> (try (exfalso; omega))) | refine gB1 (fun h => ?_) (fun h => ?_)) | ((with_reducible apply kN); first | refine stP ?_ | refine stI ?_ | refine st1 ?_ | refine stW ?_) | ((with_reducible apply kP (.alloc _)); refine sA (fun b => ?_)) | ((with_reducible apply kP (.box _ _)); first | refine sBA (fun b => ?_) | refine sB (fun b => ?_)) | ((with_reducible apply kP _); refine sP ?_) | ((with_reducible apply kP _); refine sX ?_) | ((with_reducible apply kC); first | refine cT ?_ | refine cF ?_ | (refine cI (fun h => ?_) (fun h => ?_) <;> (try (exfalso; omega))) | refine cB (fun h => ?_) (fun h => ?_)))
        all_goals try (exfalso; omega)
        exact e_ret1 (hs' := hs) rfl rfl ⟨rfl, rfl⟩ (.cons _ (sbA (.cons _ (sbA (.cons _ (.refl _))))))
end Go.Proofs.YtmblgbcipniecaaDoor
