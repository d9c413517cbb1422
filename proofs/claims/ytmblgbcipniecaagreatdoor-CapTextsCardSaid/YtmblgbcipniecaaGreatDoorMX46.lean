/- Parse of the reference: the walk. -/
import Derived.Test.YtmblgbcipniecaaGreatDoorMX45
namespace Go.Proofs.YtmblgbcipniecaaGreatDoor
open Go.RowKit
structure PsI where
  i : Nat
  n : Nat
  oP : Option Addr
  cP : Nat
  oS : Option Addr
  cS : Nat
  blk : HS
theorem fcV_D {d : Rd} {rs : List Rp} {oP oS : Option Addr} {cP cS : Nat} {bo ko : HS} (M : RdM d rs oP cP bo oS cS ko) : fcV (rpP rs) d.S (d.S.length / 4) d.E = .tuple #[sv (if vdD d = 0 then tD d else []), iv (vdD d)] := by
  unfold fcV vdD tD
  rw [← M.P, vdC_D, capT_D]
/-- What Parse answers, in memory. -/
def PaA (rd : Rd → List UInt8 → Rd) (t : List UInt8) (u : Value) (blk : HS) : Prop := ∃ v, RdA (paA rd t).1 v blk ∧ u = .tuple #[v, iv (paA rd t).2]
attribute [local irreducible] OpF Ld CellAt Sl Sv pcA
set_option maxRecDepth 100000 in
set_option maxHeartbeats 8000000 in
theorem r_Parse (t : List UInt8) (ht : t.length ≤ 100000) (B : Nat) (w0 : Wd) (hs : HS) :
    Fn Tryz.prog 9 #[sv t] B w0 hs (fun u h => ∃ blk, PaA (rdR nrF) t u blk ∧ h = blk ++ hs) := by
  unfold PaA
  by_cases h0 : 4000 < t.length
  · have e : paA (rdR nrF) t = (rd0, 4) := by unfold paA; rw [if_pos h0]
    rw [e]
    refine fn_enter Tryz.func9 rfl Tryz.ntmps9 (by simp) ?_
    repeat' (first | ((with_reducible apply kP (.alloc 25)); refine sA (fun b2 => ?_)) | ((with_reducible apply kP (.call ⟨.builtin .len, _, _⟩)); refine sP ?_ (o_sLen uStr rfl)) | ((with_reducible apply kDP (.call ⟨.builtin .len, _, _⟩)); refine dP ?_ (hX := rfl) (hv := o_sLen uStr rfl)) | ((with_reducible apply kQO (.call ⟨.builtin .len, _, _⟩)); refine qP ?_ (o_sLen uStr rfl)) | ((with_reducible apply kN); refine stW ?_ (hf := flat_cons rfl (flat2 rfl rfl))) | ((with_reducible apply kRg 8); refine cD [1, 1, 1, 1, 1, 4, 4] ?_) | (with_reducible first | refine c_seq ?_ | refine c_reg ?_ | refine c_region ?_ | refine c_block ?_ | refine c_skip ?_ | refine c_exit ?_ | refine c_ret ?_ | refine s_nil ?_ | refine x_then ?_ | refine x_then_exit ?_ | refine x_then_ret ?_ | refine x_block ?_ | refine x_block_ret ?_ | refine x_block_same ?_ | refine x_block_other (by first | rfl | decide) ?_ | refine q_nil ?_ | refine k_nil ?_) | ((with_reducible apply kG); first | refine gY1 ?_ | refine gN1 ?_ | refine gU1 ?_ | (refine gD1 (fun h => ?_) (fun h => ?_) <;> (try (exfalso; omega))) | refine gB1 (fun h => ?_) (fun h => ?_)) | ((with_reducible apply kN); first | refine stP ?_ | refine stI ?_ | refine st1 ?_ | refine stW ?_) | ((with_reducible apply kP (.alloc _)); refine sA (fun b => ?_)) | ((with_reducible apply kP _); refine sP ?_) | ((with_reducible apply kP _); refine sX ?_) | ((with_reducible apply kC); first | refine cT ?_ | refine cF ?_ | (refine cI (fun h => ?_) (fun h => ?_) <;> (try (exfalso; omega))) | refine cB (fun h => ?_) (fun h => ?_)) | ((with_reducible apply kDN); first | refine dtI ?_ | refine dt1 ?_ | refine dtW ?_) | ((with_reducible apply kDP _); refine dP ?_) | ((with_reducible apply kDP _); refine dX ?_))
    all_goals first
      | (exfalso; omega)
      | exact e_ret2 (hs' := hs) rfl ⟨_, rfl, ld_whole (shTOf rfl) MDt rfl⟩ rfl ⟨[], ⟨_, ⟨0, none, 0, none, 0, RdB.zero, rfl⟩, rfl⟩, rfl⟩ (.cons _ (.refl _))
      | trace_state
  · have kw := fun hs' => x_Words t 10 ht B w0 hs'
    have hWl := wds_len 10 t
    have hwl : ∀ w ∈ wds 10 t, w.length ≤ 4000 := fun w hw => by have := wds_le 10 t w hw; omega
    have hpa : paA (rdR nrF) t = if vdD ((wds 10 t).foldl (rdR nrF) rd0) = 0 ∧ tD ((wds 10 t).foldl (rdR nrF) rd0) = t then ((wds 10 t).foldl (rdR nrF) rd0, 0) else (rd0, 3) := by unfold paA; rw [if_neg h0]
    rw [hpa]
    clear hpa
    generalize wds 10 t = W at *
    refine fn_enter Tryz.func9 rfl Tryz.ntmps9 (by simp) ?_
    repeat' (first | ((with_reducible apply kP (.alloc 25)); refine sA (fun b2 => ?_)) | ((with_reducible apply kP (.call ⟨.builtin .len, _, _⟩)); refine sP ?_ (o_sLen uStr rfl)) | ((with_reducible apply kDP (.call ⟨.builtin .len, _, _⟩)); refine dP ?_ (hX := rfl) (hv := o_sLen uStr rfl)) | ((with_reducible apply kQO (.call ⟨.builtin .len, _, _⟩)); refine qP ?_ (o_sLen uStr rfl)) | ((with_reducible apply kN); refine stW ?_ (hf := flat_cons rfl (flat2 rfl rfl))) | ((with_reducible apply kF 19); refine sR 19 (kw _) ?_; rintro v7 h7 ⟨qW, ⟨oW, cW, hrW, rfl⟩, rfl⟩) | ((with_reducible apply kRg 8); refine cD [1, 1, 1, 1, 1, 4, 4] ?_) | (with_reducible first | refine c_seq ?_ | refine c_reg ?_ | refine c_region ?_ | refine c_block ?_ | refine c_skip ?_ | refine c_exit ?_ | refine c_ret ?_ | refine s_nil ?_ | refine x_then ?_ | refine x_then_exit ?_ | refine x_then_ret ?_ | refine x_block ?_ | refine x_block_ret ?_ | refine x_block_same ?_ | refine x_block_other (by first | rfl | decide) ?_ | refine q_nil ?_ | refine k_nil ?_) | ((with_reducible apply kG); first | refine gY1 ?_ | refine gN1 ?_ | refine gU1 ?_ | (refine gD1 (fun h => ?_) (fun h => ?_) <;> (try (exfalso; omega))) | refine gB1 (fun h => ?_) (fun h => ?_)) | ((with_reducible apply kN); first | refine stP ?_ | refine stI ?_ | refine st1 ?_ | refine stW ?_) | ((with_reducible apply kP (.alloc _)); refine sA (fun b => ?_)) | ((with_reducible apply kP _); refine sP ?_) | ((with_reducible apply kP _); refine sX ?_) | ((with_reducible apply kC); first | refine cT ?_ | refine cF ?_ | (refine cI (fun h => ?_) (fun h => ?_) <;> (try (exfalso; omega))) | refine cB (fun h => ?_) (fun h => ?_)) | ((with_reducible apply kDN); first | refine dtI ?_ | refine dt1 ?_ | refine dtW ?_) | ((with_reducible apply kDP _); refine dP ?_) | ((with_reducible apply kDP _); refine dX ?_))
    all_goals try (exfalso; omega)
    rename_i b3
    have hLW := Sv.rowS (B := B) (w0 := w0) hrW
    refine c_loop (fun s : PsI => [(0, sv t), (2, .pointer (some ⟨b3, 0, none⟩)), (3, iv 0), (4, .pointer (some ⟨b2, 0, none⟩)), (5, .slice oW W.length cW), (6, iv s.i)])
      (fun s : PsI => s.blk ++ (qW ++ ((b2, [.slice s.oP s.n s.cP, .slice s.oS (((W.take s.i).foldl (rdR nrF) rd0).S.length / 4) s.cS, iv ((W.take s.i).foldl (rdR nrF) rd0).E]) :: (b3, [.slice none 0 0, .slice none 0 0, iv 0]) :: hs)))
      (fun s : PsI => s.i ≤ W.length ∧ RdB ((W.take s.i).foldl (rdR nrF) rd0) s.n s.oP s.cP s.oS s.cS s.blk ∧ ((W.take s.i).foldl (rdR nrF) rd0).P.length ≤ s.i ∧ ((W.take s.i).foldl (rdR nrF) rd0).S.length ≤ 4 * s.i) (fun s : PsI => W.length - s.i)
      ⟨0, 0, none, 0, none, 0, []⟩ ⟨Nat.zero_le _, RdB.zero, Nat.zero_le _, Nat.zero_le _⟩ (by repeat' first | trivial | rfl | apply And.intro) (by simp only [List.take_zero, List.foldl_nil, rd0, List.length_nil, Nat.zero_div]; exact .refl _) ?_
    rintro ⟨i, n, oP, cP, oS, cS, blk⟩ ⟨hi, hM, hP, hS⟩
    dsimp only at hi hM hP hS ⊢
    by_cases hi' : i < W.length
    · have hmem : W.getD i [] ∈ W := by
        rw [List.getD_eq_getElem?_getD, List.getElem?_eq_getElem hi']
        exact List.getElem_mem hi'
      have hnx : (W.take (i + 1)).foldl (rdR nrF) rd0 = rdR nrF ((W.take i).foldl (rdR nrF) rd0) (W.getD i []) := by
        rw [List.take_succ_eq_append_getElem hi', List.foldl_append, List.getD_eq_getElem?_getD, List.getElem?_eq_getElem hi']
        rfl
      have iW := hLW.anyS hi'
      have hcW := fun hs' (h : qW.Sublist hs') => hLW.cellS h hi'
      have hw4 := hwl _ hmem
      generalize W.getD i [] = w at *
      have hrn := rdR_n nrF ((W.take i).foldl (rdR nrF) rd0) w
      generalize (W.take i).foldl (rdR nrF) rd0 = d at *
      have hnl := hM.len
      repeat' (first | ((with_reducible apply kP (.load 9 _)); refine sP ?_ (o_load rfl (ld_one (shTOf rfl) (hcW _ SBt)))) | ((with_reducible apply kDP (.load 9 _)); refine dP ?_ (hX := rfl) (hv := o_load rfl (ld_one (shTOf rfl) (hcW _ SBt)))) | ((with_reducible apply kQO (.load 9 _)); refine qP ?_ (o_load rfl (ld_one (shTOf rfl) (hcW _ SBt)))) | ((with_reducible apply kP (.indexAddr 53 _ _)); refine sP ?_ (o_indexS (scTOf rfl) rfl rfl rfl (aa0 _) iW hi')) | ((with_reducible apply kDP (.indexAddr 53 _ _)); refine dP ?_ (hX := rfl) (hv := o_indexS (scTOf rfl) rfl rfl rfl (aa0 _) iW hi')) | ((with_reducible apply kQO (.indexAddr 53 _ _)); refine qP ?_ (o_indexS (scTOf rfl) rfl rfl rfl (aa0 _) iW hi')) | ((with_reducible apply kDF 20); refine k_callX (X := blk) (Take.head) (goF rfl) rfl (fun F => x_take hM (by omega) (by omega) w (by omega) B w0 (F ++ _)) (by decide) ?_; rintro u blk2 ⟨n2, oP2, cP2, oS2, cS2, hM2, rfl⟩) | ((with_reducible apply kDN); refine dtW ?_ (hf := flat_cons rfl (flat2 rfl rfl))) | ((with_reducible apply kRg 8); refine cD [1, 1, 1, 1, 1, 4, 4] ?_) | (with_reducible first | refine c_seq ?_ | refine c_reg ?_ | refine c_region ?_ | refine c_block ?_ | refine c_skip ?_ | refine c_exit ?_ | refine c_ret ?_ | refine s_nil ?_ | refine x_then ?_ | refine x_then_exit ?_ | refine x_then_ret ?_ | refine x_block ?_ | refine x_block_ret ?_ | refine x_block_same ?_ | refine x_block_other (by first | rfl | decide) ?_ | refine q_nil ?_ | refine k_nil ?_) | ((with_reducible apply kG); first | refine gY1 ?_ | refine gN1 ?_ | refine gU1 ?_ | (refine gD1 (fun h => ?_) (fun h => ?_) <;> (try (exfalso; omega))) | refine gB1 (fun h => ?_) (fun h => ?_)) | ((with_reducible apply kN); first | refine stP ?_ | refine stI ?_ | refine st1 ?_ | refine stW ?_) | ((with_reducible apply kP (.alloc _)); refine sA (fun b => ?_)) | ((with_reducible apply kP _); refine sP ?_) | ((with_reducible apply kP _); refine sX ?_) | ((with_reducible apply kC); first | refine cT ?_ | refine cF ?_ | (refine cI (fun h => ?_) (fun h => ?_) <;> (try (exfalso; omega))) | refine cB (fun h => ?_) (fun h => ?_)) | ((with_reducible apply kDN); first | refine dtI ?_ | refine dt1 ?_ | refine dtW ?_) | ((with_reducible apply kDP _); refine dP ?_) | ((with_reducible apply kDP _); refine dX ?_))
      all_goals try (exfalso; omega)
      exact r_end (⟨i + 1, n2, oP2, cP2, oS2, cS2, blk2⟩ : PsI) ⟨hi', by dsimp only; rw [hnx]; exact hM2, by dsimp only; rw [hnx]; omega, by dsimp only; rw [hnx]; omega⟩ (by dsimp only; omega) (by repeat' first | trivial | rfl | apply And.intro) (by dsimp only; rw [hnx]; exact .refl _)
    · obtain rfl : i = W.length := by omega
      rw [List.take_length] at *
      generalize W.foldl (rdR nrF) rd0 = d at *
      have hnl := hM.len
      obtain ⟨rs, bo, ko, M, rfl, rfl⟩ := hM
      have hCM : CapM B w0 (ko ++ (bo ++ rpb rs)) oP oS (rpP rs) d.S := by
        have := capC (B := B) (w0 := w0) (hs := []) M.bo M.ok M.ko
        rwa [List.append_nil] at this
      have hlr : (rpP rs).length = rs.length := by unfold rpP; rw [List.length_map]
      have hm4 := M.m4
      have kf := fun hs' (h : (ko ++ (bo ++ rpb rs)).Sublist hs') => r_Format (rpP rs) oP oS cP (d.S.length / 4) cS d.S d.E (by omega) (by omega) (by omega) B w0 hs' (hCM.sub h)
      rw [fcV_D M, hlr] at kf
      by_cases hE : vdD d = 0
      · rw [if_pos hE] at kf
        rw [hE] at kf
        by_cases hF : tD d = t
        · rw [if_pos ⟨hE, hF⟩]
          repeat' (first | ((with_reducible apply kF 7); refine sC 7 (kf _ SBt) ?_) | ((with_reducible apply kP (.binOp .neq 9 _ _ _)); refine sP ?_ (o_sNeqF hF rfl rfl)) | ((with_reducible apply kDP (.binOp .neq 9 _ _ _)); refine dP ?_ (hX := rfl) (hv := o_sNeqF hF rfl rfl)) | ((with_reducible apply kQO (.binOp .neq 9 _ _ _)); refine qP ?_ (o_sNeqF hF rfl rfl)) | ((with_reducible apply kN); refine stW ?_ (hf := flat_cons rfl (flat2 rfl rfl))) | ((with_reducible apply kRg 8); refine cD [1, 1, 1, 1, 1, 4, 4] ?_) | (with_reducible first | refine c_seq ?_ | refine c_reg ?_ | refine c_region ?_ | refine c_block ?_ | refine c_skip ?_ | refine c_exit ?_ | refine c_ret ?_ | refine s_nil ?_ | refine x_then ?_ | refine x_then_exit ?_ | refine x_then_ret ?_ | refine x_block ?_ | refine x_block_ret ?_ | refine x_block_same ?_ | refine x_block_other (by first | rfl | decide) ?_ | refine q_nil ?_ | refine k_nil ?_) | ((with_reducible apply kG); first | refine gY1 ?_ | refine gN1 ?_ | refine gU1 ?_ | (refine gD1 (fun h => ?_) (fun h => ?_) <;> (try (exfalso; omega))) | refine gB1 (fun h => ?_) (fun h => ?_)) | ((with_reducible apply kN); first | refine stP ?_ | refine stI ?_ | refine st1 ?_ | refine stW ?_) | ((with_reducible apply kP (.alloc _)); refine sA (fun b => ?_)) | ((with_reducible apply kP _); refine sP ?_) | ((with_reducible apply kP _); refine sX ?_) | ((with_reducible apply kC); first | refine cT ?_ | refine cF ?_ | (refine cI (fun h => ?_) (fun h => ?_) <;> (try (exfalso; omega))) | refine cB (fun h => ?_) (fun h => ?_)) | ((with_reducible apply kDN); first | refine dtI ?_ | refine dt1 ?_ | refine dtW ?_) | ((with_reducible apply kDP _); refine dP ?_) | ((with_reducible apply kDP _); refine dX ?_))
          all_goals try (exfalso; omega)
          exact e_ret2 (hs' := (ko ++ (bo ++ rpb rs)) ++ hs) rfl ⟨_, rfl, ld_whole (shTOf rfl) (by with_reducible ((repeat (first | exact mm0 | refine mmT ?_ | refine mmA ?_)); done)) rfl⟩ rfl ⟨ko ++ (bo ++ rpb rs), ⟨_, ⟨rs.length, oP, cP, oS, cS, ⟨rs, bo, ko, M, rfl, rfl⟩, rfl⟩, rfl⟩, rfl⟩ (.append (.refl _) (sbA (.cons _ (.cons _ (.refl _)))))
        · rw [if_neg (fun h => hF h.2)]
          repeat' (first | ((with_reducible apply kF 7); refine sC 7 (kf _ SBt) ?_) | ((with_reducible apply kP (.binOp .neq 9 _ _ _)); refine sP ?_ (o_sNeqT hF rfl rfl)) | ((with_reducible apply kDP (.binOp .neq 9 _ _ _)); refine dP ?_ (hX := rfl) (hv := o_sNeqT hF rfl rfl)) | ((with_reducible apply kQO (.binOp .neq 9 _ _ _)); refine qP ?_ (o_sNeqT hF rfl rfl)) | ((with_reducible apply kN); refine stW ?_ (hf := flat_cons rfl (flat2 rfl rfl))) | ((with_reducible apply kRg 8); refine cD [1, 1, 1, 1, 1, 4, 4] ?_) | (with_reducible first | refine c_seq ?_ | refine c_reg ?_ | refine c_region ?_ | refine c_block ?_ | refine c_skip ?_ | refine c_exit ?_ | refine c_ret ?_ | refine s_nil ?_ | refine x_then ?_ | refine x_then_exit ?_ | refine x_then_ret ?_ | refine x_block ?_ | refine x_block_ret ?_ | refine x_block_same ?_ | refine x_block_other (by first | rfl | decide) ?_ | refine q_nil ?_ | refine k_nil ?_) | ((with_reducible apply kG); first | refine gY1 ?_ | refine gN1 ?_ | refine gU1 ?_ | (refine gD1 (fun h => ?_) (fun h => ?_) <;> (try (exfalso; omega))) | refine gB1 (fun h => ?_) (fun h => ?_)) | ((with_reducible apply kN); first | refine stP ?_ | refine stI ?_ | refine st1 ?_ | refine stW ?_) | ((with_reducible apply kP (.alloc _)); refine sA (fun b => ?_)) | ((with_reducible apply kP _); refine sP ?_) | ((with_reducible apply kP _); refine sX ?_) | ((with_reducible apply kC); first | refine cT ?_ | refine cF ?_ | (refine cI (fun h => ?_) (fun h => ?_) <;> (try (exfalso; omega))) | refine cB (fun h => ?_) (fun h => ?_)) | ((with_reducible apply kDN); first | refine dtI ?_ | refine dt1 ?_ | refine dtW ?_) | ((with_reducible apply kDP _); refine dP ?_) | ((with_reducible apply kDP _); refine dX ?_))
          all_goals try (exfalso; omega)
          exact e_ret2 (hs' := hs) (v := .agg #[.slice none 0 0, .slice none 0 0, .int .i64 0]) rfl ⟨_, rfl, ld_whole (shTOf rfl) (by with_reducible ((repeat (first | exact mm0 | refine mmT ?_ | refine mmA ?_)); done)) rfl⟩ rfl ⟨[], ⟨_, ⟨0, none, 0, none, 0, RdB.zero, rfl⟩, rfl⟩, rfl⟩ (sbA (sbA (.cons _ (.cons _ (.refl _)))))
      · rw [if_neg (fun h => hE h.1)]
        rw [if_neg hE] at kf
        generalize vdD d = E at *
        repeat' (first | ((with_reducible apply kF 7); refine sC 7 (kf _ SBt) ?_) | ((with_reducible apply kP (.binOp .neq 9 _ _ _)); refine sP ?_ (o_sNeq rfl rfl)) | ((with_reducible apply kDP (.binOp .neq 9 _ _ _)); refine dP ?_ (hX := rfl) (hv := o_sNeq rfl rfl)) | ((with_reducible apply kQO (.binOp .neq 9 _ _ _)); refine qP ?_ (o_sNeq rfl rfl)) | ((with_reducible apply kN); refine stW ?_ (hf := flat_cons rfl (flat2 rfl rfl))) | ((with_reducible apply kRg 8); refine cD [1, 1, 1, 1, 1, 4, 4] ?_) | (with_reducible first | refine c_seq ?_ | refine c_reg ?_ | refine c_region ?_ | refine c_block ?_ | refine c_skip ?_ | refine c_exit ?_ | refine c_ret ?_ | refine s_nil ?_ | refine x_then ?_ | refine x_then_exit ?_ | refine x_then_ret ?_ | refine x_block ?_ | refine x_block_ret ?_ | refine x_block_same ?_ | refine x_block_other (by first | rfl | decide) ?_ | refine q_nil ?_ | refine k_nil ?_) | ((with_reducible apply kG); first | refine gY1 ?_ | refine gN1 ?_ | refine gU1 ?_ | (refine gD1 (fun h => ?_) (fun h => ?_) <;> (try (exfalso; omega))) | refine gB1 (fun h => ?_) (fun h => ?_)) | ((with_reducible apply kN); first | refine stP ?_ | refine stI ?_ | refine st1 ?_ | refine stW ?_) | ((with_reducible apply kP (.alloc _)); refine sA (fun b => ?_)) | ((with_reducible apply kP _); refine sP ?_) | ((with_reducible apply kP _); refine sX ?_) | ((with_reducible apply kC); first | refine cT ?_ | refine cF ?_ | (refine cI (fun h => ?_) (fun h => ?_) <;> (try (exfalso; omega))) | refine cB (fun h => ?_) (fun h => ?_)) | ((with_reducible apply kDN); first | refine dtI ?_ | refine dt1 ?_ | refine dtW ?_) | ((with_reducible apply kDP _); refine dP ?_) | ((with_reducible apply kDP _); refine dX ?_))
        all_goals try (exfalso; omega)
        exact e_ret2 (hs' := hs) (v := .agg #[.slice none 0 0, .slice none 0 0, .int .i64 0]) rfl ⟨_, rfl, ld_whole (shTOf rfl) (by with_reducible ((repeat (first | exact mm0 | refine mmT ?_ | refine mmA ?_)); done)) rfl⟩ rfl ⟨[], ⟨_, ⟨0, none, 0, none, 0, RdB.zero, rfl⟩, rfl⟩, rfl⟩ (sbA (sbA (.cons _ (.cons _ (.refl _)))))
end Go.Proofs.YtmblgbcipniecaaGreatDoor
