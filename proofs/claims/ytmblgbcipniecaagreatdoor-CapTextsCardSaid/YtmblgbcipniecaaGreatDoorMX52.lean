/- Parse of the program: the walk. -/
import Derived.Test.YtmblgbcipniecaaGreatDoorMX51
namespace Go.Proofs.YtmblgbcipniecaaGreatDoor
open Go.RowKit
section
variable {P : Program} {n : NN} {B : Nat} {w0 : Wd} {fr : FR} {hs hs' : HS}
theorem e_retG2 {w1 : Wd} {fn : Func} {R : Value → HS → Prop} {r s : ResultVar} {v u : Value} {Ds : List Nat} {ms : List (Nat × Obj)} (hd : n.ds = Ds.map mkD) (hw1 : w1 = ⟨w0.w, (Ds.map fun D => (D, Obj.deferred (some []))) ++ ms⟩) (hms : w0.ms.Sublist ms)
    (hr : fn.results = #[r, s]) (h1 : RV P B w0 fr hs r v) (h2 : RV P B w0 fr hs s u) (hR : R (.tuple #[v, u]) hs') (hsub : hs'.Sublist hs) : Sat n B w1 (bodyPostM (rF none) 0 P fn (Ends B w0 R) .ret) fr hs := sat_mk fun a w ha hw => by
  show LeavesInM (rF none) 0 P fn a.tmps (Ends B w0 R) a.defers .returning w
  rw [ha.defers, hd]
  subst hw1
  exact leaves_marks (fun w hw => by simp [results_rv1, hr, RV.run ha hw h1, RV.run ha hw h2]) hR hsub Ds ms w hw hms
end
theorem rdP_n (d : Rd) (l : List UInt8) : (rdP d l).P.length ≤ d.P.length + 1 ∧ (rdP d l).S.length ≤ d.S.length + 4 := by
  unfold rdP
  split
  · exact ⟨by omega, by omega⟩
  · split
    · exact ⟨by omega, by omega⟩
    · unfold sgP
      split
      · exact ⟨by dsimp only; omega, by dsimp only; omega⟩
      · split
        · exact ⟨by dsimp only; rw [List.length_append]; exact Nat.le_refl _, by dsimp only; omega⟩
        · split
          · rename_i h4
            exact ⟨by dsimp only; omega, by dsimp only; rw [List.length_append, h4.2]; exact Nat.le_refl _⟩
          · exact ⟨by omega, by omega⟩
structure PkI where
  x : Value
  k : Nat
  n : Nat
  oP : Option Addr
  cP : Nat
  oS : Option Addr
  cS : Nat
  blk : HS
attribute [local irreducible] OpF Ld CellAt Sl Sv pcA
set_option maxRecDepth 100000 in
set_option maxHeartbeats 8000000 in
theorem k_Parse (t : List UInt8) (ht : t.length ≤ 100000) (B : Nat) (w0 : Wd) (hT : TxW B w0) (hs : HS) :
    Fn Tryz.prog 8 #[sv t] B w0 hs (fun u h => ∃ blk, PaA rdP t u blk ∧ h = blk ++ hs) := by
  unfold PaA
  by_cases h0 : 4000 < t.length
  · have e : paA rdP t = (rd0, 4) := by unfold paA; rw [if_pos h0]
    rw [e]
    refine fn_enterG Tryz.func8 rfl Tryz.ntmps8 (by simp) ?_
    repeat' (first | ((with_reducible apply kP (.alloc 25)); refine sA (fun b2 => ?_)) | ((with_reducible apply kP (.call ⟨.builtin .len, _, _⟩)); refine sP ?_ (o_sLen uStr rfl)) | ((with_reducible apply kDP (.call ⟨.builtin .len, _, _⟩)); refine dP ?_ (hX := rfl) (hv := o_sLen uStr rfl)) | ((with_reducible apply kQO (.call ⟨.builtin .len, _, _⟩)); refine qP ?_ (o_sLen uStr rfl)) | ((with_reducible apply kN); refine stW ?_ (hf := flat_cons rfl (flat2 rfl rfl))) | (with_reducible first | refine g_seq ?_ | refine g_block ?_ | refine g_skip ?_ | refine g_exit ?_ | refine g_ret ?_ | refine si_nil ?_) | ((with_reducible apply gCI); first | refine gT ?_ | refine gF ?_ | (refine gI (fun h => ?_) (fun h => ?_) <;> (try (exfalso; omega))) | refine gBB (fun h => ?_) (fun h => ?_)) | ((with_reducible apply gRI); refine g_quiet mixed (by kernel_rfl) (by rfl) ?_) | (refine g_region ?_) | ((with_reducible apply kYo _); refine si_one rfl ?_) | (with_reducible first | refine c_seq ?_ | refine c_reg ?_ | refine c_region ?_ | refine c_block ?_ | refine c_skip ?_ | refine c_exit ?_ | refine c_ret ?_ | refine s_nil ?_ | refine x_then ?_ | refine x_then_exit ?_ | refine x_then_ret ?_ | refine x_block ?_ | refine x_block_ret ?_ | refine x_block_same ?_ | refine x_block_other (by first | rfl | decide) ?_ | refine q_nil ?_ | refine k_nil ?_) | ((with_reducible apply kG); first | refine gY1 ?_ | refine gN1 ?_ | refine gU1 ?_ | (refine gD1 (fun h => ?_) (fun h => ?_) <;> (try (exfalso; omega))) | refine gB1 (fun h => ?_) (fun h => ?_)) | ((with_reducible apply kN); first | refine stP ?_ | refine stI ?_ | refine st1 ?_ | refine stW ?_) | ((with_reducible apply kP (.alloc _)); refine sA (fun b => ?_)) | ((with_reducible apply kP _); refine sP ?_) | ((with_reducible apply kP _); refine sX ?_) | ((with_reducible apply kC); first | refine cT ?_ | refine cF ?_ | (refine cI (fun h => ?_) (fun h => ?_) <;> (try (exfalso; omega))) | refine cB (fun h => ?_) (fun h => ?_)))
    all_goals first
      | (exfalso; omega)
      | exact e_retG2 (Ds := []) (ms := w0.ms) (hs' := hs) rfl rfl (.refl _) rfl ⟨_, rfl, ld_whole (shTOf rfl) MDt rfl⟩ rfl ⟨[], ⟨_, ⟨0, none, 0, none, 0, RdB.zero, rfl⟩, rfl⟩, rfl⟩ (.cons _ (.refl _))
      | trace_state
  · have hWl := wds_len 10 t
    have hwl : ∀ w ∈ wds 10 t, w.length ≤ 4000 := fun w hw => by have := wds_le 10 t w hw; omega
    have hpa : paA rdP t = if vdD ((wds 10 t).foldl rdP rd0) = 0 ∧ tD ((wds 10 t).foldl rdP rd0) = t then ((wds 10 t).foldl rdP rd0, 0) else (rd0, 3) := by unfold paA; rw [if_neg h0]
    rw [hpa]
    clear hpa
    have kit := fun b1 b2 b3 => k_split t ht B b1 b2 b3
    have ksp := fun hs' => x_SplitSeq t [10] B w0 hs'
    generalize wds 10 t = W at *
    refine fn_enterG Tryz.func8 rfl Tryz.ntmps8 (by simp) ?_
    repeat' (first | ((with_reducible apply kP (.alloc 25)); refine sA (fun b4 => ?_)) | ((with_reducible apply kP (.call ⟨.builtin .len, _, _⟩)); refine sP ?_ (o_sLen uStr rfl)) | ((with_reducible apply kDP (.call ⟨.builtin .len, _, _⟩)); refine dP ?_ (hX := rfl) (hv := o_sLen uStr rfl)) | ((with_reducible apply kQO (.call ⟨.builtin .len, _, _⟩)); refine qP ?_ (o_sLen uStr rfl)) | ((with_reducible apply kN); refine stW ?_ (hf := flat_cons rfl (flat2 rfl rfl))) | ((with_reducible apply kF 17); refine sR 17 (ksp _) ?_; rintro v7 h7 ⟨q7, ⟨b1, b5, b3, rfl, rfl⟩, rfl⟩) | (with_reducible first | refine g_seq ?_ | refine g_block ?_ | refine g_skip ?_ | refine g_exit ?_ | refine g_ret ?_ | refine si_nil ?_) | ((with_reducible apply gCI); first | refine gT ?_ | refine gF ?_ | (refine gI (fun h => ?_) (fun h => ?_) <;> (try (exfalso; omega))) | refine gBB (fun h => ?_) (fun h => ?_)) | ((with_reducible apply gRI); refine g_quiet mixed (by kernel_rfl) (by rfl) ?_) | (refine g_region ?_) | ((with_reducible apply kYo _); refine si_one rfl ?_) | (with_reducible first | refine c_seq ?_ | refine c_reg ?_ | refine c_region ?_ | refine c_block ?_ | refine c_skip ?_ | refine c_exit ?_ | refine c_ret ?_ | refine s_nil ?_ | refine x_then ?_ | refine x_then_exit ?_ | refine x_then_ret ?_ | refine x_block ?_ | refine x_block_ret ?_ | refine x_block_same ?_ | refine x_block_other (by first | rfl | decide) ?_ | refine q_nil ?_ | refine k_nil ?_) | ((with_reducible apply kG); first | refine gY1 ?_ | refine gN1 ?_ | refine gU1 ?_ | (refine gD1 (fun h => ?_) (fun h => ?_) <;> (try (exfalso; omega))) | refine gB1 (fun h => ?_) (fun h => ?_)) | ((with_reducible apply kN); first | refine stP ?_ | refine stI ?_ | refine st1 ?_ | refine stW ?_) | ((with_reducible apply kP (.alloc _)); refine sA (fun b => ?_)) | ((with_reducible apply kP _); refine sP ?_) | ((with_reducible apply kP _); refine sX ?_) | ((with_reducible apply kC); first | refine cT ?_ | refine cF ?_ | (refine cI (fun h => ?_) (fun h => ?_) <;> (try (exfalso; omega))) | refine cB (fun h => ?_) (fun h => ?_)))
    all_goals try (exfalso; omega)
    rename_i b2
    dsimp only [List.cons_append, List.nil_append]
    refine sat_tk (blk := [(b4, [.slice none 0 0, .slice none 0 0, .int .i64 0])]) (by with_reducible ((repeat (first | exact Take.head | exact Take.one | exact Take.nil | apply Take.tail | apply Take.app)); done)) ?_
    dsimp only [List.cons_append, List.nil_append]
    refine g_rangeU rfl (goF rfl) (kit b1 b5 b3) (by first | decide | exact ltd rfl) (fun _ : PkI => w0)
      (fun s : PkI => s.blk ++ ((b4, [.slice s.oP s.n s.cP, .slice s.oS (((W.take s.k).foldl rdP rd0).S.length / 4) s.cS, iv ((W.take s.k).foldl rdP rd0).E]) :: (b3, [iv 0]) :: (b1, [sv [10]]) :: (b5, [s.x]) :: (b2, [.slice none 0 0, .slice none 0 0, iv 0]) :: hs))
      (fun y k s => s.x = y ∧ s.k = k ∧ s.k ≤ W.length ∧ RdB ((W.take s.k).foldl rdP rd0) s.n s.oP s.cP s.oS s.cS s.blk ∧ ((W.take s.k).foldl rdP rd0).P.length ≤ s.k ∧ ((W.take s.k).foldl rdP rd0).S.length ≤ 4 * s.k)
      (fun v => [(5, v), (0, sv t), (2, .pointer (some ⟨b2, 0, none⟩)), (4, .pointer (some ⟨b4, 0, none⟩))])
      ⟨sv t, 0, 0, none, 0, none, 0, []⟩ ⟨rfl, rfl, Nat.zero_le _, RdB.zero, Nat.zero_le _, Nat.zero_le _⟩ (.refl _) (by simp only [List.take_zero, List.foldl_nil, rd0, List.length_nil, Nat.zero_div]; exact .refl _) ?_ ?_ ?_ ?_ ?_
    · rintro y k ⟨x, k', n, oP, cP, oS, cS, blk⟩ ⟨rfl, rfl, _⟩
      exact ⟨MMt, fun W' hW' => ⟨hT.ms hW'.1, MMt, MMt⟩⟩
    · rintro y k ⟨x, k', n, oP, cP, oS, cS, blk⟩ ⟨rfl, rfl, hC⟩ y'
      exact ⟨⟨y', k', n, oP, cP, oS, cS, blk⟩, ⟨rfl, rfl, hC⟩, rfl, (by with_reducible ((repeat (first | exact uu0 | apply Upd.tail | apply Upd.app)); done))⟩
    · intro y k s v hv hC l D o
      repeat' (first | (with_reducible first | refine g_seq ?_ | refine g_block ?_ | refine g_skip ?_ | refine g_exit ?_ | refine g_ret ?_ | refine si_nil ?_) | ((with_reducible apply gCI); first | refine gT ?_ | refine gF ?_ | (refine gI (fun h => ?_) (fun h => ?_) <;> (try (exfalso; omega))) | refine gBB (fun h => ?_) (fun h => ?_)) | ((with_reducible apply gRI); refine g_quiet mixed (by kernel_rfl) (by rfl) ?_) | (refine g_region ?_) | ((with_reducible apply kYo _); refine si_one rfl ?_) | (with_reducible first | refine c_seq ?_ | refine c_reg ?_ | refine c_region ?_ | refine c_block ?_ | refine c_skip ?_ | refine c_exit ?_ | refine c_ret ?_ | refine s_nil ?_ | refine x_then ?_ | refine x_then_exit ?_ | refine x_then_ret ?_ | refine x_block ?_ | refine x_block_ret ?_ | refine x_block_same ?_ | refine x_block_other (by first | rfl | decide) ?_ | refine q_nil ?_ | refine k_nil ?_) | ((with_reducible apply kG); first | refine gY1 ?_ | refine gN1 ?_ | refine gU1 ?_ | (refine gD1 (fun h => ?_) (fun h => ?_) <;> (try (exfalso; omega))) | refine gB1 (fun h => ?_) (fun h => ?_)) | ((with_reducible apply kN); first | refine stP ?_ | refine stI ?_ | refine st1 ?_ | refine stW ?_) | ((with_reducible apply kP (.alloc _)); refine sA (fun b => ?_)) | ((with_reducible apply kP _); refine sP ?_) | ((with_reducible apply kP _); refine sX ?_) | ((with_reducible apply kC); first | refine cT ?_ | refine cF ?_ | (refine cI (fun h => ?_) (fun h => ?_) <;> (try (exfalso; omega))) | refine cB (fun h => ?_) (fun h => ?_)))
      exact e_asg (by repeat' first | trivial | rfl | apply And.intro) (.refl _) (.refl _)
    · rintro y k ⟨x, k', n, oP, cP, oS, cS, blk⟩ v hv ⟨rfl, rfl, hk, hM, hP, hS⟩ l D o
      dsimp only at hv hk hM hP hS ⊢
      obtain ⟨w, hw, rfl⟩ : ∃ w, W[k']? = some w ∧ v = sv w := by
        unfold svs at hv
        rw [List.getElem?_map] at hv
        cases hx : W[k']? with
        | none => rw [hx] at hv; cases hv
        | some x => rw [hx] at hv; exact ⟨x, rfl, by simpa using hv.symm⟩
      have hkl := (List.getElem?_eq_some_iff.1 hw).1
      have hnx : (W.take (k' + 1)).foldl rdP rd0 = rdP ((W.take k').foldl rdP rd0) w := by
        rw [take_snoc hw, List.foldl_append]; rfl
      have hw4 := hwl _ (List.mem_of_getElem? hw)
      have hrn := rdP_n ((W.take k').foldl rdP rd0) w
      generalize (W.take k').foldl rdP rd0 = d at *
      have hnl := hM.len
      have kr := fun hs' => x_read hM (by omega) (by omega) w (by omega) b4 B ⟨w0.w, (l, o) :: (D, .deferred (some [])) :: w0.ms⟩ (hT.ms rfl) hs'
      repeat' (first | ((with_reducible apply kF 18); refine sR 18 (kr _) ?_; rintro v7 h7 ⟨rfl, n2, oP2, cP2, oS2, cS2, blk2, hM2, rfl⟩) | (with_reducible first | refine g_seq ?_ | refine g_block ?_ | refine g_skip ?_ | refine g_exit ?_ | refine g_ret ?_ | refine si_nil ?_) | ((with_reducible apply gCI); first | refine gT ?_ | refine gF ?_ | (refine gI (fun h => ?_) (fun h => ?_) <;> (try (exfalso; omega))) | refine gBB (fun h => ?_) (fun h => ?_)) | ((with_reducible apply gRI); refine g_quiet mixed (by kernel_rfl) (by rfl) ?_) | (refine g_region ?_) | ((with_reducible apply kYo _); refine si_one rfl ?_) | (with_reducible first | refine c_seq ?_ | refine c_reg ?_ | refine c_region ?_ | refine c_block ?_ | refine c_skip ?_ | refine c_exit ?_ | refine c_ret ?_ | refine s_nil ?_ | refine x_then ?_ | refine x_then_exit ?_ | refine x_then_ret ?_ | refine x_block ?_ | refine x_block_ret ?_ | refine x_block_same ?_ | refine x_block_other (by first | rfl | decide) ?_ | refine q_nil ?_ | refine k_nil ?_) | ((with_reducible apply kG); first | refine gY1 ?_ | refine gN1 ?_ | refine gU1 ?_ | (refine gD1 (fun h => ?_) (fun h => ?_) <;> (try (exfalso; omega))) | refine gB1 (fun h => ?_) (fun h => ?_)) | ((with_reducible apply kN); first | refine stP ?_ | refine stI ?_ | refine st1 ?_ | refine stW ?_) | ((with_reducible apply kP (.alloc _)); refine sA (fun b => ?_)) | ((with_reducible apply kP _); refine sP ?_) | ((with_reducible apply kP _); refine sX ?_) | ((with_reducible apply kC); first | refine cT ?_ | refine cF ?_ | (refine cI (fun h => ?_) (fun h => ?_) <;> (try (exfalso; omega))) | refine cB (fun h => ?_) (fun h => ?_)))
      exact e_round (⟨x, k' + 1, n2, oP2, cP2, oS2, cS2, blk2⟩ : PkI) ⟨rfl, rfl, hkl, by dsimp only; rw [hnx]; exact hM2, by dsimp only; rw [hnx]; omega, by dsimp only; rw [hnx]; omega⟩ (.refl _) (by dsimp only; rw [hnx]; exact .refl _)
    · rintro y ⟨x, k', n, oP, cP, oS, cS, blk⟩ ⟨rfl, hkx, hk, hM, hP, hS⟩ D
      dsimp only at hkx hk hM hP hS ⊢
      rw [svs_length] at hkx
      subst hkx
      rw [List.take_length] at *
      generalize W.foldl rdP rd0 = d at *
      have hnl := hM.len
      obtain ⟨rs, bo, ko, M, rfl, rfl⟩ := hM
      have hlr : (rpP rs).length = rs.length := by unfold rpP; rw [List.length_map]
      have hm4 := M.m4
      have hCM : CapM B ⟨w0.w, (D, .deferred (some [])) :: w0.ms⟩ (ko ++ (bo ++ rpb rs)) oP oS (rpP rs) d.S := by
        have := capC (B := B) (w0 := ⟨w0.w, (D, .deferred (some [])) :: w0.ms⟩) (hs := []) M.bo M.ok M.ko
        rwa [List.append_nil] at this
      have kv := fun hs' (h : (ko ++ (bo ++ rpb rs)).Sublist hs') => k_Validate (rpP rs) oP oS cP (d.S.length / 4) cS d.S d.E (by omega) (by omega) (by omega) B _ hs' (hCM.sub h)
      have e0 : vdE (rpP rs).length (sdF (rpP rs)) (anF (rpP rs)) (d.S.length / 4) d.S d.E = vdD d := by unfold vdD; rw [← M.P, vdC_D]; rfl
      have e1 : capT (rpP rs) d.S (d.S.length / 4) d.E = tD d := by unfold tD; rw [← M.P, capT_D]
      rw [e0, hlr] at kv
      by_cases hE : vdD d = 0
      · have hT2 : TxC (rpP rs) d.S (d.S.length / 4) d.E := (vdC_0 (by rw [← e0] at hE; exact hE)).tx
        have kf := fun hs' (h : (ko ++ (bo ++ rpb rs)).Sublist hs') => k_format (rpP rs) oP oS cP (d.S.length / 4) cS d.S d.E (by omega) (by omega) hT2 B ⟨w0.w, (D, .deferred (some [])) :: w0.ms⟩ (hT.ms rfl) hs' (hCM.sub h)
        rw [e1, hlr] at kf
        rw [hE] at kv
        by_cases hF : tD d = t
        · rw [if_pos ⟨hE, hF⟩]
          repeat' (first | ((with_reducible apply kF 13); refine sC 13 (kv _ SBt) ?_) | ((with_reducible apply kF 14); refine sC 14 (kf _ SBt) ?_) | ((with_reducible apply kP (.binOp .neq 9 _ _ _)); refine sP ?_ (o_sNeqF hF rfl rfl)) | ((with_reducible apply kDP (.binOp .neq 9 _ _ _)); refine dP ?_ (hX := rfl) (hv := o_sNeqF hF rfl rfl)) | ((with_reducible apply kQO (.binOp .neq 9 _ _ _)); refine qP ?_ (o_sNeqF hF rfl rfl)) | ((with_reducible apply kN); refine stW ?_ (hf := flat_cons rfl (flat2 rfl rfl))) | (with_reducible first | refine g_seq ?_ | refine g_block ?_ | refine g_skip ?_ | refine g_exit ?_ | refine g_ret ?_ | refine si_nil ?_) | ((with_reducible apply gCI); first | refine gT ?_ | refine gF ?_ | (refine gI (fun h => ?_) (fun h => ?_) <;> (try (exfalso; omega))) | refine gBB (fun h => ?_) (fun h => ?_)) | ((with_reducible apply gRI); refine g_quiet mixed (by kernel_rfl) (by rfl) ?_) | (refine g_region ?_) | ((with_reducible apply kYo _); refine si_one rfl ?_) | (with_reducible first | refine c_seq ?_ | refine c_reg ?_ | refine c_region ?_ | refine c_block ?_ | refine c_skip ?_ | refine c_exit ?_ | refine c_ret ?_ | refine s_nil ?_ | refine x_then ?_ | refine x_then_exit ?_ | refine x_then_ret ?_ | refine x_block ?_ | refine x_block_ret ?_ | refine x_block_same ?_ | refine x_block_other (by first | rfl | decide) ?_ | refine q_nil ?_ | refine k_nil ?_) | ((with_reducible apply kG); first | refine gY1 ?_ | refine gN1 ?_ | refine gU1 ?_ | (refine gD1 (fun h => ?_) (fun h => ?_) <;> (try (exfalso; omega))) | refine gB1 (fun h => ?_) (fun h => ?_)) | ((with_reducible apply kN); first | refine stP ?_ | refine stI ?_ | refine st1 ?_ | refine stW ?_) | ((with_reducible apply kP (.alloc _)); refine sA (fun b => ?_)) | ((with_reducible apply kP _); refine sP ?_) | ((with_reducible apply kP _); refine sX ?_) | ((with_reducible apply kC); first | refine cT ?_ | refine cF ?_ | (refine cI (fun h => ?_) (fun h => ?_) <;> (try (exfalso; omega))) | refine cB (fun h => ?_) (fun h => ?_)))
          all_goals try (exfalso; omega)
          exact e_retG2 (Ds := [D]) (ms := w0.ms) (hs' := (ko ++ (bo ++ rpb rs)) ++ hs) rfl rfl (.refl _) rfl ⟨_, rfl, ld_whole (shTOf rfl) (by with_reducible ((repeat (first | exact mm0 | refine mmT ?_ | refine mmA ?_)); done)) rfl⟩ rfl ⟨ko ++ (bo ++ rpb rs), ⟨_, ⟨rs.length, oP, cP, oS, cS, ⟨rs, bo, ko, M, rfl, rfl⟩, rfl⟩, rfl⟩, rfl⟩ (.append (.refl _) (.cons _ (.cons _ (.cons _ (.cons _ (.cons _ (.refl _)))))))
        · rw [if_neg (fun h => hF h.2)]
          repeat' (first | ((with_reducible apply kF 13); refine sC 13 (kv _ SBt) ?_) | ((with_reducible apply kF 14); refine sC 14 (kf _ SBt) ?_) | ((with_reducible apply kP (.binOp .neq 9 _ _ _)); refine sP ?_ (o_sNeqT hF rfl rfl)) | ((with_reducible apply kDP (.binOp .neq 9 _ _ _)); refine dP ?_ (hX := rfl) (hv := o_sNeqT hF rfl rfl)) | ((with_reducible apply kQO (.binOp .neq 9 _ _ _)); refine qP ?_ (o_sNeqT hF rfl rfl)) | ((with_reducible apply kN); refine stW ?_ (hf := flat_cons rfl (flat2 rfl rfl))) | (with_reducible first | refine g_seq ?_ | refine g_block ?_ | refine g_skip ?_ | refine g_exit ?_ | refine g_ret ?_ | refine si_nil ?_) | ((with_reducible apply gCI); first | refine gT ?_ | refine gF ?_ | (refine gI (fun h => ?_) (fun h => ?_) <;> (try (exfalso; omega))) | refine gBB (fun h => ?_) (fun h => ?_)) | ((with_reducible apply gRI); refine g_quiet mixed (by kernel_rfl) (by rfl) ?_) | (refine g_region ?_) | ((with_reducible apply kYo _); refine si_one rfl ?_) | (with_reducible first | refine c_seq ?_ | refine c_reg ?_ | refine c_region ?_ | refine c_block ?_ | refine c_skip ?_ | refine c_exit ?_ | refine c_ret ?_ | refine s_nil ?_ | refine x_then ?_ | refine x_then_exit ?_ | refine x_then_ret ?_ | refine x_block ?_ | refine x_block_ret ?_ | refine x_block_same ?_ | refine x_block_other (by first | rfl | decide) ?_ | refine q_nil ?_ | refine k_nil ?_) | ((with_reducible apply kG); first | refine gY1 ?_ | refine gN1 ?_ | refine gU1 ?_ | (refine gD1 (fun h => ?_) (fun h => ?_) <;> (try (exfalso; omega))) | refine gB1 (fun h => ?_) (fun h => ?_)) | ((with_reducible apply kN); first | refine stP ?_ | refine stI ?_ | refine st1 ?_ | refine stW ?_) | ((with_reducible apply kP (.alloc _)); refine sA (fun b => ?_)) | ((with_reducible apply kP _); refine sP ?_) | ((with_reducible apply kP _); refine sX ?_) | ((with_reducible apply kC); first | refine cT ?_ | refine cF ?_ | (refine cI (fun h => ?_) (fun h => ?_) <;> (try (exfalso; omega))) | refine cB (fun h => ?_) (fun h => ?_)))
          all_goals try (exfalso; omega)
          exact e_retG2 (Ds := [D]) (ms := w0.ms) (hs' := hs) (v := .agg #[.slice none 0 0, .slice none 0 0, .int .i64 0]) rfl rfl (.refl _) rfl ⟨_, rfl, ld_whole (shTOf rfl) (by with_reducible ((repeat (first | exact mm0 | refine mmT ?_ | refine mmA ?_)); done)) rfl⟩ rfl ⟨[], ⟨_, ⟨0, none, 0, none, 0, RdB.zero, rfl⟩, rfl⟩, rfl⟩ (sbA (.cons _ (.cons _ (.cons _ (.cons _ (.cons _ (.refl _)))))))
      · rw [if_neg (fun h => hE h.1)]
        generalize vdD d = E at *
        repeat' (first | ((with_reducible apply kF 13); refine sC 13 (kv _ SBt) ?_) | ((with_reducible apply kN); refine stW ?_ (hf := flat_cons rfl (flat2 rfl rfl))) | (with_reducible first | refine g_seq ?_ | refine g_block ?_ | refine g_skip ?_ | refine g_exit ?_ | refine g_ret ?_ | refine si_nil ?_) | ((with_reducible apply gCI); first | refine gT ?_ | refine gF ?_ | (refine gI (fun h => ?_) (fun h => ?_) <;> (try (exfalso; omega))) | refine gBB (fun h => ?_) (fun h => ?_)) | ((with_reducible apply gRI); refine g_quiet mixed (by kernel_rfl) (by rfl) ?_) | (refine g_region ?_) | ((with_reducible apply kYo _); refine si_one rfl ?_) | (with_reducible first | refine c_seq ?_ | refine c_reg ?_ | refine c_region ?_ | refine c_block ?_ | refine c_skip ?_ | refine c_exit ?_ | refine c_ret ?_ | refine s_nil ?_ | refine x_then ?_ | refine x_then_exit ?_ | refine x_then_ret ?_ | refine x_block ?_ | refine x_block_ret ?_ | refine x_block_same ?_ | refine x_block_other (by first | rfl | decide) ?_ | refine q_nil ?_ | refine k_nil ?_) | ((with_reducible apply kG); first | refine gY1 ?_ | refine gN1 ?_ | refine gU1 ?_ | (refine gD1 (fun h => ?_) (fun h => ?_) <;> (try (exfalso; omega))) | refine gB1 (fun h => ?_) (fun h => ?_)) | ((with_reducible apply kN); first | refine stP ?_ | refine stI ?_ | refine st1 ?_ | refine stW ?_) | ((with_reducible apply kP (.alloc _)); refine sA (fun b => ?_)) | ((with_reducible apply kP _); refine sP ?_) | ((with_reducible apply kP _); refine sX ?_) | ((with_reducible apply kC); first | refine cT ?_ | refine cF ?_ | (refine cI (fun h => ?_) (fun h => ?_) <;> (try (exfalso; omega))) | refine cB (fun h => ?_) (fun h => ?_)))
        all_goals try (exfalso; omega)
        exact e_retG2 (Ds := [D]) (ms := w0.ms) (hs' := hs) (v := .agg #[.slice none 0 0, .slice none 0 0, .int .i64 0]) rfl rfl (.refl _) rfl ⟨_, rfl, ld_whole (shTOf rfl) (by with_reducible ((repeat (first | exact mm0 | refine mmT ?_ | refine mmA ?_)); done)) rfl⟩ rfl ⟨[], ⟨_, ⟨0, none, 0, none, 0, RdB.zero, rfl⟩, rfl⟩, rfl⟩ (sbA (.cons _ (.cons _ (.cons _ (.cons _ (.cons _ (.refl _)))))))
end Go.Proofs.YtmblgbcipniecaaGreatDoor
