/- Texts of this claim, put together; the parts that it needs. -/
import Derived.Test.YtnbickholedckaaGreatDoorQ9
import Derived.ProofKit
import Derived.OpenShut
import Derived.Deep.Slices
namespace Go.Proofs.YtnbickholedckaaGreatDoor
open Go.RowKit
structure FmI where
  i : Nat
  bm : List (Nat × Obj)
structure FmJ where
  k : Nat
  oa : Option Addr
  c : Nat
  blk : HS
attribute [local irreducible] OpF Ld CellAt Sl Sv pcA
set_option maxRecDepth 100000 in
set_option maxHeartbeats 8000000 in
theorem k_format (ps : List Pc) (oP oS : Option Addr) (cP m cS : Nat) (sm : List Int) (e : Int) (hsm : sm.length = m * 4) (hm : m ≤ 10000) (T : TxC ps sm m e) (B : Nat) (w0 : Wd) (hT : TxW B w0) (hs : HS) (hC : CapM B w0 hs oP oS ps sm) :
    Fn Tryz.prog 21 #[.agg #[.slice oP ps.length cP, .slice oS m cS, iv e]] B w0 hs (fun v h => v = sv (capT ps sm m e) ∧ h = hs) := by
  obtain ⟨W, ms⟩ := w0
  have hle : (lnT sEase [e]).length ≤ 13 := easeT_len T
  have hlp := pcsT_len T
  have hls := smsT_len T
  have n8 := T.n8
  have hIe : ∀ x ∈ [e], InI x := fun x hx => by rw [List.mem_singleton.1 hx]; have := T.e0; exact ⟨by omega, by omega⟩
  refine fn_enter Tryz.func21 rfl Tryz.ntmps21 (by simp) ?_
  repeat' (first | ((with_reducible apply kP (.alloc _)); refine s_newB rfl (by decide) (fun bb => ?_)) | ((with_reducible apply kP (.box 25 _)); refine sBA (fun b1 => ?_)) | ((with_reducible apply kT 12); refine s_callFW (x := .tmp 12) (goF rfl) rfl rfl rfl (x_line B _ [] sEase [e] _ _ _ ms .fresh (List.cons_ne_nil _ _) (by rw [List.nil_append]; omega) hIe W hT _ (Sl.own MDt)) (by decide) ?_; rintro v1 w1 h1 ⟨rfl, rfl, bm1, hb1, rfl⟩) | ((with_reducible apply kRg 11); refine cD [1, 1, 1, 1, 1, 1, 1, 1, 1, 1, 1, 2, 4, 1] ?_) | (with_reducible first | refine c_seq ?_ | refine c_reg ?_ | refine c_region ?_ | refine c_block ?_ | refine c_skip ?_ | refine c_exit ?_ | refine c_ret ?_ | refine s_nil ?_ | refine x_then ?_ | refine x_then_exit ?_ | refine x_then_ret ?_ | refine x_block ?_ | refine x_block_ret ?_ | refine x_block_same ?_ | refine x_block_other (by first | rfl | decide) ?_ | refine q_nil ?_ | refine k_nil ?_) | ((with_reducible apply kP (.makeFunc _ _ _)); refine sMF ?_) | ((with_reducible apply kN); first | refine stP ?_ | refine stI ?_ | refine st1 ?_ | refine stW ?_) | ((with_reducible apply kP (.alloc _)); refine sA (fun b => ?_)) | ((with_reducible apply kP (.box _ _)); first | refine sBA (fun b => ?_) | refine sB (fun b => ?_)) | ((with_reducible apply kP (.buildSlice _ 1 _)); first | refine sl1A (fun b => ?_) | refine sl1 (fun b => ?_)) | ((with_reducible apply kP (.buildSlice _ 4 _)); refine sl4 (fun b => ?_)) | ((with_reducible apply kP _); refine sP ?_) | ((with_reducible apply kP _); refine sX ?_) | ((with_reducible apply kC); first | refine cT ?_ | refine cF ?_ | (refine cI (fun h => ?_) (fun h => ?_) <;> (try (exfalso; omega))) | refine cB (fun h => ?_) (fun h => ?_)) | ((with_reducible apply kDP (.call ⟨.builtin .append, _, _⟩)); first | refine dAp3 (fun oa2 c2 blk2 hrow2 => ?_) (hS := SCt) | refine dAp4 (fun oa2 c2 blk2 hrow2 => ?_)) | ((with_reducible apply kDP _); refine dP ?_) | ((with_reducible apply kDP _); refine dX ?_))
  refine c_loopM (fun s : FmI => ⟨W, s.bm ++ ms⟩) (fun s : FmI => [(1, .pointer (some ⟨b1, 0, none⟩)), (3, .pointer (some ⟨bb, 0, none⟩)), (4, .func (.func 35) #[] #[.pointer (some ⟨bb, 0, none⟩)]), (18, .slice oP ps.length cP), (19, iv ps.length), (20, iv s.i)]) (fun _ => (b1, [.slice oP ps.length cP, .slice oS m cS, iv e]) :: hs)
    (fun s : FmI => s.i ≤ ps.length ∧ SbB bb (lnT sEase [e] ++ pcsT ps s.i) s.bm) (fun s : FmI => ps.length - s.i) ⟨0, bm1⟩ ⟨Nat.zero_le _, by rw [show pcsT ps 0 = [] from rfl, List.append_nil]; exact hb1⟩ (Wd.le.refl _) (by repeat' first | trivial | rfl | apply And.intro) (.cons _ (.refl _)) ?_
  rintro ⟨i, bm2⟩ ⟨hi, hb2⟩
  dsimp only at hi hb2 ⊢
  have hle2 : (⟨W, ms⟩ : Wd).le ⟨W, bm2 ++ ms⟩ := ⟨rfl, List.sublist_append_right _ _⟩
  have hC2 := hC.base hle2
  have hl1 := hlp i hi
  by_cases hi' : i < ps.length
  · have hsd := T.sd6 i hi'
    have hsb := T.sdb i hi'
    have iP := hC2.isS hi'
    have hld := fun hs' (h : hs.Sublist hs') => hC2.ld (P := Tryz.prog) (t := 29) (shTOf rfl) h hi'
    have hA := hC2.sds i hi'
    have hB := hC2.ans i hi'
    have hl2 := hlp (i + 1) hi'
    rw [pcsT, List.length_append] at hl2
    have hbig : ∀ j, j < (pcA ps i).sd.length → InI ((pcA ps i).sd.getD j 0) ∧ InI ((pcA ps i).an.getD j 0) := fun j hj => ⟨⟨by have := (hsb j hj).1; omega, by have := (hsb j hj).1; omega⟩, ⟨by have := (hsb j hj).2; omega, by have := (hsb j hj).2; omega⟩⟩
    have hpT : pcsT ps (i + 1) = pcsT ps i ++ lnT sPiece (zzT (pcA ps i).sd (pcA ps i).an (pcA ps i).sd.length) := rfl
    generalize pcA ps i = p at *
    unfold pcv at hld
    repeat' (first | ((with_reducible apply kP (.load 29 _)); refine sP ?_ (o_load rfl (hld _ SBt))) | ((with_reducible apply kDP (.load 29 _)); refine dP ?_ (hX := rfl) (hv := o_load rfl (hld _ SBt))) | ((with_reducible apply kQO (.load 29 _)); refine qP ?_ (o_load rfl (hld _ SBt))) | ((with_reducible apply kP (.indexAddr 22 _ _)); refine sP ?_ (o_indexS (scTOf rfl) rfl rfl rfl (aa0 _) iP hi')) | ((with_reducible apply kDP (.indexAddr 22 _ _)); refine dP ?_ (hX := rfl) (hv := o_indexS (scTOf rfl) rfl rfl rfl (aa0 _) iP hi')) | ((with_reducible apply kQO (.indexAddr 22 _ _)); refine qP ?_ (o_indexS (scTOf rfl) rfl rfl rfl (aa0 _) iP hi')) | ((with_reducible apply kP (.alloc 29)); refine sA (fun b6 => ?_)) | ((with_reducible apply kN); refine stW ?_ (hf := flat_cons rfl (flat1 rfl))) | ((with_reducible apply kRg 11); refine cD [1, 1, 1, 1, 1, 1, 1, 1, 1, 1, 1, 2, 4, 1] ?_) | (with_reducible first | refine c_seq ?_ | refine c_reg ?_ | refine c_region ?_ | refine c_block ?_ | refine c_skip ?_ | refine c_exit ?_ | refine c_ret ?_ | refine s_nil ?_ | refine x_then ?_ | refine x_then_exit ?_ | refine x_then_ret ?_ | refine x_block ?_ | refine x_block_ret ?_ | refine x_block_same ?_ | refine x_block_other (by first | rfl | decide) ?_ | refine q_nil ?_ | refine k_nil ?_) | ((with_reducible apply kP (.makeFunc _ _ _)); refine sMF ?_) | ((with_reducible apply kN); first | refine stP ?_ | refine stI ?_ | refine st1 ?_ | refine stW ?_) | ((with_reducible apply kP (.alloc _)); refine sA (fun b => ?_)) | ((with_reducible apply kP (.box _ _)); first | refine sBA (fun b => ?_) | refine sB (fun b => ?_)) | ((with_reducible apply kP (.buildSlice _ 1 _)); first | refine sl1A (fun b => ?_) | refine sl1 (fun b => ?_)) | ((with_reducible apply kP (.buildSlice _ 4 _)); refine sl4 (fun b => ?_)) | ((with_reducible apply kP _); refine sP ?_) | ((with_reducible apply kP _); refine sX ?_) | ((with_reducible apply kC); first | refine cT ?_ | refine cF ?_ | (refine cI (fun h => ?_) (fun h => ?_) <;> (try (exfalso; omega))) | refine cB (fun h => ?_) (fun h => ?_)) | ((with_reducible apply kDP (.call ⟨.builtin .append, _, _⟩)); first | refine dAp3 (fun oa2 c2 blk2 hrow2 => ?_) (hS := SCt) | refine dAp4 (fun oa2 c2 blk2 hrow2 => ?_)) | ((with_reducible apply kDP _); refine dP ?_) | ((with_reducible apply kDP _); refine dX ?_))
    all_goals try (exfalso; omega)
    refine c_loop (fun s : FmJ => [(1, .pointer (some ⟨b1, 0, none⟩)), (3, .pointer (some ⟨bb, 0, none⟩)), (4, .func (.func 35) #[] #[.pointer (some ⟨bb, 0, none⟩)]), (6, .pointer (some ⟨b6, 0, none⟩)), (7, .slice s.oa (2 * s.k) s.c), (18, .slice oP ps.length cP), (19, iv ps.length), (20, iv i), (26, iv p.sd.length), (27, iv s.k)])
      (fun s : FmJ => s.blk ++ ((b6, [.slice p.oa p.sd.length p.ca, .slice p.ob p.an.length p.cb]) :: (b1, [.slice oP ps.length cP, .slice oS m cS, iv e]) :: hs)) (fun s : FmJ => s.k ≤ p.sd.length ∧ RowOk s.oa s.c 1 (ivs (zzT p.sd p.an s.k)) s.blk) (fun s : FmJ => p.sd.length - s.k) ⟨0, none, 0, []⟩ ⟨Nat.zero_le _, RowOk.nil⟩ (by repeat' first | trivial | rfl | apply And.intro) (.refl _) ?_
    rintro ⟨k, oa, c, blk⟩ ⟨hk, hr⟩
    dsimp only at hk hr ⊢
    have hkr : (ivs (zzT p.sd p.an k)).length = 2 * k * 1 := by rw [ivs_length, zzT_len, Nat.mul_one]
    by_cases hk' : k < p.sd.length
    · have i1 := hA.any hk'
      have i2 := hB.any (show k < p.an.length by rw [hsd.2]; exact hk')
      repeat' (first | ((with_reducible apply kP (.load 3 (.tmp 34))); refine sP ?_ (o_load rfl (ld_one (shTOf rfl) (hA.at SBt hk')))) | ((with_reducible apply kDP (.load 3 (.tmp 34))); refine dP ?_ (hX := rfl) (hv := o_load rfl (ld_one (shTOf rfl) (hA.at SBt hk')))) | ((with_reducible apply kQO (.load 3 (.tmp 34))); refine qP ?_ (o_load rfl (ld_one (shTOf rfl) (hA.at SBt hk')))) | ((with_reducible apply kP (.load 3 (.tmp 39))); refine sP ?_ (o_load rfl (ld_one (shTOf rfl) (hB.at SBt (show k < p.an.length by rw [hsd.2]; exact hk'))))) | ((with_reducible apply kDP (.load 3 (.tmp 39))); refine dP ?_ (hX := rfl) (hv := o_load rfl (ld_one (shTOf rfl) (hB.at SBt (show k < p.an.length by rw [hsd.2]; exact hk'))))) | ((with_reducible apply kQO (.load 3 (.tmp 39))); refine qP ?_ (o_load rfl (ld_one (shTOf rfl) (hB.at SBt (show k < p.an.length by rw [hsd.2]; exact hk'))))) | ((with_reducible apply kP (.indexAddr 27 (.tmp 32) _)); refine sP ?_ (o_indexS (scTOf rfl) rfl rfl rfl (aa0 _) i1 hk')) | ((with_reducible apply kDP (.indexAddr 27 (.tmp 32) _)); refine dP ?_ (hX := rfl) (hv := o_indexS (scTOf rfl) rfl rfl rfl (aa0 _) i1 hk')) | ((with_reducible apply kQO (.indexAddr 27 (.tmp 32) _)); refine qP ?_ (o_indexS (scTOf rfl) rfl rfl rfl (aa0 _) i1 hk')) | ((with_reducible apply kP (.indexAddr 27 (.tmp 37) _)); refine sP ?_ (o_indexS (scTOf rfl) rfl rfl rfl (aa0 _) i2 (show k < p.an.length by rw [hsd.2]; exact hk'))) | ((with_reducible apply kDP (.indexAddr 27 (.tmp 37) _)); refine dP ?_ (hX := rfl) (hv := o_indexS (scTOf rfl) rfl rfl rfl (aa0 _) i2 (show k < p.an.length by rw [hsd.2]; exact hk'))) | ((with_reducible apply kQO (.indexAddr 27 (.tmp 37) _)); refine qP ?_ (o_indexS (scTOf rfl) rfl rfl rfl (aa0 _) i2 (show k < p.an.length by rw [hsd.2]; exact hk'))) | ((with_reducible apply kDP (.buildSlice _ 2 _)); refine k_bs2 rfl rfl rfl rfl (scTOf rfl) (zsTOf rfl) (by decide) (fun b9 => ?_)) | ((with_reducible apply kDP (.call ⟨.builtin .append, _, _⟩)); refine k_app (m := 2) rfl (apTOf rfl) rfl rfl (by with_reducible ((repeat (first | exact Take.head | exact Take.one | exact Take.nil | apply Take.tail | apply Take.app)); done)) hr hkr mm0 rfl (by decide) (flat2 rfl rfl) (by omega) (ltd rfl) (by decide) (fun oa5 c5 k5 hr5 => ⟨_, kp4, ?_⟩)) | ((with_reducible apply kRg 11); refine cD [1, 1, 1, 1, 1, 1, 1, 1, 1, 1, 1, 2, 4, 1] ?_) | (with_reducible first | refine c_seq ?_ | refine c_reg ?_ | refine c_region ?_ | refine c_block ?_ | refine c_skip ?_ | refine c_exit ?_ | refine c_ret ?_ | refine s_nil ?_ | refine x_then ?_ | refine x_then_exit ?_ | refine x_then_ret ?_ | refine x_block ?_ | refine x_block_ret ?_ | refine x_block_same ?_ | refine x_block_other (by first | rfl | decide) ?_ | refine q_nil ?_ | refine k_nil ?_) | ((with_reducible apply kP (.makeFunc _ _ _)); refine sMF ?_) | ((with_reducible apply kN); first | refine stP ?_ | refine stI ?_ | refine st1 ?_ | refine stW ?_) | ((with_reducible apply kP (.alloc _)); refine sA (fun b => ?_)) | ((with_reducible apply kP (.box _ _)); first | refine sBA (fun b => ?_) | refine sB (fun b => ?_)) | ((with_reducible apply kP (.buildSlice _ 1 _)); first | refine sl1A (fun b => ?_) | refine sl1 (fun b => ?_)) | ((with_reducible apply kP (.buildSlice _ 4 _)); refine sl4 (fun b => ?_)) | ((with_reducible apply kP _); refine sP ?_) | ((with_reducible apply kP _); refine sX ?_) | ((with_reducible apply kC); first | refine cT ?_ | refine cF ?_ | (refine cI (fun h => ?_) (fun h => ?_) <;> (try (exfalso; omega))) | refine cB (fun h => ?_) (fun h => ?_)) | ((with_reducible apply kDP (.call ⟨.builtin .append, _, _⟩)); first | refine dAp3 (fun oa2 c2 blk2 hrow2 => ?_) (hS := SCt) | refine dAp4 (fun oa2 c2 blk2 hrow2 => ?_)) | ((with_reducible apply kDP _); refine dP ?_) | ((with_reducible apply kDP _); refine dX ?_))
      all_goals try (exfalso; omega)
      have e5 : ivs (zzT p.sd p.an (k + 1)) = ivs (zzT p.sd p.an k) ++ [iv (p.sd.getD k 0), iv (p.an.getD k 0)] := by rw [zzT]; simp [ivs]
      refine r_end (⟨k + 1, oa5, c5, k5⟩ : FmJ) ⟨hk', by dsimp only; rw [e5]; exact hr5⟩ (by dsimp only; omega) (by repeat' first | trivial | rfl | apply And.intro) (.append (.refl _) (.cons _ (.refl _)))
    · obtain rfl : k = p.sd.length := by omega
      have hLz := Sl.row (B := B) (w0 := ⟨W, ms⟩) hr
      have hz : (zzT p.sd p.an p.sd.length).length = 2 * p.sd.length := zzT_len _ _ _
      repeat' (first | ((with_reducible apply kT 44); refine s_callFW (x := .tmp 44) (goF rfl) rfl rfl rfl (hz ▸ x_line B _ _ sPiece (zzT p.sd p.an p.sd.length) oa c _ ms hb2 (List.cons_ne_nil _ _) (by simp only [List.length_append] at hl2 ⊢; omega) (zzT_mem _ hbig) W hT _ (hLz.sub SBt)) (by decide) ?_; rintro v1 w1 h1 ⟨rfl, rfl, bm3, hb3, rfl⟩) | ((with_reducible apply kRg 11); refine cD [1, 1, 1, 1, 1, 1, 1, 1, 1, 1, 1, 2, 4, 1] ?_) | (with_reducible first | refine c_seq ?_ | refine c_reg ?_ | refine c_region ?_ | refine c_block ?_ | refine c_skip ?_ | refine c_exit ?_ | refine c_ret ?_ | refine s_nil ?_ | refine x_then ?_ | refine x_then_exit ?_ | refine x_then_ret ?_ | refine x_block ?_ | refine x_block_ret ?_ | refine x_block_same ?_ | refine x_block_other (by first | rfl | decide) ?_ | refine q_nil ?_ | refine k_nil ?_) | ((with_reducible apply kP (.makeFunc _ _ _)); refine sMF ?_) | ((with_reducible apply kN); first | refine stP ?_ | refine stI ?_ | refine st1 ?_ | refine stW ?_) | ((with_reducible apply kP (.alloc _)); refine sA (fun b => ?_)) | ((with_reducible apply kP (.box _ _)); first | refine sBA (fun b => ?_) | refine sB (fun b => ?_)) | ((with_reducible apply kP (.buildSlice _ 1 _)); first | refine sl1A (fun b => ?_) | refine sl1 (fun b => ?_)) | ((with_reducible apply kP (.buildSlice _ 4 _)); refine sl4 (fun b => ?_)) | ((with_reducible apply kP _); refine sP ?_) | ((with_reducible apply kP _); refine sX ?_) | ((with_reducible apply kC); first | refine cT ?_ | refine cF ?_ | (refine cI (fun h => ?_) (fun h => ?_) <;> (try (exfalso; omega))) | refine cB (fun h => ?_) (fun h => ?_)) | ((with_reducible apply kDP (.call ⟨.builtin .append, _, _⟩)); first | refine dAp3 (fun oa2 c2 blk2 hrow2 => ?_) (hS := SCt) | refine dAp4 (fun oa2 c2 blk2 hrow2 => ?_)) | ((with_reducible apply kDP _); refine dP ?_) | ((with_reducible apply kDP _); refine dX ?_))
      all_goals try (exfalso; omega)
      exact r_endM (⟨i + 1, bm3⟩ : FmI) ⟨hi', by dsimp only; rw [hpT, ← List.append_assoc]; exact hb3⟩ (by dsimp only; omega) (Wd.le.refl _) (by repeat' first | trivial | rfl | apply And.intro) (sbA (.cons _ (.refl _)))
  · obtain rfl : i = ps.length := by omega
    repeat' (first | ((with_reducible apply kRg 11); refine cD [1, 1, 1, 1, 1, 1, 1, 1, 1, 1, 1, 2, 4, 1] ?_) | (with_reducible first | refine c_seq ?_ | refine c_reg ?_ | refine c_region ?_ | refine c_block ?_ | refine c_skip ?_ | refine c_exit ?_ | refine c_ret ?_ | refine s_nil ?_ | refine x_then ?_ | refine x_then_exit ?_ | refine x_then_ret ?_ | refine x_block ?_ | refine x_block_ret ?_ | refine x_block_same ?_ | refine x_block_other (by first | rfl | decide) ?_ | refine q_nil ?_ | refine k_nil ?_) | ((with_reducible apply kP (.makeFunc _ _ _)); refine sMF ?_) | ((with_reducible apply kN); first | refine stP ?_ | refine stI ?_ | refine st1 ?_ | refine stW ?_) | ((with_reducible apply kP (.alloc _)); refine sA (fun b => ?_)) | ((with_reducible apply kP (.box _ _)); first | refine sBA (fun b => ?_) | refine sB (fun b => ?_)) | ((with_reducible apply kP (.buildSlice _ 1 _)); first | refine sl1A (fun b => ?_) | refine sl1 (fun b => ?_)) | ((with_reducible apply kP (.buildSlice _ 4 _)); refine sl4 (fun b => ?_)) | ((with_reducible apply kP _); refine sP ?_) | ((with_reducible apply kP _); refine sX ?_) | ((with_reducible apply kC); first | refine cT ?_ | refine cF ?_ | (refine cI (fun h => ?_) (fun h => ?_) <;> (try (exfalso; omega))) | refine cB (fun h => ?_) (fun h => ?_)) | ((with_reducible apply kDP (.call ⟨.builtin .append, _, _⟩)); first | refine dAp3 (fun oa2 c2 blk2 hrow2 => ?_) (hS := SCt) | refine dAp4 (fun oa2 c2 blk2 hrow2 => ?_)) | ((with_reducible apply kDP _); refine dP ?_) | ((with_reducible apply kDP _); refine dX ?_))
    all_goals try (exfalso; omega)
    refine c_loopM (fun s : FmI => ⟨W, s.bm ++ ms⟩) (fun s : FmI => [(3, .pointer (some ⟨bb, 0, none⟩)), (4, .func (.func 35) #[] #[.pointer (some ⟨bb, 0, none⟩)]), (49, .slice oS m cS), (50, iv m), (51, iv s.i)]) (fun _ => (b1, [.slice oP ps.length cP, .slice oS m cS, iv e]) :: hs)
      (fun s : FmI => s.i ≤ m ∧ SbB bb (lnT sEase [e] ++ pcsT ps ps.length ++ smsT sm s.i) s.bm) (fun s : FmI => m - s.i) ⟨0, bm2⟩ ⟨Nat.zero_le _, by rw [show smsT sm 0 = [] from rfl, List.append_nil]; exact hb2⟩ (Wd.le.refl _) (by repeat' first | trivial | rfl | apply And.intro) (.refl _) ?_
    rintro ⟨k, bm4⟩ ⟨hk, hb4⟩
    dsimp only at hk hb4 ⊢
    have hle4 : (⟨W, ms⟩ : Wd).le ⟨W, bm4 ++ ms⟩ := ⟨rfl, List.sublist_append_right _ _⟩
    have hC4 := hC.base hle4
    have hl3 := hls k hk
    by_cases hk' : k < m
    · have hld : ∀ hs' : HS, hs.Sublist hs' → Ld Tryz.prog B ⟨W, bm4 ++ ms⟩ hs' 39 (ea oS (k * 4)) (.agg #[iv (smA sm k), iv (smI sm k), iv (smB sm k), iv (smJ sm k)]) := fun hs' h => ld_seam (shTOf rfl) hC4.sms h (by omega)
      have iS := hC4.sms.any (show k * 4 < sm.length by omega)
      have hl4 := hls (k + 1) hk'
      rw [smsT, List.length_append] at hl4
      have hb := T.smb k hk'
      have hI4 : ∀ x ∈ [smA sm k, smI sm k, smB sm k, smJ sm k], InI x := fun x hx => by
        simp only [List.mem_cons, List.not_mem_nil, or_false] at hx
        rcases hx with rfl | rfl | rfl | rfl <;> exact ⟨by omega, by omega⟩
      repeat' (first | ((with_reducible apply kP (.load 39 _)); refine sP ?_ (o_load rfl (hld _ SBt))) | ((with_reducible apply kDP (.load 39 _)); refine dP ?_ (hX := rfl) (hv := o_load rfl (hld _ SBt))) | ((with_reducible apply kQO (.load 39 _)); refine qP ?_ (o_load rfl (hld _ SBt))) | ((with_reducible apply kP (.indexAddr 23 _ _)); refine sP ?_ (o_indexS (scTOf rfl) rfl rfl rfl (aa0 _) iS hk')) | ((with_reducible apply kDP (.indexAddr 23 _ _)); refine dP ?_ (hX := rfl) (hv := o_indexS (scTOf rfl) rfl rfl rfl (aa0 _) iS hk')) | ((with_reducible apply kQO (.indexAddr 23 _ _)); refine qP ?_ (o_indexS (scTOf rfl) rfl rfl rfl (aa0 _) iS hk')) | ((with_reducible apply kP (.alloc 39)); refine sA (fun b10 => ?_)) | ((with_reducible apply kN); refine stW ?_ (hf := flat_iv [smA sm k, smI sm k, smB sm k, smJ sm k])) | ((with_reducible apply kT 55); refine s_callFW (x := .tmp 55) (goF rfl) rfl rfl rfl (x_line B _ _ sSeam [smA sm k, smI sm k, smB sm k, smJ sm k] _ _ _ ms hb4 (List.cons_ne_nil _ _) (by simp only [List.length_append] at hl4 ⊢; omega) hI4 W hT _ (Sl.own MDt)) (by decide) ?_; rintro v1 w1 h1 ⟨rfl, rfl, bm5, hb5, rfl⟩) | ((with_reducible apply kRg 11); refine cD [1, 1, 1, 1, 1, 1, 1, 1, 1, 1, 1, 2, 4, 1] ?_) | (with_reducible first | refine c_seq ?_ | refine c_reg ?_ | refine c_region ?_ | refine c_block ?_ | refine c_skip ?_ | refine c_exit ?_ | refine c_ret ?_ | refine s_nil ?_ | refine x_then ?_ | refine x_then_exit ?_ | refine x_then_ret ?_ | refine x_block ?_ | refine x_block_ret ?_ | refine x_block_same ?_ | refine x_block_other (by first | rfl | decide) ?_ | refine q_nil ?_ | refine k_nil ?_) | ((with_reducible apply kP (.makeFunc _ _ _)); refine sMF ?_) | ((with_reducible apply kN); first | refine stP ?_ | refine stI ?_ | refine st1 ?_ | refine stW ?_) | ((with_reducible apply kP (.alloc _)); refine sA (fun b => ?_)) | ((with_reducible apply kP (.box _ _)); first | refine sBA (fun b => ?_) | refine sB (fun b => ?_)) | ((with_reducible apply kP (.buildSlice _ 1 _)); first | refine sl1A (fun b => ?_) | refine sl1 (fun b => ?_)) | ((with_reducible apply kP (.buildSlice _ 4 _)); refine sl4 (fun b => ?_)) | ((with_reducible apply kP _); refine sP ?_) | ((with_reducible apply kP _); refine sX ?_) | ((with_reducible apply kC); first | refine cT ?_ | refine cF ?_ | (refine cI (fun h => ?_) (fun h => ?_) <;> (try (exfalso; omega))) | refine cB (fun h => ?_) (fun h => ?_)) | ((with_reducible apply kDP (.call ⟨.builtin .append, _, _⟩)); first | refine dAp3 (fun oa2 c2 blk2 hrow2 => ?_) (hS := SCt) | refine dAp4 (fun oa2 c2 blk2 hrow2 => ?_)) | ((with_reducible apply kDP _); refine dP ?_) | ((with_reducible apply kDP _); refine dX ?_))
      all_goals try (exfalso; omega)
      exact r_endM (⟨k + 1, bm5⟩ : FmI) ⟨hk', by dsimp only; rw [smsT, ← List.append_assoc]; exact hb5⟩ (by dsimp only; omega) (Wd.le.refl _) (by repeat' first | trivial | rfl | apply And.intro) (.cons _ (.cons _ (.refl _)))
    · obtain rfl : k = m := by omega
      repeat' (first | ((with_reducible apply kF 38); refine s_callW (goF rfl) rfl (x_String B _ _ _ ms hb4 (fun h => List.cons_ne_nil _ _ (List.append_eq_nil_iff.1 (List.append_eq_nil_iff.1 h).1).1) (by simp only [List.length_append]; omega) W _) (by decide) ?_; rintro v1 w1 h1 ⟨rfl, rfl, rfl⟩) | ((with_reducible apply kRg 11); refine cD [1, 1, 1, 1, 1, 1, 1, 1, 1, 1, 1, 2, 4, 1] ?_) | (with_reducible first | refine c_seq ?_ | refine c_reg ?_ | refine c_region ?_ | refine c_block ?_ | refine c_skip ?_ | refine c_exit ?_ | refine c_ret ?_ | refine s_nil ?_ | refine x_then ?_ | refine x_then_exit ?_ | refine x_then_ret ?_ | refine x_block ?_ | refine x_block_ret ?_ | refine x_block_same ?_ | refine x_block_other (by first | rfl | decide) ?_ | refine q_nil ?_ | refine k_nil ?_) | ((with_reducible apply kP (.makeFunc _ _ _)); refine sMF ?_) | ((with_reducible apply kN); first | refine stP ?_ | refine stI ?_ | refine st1 ?_ | refine stW ?_) | ((with_reducible apply kP (.alloc _)); refine sA (fun b => ?_)) | ((with_reducible apply kP (.box _ _)); first | refine sBA (fun b => ?_) | refine sB (fun b => ?_)) | ((with_reducible apply kP (.buildSlice _ 1 _)); first | refine sl1A (fun b => ?_) | refine sl1 (fun b => ?_)) | ((with_reducible apply kP (.buildSlice _ 4 _)); refine sl4 (fun b => ?_)) | ((with_reducible apply kP _); refine sP ?_) | ((with_reducible apply kP _); refine sX ?_) | ((with_reducible apply kC); first | refine cT ?_ | refine cF ?_ | (refine cI (fun h => ?_) (fun h => ?_) <;> (try (exfalso; omega))) | refine cB (fun h => ?_) (fun h => ?_)) | ((with_reducible apply kDP (.call ⟨.builtin .append, _, _⟩)); first | refine dAp3 (fun oa2 c2 blk2 hrow2 => ?_) (hS := SCt) | refine dAp4 (fun oa2 c2 blk2 hrow2 => ?_)) | ((with_reducible apply kDP _); refine dP ?_) | ((with_reducible apply kDP _); refine dX ?_))
      all_goals try (exfalso; omega)
      exact e_ret1 (hs' := hs) rfl rfl ⟨rfl, rfl⟩ (.cons _ (.refl _))
end Go.Proofs.YtnbickholedckaaGreatDoor
namespace Go.Proofs.YtnbickholedckaaGreatDoor
open Go.RowKit
/-- What Format answers. -/
def fcV (ps : List Pc) (sm : List Int) (m : Nat) (e : Int) : Value := .tuple #[sv (if vdC ps sm m e = 0 then capT ps sm m e else []), iv (vdC ps sm m e)]
attribute [local irreducible] OpF Ld CellAt Sl Sv pcA
set_option maxRecDepth 100000 in
set_option maxHeartbeats 8000000 in
theorem k_Format (ps : List Pc) (oP oS : Option Addr) (cP m cS : Nat) (sm : List Int) (e : Int) (hn : ps.length ≤ 10000) (hsm : sm.length = m * 4) (hm : m ≤ 10000) (B : Nat) (w0 : Wd) (hT : TxW B w0) (hs : HS) (hC : CapM B w0 hs oP oS ps sm) :
    Fn Tryz.prog 7 #[.agg #[.slice oP ps.length cP, .slice oS m cS, iv e]] B w0 hs (fun v h => v = fcV ps sm m e ∧ h = hs) := by
  have kv := fun hs' (h : hs.Sublist hs') => k_Validate ps oP oS cP m cS sm e hn hsm hm B w0 hs' (hC.sub h)
  have e0 : vdE ps.length (sdF ps) (anF ps) m sm e = vdC ps sm m e := rfl
  rw [e0] at kv
  unfold fcV
  by_cases hv : vdC ps sm m e = 0
  · have kf := fun hs' (h : hs.Sublist hs') => k_format ps oP oS cP m cS sm e hsm hm (vdC_0 hv).tx B w0 hT hs' (hC.sub h)
    rw [if_pos hv]
    rw [hv] at kv ⊢
    refine fn_enter Tryz.func7 rfl Tryz.ntmps7 (by simp) ?_
    repeat' (first | ((with_reducible apply kP (.box 25 _)); refine sBA (fun b1 => ?_)) | ((with_reducible apply kF 6); refine sC 6 (kv _ SBt) ?_) | ((with_reducible apply kF 21); refine sC 21 (kf _ SBt) ?_) | (with_reducible first | refine c_seq ?_ | refine c_reg ?_ | refine c_region ?_ | refine c_block ?_ | refine c_skip ?_ | refine c_exit ?_ | refine c_ret ?_ | refine s_nil ?_ | refine x_then ?_ | refine x_then_exit ?_ | refine x_then_ret ?_ | refine x_block ?_ | refine x_block_ret ?_ | refine x_block_same ?_ | refine x_block_other (by first | rfl | decide) ?_ | refine q_nil ?_ | refine k_nil ?_) | ((with_reducible apply kP (.box _ _)); first | refine sBA (fun b => ?_) | refine sB (fun b => ?_)) | ((with_reducible apply kP _); refine sP ?_) | ((with_reducible apply kP _); refine sX ?_) | ((with_reducible apply kC); first | refine cT ?_ | refine cF ?_ | (refine cI (fun h => ?_) (fun h => ?_) <;> (try (exfalso; omega))) | refine cB (fun h => ?_) (fun h => ?_)))
    all_goals first
      | (exfalso; omega)
      | exact e_ret2 (hs' := hs) rfl rfl rfl ⟨rfl, rfl⟩ (.cons _ (.refl _))
      | trace_state
  · rw [if_neg hv]
    generalize vdC ps sm m e = E at *
    refine fn_enter Tryz.func7 rfl Tryz.ntmps7 (by simp) ?_
    repeat' (first | ((with_reducible apply kP (.box 25 _)); refine sBA (fun b1 => ?_)) | ((with_reducible apply kF 6); refine sC 6 (kv _ SBt) ?_) | (with_reducible first | refine c_seq ?_ | refine c_reg ?_ | refine c_region ?_ | refine c_block ?_ | refine c_skip ?_ | refine c_exit ?_ | refine c_ret ?_ | refine s_nil ?_ | refine x_then ?_ | refine x_then_exit ?_ | refine x_then_ret ?_ | refine x_block ?_ | refine x_block_ret ?_ | refine x_block_same ?_ | refine x_block_other (by first | rfl | decide) ?_ | refine q_nil ?_ | refine k_nil ?_) | ((with_reducible apply kP (.box _ _)); first | refine sBA (fun b => ?_) | refine sB (fun b => ?_)) | ((with_reducible apply kP _); refine sP ?_) | ((with_reducible apply kP _); refine sX ?_) | ((with_reducible apply kC); first | refine cT ?_ | refine cF ?_ | (refine cI (fun h => ?_) (fun h => ?_) <;> (try (exfalso; omega))) | refine cB (fun h => ?_) (fun h => ?_)))
    all_goals first
      | (exfalso; omega)
      | exact e_ret2 (hs' := hs) rfl rfl rfl ⟨rfl, rfl⟩ (.cons _ (.refl _))
      | trace_state
end Go.Proofs.YtnbickholedckaaGreatDoor
namespace Go.Proofs.YtnbickholedckaaGreatDoor
open Go.RowKit
attribute [local irreducible] OpF Ld CellAt Sl Sv pcA
def lgP (p : Pc) : Prop := 30 < (p.sd.length : Int) ∨ 30 < (p.an.length : Int)
def lgC (ps : List Pc) (m : Nat) : Prop := 30 < (ps.length : Int) ∨ 60 < (m : Int) ∨ ∃ i, i < ps.length ∧ lgP (pcA ps i)
set_option maxRecDepth 100000 in
set_option maxHeartbeats 8000000 in
theorem k_Long (ps : List Pc) (oP oS : Option Addr) (cP m cS : Nat) (sm : List Int) (e : Int) (B : Nat) (w0 : Wd) (hs : HS) (hC : CapM B w0 hs oP oS ps sm) :
    Fn Tryz.prog 5 #[.agg #[.slice oP ps.length cP, .slice oS m cS, iv e]] B w0 hs (fun v h => (∃ b : Bool, v = .bool b ∧ (b = true ↔ lgC ps m)) ∧ h = hs) := by
  by_cases h1 : 30 < (ps.length : Int)
  · refine fn_enter Tryz.func5 rfl Tryz.ntmps5 (by simp) ?_
    repeat' (first | ((with_reducible apply kP (.box 25 _)); refine sBA (fun b1 => ?_)) | (with_reducible first | refine c_seq ?_ | refine c_reg ?_ | refine c_region ?_ | refine c_block ?_ | refine c_skip ?_ | refine c_exit ?_ | refine c_ret ?_ | refine s_nil ?_ | refine x_then ?_ | refine x_then_exit ?_ | refine x_then_ret ?_ | refine x_block ?_ | refine x_block_ret ?_ | refine x_block_same ?_ | refine x_block_other (by first | rfl | decide) ?_ | refine q_nil ?_ | refine k_nil ?_) | ((with_reducible apply kG); first | refine gY1 ?_ | refine gN1 ?_ | refine gU1 ?_ | (refine gD1 (fun h => ?_) (fun h => ?_) <;> (try (exfalso; omega))) | refine gB1 (fun h => ?_) (fun h => ?_)) | ((with_reducible apply kP (.box _ _)); first | refine sBA (fun b => ?_) | refine sB (fun b => ?_)) | ((with_reducible apply kP _); refine sP ?_) | ((with_reducible apply kP _); refine sX ?_) | ((with_reducible apply kC); first | refine cT ?_ | refine cF ?_ | (refine cI (fun h => ?_) (fun h => ?_) <;> (try (exfalso; omega))) | refine cB (fun h => ?_) (fun h => ?_)))
    all_goals first | exact e_ret1 (hs' := hs) rfl rfl ⟨⟨true, rfl, by simp only [true_iff]; exact .inl h1⟩, rfl⟩ SCt | trace_state
  · by_cases h2 : 60 < (m : Int)
    · refine fn_enter Tryz.func5 rfl Tryz.ntmps5 (by simp) ?_
      repeat' (first | ((with_reducible apply kP (.box 25 _)); refine sBA (fun b1 => ?_)) | (with_reducible first | refine c_seq ?_ | refine c_reg ?_ | refine c_region ?_ | refine c_block ?_ | refine c_skip ?_ | refine c_exit ?_ | refine c_ret ?_ | refine s_nil ?_ | refine x_then ?_ | refine x_then_exit ?_ | refine x_then_ret ?_ | refine x_block ?_ | refine x_block_ret ?_ | refine x_block_same ?_ | refine x_block_other (by first | rfl | decide) ?_ | refine q_nil ?_ | refine k_nil ?_) | ((with_reducible apply kG); first | refine gY1 ?_ | refine gN1 ?_ | refine gU1 ?_ | (refine gD1 (fun h => ?_) (fun h => ?_) <;> (try (exfalso; omega))) | refine gB1 (fun h => ?_) (fun h => ?_)) | ((with_reducible apply kP (.box _ _)); first | refine sBA (fun b => ?_) | refine sB (fun b => ?_)) | ((with_reducible apply kP _); refine sP ?_) | ((with_reducible apply kP _); refine sX ?_) | ((with_reducible apply kC); first | refine cT ?_ | refine cF ?_ | (refine cI (fun h => ?_) (fun h => ?_) <;> (try (exfalso; omega))) | refine cB (fun h => ?_) (fun h => ?_)))
      all_goals first | exact e_ret1 (hs' := hs) rfl rfl ⟨⟨true, rfl, by simp only [true_iff]; exact .inr (.inl h2)⟩, rfl⟩ SCt | trace_state
    · have hc0 := fun hs' (h : hs.Sublist hs') i (hi : i < ps.length) => hC.c0 h hi
      have hc1 := fun hs' (h : hs.Sublist hs') i (hi : i < ps.length) => hC.c1 h hi
      have hiS := fun i (hi : i < ps.length) => hC.isS hi
      refine fn_enter Tryz.func5 rfl Tryz.ntmps5 (by simp) ?_
      repeat' (first | ((with_reducible apply kP (.box 25 _)); refine sBA (fun b1 => ?_)) | (with_reducible first | refine c_seq ?_ | refine c_reg ?_ | refine c_region ?_ | refine c_block ?_ | refine c_skip ?_ | refine c_exit ?_ | refine c_ret ?_ | refine s_nil ?_ | refine x_then ?_ | refine x_then_exit ?_ | refine x_then_ret ?_ | refine x_block ?_ | refine x_block_ret ?_ | refine x_block_same ?_ | refine x_block_other (by first | rfl | decide) ?_ | refine q_nil ?_ | refine k_nil ?_) | ((with_reducible apply kG); first | refine gY1 ?_ | refine gN1 ?_ | refine gU1 ?_ | (refine gD1 (fun h => ?_) (fun h => ?_) <;> (try (exfalso; omega))) | refine gB1 (fun h => ?_) (fun h => ?_)) | ((with_reducible apply kP (.box _ _)); first | refine sBA (fun b => ?_) | refine sB (fun b => ?_)) | ((with_reducible apply kP _); refine sP ?_) | ((with_reducible apply kP _); refine sX ?_) | ((with_reducible apply kC); first | refine cT ?_ | refine cF ?_ | (refine cI (fun h => ?_) (fun h => ?_) <;> (try (exfalso; omega))) | refine cB (fun h => ?_) (fun h => ?_)))
      refine c_loop (fun i : Nat => [(1, .pointer (some ⟨b1, 0, none⟩)), (3, iv i)]) (fun _ => (b1, [.slice oP ps.length cP, .slice oS m cS, iv e]) :: hs) (fun i => i ≤ ps.length ∧ ∀ j, j < i → ¬ lgP (pcA ps j)) (fun i => ps.length - i) 0 ⟨Nat.zero_le _, fun j hj => absurd hj (Nat.not_lt_zero _)⟩ (by repeat' first | trivial | rfl | apply And.intro) SCt ?_
      rintro i ⟨hi, hno⟩
      by_cases hi' : i < ps.length
      · have hc0 := fun hs' (h : hs.Sublist hs') => hC.c0 h hi'
        have hc1 := fun hs' (h : hs.Sublist hs') => hC.c1 h hi'
        have iP := hC.isS hi'
        have hsd : ∀ v : Bool, (v = true ↔ 30 < ((pcA ps i).sd.length : Int)) → True := fun _ _ => trivial
        by_cases g1 : 30 < ((pcA ps i).sd.length : Int)
        · repeat' (first | ((with_reducible apply kP (.fieldAddr _ _ _)); refine sP ?_ (o_fieldE rfl (by assumption) (foTOf2 rfl rfl) (by with_reducible first | exact bb0 _ | exact bb1 _ | exact bb2 _ _))) | ((with_reducible apply kDP (.fieldAddr _ _ _)); refine dP ?_ (hX := rfl) (hv := o_fieldE rfl (by assumption) (foTOf2 rfl rfl) (by with_reducible first | exact bb0 _ | exact bb1 _ | exact bb2 _ _))) | ((with_reducible apply kQO (.fieldAddr _ _ _)); refine qP ?_ (o_fieldE rfl (by assumption) (foTOf2 rfl rfl) (by with_reducible first | exact bb0 _ | exact bb1 _ | exact bb2 _ _))) | ((with_reducible apply kP (.load 27 (.tmp 25))); refine sP ?_ (o_load rfl (ld_one (shTOf rfl) (hc0 _ SBt)))) | ((with_reducible apply kDP (.load 27 (.tmp 25))); refine dP ?_ (hX := rfl) (hv := o_load rfl (ld_one (shTOf rfl) (hc0 _ SBt)))) | ((with_reducible apply kQO (.load 27 (.tmp 25))); refine qP ?_ (o_load rfl (ld_one (shTOf rfl) (hc0 _ SBt)))) | (with_reducible first | refine c_seq ?_ | refine c_reg ?_ | refine c_region ?_ | refine c_block ?_ | refine c_skip ?_ | refine c_exit ?_ | refine c_ret ?_ | refine s_nil ?_ | refine x_then ?_ | refine x_then_exit ?_ | refine x_then_ret ?_ | refine x_block ?_ | refine x_block_ret ?_ | refine x_block_same ?_ | refine x_block_other (by first | rfl | decide) ?_ | refine q_nil ?_ | refine k_nil ?_) | ((with_reducible apply kG); first | refine gY1 ?_ | refine gN1 ?_ | refine gU1 ?_ | (refine gD1 (fun h => ?_) (fun h => ?_) <;> (try (exfalso; omega))) | refine gB1 (fun h => ?_) (fun h => ?_)) | ((with_reducible apply kP (.box _ _)); first | refine sBA (fun b => ?_) | refine sB (fun b => ?_)) | ((with_reducible apply kP _); refine sP ?_) | ((with_reducible apply kP _); refine sX ?_) | ((with_reducible apply kC); first | refine cT ?_ | refine cF ?_ | (refine cI (fun h => ?_) (fun h => ?_) <;> (try (exfalso; omega))) | refine cB (fun h => ?_) (fun h => ?_)))
          all_goals first | exact e_ret1 (hs' := hs) rfl rfl ⟨⟨true, rfl, by simp only [true_iff]; exact .inr (.inr ⟨i, hi', .inl g1⟩)⟩, rfl⟩ SCt | trace_state
        · by_cases g2 : 30 < ((pcA ps i).an.length : Int)
          · repeat' (first | ((with_reducible apply kP (.fieldAddr _ _ _)); refine sP ?_ (o_fieldE rfl (by assumption) (foTOf2 rfl rfl) (by with_reducible first | exact bb0 _ | exact bb1 _ | exact bb2 _ _))) | ((with_reducible apply kDP (.fieldAddr _ _ _)); refine dP ?_ (hX := rfl) (hv := o_fieldE rfl (by assumption) (foTOf2 rfl rfl) (by with_reducible first | exact bb0 _ | exact bb1 _ | exact bb2 _ _))) | ((with_reducible apply kQO (.fieldAddr _ _ _)); refine qP ?_ (o_fieldE rfl (by assumption) (foTOf2 rfl rfl) (by with_reducible first | exact bb0 _ | exact bb1 _ | exact bb2 _ _))) | ((with_reducible apply kP (.load 27 (.tmp 25))); refine sP ?_ (o_load rfl (ld_one (shTOf rfl) (hc0 _ SBt)))) | ((with_reducible apply kDP (.load 27 (.tmp 25))); refine dP ?_ (hX := rfl) (hv := o_load rfl (ld_one (shTOf rfl) (hc0 _ SBt)))) | ((with_reducible apply kQO (.load 27 (.tmp 25))); refine qP ?_ (o_load rfl (ld_one (shTOf rfl) (hc0 _ SBt)))) | ((with_reducible apply kP (.load 27 (.tmp 34))); refine sP ?_ (o_load rfl (ld_one (shTOf rfl) (hc1 _ SBt)))) | ((with_reducible apply kDP (.load 27 (.tmp 34))); refine dP ?_ (hX := rfl) (hv := o_load rfl (ld_one (shTOf rfl) (hc1 _ SBt)))) | ((with_reducible apply kQO (.load 27 (.tmp 34))); refine qP ?_ (o_load rfl (ld_one (shTOf rfl) (hc1 _ SBt)))) | (with_reducible first | refine c_seq ?_ | refine c_reg ?_ | refine c_region ?_ | refine c_block ?_ | refine c_skip ?_ | refine c_exit ?_ | refine c_ret ?_ | refine s_nil ?_ | refine x_then ?_ | refine x_then_exit ?_ | refine x_then_ret ?_ | refine x_block ?_ | refine x_block_ret ?_ | refine x_block_same ?_ | refine x_block_other (by first | rfl | decide) ?_ | refine q_nil ?_ | refine k_nil ?_) | ((with_reducible apply kG); first | refine gY1 ?_ | refine gN1 ?_ | refine gU1 ?_ | (refine gD1 (fun h => ?_) (fun h => ?_) <;> (try (exfalso; omega))) | refine gB1 (fun h => ?_) (fun h => ?_)) | ((with_reducible apply kP (.box _ _)); first | refine sBA (fun b => ?_) | refine sB (fun b => ?_)) | ((with_reducible apply kP _); refine sP ?_) | ((with_reducible apply kP _); refine sX ?_) | ((with_reducible apply kC); first | refine cT ?_ | refine cF ?_ | (refine cI (fun h => ?_) (fun h => ?_) <;> (try (exfalso; omega))) | refine cB (fun h => ?_) (fun h => ?_)))
            all_goals first | exact e_ret1 (hs' := hs) rfl rfl ⟨⟨true, rfl, by simp only [true_iff]; exact .inr (.inr ⟨i, hi', .inr g2⟩)⟩, rfl⟩ SCt | trace_state
          · repeat' (first | ((with_reducible apply kP (.fieldAddr _ _ _)); refine sP ?_ (o_fieldE rfl (by assumption) (foTOf2 rfl rfl) (by with_reducible first | exact bb0 _ | exact bb1 _ | exact bb2 _ _))) | ((with_reducible apply kDP (.fieldAddr _ _ _)); refine dP ?_ (hX := rfl) (hv := o_fieldE rfl (by assumption) (foTOf2 rfl rfl) (by with_reducible first | exact bb0 _ | exact bb1 _ | exact bb2 _ _))) | ((with_reducible apply kQO (.fieldAddr _ _ _)); refine qP ?_ (o_fieldE rfl (by assumption) (foTOf2 rfl rfl) (by with_reducible first | exact bb0 _ | exact bb1 _ | exact bb2 _ _))) | ((with_reducible apply kP (.load 27 (.tmp 25))); refine sP ?_ (o_load rfl (ld_one (shTOf rfl) (hc0 _ SBt)))) | ((with_reducible apply kDP (.load 27 (.tmp 25))); refine dP ?_ (hX := rfl) (hv := o_load rfl (ld_one (shTOf rfl) (hc0 _ SBt)))) | ((with_reducible apply kQO (.load 27 (.tmp 25))); refine qP ?_ (o_load rfl (ld_one (shTOf rfl) (hc0 _ SBt)))) | ((with_reducible apply kP (.load 27 (.tmp 34))); refine sP ?_ (o_load rfl (ld_one (shTOf rfl) (hc1 _ SBt)))) | ((with_reducible apply kDP (.load 27 (.tmp 34))); refine dP ?_ (hX := rfl) (hv := o_load rfl (ld_one (shTOf rfl) (hc1 _ SBt)))) | ((with_reducible apply kQO (.load 27 (.tmp 34))); refine qP ?_ (o_load rfl (ld_one (shTOf rfl) (hc1 _ SBt)))) | (with_reducible first | refine c_seq ?_ | refine c_reg ?_ | refine c_region ?_ | refine c_block ?_ | refine c_skip ?_ | refine c_exit ?_ | refine c_ret ?_ | refine s_nil ?_ | refine x_then ?_ | refine x_then_exit ?_ | refine x_then_ret ?_ | refine x_block ?_ | refine x_block_ret ?_ | refine x_block_same ?_ | refine x_block_other (by first | rfl | decide) ?_ | refine q_nil ?_ | refine k_nil ?_) | ((with_reducible apply kG); first | refine gY1 ?_ | refine gN1 ?_ | refine gU1 ?_ | (refine gD1 (fun h => ?_) (fun h => ?_) <;> (try (exfalso; omega))) | refine gB1 (fun h => ?_) (fun h => ?_)) | ((with_reducible apply kP (.box _ _)); first | refine sBA (fun b => ?_) | refine sB (fun b => ?_)) | ((with_reducible apply kP _); refine sP ?_) | ((with_reducible apply kP _); refine sX ?_) | ((with_reducible apply kC); first | refine cT ?_ | refine cF ?_ | (refine cI (fun h => ?_) (fun h => ?_) <;> (try (exfalso; omega))) | refine cB (fun h => ?_) (fun h => ?_)))
            all_goals first | exact r_end (i + 1) ⟨hi', fun j hj => by
              by_cases e : j = i
              · subst e; exact fun h => h.elim g1 g2
              · exact hno j (by omega)⟩ (by omega) (by repeat' first | trivial | rfl | apply And.intro) SCt | trace_state
      · repeat' (first | (with_reducible first | refine c_seq ?_ | refine c_reg ?_ | refine c_region ?_ | refine c_block ?_ | refine c_skip ?_ | refine c_exit ?_ | refine c_ret ?_ | refine s_nil ?_ | refine x_then ?_ | refine x_then_exit ?_ | refine x_then_ret ?_ | refine x_block ?_ | refine x_block_ret ?_ | refine x_block_same ?_ | refine x_block_other (by first | rfl | decide) ?_ | refine q_nil ?_ | refine k_nil ?_) | ((with_reducible apply kG); first | refine gY1 ?_ | refine gN1 ?_ | refine gU1 ?_ | (refine gD1 (fun h => ?_) (fun h => ?_) <;> (try (exfalso; omega))) | refine gB1 (fun h => ?_) (fun h => ?_)) | ((with_reducible apply kP (.box _ _)); first | refine sBA (fun b => ?_) | refine sB (fun b => ?_)) | ((with_reducible apply kP _); refine sP ?_) | ((with_reducible apply kP _); refine sX ?_) | ((with_reducible apply kC); first | refine cT ?_ | refine cF ?_ | (refine cI (fun h => ?_) (fun h => ?_) <;> (try (exfalso; omega))) | refine cB (fun h => ?_) (fun h => ?_)))
        all_goals first | exact e_ret1 (hs' := hs) rfl rfl ⟨⟨false, rfl, by
          simp only [Bool.false_eq_true, false_iff]
          rintro (h | h | ⟨j, hj, h⟩)
          · exact h1 h
          · exact h2 h
          · exact hno j (by omega) h⟩, rfl⟩ SCt | trace_state
end Go.Proofs.YtnbickholedckaaGreatDoor
namespace Go.Proofs.YtnbickholedckaaGreatDoor
open Go.RowKit
attribute [local irreducible] OpF Ld CellAt Sl Sv pcA
/-- A piece in new memory. -/
def NewP (sd an : List Int) (u : Value) (blk : HS) : Prop := ∃ oa ob ca cb k1 k2, u = .agg #[.slice oa sd.length ca, .slice ob an.length cb] ∧ RowOk oa ca 1 (ivs sd) k1 ∧ RowOk ob cb 1 (ivs an) k2 ∧ blk = k2 ++ k1
end Go.Proofs.YtnbickholedckaaGreatDoor
namespace Go.Proofs.YtnbickholedckaaGreatDoor
open Go.RowKit
theorem pcA_lt {l : List Pc} {p : Pc} {j : Nat} (h : j < l.length) : pcA (l ++ [p]) j = pcA l j := by unfold pcA; rw [List.getD_eq_getElem?_getD, List.getD_eq_getElem?_getD, List.getElem?_append_left h]
theorem pcA_eq (l : List Pc) (p : Pc) : pcA (l ++ [p]) l.length = p := by unfold pcA; rw [List.getD_eq_getElem?_getD, List.getElem?_append_right (Nat.le_refl _)]; simp
attribute [local irreducible] OpF Ld CellAt Sl Sv pcA
structure Rp where
  p : Pc
  k : HS
def rpP (rs : List Rp) : List Pc := rs.map (·.p)
def rpb (rs : List Rp) : HS := rs.foldl (fun acc r => r.k ++ acc) []
theorem rpb_snoc (rs : List Rp) (r : Rp) : rpb (rs ++ [r]) = r.k ++ rpb rs := by simp [rpb]
def RpOk (r : Rp) : Prop := ∃ k1 k2, RowOk r.p.oa r.p.ca 1 (ivs r.p.sd) k1 ∧ RowOk r.p.ob r.p.cb 1 (ivs r.p.an) k2 ∧ r.k = k2 ++ k1
end Go.Proofs.YtnbickholedckaaGreatDoor
namespace Go.Proofs.YtnbickholedckaaGreatDoor
open Go.RowKit
attribute [local irreducible] OpF Ld CellAt Sl Sv pcA
end Go.Proofs.YtnbickholedckaaGreatDoor
namespace Go.Proofs.YtnbickholedckaaGreatDoor
open Go.RowKit
theorem Sv.rowC {B : Nat} {w0 : Wd} {oa : Option Addr} {c size : Nat} {cells : List Value} {blk : HS} (h : RowOk oa c size cells blk) : Sv B w0 blk oa cells := by
  rcases h with ⟨rfl, _, rfl, _⟩ | ⟨b, z, rfl, rfl, _, _⟩
  · exact fun i hi => absurd hi (by simp)
  · refine fun i hi => ⟨rfl, fun w hw => ?_⟩
    have h1 := hw.cells_at (.head _) i _ (List.getElem?_eq_getElem (show i < (cells ++ z).length by rw [List.length_append]; omega))
    rw [List.getElem_append_left hi] at h1
    rw [List.getElem?_eq_getElem hi, ← h1]
    rw [ea_some]
theorem rpb_go : ∀ (rs : List Rp) (acc : HS), rs.foldl (fun acc r => r.k ++ acc) acc = rpb rs ++ acc
  | [], acc => rfl
  | r :: rs, acc => by
    unfold rpb
    simp only [List.foldl_cons]
    rw [rpb_go rs (r.k ++ acc), rpb_go rs (r.k ++ []), List.append_nil, List.append_assoc]
theorem rpb_mem : ∀ {rs : List Rp} {r : Rp}, r ∈ rs → r.k.Sublist (rpb rs)
  | q :: rs, r, h => by
    have e : rpb (q :: rs) = rpb rs ++ q.k := by show rs.foldl _ (q.k ++ []) = _; rw [rpb_go, List.append_nil]
    rw [e]
    rcases List.mem_cons.1 h with rfl | h
    · exact List.sublist_append_right _ _
    · exact (rpb_mem h).trans (List.sublist_append_left _ _)
theorem rp_at {rs : List Rp} {i : Nat} (hi : i < rs.length) : ∃ r ∈ rs, pcA (rpP rs) i = r.p := by
  refine ⟨rs[i], List.getElem_mem hi, ?_⟩
  unfold pcA rpP
  rw [List.getD_eq_getElem?_getD, List.getElem?_map, List.getElem?_eq_getElem hi]
  rfl
theorem pcA_ge {l : List Pc} {i : Nat} (h : l.length ≤ i) : pcA l i = default := by unfold pcA; rw [List.getD_eq_getElem?_getD, List.getElem?_eq_none h]; rfl
theorem capC {B : Nat} {w0 : Wd} {oP oS : Option Addr} {cP cS : Nat} {rs : List Rp} {sm : List Int} {bo ko hs : HS} (h1 : RowOk oP cP 2 (pcsv (rpP rs)) bo) (h2 : ∀ r ∈ rs, RpOk r) (h3 : RowOk oS cS 4 (ivs sm) ko) : CapM B w0 ((ko ++ (bo ++ rpb rs)) ++ hs) oP oS (rpP rs) sm := by
  have hl : (rpP rs).length = rs.length := by rw [rpP, List.length_map]
  refine ⟨(Sv.rowC h1).sub ((((List.sublist_append_left _ _).trans (List.sublist_append_right _ _))).trans (List.sublist_append_left _ _)), fun i hi => ?_, fun i hi => ?_, (Sv.rowC h3).ints.sub ((List.sublist_append_left _ _).trans (List.sublist_append_left _ _))⟩
  · obtain ⟨r, hr, e⟩ := rp_at (hl ▸ hi)
    obtain ⟨k1, k2, g1, g2, g3⟩ := h2 r hr
    rw [e]
    refine (Sl.row g1).sub (List.Sublist.trans ?_ (((rpb_mem hr).trans ((List.sublist_append_right _ _).trans (List.sublist_append_right _ _))).trans (List.sublist_append_left _ _)))
    rw [g3]; exact List.sublist_append_right _ _
  · obtain ⟨r, hr, e⟩ := rp_at (hl ▸ hi)
    obtain ⟨k1, k2, g1, g2, g3⟩ := h2 r hr
    rw [e]
    refine (Sl.row g2).sub (List.Sublist.trans ?_ (((rpb_mem hr).trans ((List.sublist_append_right _ _).trans (List.sublist_append_right _ _))).trans (List.sublist_append_left _ _)))
    rw [g3]; exact List.sublist_append_left _ _
end Go.Proofs.YtnbickholedckaaGreatDoor
namespace Go.Proofs.YtnbickholedckaaGreatDoor
open Go.RowKit Go.ChangeShapes Go.WideShapes Go.ChangeAt
theorem ownK : ownKnob Tryz.prog.godebug = none := by kernel_rfl
theorem laidK : laidOutB Tryz.prog = true := by kernel_rfl
/-- What a law's function is asked: its arguments' types can be read. -/
def Readable (ts : List TypeId) : Prop := AllZ (fun t => Tryz.prog.readableRec t = true ∧ t < Tryz.prog.types.size) ts
theorem below_trodAll {H : Type} {enc : TypeId × Value → H} {W W' : World} (hb : Below W.heap.size W W') : ∀ (ts : List TypeId) (vs : List Value) (ds : List (DataW H)) (ps : List MemPlace), Readable ts →
    DataW.TrodAll enc Tryz.prog W 0 (fun _ => true) true ts vs ds ps → (∀ x ∈ ps, x.block < W.heap.size) → DataW.TrodAll enc Tryz.prog W' 0 (fun b => decide (b < W.heap.size)) true ts vs ds ps
  | [], vs, ds, ps, _, h, _ => by
    obtain ⟨rfl, rfl, rfl⟩ := trodAll_nil h
    exact rfl
  | t :: ts, vs, ds, ps, hr, h, hlt => by
    obtain ⟨v, vs', d, ds', p, q, rfl, rfl, rfl, h1, h2⟩ := trodAll_cons h
    exact ⟨p, q, Below.trod laidK hr.1.1 hr.1.2 h1 hb (fun x hx => hlt x (List.mem_append.2 (.inl hx))), below_trodAll hb ts vs' ds' q hr.2 h2 (fun x hx => hlt x (List.mem_append.2 (.inr hx))), rfl⟩
/-- The law has returned true, and memory was only added to. -/
theorem law_post {H : Type} {enc : TypeId × Value → H} {f : Func} {s : ChangeSpec} {W W' : World} {args : Array Value} {ds gs : List (DataW H)} {before : List MemPlace} (hvars : s.vars = []) (hts : Readable f.params.toList) (hrt : f.resultTypes = #[4])
    (hW : DataW.Whole enc Tryz.prog f.params.toList s.vars false W args.toList ds gs before) (hfn : (s.fn H ds).results = [.lit (.bool true)] ∧ (s.fn H ds).args = ds ∧ (s.fn H ds).vars = []) (hb : Below W.heap.size W W') :
    s.post enc Tryz.prog f false true false false W args (.bool true) W' := by
  have hlt := hW.lt
  have hW0 := hW
  obtain ⟨p, q, hA, hV, hpq, hfz, hnd⟩ := hW
  rw [hvars] at hV
  obtain ⟨rfl, rfl⟩ := trodVars_none hV
  rw [List.append_nil] at hpq
  subst hpq
  refine ⟨ds, [], before, [], before, [], hW0, ?_, ?_, ?_, hb.frame _, fun h => by cases h⟩
  · rw [List.append_nil, hfn.1, hrt]
    exact trodAll_mk1 (shut_bool Tryz.underlying4 true)
  · rw [List.append_nil, hfn.2.1]
    exact below_trodAll hb _ _ _ _ hts hA hlt
  · rw [List.append_nil, hfn.2.2, hvars]
    exact rfl
/-- The contract of a law, as the row wants it. -/
theorem law_calls {f : Nat} {args : List Value} {W : World} (h : Fn Tryz.prog f args.toArray W.heap.size ⟨W, []⟩ [] (fun v _ => v = .bool true)) : Calls Tryz.prog f args.toArray W fun e W' => e = .returned (.bool true) ∧ Below W.heap.size W W' :=
  ((fn_el h) W (Hp.refl W)).mono fun _ _ ⟨_, _, he, hv, hw⟩ => ⟨by rw [he, hv], hw.below⟩
theorem sl_some {W : World} {a : Addr} {l : List Int} (h : ∀ i, i < l.length → W.cell? (a.add i) = some (.int .i64 (l.getD i 0))) : Sl W.heap.size ⟨W, []⟩ [] (some a) l := fun i hi => ⟨rfl, fun w hw => by
  have h1 := h i hi
  have h2 := World.block_lt_of_cell? W _ h1
  rw [ea_some, hw.below.cell h2]; exact h1⟩
theorem wf_in {x : Int} (h : (Lit.int .i64 x).wf = true) : InI x := by
  simp only [Lit.wf, Bool.and_eq_true, decide_eq_true_eq] at h
  exact ⟨by have := h.1; rw [show IntKind.i64.min = -9223372036854775808 from by decide] at this; exact this, by have := h.2; rw [show IntKind.i64.max = 9223372036854775807 from by decide] at this; exact this⟩
end Go.Proofs.YtnbickholedckaaGreatDoor
namespace Go.Proofs.YtnbickholedckaaGreatDoor
open Go.RowKit Go.ChangeShapes Go.WideShapes Go.ChangeAt
theorem len_1 {α : Type} {l : List α} (h : l.length = 1) : ∃ a0, l = [a0] := by
  match l, h with
  | [a0], _ => exact ⟨a0, rfl⟩
theorem len_2 {α : Type} {l : List α} (h : l.length = 2) : ∃ a0 a1, l = [a0, a1] := by
  match l, h with
  | [a0, a1], _ => exact ⟨a0, a1, rfl⟩
theorem len_3 {α : Type} {l : List α} (h : l.length = 3) : ∃ a0 a1 a2, l = [a0, a1, a2] := by
  match l, h with
  | [a0, a1, a2], _ => exact ⟨a0, a1, a2, rfl⟩
theorem len_4 {α : Type} {l : List α} (h : l.length = 4) : ∃ a0 a1 a2 a3, l = [a0, a1, a2, a3] := by
  match l, h with
  | [a0, a1, a2, a3], _ => exact ⟨a0, a1, a2, a3, rfl⟩
section
variable {H : Type} {enc : TypeId × Value → H} {P : Program} {W : World}
/-- These cells came in as a value of the type. -/
def OpT (enc : TypeId × Value → H) (P : Program) (W : World) (t : TypeId) (cs : List Value) : Prop := ∃ fuel x, DataW.trod enc P W 0 (fun _ => true) true fuel t cs = some x
theorem OpT.of {t : TypeId} {v : Value} {d : DataW H} {p : List MemPlace} (h : DataW.Trod enc P W 0 (fun _ => true) true t v d p) : OpT enc P W t v.cells.toList := let ⟨f, h⟩ := h; ⟨f, _, h⟩
theorem sh_cells {t : TypeId} {b : Bool} {k : Nat} (h : sh P t = some (b, k)) : P.cellsOf t = k := by
  unfold sh at h
  split at h
  · rename_i i d h1 h2
    simp only [Option.some.injEq, Prod.mk.injEq] at h
    simp [Program.cellsOf, h1, h.2]
  · cases h
theorem opt_struct {t : TypeId} {fs : Array Field} {cs : List Value} (hu : P.underlying t = some (.struct fs)) (h : OpT enc P W t cs) : cs.length = P.cellsOf t ∧ ∀ (i : Nat) (f : Field), fs[i]? = some f → OpT enc P W f.type ((cs.drop f.offset).take (P.cellsOf f.type)) := by
  obtain ⟨fuel, x, h⟩ := h
  obtain ⟨xs, n, _, _, hl, hlen, hf⟩ := DataW.trod_struct hu h
  refine ⟨hl, fun i f hi => ?_⟩
  have h1 := hf i f hi
  have h2 : i < fs.size := (Array.getElem?_eq_some_iff.1 hi).1
  rw [List.getElem?_eq_getElem (by omega)] at h1
  exact ⟨n, _, h1⟩
theorem opt_array {t e : TypeId} {m : Nat} {cs : List Value} (hu : P.underlying t = some (.array m e)) (h : OpT enc P W t cs) : cs.length = P.cellsOf t ∧ ∀ i, i < m → OpT enc P W e ((cs.drop (i * P.cellsOf e)).take (P.cellsOf e)) := by
  obtain ⟨fuel, x, h⟩ := h
  obtain ⟨xs, n, _, _, hl, hlen, hf⟩ := DataW.trod_array hu h
  refine ⟨hl, fun i hi => ?_⟩
  have h1 := hf i hi
  rw [List.getElem?_eq_getElem (by omega)] at h1
  exact ⟨n, _, h1⟩
/-- The cells are numbers that fit. -/
def Ints (k : Nat) (cs : List Value) : Prop := ∃ xs : List Int, cs = ivs xs ∧ xs.length = k ∧ ∀ x ∈ xs, InI x
theorem Ints.app {a b : Nat} {cs ds : List Value} (h1 : Ints a cs) (h2 : Ints b ds) : Ints (a + b) (cs ++ ds) := by
  obtain ⟨xs, rfl, rfl, hx⟩ := h1
  obtain ⟨ys, rfl, rfl, hy⟩ := h2
  refine ⟨xs ++ ys, by simp [ivs], by simp, fun z hz => ?_⟩
  rcases List.mem_append.1 hz with hz | hz
  · exact hx z hz
  · exact hy z hz
theorem ints_fields {f : TypeId → Option Nat} {cs : List Value} (hf : ∀ t k ds, f t = some k → OpT enc P W t ds → Ints k ds) (hsh : ∀ t k, f t = some k → P.cellsOf t = k) : ∀ (fs : List Field) (acc n : Nat), flF f fs acc = some n →
    (∀ x ∈ fs, OpT enc P W x.type ((cs.drop x.offset).take (P.cellsOf x.type))) → cs.length = n → Ints (n - acc) (cs.drop acc)
  | [], acc, n, h, _, hl => by
    simp only [flF, Option.some.injEq] at h
    subst h
    rw [List.drop_eq_nil_of_le (by omega)]
    exact ⟨[], rfl, by simp, by simp⟩
  | x :: fs, acc, n, h, ho, hl => by
    simp only [flF] at h
    split at h
    · rename_i k hk
      split at h
      · rename_i hc
        simp only [Bool.and_eq_true, bne_iff_ne, ne_eq, beq_iff_eq] at hc
        have hle := flF_le _ _ _ _ h
        have e1 := ints_fields hf hsh fs _ _ h (fun y hy => ho y (.tail _ hy)) hl
        have e2 := hf _ _ _ hk (ho x (.head _))
        rw [hc.2, hsh _ _ hk] at e2
        have := e2.app e1
        rw [← List.drop_drop, List.take_append_drop, show k + (n - (acc + k)) = n - acc by omega] at this
        exact this
      · cases h
    · cases h
theorem ints_items {cs : List Value} {k m : Nat} (ho : ∀ i, i < m → Ints k ((cs.drop (i * k)).take k)) : ∀ a, a ≤ m → a * k ≤ cs.length → Ints (a * k) (cs.take (a * k))
  | 0, _, _ => ⟨[], by simp [ivs], by simp, by simp⟩
  | a + 1, h, hl => by
    have e0 : (a + 1) * k = a * k + k := by rw [Nat.add_mul, Nat.one_mul]
    rw [e0] at hl ⊢
    have e1 := ints_items ho a (by omega) (by omega)
    have := e1.app (ho a (by omega))
    rwa [← List.take_add] at this
theorem opt_flat : ∀ (d : Nat) (t : TypeId) (k : Nat) (cs : List Value), fl P d t = some k → OpT enc P W t cs → Ints k cs
  | 0, _, _, _, h, _ => by simp [fl] at h
  | d + 1, t, k, cs, h, ho => by
    have hs := sh_cells (fl_sh h)
    have ih := opt_flat d
    unfold fl at h
    split at h
    · rename_i q hu
      split at h
      · rename_i h2
        simp only [Option.some.injEq] at h
        subst h
        obtain ⟨fuel, x, ho⟩ := ho
        obtain ⟨z, h1, _, h3⟩ := DataW.trod_int hu ho
        rw [h2.1] at h1 h3
        exact ⟨[z], by rw [h1]; rfl, rfl, by simpa using wf_in h3⟩
      · cases h
    · rename_i fs hu
      split at h
      · cases h
      · split at h
        · rename_i k' hf
          split at h
          · simp only [Option.some.injEq] at h
            subst h
            obtain ⟨h1, h2⟩ := opt_struct hu ho
            have := ints_fields (enc := enc) (W := W) (P := P) (f := fl P d) (cs := cs) (fun t k ds hk => ih t k ds hk) (fun t k hk => sh_cells (fl_sh hk)) fs.toList 0 k' hf (fun x hx => by
              obtain ⟨i, hi, rfl⟩ := List.mem_iff_getElem.1 hx
              exact h2 i _ (by simp only [Array.getElem_toList]; exact Array.getElem?_eq_getElem (by simpa using hi))) (by omega)
            simpa using this
          · cases h
        · cases h
    · rename_i m e hu
      split at h
      · rename_i k' hk
        split at h
        · simp only [Option.some.injEq] at h; subst h
          obtain ⟨h1, h2⟩ := opt_array hu ho
          rw [sh_cells (fl_sh hk)] at h2
          have := ints_items (cs := cs) (k := k') (m := m) (fun i hi => ih _ _ _ hk (h2 i hi)) m (Nat.le_refl _) (by omega)
          rwa [List.take_of_length_le (by omega)] at this
        · cases h
      · cases h
    · cases h
/-- A slice, opened: each element came in. -/
theorem opt_slice {t e : TypeId} {cs : List Value} (hu : P.underlying t = some (.slice e)) (h : OpT enc P W t cs) :
    ∃ (oa : Option Addr) (len c : Nat) (X : Nat → List Value), cs = [.slice oa len c] ∧ len ≤ c ∧ c ≤ maxLen ∧ (len = 0 ∨ oa.isSome = true) ∧ ∀ i, i < len → OpT enc P W e (X i) ∧ (X i).length = P.cellsOf e ∧ ∀ j, j < P.cellsOf e → ∀ a, oa = some a → W.cell? (a.add (i * P.cellsOf e + j)) = (X i)[j]? := by
  obtain ⟨fuel, x, h⟩ := h
  rcases Go.Deep.open_slice hu h with ⟨rfl, _⟩ | ⟨a, len, cap, m, n, D, Pl, rfl, _, hlc, hc, hm, _, hx⟩
  · exact ⟨none, 0, 0, fun _ => [], rfl, by omega, by simp [maxLen], .inl rfl, fun i hi => by omega⟩
  · simp only [if_true] at hm
    subst hm
    have hx' : ∀ i, ∃ cs', i < m → W.cells? 0 (a.add (i * P.cellsOf e)) (P.cellsOf e) = some cs' ∧ DataW.trod enc P W 0 (fun _ => true) true n e cs' = some (D i, Pl i) := fun i => by
      by_cases hi : i < m
      · obtain ⟨c, h⟩ := hx i hi; exact ⟨c, fun _ => h⟩
      · exact ⟨[], fun h => absurd h hi⟩
    let X : Nat → List Value := fun i => Classical.choose (hx' i)
    refine ⟨some a, len, m, X, rfl, hlc, hc, .inr rfl, fun i hi => ?_⟩
    obtain ⟨h1, h2⟩ := Classical.choose_spec (hx' i) (by omega)
    obtain ⟨_, h3, h4⟩ := World.cells?_some h1
    refine ⟨⟨n, _, h2⟩, h3, fun j hj b hb => ?_⟩
    cases hb
    have := h4 j hj
    rwa [Addr.add_add] at this
/-- A slice of what is made of numbers. -/
theorem opt_ints {t e : TypeId} {d k : Nat} {cs : List Value} (hu : P.underlying t = some (.slice e)) (hk : fl P d e = some k) (h : OpT enc P W t cs) :
    ∃ (oa : Option Addr) (len c : Nat) (l : List Int), cs = [.slice oa len c] ∧ l.length = len * k ∧ len ≤ c ∧ c ≤ maxLen ∧ (∀ x ∈ l, InI x) ∧ Sl W.heap.size ⟨W, []⟩ [] oa l := by
  obtain ⟨oa, len, c, X, rfl, h1, h2, h3, hx⟩ := opt_slice hu h
  have hs := sh_cells (fl_sh hk)
  rw [hs] at hx
  have key : ∀ a, a ≤ len → ∃ l : List Int, l.length = a * k ∧ (∀ x ∈ l, InI x) ∧ ∀ i, i < l.length → ∀ b, oa = some b → W.cell? (b.add i) = some (iv (l.getD i 0)) := by
    intro a
    induction a with
    | zero => exact fun _ => ⟨[], by simp, by simp, fun i hi => by simp at hi⟩
    | succ a ih =>
      intro ha
      obtain ⟨l, e1, e2, e3⟩ := ih (by omega)
      obtain ⟨g1, g2, g3⟩ := hx a (by omega)
      obtain ⟨ys, f1, f2, f3⟩ := opt_flat d e k _ hk g1
      refine ⟨l ++ ys, by simp [e1, f2, Nat.add_mul], fun x hx => ?_, fun i hi b hb => ?_⟩
      · rcases List.mem_append.1 hx with hx | hx
        · exact e2 x hx
        · exact f3 x hx
      · by_cases hil : i < l.length
        · rw [e3 i hil b hb]; simp only [List.getD]; rw [List.getElem?_append_left hil]
        · simp only [List.length_append] at hi
          have := g3 (i - l.length) (by omega) b hb
          rw [show a * k + (i - l.length) = i by omega, f1, ivs_get (by omega)] at this
          rw [this]
          simp only [List.getD]; rw [List.getElem?_append_right (show l.length ≤ i by omega)]
  obtain ⟨l, e1, e2, e3⟩ := key len (Nat.le_refl _)
  refine ⟨oa, len, c, l, rfl, e1, h1, h2, e2, fun i hi => ?_⟩
  have h4 : oa.isSome = true := by
    rcases h3 with h3 | h3
    · subst h3; simp at e1; rw [e1] at hi; simp at hi
    · exact h3
  refine ⟨h4, ?_⟩
  obtain ⟨b, rfl⟩ := Option.isSome_iff_exists.1 h4
  exact (sl_some (fun j hj => e3 j hj b rfl) i hi).2
theorem val_agg {base : Nat} {t : TypeId} {v : Value} (hb : agB P t = true) (h : Value.okWide P W .any base t v) : ∃ cs : List Value, v = .agg cs.toArray := by
  unfold agB at hb
  unfold Value.okWide at h
  split at hb
  · rename_i hu
    rw [hu] at h
    obtain ⟨cs, rfl, _⟩ := h
    exact ⟨cs.toList, rfl⟩
  · rename_i hu
    rw [hu] at h
    obtain ⟨cs, rfl, _⟩ := h
    exact ⟨cs.toList, rfl⟩
  · cases hb
def slf (P : Program) (m : Nat) (t : TypeId) : Option Nat := match P.underlying t with | some (.slice e) => fl P m e | _ => none
theorem slf_to {m k : Nat} {t : TypeId} (h : slf P m t = some k) : ∃ e, P.underlying t = some (.slice e) ∧ fl P m e = some k := by
  unfold slf at h
  split at h
  · rename_i e hu; exact ⟨e, hu, h⟩
  · cases h
theorem arg_sl {base : Nat} {t : TypeId} {v : Value} {d : DataW H} {p : List MemPlace} {m k : Nat} (hk : slf P m t = some k) (hv : Value.okWide P W .any base t v) (h : DataW.Trod enc P W 0 (fun _ => true) true t v d p) :
    ∃ (oa : Option Addr) (len c : Nat) (l : List Int), v = .slice oa len c ∧ l.length = len * k ∧ len ≤ c ∧ c ≤ maxLen ∧ (∀ x ∈ l, InI x) ∧ Sl W.heap.size ⟨W, []⟩ [] oa l := by
  obtain ⟨e, hu, hk⟩ := slf_to hk
  obtain ⟨a, n, c', rfl⟩ := okWide_slice hu hv
  obtain ⟨oa, len, c, l, he, hh⟩ := opt_ints hu hk (OpT.of h)
  simp only [Value.cells, List.cons.injEq, and_true, Value.slice.injEq] at he
  obtain ⟨rfl, rfl, rfl⟩ := he
  exact ⟨a, n, c', l, rfl, hh⟩
/-- A struct of two slices of numbers. -/
def bdl (P : Program) (t : TypeId) : Bool := match P.underlying t with
  | some (.struct fs) => match fs[0]?, fs[1]? with
    | some f0, some f1 => f0.offset == 0 && f1.offset == 1 && P.cellsOf f0.type == 1 && P.cellsOf f1.type == 1 && P.cellsOf t == 2 && slf P 5 f0.type == some 1 && slf P 5 f1.type == some 1
    | _, _ => false
  | _ => false
theorem opt_bundle {t : TypeId} {cs : List Value} (hb : bdl P t = true) (h : OpT enc P W t cs) :
    ∃ (o1 o2 : Option Addr) (c1 c2 : Nat) (r g : List Int), cs = [.slice o1 r.length c1, .slice o2 g.length c2] ∧ r.length ≤ c1 ∧ g.length ≤ c2 ∧ c1 ≤ maxLen ∧ c2 ≤ maxLen ∧ (∀ x ∈ r, InI x) ∧ (∀ x ∈ g, InI x) ∧ Sl W.heap.size ⟨W, []⟩ [] o1 r ∧ Sl W.heap.size ⟨W, []⟩ [] o2 g := by
  unfold bdl at hb
  split at hb
  · rename_i fs hu
    split at hb
    · rename_i f0 f1 h0 h1
      simp only [Bool.and_eq_true, beq_iff_eq] at hb
      obtain ⟨⟨⟨⟨⟨⟨b1, b2⟩, b3⟩, b4⟩, b5⟩, b6⟩, b7⟩ := hb
      obtain ⟨hl, hf⟩ := opt_struct hu h
      have g0 := hf 0 f0 h0
      have g1 := hf 1 f1 h1
      rw [b1, b3] at g0
      rw [b2, b4] at g1
      rw [b5] at hl
      obtain ⟨x, y, rfl⟩ := len_2 hl
      obtain ⟨e0, u0, k0⟩ := slf_to b6
      obtain ⟨e1, u1, k1⟩ := slf_to b7
      obtain ⟨o1, n1, c1, r, q1, q2, q3, q4, q5, q6⟩ := opt_ints u0 k0 g0
      obtain ⟨o2, n2, c2, g, p1, p2, p3, p4, p5, p6⟩ := opt_ints u1 k1 g1
      simp at q1 p1
      rw [Nat.mul_one] at q2 p2
      subst q2 p2
      exact ⟨o1, o2, c1, c2, r, g, by rw [q1, p1], q3, p3, q4, p4, q5, p5, q6, p6⟩
    · cases hb
  · cases hb
end
end Go.Proofs.YtnbickholedckaaGreatDoor
namespace Go.Proofs.YtnbickholedckaaGreatDoor
open Go.RowKit Go.ChangeShapes Go.WideShapes Go.ChangeAt
section
variable {H : Type} {enc : TypeId × Value → H} {P : Program} {W : World}
theorem bdl_two {t : TypeId} (hb : bdl P t = true) : P.cellsOf t = 2 := by
  unfold bdl at hb
  split at hb
  · split at hb
    · simp only [Bool.and_eq_true, beq_iff_eq] at hb
      exact hb.1.1.2
    · cases hb
  · cases hb
theorem sv_some {a : Addr} {l : List Value} (h : ∀ i, i < l.length → W.cell? (a.add i) = l[i]?) : Sv W.heap.size ⟨W, []⟩ [] (some a) l := fun i hi => ⟨rfl, fun w hw => by
  have h1 := h i hi
  rw [List.getElem?_eq_getElem hi] at h1
  have h2 := World.block_lt_of_cell? W _ h1
  rw [ea_some, hw.below.cell h2, h1, List.getElem?_eq_getElem hi]⟩
theorem opt_pcs {t e : TypeId} {cs : List Value} (hu : P.underlying t = some (.slice e)) (hb : bdl P e = true) (h : OpT enc P W t cs) :
    ∃ (oa : Option Addr) (c : Nat) (ps : List Pc), cs = [.slice oa ps.length c] ∧ ps.length ≤ c ∧ c ≤ maxLen ∧ Sv W.heap.size ⟨W, []⟩ [] oa (pcsv ps) ∧ (∀ i, i < ps.length → Sl W.heap.size ⟨W, []⟩ [] (pcA ps i).oa (pcA ps i).sd) ∧ ∀ i, i < ps.length → Sl W.heap.size ⟨W, []⟩ [] (pcA ps i).ob (pcA ps i).an := by
  obtain ⟨oa, len, c, X, rfl, h1, h2, h3, hx⟩ := opt_slice hu h
  rw [bdl_two hb] at hx
  have key : ∀ a, a ≤ len → ∃ ps : List Pc, ps.length = a ∧ (∀ i, i < a → X i = pcv (pcA ps i)) ∧ (∀ i, i < a → Sl W.heap.size ⟨W, []⟩ [] (pcA ps i).oa (pcA ps i).sd) ∧ ∀ i, i < a → Sl W.heap.size ⟨W, []⟩ [] (pcA ps i).ob (pcA ps i).an := by
    intro a
    induction a with
    | zero => exact fun _ => ⟨[], rfl, fun i hi => absurd hi (Nat.not_lt_zero _), fun i hi => absurd hi (Nat.not_lt_zero _), fun i hi => absurd hi (Nat.not_lt_zero _)⟩
    | succ a ih =>
      intro ha
      obtain ⟨ps, e1, e2, e3, e4⟩ := ih (by omega)
      obtain ⟨g1, _, _⟩ := hx a (by omega)
      obtain ⟨o1, o2, c1, c2, r, g, q1, _, _, _, _, _, _, q2, q3⟩ := opt_bundle hb g1
      have hE := pcA_eq ps ⟨o1, c1, r, o2, c2, g⟩
      rw [e1] at hE
      refine ⟨ps ++ [⟨o1, c1, r, o2, c2, g⟩], by simp [e1], fun i hi => ?_, fun i hi => ?_, fun i hi => ?_⟩
      all_goals by_cases h : i = a
      · subst h; rw [hE]; exact q1
      · rw [pcA_lt (by omega)]; exact e2 i (by omega)
      · subst h; rw [hE]; exact q2
      · rw [pcA_lt (by omega)]; exact e3 i (by omega)
      · subst h; rw [hE]; exact q3
      · rw [pcA_lt (by omega)]; exact e4 i (by omega)
  obtain ⟨ps, rfl, e2, e3, e4⟩ := key len (Nat.le_refl _)
  refine ⟨oa, c, ps, rfl, h1, h2, ?_, e3, e4⟩
  rcases Nat.eq_zero_or_pos ps.length with h0 | h0
  · rw [List.length_eq_zero_iff.1 h0]; exact fun i hi => absurd hi (Nat.not_lt_zero _)
  have h4 : oa.isSome = true := h3.resolve_left (by omega)
  obtain ⟨b, rfl⟩ := Option.isSome_iff_exists.1 h4
  refine sv_some fun i hi => ?_
  rw [pcsv_len] at hi
  have hq : i / 2 < ps.length := by omega
  obtain ⟨p1, p2⟩ := pcsv_at ps (i / 2) hq
  obtain ⟨_, _, g3⟩ := hx (i / 2) hq
  have g4 := g3 (i % 2) (by omega) b rfl
  rw [show i / 2 * 2 + i % 2 = i by omega, e2 _ hq] at g4
  rw [g4]
  rcases (show i % 2 = 0 ∨ i % 2 = 1 by omega) with h | h
  · rw [h, show i = 2 * (i / 2) by omega, p1]; simp [pcv]
  · rw [h]
    have : i = 2 * (i / 2) + 1 := by omega
    rw [this, p2, ← this]; simp [pcv]
theorem intsY {cs : List Value} (h : Ints 1 cs) : ∃ x, cs = [iv x] ∧ InI x := by
  obtain ⟨xs, rfl, h1, h2⟩ := h
  obtain ⟨x, rfl⟩ := len_1 h1
  exact ⟨x, rfl, h2 x (.head _)⟩
def slb (P : Program) (t : TypeId) : Bool := match P.underlying t with
  | some (.slice e) => bdl P e
  | _ => false
theorem slb_to {t : TypeId} (h : slb P t = true) : ∃ e, P.underlying t = some (.slice e) ∧ bdl P e = true := by
  unfold slb at h
  split at h
  · rename_i e he; exact ⟨e, he, h⟩
  · cases h
def bdc (P : Program) (t : TypeId) : Bool := match P.underlying t with
  | some (.struct fs) => match fs[0]?, fs[1]?, fs[2]? with
    | some f0, some f1, some f2 => f0.offset == 0 && f1.offset == 1 && f2.offset == 2 && P.cellsOf f0.type == 1 && P.cellsOf f1.type == 1 && P.cellsOf f2.type == 1 && P.cellsOf t == 3 && slb P f0.type && slf P 5 f1.type == some 4 && fl P 5 f2.type == some 1
    | _, _, _ => false
  | _ => false
theorem opt_cap {t : TypeId} {cs : List Value} (hb : bdc P t = true) (h : OpT enc P W t cs) :
    ∃ (o1 o2 : Option Addr) (c1 m c2 : Nat) (ps : List Pc) (sm : List Int) (x : Int), cs = [.slice o1 ps.length c1, .slice o2 m c2, iv x] ∧ sm.length = m * 4 ∧ InI x ∧ CapM W.heap.size ⟨W, []⟩ [] o1 o2 ps sm := by
  unfold bdc at hb
  split at hb
  · rename_i fs hu
    split at hb
    · rename_i f0 f2 f3 h0 h2 h3
      simp only [Bool.and_eq_true, beq_iff_eq] at hb
      obtain ⟨⟨⟨⟨⟨⟨⟨⟨⟨a0, a2⟩, a3⟩, b0⟩, b2⟩, b3⟩, b5⟩, b6⟩, b8⟩, b9⟩ := hb
      obtain ⟨hl, hf⟩ := opt_struct hu h
      have g0 := hf 0 f0 h0
      have g2 := hf 1 f2 h2
      have g3 := hf 2 f3 h3
      rw [a0, b0] at g0
      rw [a2, b2] at g2
      rw [a3, b3] at g3
      rw [b5] at hl
      obtain ⟨x, z, w, rfl⟩ := len_3 hl
      obtain ⟨e0, u0, k0⟩ := slb_to b6
      obtain ⟨o1, c1, ps, q1, q2, q3, q4, q5, q6⟩ := opt_pcs u0 k0 g0
      obtain ⟨e2, u2, k2⟩ := slf_to b8
      obtain ⟨o2, m, c2, sm, p1, p2, p3, p4, p5, p6⟩ := opt_ints u2 k2 g2
      obtain ⟨x3, i3, j3⟩ := intsY (opt_flat _ _ _ _ b9 g3)
      simp at q1 p1 i3
      exact ⟨o1, o2, c1, m, c2, ps, sm, x3, by rw [q1, p1, i3], p2, j3, ⟨q4, q5, q6, p6⟩⟩
    · cases hb
  · cases hb
theorem bdc_ag {t : TypeId} (hb : bdc P t = true) : agB P t = true := by
  unfold bdc at hb
  unfold agB
  split at hb
  · rename_i hu; rw [hu]
  · cases hb
theorem arg_cap {base : Nat} {t : TypeId} {v : Value} {d : DataW H} {p : List MemPlace} (hb : bdc P t = true) (hv : Value.okWide P W .any base t v) (h : DataW.Trod enc P W 0 (fun _ => true) true t v d p) :
    ∃ (o1 o2 : Option Addr) (c1 m c2 : Nat) (ps : List Pc) (sm : List Int) (x : Int), v = .agg #[.slice o1 ps.length c1, .slice o2 m c2, iv x] ∧ sm.length = m * 4 ∧ InI x ∧ CapM W.heap.size ⟨W, []⟩ [] o1 o2 ps sm := by
  obtain ⟨cs, rfl⟩ := val_agg (bdc_ag hb) hv
  obtain ⟨o1, o2, c1, m, c2, ps, sm, x, e, hh⟩ := opt_cap hb (OpT.of h)
  exact ⟨o1, o2, c1, m, c2, ps, sm, x, by simp only [Value.cells] at e; rw [← e], hh⟩
end
end Go.Proofs.YtnbickholedckaaGreatDoor
namespace Go.Proofs.YtnbickholedckaaGreatDoor
open Go.RowKit
section
variable {n : NN} {B : Nat} {w0 : Wd} {fr : FR} {hs : HS} {ty : TypeId}
theorem sat_tk {K : Act → World → Prop} {blk rest : HS} (hT : Take blk hs rest) (h : Sat n B w0 K fr (blk ++ rest)) : Sat n B w0 K fr hs := Sat.perm hT h
theorem o_errT {t' : TypeId} {x : Operand} {u : TypeId} {p : Value} {e : TypeId} (he : Tryz.prog.underlying e = some (.interface (Tryz.prog.methodsAt e))) (hx : opv fr x = some (.iface u p)) : OpF Tryz.prog n B w0 (.binOp .neq e x (.const .nilIface) t') ty fr hs (.bool true) := fun a w ha _ => by
  have h1 : a.eval (.const .nilIface) = .nilIface := rfl
  have h2 := run_neq_held_nil (P := Tryz.prog) (w := w) e u p he
  have h3 : (eqGuard .neq e x (.const .nilIface) (.iface u p) .nilIface).run Tryz.prog w = .ok () w := by unfold eqGuard; rfl
  simp [ex, execOp, ha.opv hx, h1, h2, h3]
theorem o_errF {t' : TypeId} {x : Operand} {e : TypeId} (he : Tryz.prog.underlying e = some (.interface (Tryz.prog.methodsAt e))) (hx : opv fr x = some .nilIface) : OpF Tryz.prog n B w0 (.binOp .neq e x (.const .nilIface) t') ty fr hs (.bool false) := fun a w ha _ => by
  have h1 : a.eval (.const .nilIface) = .nilIface := rfl
  have h2 := run_neq_nil_nil (P := Tryz.prog) (w := w) e he
  have h3 : (eqGuard .neq e x (.const .nilIface) .nilIface .nilIface).run Tryz.prog w = .ok () w := by unfold eqGuard; cases x <;> rfl
  simp [ex, execOp, ha.opv hx, h1, h2, h3]
theorem o_sEqlT {t t' : TypeId} {x y : Operand} {a b : List UInt8} (h : a = b) (hx : opv fr x = some (sv a)) (hy : opv fr y = some (sv b)) : OpF Tryz.prog n B w0 (.binOp .eql t x y t') ty fr hs (.bool true) := by
  have := o_sEql (P := Tryz.prog) (n := n) (B := B) (w0 := w0) (fr := fr) (hs := hs) (ty := ty) (t := t) (t' := t') hx hy
  rwa [decide_eq_true h] at this
theorem o_sEqlF {t t' : TypeId} {x y : Operand} {a b : List UInt8} (h : a ≠ b) (hx : opv fr x = some (sv a)) (hy : opv fr y = some (sv b)) : OpF Tryz.prog n B w0 (.binOp .eql t x y t') ty fr hs (.bool false) := by
  have := o_sEql (P := Tryz.prog) (n := n) (B := B) (w0 := w0) (fr := fr) (hs := hs) (ty := ty) (t := t) (t' := t') hx hy
  rwa [decide_eq_false h] at this
theorem o_sNeqT {t t' : TypeId} {x y : Operand} {a b : List UInt8} (h : a ≠ b) (hx : opv fr x = some (sv a)) (hy : opv fr y = some (sv b)) : OpF Tryz.prog n B w0 (.binOp .neq t x y t') ty fr hs (.bool true) := by
  have := o_sNeq (P := Tryz.prog) (n := n) (B := B) (w0 := w0) (fr := fr) (hs := hs) (ty := ty) (t := t) (t' := t') hx hy
  rwa [decide_eq_true h] at this
theorem o_sNeqF {t t' : TypeId} {x y : Operand} {a b : List UInt8} (h : a = b) (hx : opv fr x = some (sv a)) (hy : opv fr y = some (sv b)) : OpF Tryz.prog n B w0 (.binOp .neq t x y t') ty fr hs (.bool false) := by
  have := o_sNeq (P := Tryz.prog) (n := n) (B := B) (w0 := w0) (fr := fr) (hs := hs) (ty := ty) (t := t) (t' := t') hx hy
  rwa [decide_eq_false (fun h' => h' h)] at this
theorem Sv.rowS {oa : Option Addr} {c : Nat} {l : List Value} {blk : HS} (h : RowOk oa c 1 l blk) : Sv B w0 blk oa l := fun i hi => by
  rcases h with ⟨_, _, h2, _⟩ | ⟨b, z, rfl, rfl, _, _⟩
  · subst h2; cases hi
  · refine ⟨rfl, fun w hw => ?_⟩
    rw [ea_own, Nat.zero_add, hw.cell (.head _), List.getElem?_append_left hi]
theorem Sv.cellS {hs' : HS} {oa : Option Addr} {ls : List (List UInt8)} (h : Sv B w0 hs oa (svs ls)) (hsub : hs.Sublist hs') {i : Nat} (hi : i < ls.length) : CellAt B w0 hs' (ea oa i) (sv (ls.getD i [])) := fun w hw => by
  rw [(h i (by rw [svs_length]; exact hi)).2 w (hw.sub hsub), svs_get hi]
theorem Sv.anyS {oa : Option Addr} {ls : List (List UInt8)} (h : Sv B w0 hs oa (svs ls)) {i : Nat} (hi : i < ls.length) : oa.isSome = true := (h i (by rw [svs_length]; exact hi)).1
end
theorem wds_le (c : UInt8) : ∀ (l w : List UInt8), w ∈ wds c l → w.length ≤ l.length
  | [], w, h => by
    rw [wds, List.mem_singleton] at h
    rw [h]; exact Nat.le_refl _
  | x :: l, w, h => by
    have ih := wds_le c l
    unfold wds at h
    split at h
    · rcases List.mem_cons.1 h with rfl | h
      · exact Nat.zero_le _
      · have := ih w h; simp only [List.length_cons]; omega
    · split at h
      · rename_i v r hv
        rcases List.mem_cons.1 h with rfl | h
        · have := ih v (by rw [hv]; exact .head _); simp only [List.length_cons]; omega
        · have := ih w (by rw [hv]; exact .tail _ h); simp only [List.length_cons]; omega
      · rw [List.mem_singleton] at h
        rw [h]; simp
/-- A cap that is being read, in memory. -/
structure RdM (d : Rd) (rs : List Rp) (oP : Option Addr) (cP : Nat) (bo : HS) (oS : Option Addr) (cS : Nat) (ko : HS) : Prop where
  P : (rpP rs).map prP = d.P
  ok : ∀ r ∈ rs, RpOk r
  bo : RowOk oP cP 2 (pcsv (rpP rs)) bo
  ko : RowOk oS cS 4 (ivs d.S) ko
  m4 : d.S.length % 4 = 0
def rdV (d : Rd) (n : Nat) (oP : Option Addr) (cP : Nat) (oS : Option Addr) (cS : Nat) : Value := .agg #[.slice oP n cP, .slice oS (d.S.length / 4) cS, iv d.E]
structure TkJ where
  j : Nat
  oa : Option Addr
  ca : Nat
  ba : HS
  ob : Option Addr
  cb : Nat
  bb : HS
theorem evT_len (L : List Int) : ∀ k, (evT L k).length = k
  | 0 => rfl
  | k + 1 => by rw [evT, List.length_append, evT_len L k]; rfl
theorem odT_len (L : List Int) : ∀ k, (odT L k).length = k
  | 0 => rfl
  | k + 1 => by rw [odT, List.length_append, odT_len L k]; rfl
attribute [local irreducible] OpF Ld CellAt Sl Sv pcA
end Go.Proofs.YtnbickholedckaaGreatDoor
namespace Go.Proofs.YtnbickholedckaaGreatDoor
open Go.RowKit
section
variable {P : Program} {n : NN} {B : Nat} {w0 : Wd} {fr : FR} {hs S : HS} {ty : TypeId} {K : Act → World → Prop} {ops : Array Oper} {l : List Oper} {d : Nat} {fl : List Nat} {pos : String} {aft : Array Edge}
end
/-- A cap that is being read, in a block of memory. -/
def RdB (d : Rd) (n : Nat) (oP : Option Addr) (cP : Nat) (oS : Option Addr) (cS : Nat) (blk : HS) : Prop := ∃ rs bo ko, RdM d rs oP cP bo oS cS ko ∧ n = rs.length ∧ blk = ko ++ (bo ++ rpb rs)
theorem RdB.zero : RdB rd0 0 none 0 none 0 [] := ⟨[], [], [], ⟨rfl, fun r h => (by cases h), RowOk.nil, RowOk.nil, rfl⟩, rfl, rfl⟩
def RdA (d : Rd) (v : Value) (blk : HS) : Prop := ∃ n oP cP oS cS, RdB d n oP cP oS cS blk ∧ v = rdV d n oP cP oS cS
theorem RdB.len {d : Rd} {n : Nat} {oP : Option Addr} {cP : Nat} {oS : Option Addr} {cS : Nat} {blk : HS} (M : RdB d n oP cP oS cS blk) : n = d.P.length := by
  obtain ⟨rs, bo, ko, h1, rfl, _⟩ := M
  rw [← h1.P]
  unfold rpP
  simp
end Go.Proofs.YtnbickholedckaaGreatDoor
namespace Go.Proofs.YtnbickholedckaaGreatDoor
open Go.RowKit
/-- What Parse answers, in memory. -/
def PaA (rd : Rd → List UInt8 → Rd) (t : List UInt8) (u : Value) (blk : HS) : Prop := ∃ v, RdA (paA rd t).1 v blk ∧ u = .tuple #[v, iv (paA rd t).2]
attribute [local irreducible] OpF Ld CellAt Sl Sv pcA
end Go.Proofs.YtnbickholedckaaGreatDoor
