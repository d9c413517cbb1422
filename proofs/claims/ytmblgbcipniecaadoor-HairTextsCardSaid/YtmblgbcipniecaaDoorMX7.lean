/- Format of both. -/
import Derived.Test.YtmblgbcipniecaaDoorMX6
namespace Go.Proofs.YtmblgbcipniecaaDoor
open Go.RowKit
attribute [local irreducible] OpF Ld CellAt Sl Sv
theorem itoa_len {R : List Int} (hR : NumOk R) {i : Nat} (hi : i < R.length) : InI (R.getD i 0) ∧ 0 ≤ R.getD i 0 ∧ R.getD i 0 ≤ 1000000 ∧ (Go.Lib.itoa (R.getD i 0)).length ≤ 7 := by
  have hm : R.getD i 0 ∈ R := by
    rw [List.getD_eq_getElem?_getD, List.getElem?_eq_getElem hi]
    exact List.getElem_mem hi
  have h := hR _ hm
  exact ⟨⟨by omega, by omega⟩, h.1, h.2, (itoa_ok h).2.2.2⟩
theorem numOk_take {R : List Int} (hR : NumOk R) (i : Nat) : NumOk (R.take i) := fun x hx => hR x (List.mem_of_mem_take hx)
theorem nmT_bd {R : List Int} (hR : NumOk R) (h : R.length ≤ 24) (i : Nat) : (nmT (R.take i)).length ≤ 192 := by
  have := nmT_len (numOk_take hR i)
  rw [List.length_take] at this
  omega
theorem x_DigitsI {x : Int} (h : 0 ≤ x ∧ x ≤ 1000000) (B : Nat) (w0 : Wd) (hs : HS) : Fn Tryd.prog 18 #[iv x] B w0 hs (fun v h => v = sv (Go.Lib.itoa x) ∧ h = hs) := by
  obtain ⟨u, rfl⟩ : ∃ u : Nat, x = (u : Int) := ⟨x.toNat, by omega⟩
  rw [itoa_nat]
  exact x_Digits u (by omega) B w0 hs
/-- What Format answers. -/
def fmV (r g : List Int) : Value := .tuple #[sv (if vErr r g = 0 then fmtT (trR r g) (trG r g) else []), iv (vErr r g)]
set_option maxRecDepth 100000 in
set_option maxHeartbeats 8000000 in
theorem r_Format (o1 o2 : Option Addr) (c1 c2 : Nat) (r g : List Int) (B : Nat) (w0 : Wd) (hs : HS) (h1 : Sl B w0 hs o1 r) (h2 : Sl B w0 hs o2 g) :
    Fn Tryd.prog 7 #[bv o1 o2 r.length g.length c1 c2] B w0 hs (fun v h => v = fmV r g ∧ h = hs) := by
  have kt := fun hs' (h : hs.Sublist hs') => r_Trim o1 o2 c1 c2 r g B w0 hs' (h1.sub h) (h2.sub h)
  unfold fmV
  by_cases hv : vErr r g = 0
  · have T := trOk hv
    have l1 := trR_len r g
    have l2 := trG_len r g
    rw [if_pos hv]
    rw [hv] at kt ⊢
    have nR := T.nR
    have nG := T.nG
    clear T
    generalize trR r g = R at *
    generalize trG r g = G at *
    refine fn_enter Tryd.func7 rfl Tryd.ntmps7 (by simp) ?_
    repeat' (first | ((with_reducible apply kP (.box 24 _)); refine sBA (fun b1 => ?_)) | ((with_reducible apply kP (.alloc 24)); refine sA (fun b4 => ?_)) | ((with_reducible apply kF 17); refine sR 17 (kt _ SBt) ?_; rintro v7 h7 ⟨blk7, ⟨o7, o8, c7, c8, k7, k8, rfl, hr7, hr8, rfl⟩, rfl⟩; unfold bv; rw [List.append_assoc]) | ((with_reducible apply kN); refine stW ?_ (hf := flat_cons rfl (flat1 rfl))) | (with_reducible first | refine c_seq ?_ | refine c_reg ?_ | refine c_region ?_ | refine c_block ?_ | refine c_skip ?_ | refine c_exit ?_ | refine c_ret ?_ | refine s_nil ?_ | refine x_then ?_ | refine x_then_exit ?_ | refine x_then_ret ?_ | refine x_block ?_ | refine x_block_ret ?_ | refine x_block_same ?_ | refine x_block_other (by first | rfl | decide) ?_ | refine q_nil ?_ | refine k_nil ?_) | ((with_reducible apply kN); first | refine stP ?_ | refine stI ?_ | refine st1 ?_ | refine stW ?_) | ((with_reducible apply kP (.alloc _)); refine sA (fun b => ?_)) | ((with_reducible apply kP (.box _ _)); first | refine sBA (fun b => ?_) | refine sB (fun b => ?_)) | ((with_reducible apply kP _); refine sP ?_) | ((with_reducible apply kP _); refine sX ?_) | ((with_reducible apply kC); first | refine cT ?_ | refine cF ?_ | (refine cI (fun h => ?_) (fun h => ?_) <;> (try (exfalso; omega))) | refine cB (fun h => ?_) (fun h => ?_)))
    all_goals try (exfalso; omega)
    have hL7 := Sl.row (B := B) (w0 := w0) hr7
    have hL8 := Sl.row (B := B) (w0 := w0) hr8
    refine c_loop (fun i : Nat => [(2, sv []), (3, iv 0), (4, .pointer (some ⟨b4, 0, none⟩)), (6, sv (sHair ++ nmT (R.take i))), (7, iv i)])
      (fun _ => (b4, [.slice o7 R.length c7, .slice o8 G.length c8]) :: (k8 ++ (k7 ++ hs))) (fun i => i ≤ R.length) (fun i => R.length - i) 0 (Nat.zero_le _) (by repeat' first | trivial | rfl | apply And.intro) ?_ ?_
    · exact .cons_cons _ (.append (.refl _) (.append (.refl _) (.cons _ (.refl _))))
    intro i hi
    by_cases hi' : i < R.length
    · obtain ⟨d1, d2, d3, d4⟩ := itoa_len nR hi'
      have kd := x_DigitsI ⟨d2, d3⟩ B w0
      have hb := nmT_bd nR l1 i
      have hs4 : sHair.length = 4 := rfl
      have hnx : sHair ++ nmT (R.take (i + 1)) = (sHair ++ nmT (R.take i)) ++ ([32] ++ Go.Lib.itoa (R.getD i 0)) := by rw [nmT_take hi', List.append_assoc]; rfl
      have i7 := hL7.any hi'
      repeat' (first | ((with_reducible apply kF 18); refine sC 18 (kd _) ?_) | ((with_reducible apply kP (.binOp .add 9 (.tmp 24) _ _)); refine sP ?_ (o_sAdd rfl rfl (by simp only [List.length_append, List.length_cons, List.length_nil]; omega))) | ((with_reducible apply kDP (.binOp .add 9 (.tmp 24) _ _)); refine dP ?_ (hX := rfl) (hv := o_sAdd rfl rfl (by simp only [List.length_append, List.length_cons, List.length_nil]; omega))) | ((with_reducible apply kQO (.binOp .add 9 (.tmp 24) _ _)); refine qP ?_ (o_sAdd rfl rfl (by simp only [List.length_append, List.length_cons, List.length_nil]; omega))) | ((with_reducible apply kP (.binOp .add 9 _ _ _)); refine sP ?_ (o_sAdd (a := [32]) rfl rfl (by simp only [List.length_cons, List.length_nil]; omega))) | ((with_reducible apply kDP (.binOp .add 9 _ _ _)); refine dP ?_ (hX := rfl) (hv := o_sAdd (a := [32]) rfl rfl (by simp only [List.length_cons, List.length_nil]; omega))) | ((with_reducible apply kQO (.binOp .add 9 _ _ _)); refine qP ?_ (o_sAdd (a := [32]) rfl rfl (by simp only [List.length_cons, List.length_nil]; omega))) | ((with_reducible apply kP (.load 3 _)); refine sP ?_ (o_load rfl (ld_one (shTOf rfl) (hL7.at SBt hi')))) | ((with_reducible apply kDP (.load 3 _)); refine dP ?_ (hX := rfl) (hv := o_load rfl (ld_one (shTOf rfl) (hL7.at SBt hi')))) | ((with_reducible apply kQO (.load 3 _)); refine qP ?_ (o_load rfl (ld_one (shTOf rfl) (hL7.at SBt hi')))) | ((with_reducible apply kP (.indexAddr 22 _ _)); refine sP ?_ (o_indexS (scTOf rfl) rfl rfl rfl (aa0 _) i7 hi')) | ((with_reducible apply kDP (.indexAddr 22 _ _)); refine dP ?_ (hX := rfl) (hv := o_indexS (scTOf rfl) rfl rfl rfl (aa0 _) i7 hi')) | ((with_reducible apply kQO (.indexAddr 22 _ _)); refine qP ?_ (o_indexS (scTOf rfl) rfl rfl rfl (aa0 _) i7 hi')) | (with_reducible first | refine c_seq ?_ | refine c_reg ?_ | refine c_region ?_ | refine c_block ?_ | refine c_skip ?_ | refine c_exit ?_ | refine c_ret ?_ | refine s_nil ?_ | refine x_then ?_ | refine x_then_exit ?_ | refine x_then_ret ?_ | refine x_block ?_ | refine x_block_ret ?_ | refine x_block_same ?_ | refine x_block_other (by first | rfl | decide) ?_ | refine q_nil ?_ | refine k_nil ?_) | ((with_reducible apply kN); first | refine stP ?_ | refine stI ?_ | refine st1 ?_ | refine stW ?_) | ((with_reducible apply kP (.alloc _)); refine sA (fun b => ?_)) | ((with_reducible apply kP (.box _ _)); first | refine sBA (fun b => ?_) | refine sB (fun b => ?_)) | ((with_reducible apply kP _); refine sP ?_) | ((with_reducible apply kP _); refine sX ?_) | ((with_reducible apply kC); first | refine cT ?_ | refine cF ?_ | (refine cI (fun h => ?_) (fun h => ?_) <;> (try (exfalso; omega))) | refine cB (fun h => ?_) (fun h => ?_)))
      all_goals try (exfalso; omega)
      refine r_end (i + 1) hi' (by omega) (by rw [hnx]; (repeat' first | trivial | rfl | apply And.intro)) (.refl _)
    · obtain rfl : i = R.length := by omega
      rw [List.take_length]
      have hb : (nmT R).length ≤ 192 := by have := nmT_bd nR l1 R.length; rwa [List.take_length] at this
      have hs4 : sHair.length = 4 := rfl
      repeat' (first | ((with_reducible apply kP (.binOp .add 9 (.tmp 33) _ _)); refine sP ?_ (o_sAdd (b := 32 :: sWrong) rfl rfl (by simp only [List.length_append, List.length_cons, sWrong, List.length_nil]; omega))) | ((with_reducible apply kDP (.binOp .add 9 (.tmp 33) _ _)); refine dP ?_ (hX := rfl) (hv := o_sAdd (b := 32 :: sWrong) rfl rfl (by simp only [List.length_append, List.length_cons, sWrong, List.length_nil]; omega))) | ((with_reducible apply kQO (.binOp .add 9 (.tmp 33) _ _)); refine qP ?_ (o_sAdd (b := 32 :: sWrong) rfl rfl (by simp only [List.length_append, List.length_cons, sWrong, List.length_nil]; omega))) | (with_reducible first | refine c_seq ?_ | refine c_reg ?_ | refine c_region ?_ | refine c_block ?_ | refine c_skip ?_ | refine c_exit ?_ | refine c_ret ?_ | refine s_nil ?_ | refine x_then ?_ | refine x_then_exit ?_ | refine x_then_ret ?_ | refine x_block ?_ | refine x_block_ret ?_ | refine x_block_same ?_ | refine x_block_other (by first | rfl | decide) ?_ | refine q_nil ?_ | refine k_nil ?_) | ((with_reducible apply kN); first | refine stP ?_ | refine stI ?_ | refine st1 ?_ | refine stW ?_) | ((with_reducible apply kP (.alloc _)); refine sA (fun b => ?_)) | ((with_reducible apply kP (.box _ _)); first | refine sBA (fun b => ?_) | refine sB (fun b => ?_)) | ((with_reducible apply kP _); refine sP ?_) | ((with_reducible apply kP _); refine sX ?_) | ((with_reducible apply kC); first | refine cT ?_ | refine cF ?_ | (refine cI (fun h => ?_) (fun h => ?_) <;> (try (exfalso; omega))) | refine cB (fun h => ?_) (fun h => ?_)))
      all_goals try (exfalso; omega)
      refine c_loop (fun i : Nat => [(2, sv []), (3, iv 0), (4, .pointer (some ⟨b4, 0, none⟩)), (6, sv (sHair ++ nmT R ++ (32 :: sWrong) ++ nmT (G.take i))), (8, iv i)])
        (fun _ => (b4, [.slice o7 R.length c7, .slice o8 G.length c8]) :: (k8 ++ (k7 ++ hs))) (fun i => i ≤ G.length) (fun i => G.length - i) 0 (Nat.zero_le _) (by rw [List.take_zero, show nmT [] = [] from rfl, List.append_nil]; (repeat' first | trivial | rfl | apply And.intro)) (.refl _) ?_
      intro i hi
      by_cases hi' : i < G.length
      · obtain ⟨d1, d2, d3, d4⟩ := itoa_len nG hi'
        have kd := x_DigitsI ⟨d2, d3⟩ B w0
        have hb2 := nmT_bd nG l2 i
        have hnx : sHair ++ nmT R ++ (32 :: sWrong) ++ nmT (G.take (i + 1)) = (sHair ++ nmT R ++ (32 :: sWrong) ++ nmT (G.take i)) ++ ([32] ++ Go.Lib.itoa (G.getD i 0)) := by rw [nmT_take hi', List.append_assoc (sHair ++ nmT R ++ (32 :: sWrong))]; rfl
        have i8 := hL8.any hi'
        repeat' (first | ((with_reducible apply kF 18); refine sC 18 (kd _) ?_) | ((with_reducible apply kP (.binOp .add 9 (.tmp 42) _ _)); refine sP ?_ (o_sAdd rfl rfl (by simp only [List.length_append, List.length_cons, List.length_nil, sWrong]; omega))) | ((with_reducible apply kDP (.binOp .add 9 (.tmp 42) _ _)); refine dP ?_ (hX := rfl) (hv := o_sAdd rfl rfl (by simp only [List.length_append, List.length_cons, List.length_nil, sWrong]; omega))) | ((with_reducible apply kQO (.binOp .add 9 (.tmp 42) _ _)); refine qP ?_ (o_sAdd rfl rfl (by simp only [List.length_append, List.length_cons, List.length_nil, sWrong]; omega))) | ((with_reducible apply kP (.binOp .add 9 _ _ _)); refine sP ?_ (o_sAdd (a := [32]) rfl rfl (by simp only [List.length_cons, List.length_nil]; omega))) | ((with_reducible apply kDP (.binOp .add 9 _ _ _)); refine dP ?_ (hX := rfl) (hv := o_sAdd (a := [32]) rfl rfl (by simp only [List.length_cons, List.length_nil]; omega))) | ((with_reducible apply kQO (.binOp .add 9 _ _ _)); refine qP ?_ (o_sAdd (a := [32]) rfl rfl (by simp only [List.length_cons, List.length_nil]; omega))) | ((with_reducible apply kP (.load 3 _)); refine sP ?_ (o_load rfl (ld_one (shTOf rfl) (hL8.at SBt hi')))) | ((with_reducible apply kDP (.load 3 _)); refine dP ?_ (hX := rfl) (hv := o_load rfl (ld_one (shTOf rfl) (hL8.at SBt hi')))) | ((with_reducible apply kQO (.load 3 _)); refine qP ?_ (o_load rfl (ld_one (shTOf rfl) (hL8.at SBt hi')))) | ((with_reducible apply kP (.indexAddr 22 _ _)); refine sP ?_ (o_indexS (scTOf rfl) rfl rfl rfl (aa0 _) i8 hi')) | ((with_reducible apply kDP (.indexAddr 22 _ _)); refine dP ?_ (hX := rfl) (hv := o_indexS (scTOf rfl) rfl rfl rfl (aa0 _) i8 hi')) | ((with_reducible apply kQO (.indexAddr 22 _ _)); refine qP ?_ (o_indexS (scTOf rfl) rfl rfl rfl (aa0 _) i8 hi')) | (with_reducible first | refine c_seq ?_ | refine c_reg ?_ | refine c_region ?_ | refine c_block ?_ | refine c_skip ?_ | refine c_exit ?_ | refine c_ret ?_ | refine s_nil ?_ | refine x_then ?_ | refine x_then_exit ?_ | refine x_then_ret ?_ | refine x_block ?_ | refine x_block_ret ?_ | refine x_block_same ?_ | refine x_block_other (by first | rfl | decide) ?_ | refine q_nil ?_ | refine k_nil ?_) | ((with_reducible apply kN); first | refine stP ?_ | refine stI ?_ | refine st1 ?_ | refine stW ?_) | ((with_reducible apply kP (.alloc _)); refine sA (fun b => ?_)) | ((with_reducible apply kP (.box _ _)); first | refine sBA (fun b => ?_) | refine sB (fun b => ?_)) | ((with_reducible apply kP _); refine sP ?_) | ((with_reducible apply kP _); refine sX ?_) | ((with_reducible apply kC); first | refine cT ?_ | refine cF ?_ | (refine cI (fun h => ?_) (fun h => ?_) <;> (try (exfalso; omega))) | refine cB (fun h => ?_) (fun h => ?_)))
        all_goals try (exfalso; omega)
        refine r_end (i + 1) hi' (by omega) (by rw [hnx]; (repeat' first | trivial | rfl | apply And.intro)) (.refl _)
      · obtain rfl : i = G.length := by omega
        rw [List.take_length]
        repeat' (first | (with_reducible first | refine c_seq ?_ | refine c_reg ?_ | refine c_region ?_ | refine c_block ?_ | refine c_skip ?_ | refine c_exit ?_ | refine c_ret ?_ | refine s_nil ?_ | refine x_then ?_ | refine x_then_exit ?_ | refine x_then_ret ?_ | refine x_block ?_ | refine x_block_ret ?_ | refine x_block_same ?_ | refine x_block_other (by first | rfl | decide) ?_ | refine q_nil ?_ | refine k_nil ?_) | ((with_reducible apply kN); first | refine stP ?_ | refine stI ?_ | refine st1 ?_ | refine stW ?_) | ((with_reducible apply kP (.alloc _)); refine sA (fun b => ?_)) | ((with_reducible apply kP (.box _ _)); first | refine sBA (fun b => ?_) | refine sB (fun b => ?_)) | ((with_reducible apply kP _); refine sP ?_) | ((with_reducible apply kP _); refine sX ?_) | ((with_reducible apply kC); first | refine cT ?_ | refine cF ?_ | (refine cI (fun h => ?_) (fun h => ?_) <;> (try (exfalso; omega))) | refine cB (fun h => ?_) (fun h => ?_)))
        all_goals try (exfalso; omega)
        exact e_ret2 (hs' := hs) rfl rfl rfl ⟨rfl, rfl⟩ (.cons _ (sbA (sbA (.refl _))))
  · rw [if_neg hv]
    generalize vErr r g = E at *
    refine fn_enter Tryd.func7 rfl Tryd.ntmps7 (by simp) ?_
    repeat' (first | ((with_reducible apply kP (.box 24 _)); refine sBA (fun b1 => ?_)) | ((with_reducible apply kP (.alloc 24)); refine sA (fun b4 => ?_)) | ((with_reducible apply kF 17); refine sR 17 (kt _ SBt) ?_; rintro v7 h7 ⟨blk7, ⟨o7, o8, c7, c8, k7, k8, rfl, hr7, hr8, rfl⟩, rfl⟩; unfold bv; rw [List.append_assoc]) | ((with_reducible apply kN); refine stW ?_ (hf := flat_cons rfl (flat1 rfl))) | (with_reducible first | refine c_seq ?_ | refine c_reg ?_ | refine c_region ?_ | refine c_block ?_ | refine c_skip ?_ | refine c_exit ?_ | refine c_ret ?_ | refine s_nil ?_ | refine x_then ?_ | refine x_then_exit ?_ | refine x_then_ret ?_ | refine x_block ?_ | refine x_block_ret ?_ | refine x_block_same ?_ | refine x_block_other (by first | rfl | decide) ?_ | refine q_nil ?_ | refine k_nil ?_) | ((with_reducible apply kN); first | refine stP ?_ | refine stI ?_ | refine st1 ?_ | refine stW ?_) | ((with_reducible apply kP (.alloc _)); refine sA (fun b => ?_)) | ((with_reducible apply kP (.box _ _)); first | refine sBA (fun b => ?_) | refine sB (fun b => ?_)) | ((with_reducible apply kP _); refine sP ?_) | ((with_reducible apply kP _); refine sX ?_) | ((with_reducible apply kC); first | refine cT ?_ | refine cF ?_ | (refine cI (fun h => ?_) (fun h => ?_) <;> (try (exfalso; omega))) | refine cB (fun h => ?_) (fun h => ?_)))
    all_goals first
      | (exfalso; omega)
      | exact e_ret2 (hs' := hs) rfl rfl rfl ⟨rfl, rfl⟩ (.cons _ (sbA (sbA (.cons _ (.refl _)))))
      | trace_state
structure FmI where
  i : Nat
  oa : Option Addr
  c : Nat
  blk : HS
theorem map_take_succ {R : List Int} {i : Nat} (h : i < R.length) : (R.take (i + 1)).map Go.Lib.itoa = (R.take i).map Go.Lib.itoa ++ [Go.Lib.itoa (R.getD i 0)] := by
  rw [List.take_succ_eq_append_getElem h, List.map_append]
  congr 2
  rw [List.getD_eq_getElem?_getD, List.getElem?_eq_getElem h]
  rfl
set_option maxRecDepth 100000 in
set_option maxHeartbeats 8000000 in
theorem h_Format (o1 o2 : Option Addr) (c1 c2 : Nat) (r g : List Int) (B : Nat) (w0 : Wd) (hT : TxW B w0) (hs : HS) (h1 : Sl B w0 hs o1 r) (h2 : Sl B w0 hs o2 g) :
    Fn Tryd.prog 6 #[bv o1 o2 r.length g.length c1 c2] B w0 hs (fun v h => v = fmV r g ∧ h = hs) := by
  have kt := fun hs' (h : hs.Sublist hs') => h_Trim o1 o2 c1 c2 r g B w0 hs' (h1.sub h) (h2.sub h)
  unfold fmV
  by_cases hv : vErr r g = 0
  · have T := trOk hv
    have l1 := trR_len r g
    have l2 := trG_len r g
    rw [if_pos hv]
    rw [hv] at kt ⊢
    have nR := T.nR
    have nG := T.nG
    clear T
    generalize trR r g = R at *
    generalize trG r g = G at *
    have hjl := fmtT_len nR nG l1 l2
    have hjn : (wdF R G).length = R.length + G.length + 2 := by unfold wdF; simp only [List.length_cons, List.length_append, List.length_map]; omega
    have hkj : (wdF R G).length ≤ 140737488355328 := by omega
    have hjj : (Go.Lib.join (wdF R G) [32]).length ≤ 140737488355328 := by rw [join_fmt]; omega
    refine fn_enter Tryd.func6 rfl Tryd.ntmps6 (by simp) ?_
    repeat' (first | ((with_reducible apply kP (.box 24 _)); refine sBA (fun b1 => ?_)) | ((with_reducible apply kP (.alloc 24)); refine sA (fun b4 => ?_)) | ((with_reducible apply kF 14); refine sR 14 (kt _ SBt) ?_; rintro v7 h7 ⟨blk7, ⟨o7, o8, c7, c8, k7, k8, rfl, hr7, hr8, rfl⟩, rfl⟩; unfold bv; rw [List.append_assoc]) | ((with_reducible apply kN); refine stW ?_ (hf := flat_cons rfl (flat1 rfl))) | (with_reducible first | refine c_seq ?_ | refine c_reg ?_ | refine c_region ?_ | refine c_block ?_ | refine c_skip ?_ | refine c_exit ?_ | refine c_ret ?_ | refine s_nil ?_ | refine x_then ?_ | refine x_then_exit ?_ | refine x_then_ret ?_ | refine x_block ?_ | refine x_block_ret ?_ | refine x_block_same ?_ | refine x_block_other (by first | rfl | decide) ?_ | refine q_nil ?_ | refine k_nil ?_) | ((with_reducible apply kN); first | refine stP ?_ | refine stI ?_ | refine st1 ?_ | refine stW ?_) | ((with_reducible apply kP (.box _ _)); first | refine sBA (fun b => ?_) | refine sB (fun b => ?_)) | ((with_reducible apply kP (.buildSlice _ 1 _)); first | refine sl1A (fun b => ?_) | refine sl1 (fun b => ?_)) | ((with_reducible apply kP (.call ⟨.builtin .append, _, _⟩)); refine sAp (fun oa2 c2 blk2 hrow2 => ?_)) | ((with_reducible apply kP _); refine sP ?_) | ((with_reducible apply kP _); refine sX ?_) | ((with_reducible apply kC); first | refine cT ?_ | refine cF ?_ | (refine cI (fun h => ?_) (fun h => ?_) <;> (try (exfalso; omega))) | refine cB (fun h => ?_) (fun h => ?_)))
    all_goals try (exfalso; omega)
    have hL7 := Sl.row (B := B) (w0 := w0) hr7
    have hL8 := Sl.row (B := B) (w0 := w0) hr8
    have hr0 : RowOk (some ⟨b, 0, none⟩) 1 1 (svs (sHair :: (R.take 0).map Go.Lib.itoa)) [(b, [sv sHair])] := RowOk.new rfl (by decide)
    have kj : ∀ oa c blk hs', RowOk oa c 1 (svs (wdF R G)) blk → blk.Sublist hs' → Fn Tryd.prog 16 #[.slice oa (R.length + 1 + 1 + G.length) c, sv [32]] B w0 hs' (fun v h => v = sv (fmtT R G) ∧ h = hs') := fun oa c blk hs' hr hsub => by
      have := x_Join (B := B) (w0 := w0) oa c (wdF R G) [32] blk hs' hr hsub hjj hkj
      rw [hjn, join_fmt, show R.length + G.length + 2 = R.length + 1 + 1 + G.length by omega] at this
      exact this
    refine c_loop (fun t : FmI => [(1, .pointer (some ⟨b1, 0, none⟩)), (2, sv []), (3, iv 0), (5, .slice t.oa (t.i + 1) t.c), (20, .slice o7 R.length c7), (21, iv R.length), (22, iv t.i)])
      (fun t => t.blk ++ (k8 ++ (k7 ++ ((b1, [.slice o7 R.length c7, .slice o8 G.length c8]) :: hs)))) (fun t => t.i ≤ R.length ∧ RowOk t.oa t.c 1 (svs (sHair :: (R.take t.i).map Go.Lib.itoa)) t.blk) (fun t => R.length - t.i) ⟨0, some ⟨b, 0, none⟩, 1, [(b, [sv sHair])]⟩ ⟨Nat.zero_le _, hr0⟩ (by repeat' first | trivial | rfl | apply And.intro) (.refl _) ?_
    rintro ⟨i, oa, c, blk⟩ ⟨hi, hr⟩
    dsimp only at hi hr ⊢
    have hkk : (svs (sHair :: (R.take i).map Go.Lib.itoa)).length = (i + 1) * 1 := by
      rw [svs_length, List.length_cons, List.length_map, List.length_take]; omega
    by_cases hi' : i < R.length
    · obtain ⟨d1, d2, d3, d4⟩ := itoa_len nR hi'
      have ki := fun hs' => x_Itoa hT (R.getD i 0) d1 hs'
      have i7 := hL7.any hi'
      repeat' (first | ((with_reducible apply kF 15); refine sC 15 (ki _) ?_) | ((with_reducible apply kP (.load 3 _)); refine sP ?_ (o_load rfl (ld_one (shTOf rfl) (hL7.at SBt hi')))) | ((with_reducible apply kDP (.load 3 _)); refine dP ?_ (hX := rfl) (hv := o_load rfl (ld_one (shTOf rfl) (hL7.at SBt hi')))) | ((with_reducible apply kQO (.load 3 _)); refine qP ?_ (o_load rfl (ld_one (shTOf rfl) (hL7.at SBt hi')))) | ((with_reducible apply kP (.indexAddr 22 _ _)); refine sP ?_ (o_indexS (scTOf rfl) rfl rfl rfl (aa0 _) i7 hi')) | ((with_reducible apply kDP (.indexAddr 22 _ _)); refine dP ?_ (hX := rfl) (hv := o_indexS (scTOf rfl) rfl rfl rfl (aa0 _) i7 hi')) | ((with_reducible apply kQO (.indexAddr 22 _ _)); refine qP ?_ (o_indexS (scTOf rfl) rfl rfl rfl (aa0 _) i7 hi')) | ((with_reducible apply kP (.call ⟨.builtin .append, _, _⟩)); refine sAp (fun oa5 c5 k5 hr5 => ?_) (hr := hr) (hk := hkk) (hf := flat1 rfl)) | (with_reducible first | refine c_seq ?_ | refine c_reg ?_ | refine c_region ?_ | refine c_block ?_ | refine c_skip ?_ | refine c_exit ?_ | refine c_ret ?_ | refine s_nil ?_ | refine x_then ?_ | refine x_then_exit ?_ | refine x_then_ret ?_ | refine x_block ?_ | refine x_block_ret ?_ | refine x_block_same ?_ | refine x_block_other (by first | rfl | decide) ?_ | refine q_nil ?_ | refine k_nil ?_) | ((with_reducible apply kN); first | refine stP ?_ | refine stI ?_ | refine st1 ?_ | refine stW ?_) | ((with_reducible apply kP (.box _ _)); first | refine sBA (fun b => ?_) | refine sB (fun b => ?_)) | ((with_reducible apply kP (.buildSlice _ 1 _)); first | refine sl1A (fun b => ?_) | refine sl1 (fun b => ?_)) | ((with_reducible apply kP (.call ⟨.builtin .append, _, _⟩)); refine sAp (fun oa2 c2 blk2 hrow2 => ?_)) | ((with_reducible apply kP _); refine sP ?_) | ((with_reducible apply kP _); refine sX ?_) | ((with_reducible apply kC); first | refine cT ?_ | refine cF ?_ | (refine cI (fun h => ?_) (fun h => ?_) <;> (try (exfalso; omega))) | refine cB (fun h => ?_) (fun h => ?_)))
      all_goals try (exfalso; omega)
      have hr5' : RowOk oa5 c5 1 (svs (sHair :: (R.take (i + 1)).map Go.Lib.itoa)) k5 := by rw [map_take_succ hi', ← List.cons_append, ← svs_snoc]; exact hr5
      exact r_end (⟨i + 1, oa5, c5, k5⟩ : FmI) ⟨hi', hr5'⟩ (by dsimp only; omega) (by repeat' first | trivial | rfl | apply And.intro) (.append (.refl _) (.cons _ (.refl _)))
    · obtain rfl : i = R.length := by omega
      rw [List.take_length] at hr hkk
      repeat' (first | ((with_reducible apply kP (.call ⟨.builtin .append, _, _⟩)); refine sAp (fun oa5 c5 k5 hr5 => ?_) (hr := hr) (hk := hkk) (hf := flat1 rfl)) | (with_reducible first | refine c_seq ?_ | refine c_reg ?_ | refine c_region ?_ | refine c_block ?_ | refine c_skip ?_ | refine c_exit ?_ | refine c_ret ?_ | refine s_nil ?_ | refine x_then ?_ | refine x_then_exit ?_ | refine x_then_ret ?_ | refine x_block ?_ | refine x_block_ret ?_ | refine x_block_same ?_ | refine x_block_other (by first | rfl | decide) ?_ | refine q_nil ?_ | refine k_nil ?_) | ((with_reducible apply kN); first | refine stP ?_ | refine stI ?_ | refine st1 ?_ | refine stW ?_) | ((with_reducible apply kP (.box _ _)); first | refine sBA (fun b => ?_) | refine sB (fun b => ?_)) | ((with_reducible apply kP (.buildSlice _ 1 _)); first | refine sl1A (fun b => ?_) | refine sl1 (fun b => ?_)) | ((with_reducible apply kP (.call ⟨.builtin .append, _, _⟩)); refine sAp (fun oa2 c2 blk2 hrow2 => ?_)) | ((with_reducible apply kP _); refine sP ?_) | ((with_reducible apply kP _); refine sX ?_) | ((with_reducible apply kC); first | refine cT ?_ | refine cF ?_ | (refine cI (fun h => ?_) (fun h => ?_) <;> (try (exfalso; omega))) | refine cB (fun h => ?_) (fun h => ?_)))
      all_goals try (exfalso; omega)
      have hr5' : RowOk oa5 c5 1 (svs (sHair :: (R.map Go.Lib.itoa ++ sWrong :: (G.take 0).map Go.Lib.itoa))) k5 := by
        rw [show sHair :: (R.map Go.Lib.itoa ++ sWrong :: (G.take 0).map Go.Lib.itoa) = (sHair :: R.map Go.Lib.itoa) ++ [sWrong] from rfl, ← svs_snoc]; exact hr5
      refine c_loop (fun t : FmI => [(2, sv []), (3, iv 0), (5, .slice t.oa (R.length + 1 + 1 + t.i) t.c), (36, .slice o8 G.length c8), (37, iv G.length), (38, iv t.i)])
        (fun t => t.blk ++ (k8 ++ (k7 ++ ((b1, [.slice o7 R.length c7, .slice o8 G.length c8]) :: hs)))) (fun t => t.i ≤ G.length ∧ RowOk t.oa t.c 1 (svs (sHair :: (R.map Go.Lib.itoa ++ sWrong :: (G.take t.i).map Go.Lib.itoa))) t.blk) (fun t => G.length - t.i) ⟨0, oa5, c5, k5⟩ ⟨Nat.zero_le _, hr5'⟩ (by repeat' first | trivial | rfl | apply And.intro) (.append (.refl _) (.cons _ (.refl _))) ?_
      rintro ⟨i, oa, c, blk⟩ ⟨hi, hr⟩
      dsimp only at hi hr ⊢
      have hkk : (svs (sHair :: (R.map Go.Lib.itoa ++ sWrong :: (G.take i).map Go.Lib.itoa))).length = (R.length + 1 + 1 + i) * 1 := by
        rw [svs_length, List.length_cons, List.length_append, List.length_cons, List.length_map, List.length_map, List.length_take]; omega
      by_cases hi' : i < G.length
      · obtain ⟨d1, d2, d3, d4⟩ := itoa_len nG hi'
        have ki := fun hs' => x_Itoa hT (G.getD i 0) d1 hs'
        have i8 := hL8.any hi'
        repeat' (first | ((with_reducible apply kF 15); refine sC 15 (ki _) ?_) | ((with_reducible apply kP (.load 3 _)); refine sP ?_ (o_load rfl (ld_one (shTOf rfl) (hL8.at SBt hi')))) | ((with_reducible apply kDP (.load 3 _)); refine dP ?_ (hX := rfl) (hv := o_load rfl (ld_one (shTOf rfl) (hL8.at SBt hi')))) | ((with_reducible apply kQO (.load 3 _)); refine qP ?_ (o_load rfl (ld_one (shTOf rfl) (hL8.at SBt hi')))) | ((with_reducible apply kP (.indexAddr 22 _ _)); refine sP ?_ (o_indexS (scTOf rfl) rfl rfl rfl (aa0 _) i8 hi')) | ((with_reducible apply kDP (.indexAddr 22 _ _)); refine dP ?_ (hX := rfl) (hv := o_indexS (scTOf rfl) rfl rfl rfl (aa0 _) i8 hi')) | ((with_reducible apply kQO (.indexAddr 22 _ _)); refine qP ?_ (o_indexS (scTOf rfl) rfl rfl rfl (aa0 _) i8 hi')) | ((with_reducible apply kP (.call ⟨.builtin .append, _, _⟩)); refine sAp (fun oa6 c6 k6 hr6 => ?_) (hr := hr) (hk := hkk) (hf := flat1 rfl)) | (with_reducible first | refine c_seq ?_ | refine c_reg ?_ | refine c_region ?_ | refine c_block ?_ | refine c_skip ?_ | refine c_exit ?_ | refine c_ret ?_ | refine s_nil ?_ | refine x_then ?_ | refine x_then_exit ?_ | refine x_then_ret ?_ | refine x_block ?_ | refine x_block_ret ?_ | refine x_block_same ?_ | refine x_block_other (by first | rfl | decide) ?_ | refine q_nil ?_ | refine k_nil ?_) | ((with_reducible apply kN); first | refine stP ?_ | refine stI ?_ | refine st1 ?_ | refine stW ?_) | ((with_reducible apply kP (.box _ _)); first | refine sBA (fun b => ?_) | refine sB (fun b => ?_)) | ((with_reducible apply kP (.buildSlice _ 1 _)); first | refine sl1A (fun b => ?_) | refine sl1 (fun b => ?_)) | ((with_reducible apply kP (.call ⟨.builtin .append, _, _⟩)); refine sAp (fun oa2 c2 blk2 hrow2 => ?_)) | ((with_reducible apply kP _); refine sP ?_) | ((with_reducible apply kP _); refine sX ?_) | ((with_reducible apply kC); first | refine cT ?_ | refine cF ?_ | (refine cI (fun h => ?_) (fun h => ?_) <;> (try (exfalso; omega))) | refine cB (fun h => ?_) (fun h => ?_)))
        all_goals try (exfalso; omega)
        have hr6' : RowOk oa6 c6 1 (svs (sHair :: (R.map Go.Lib.itoa ++ sWrong :: (G.take (i + 1)).map Go.Lib.itoa))) k6 := by
          rw [map_take_succ hi', show sHair :: (R.map Go.Lib.itoa ++ sWrong :: ((G.take i).map Go.Lib.itoa ++ [Go.Lib.itoa (G.getD i 0)])) = (sHair :: (R.map Go.Lib.itoa ++ sWrong :: (G.take i).map Go.Lib.itoa)) ++ [Go.Lib.itoa (G.getD i 0)] by simp, ← svs_snoc]; exact hr6
        exact r_end (⟨i + 1, oa6, c6, k6⟩ : FmI) ⟨hi', hr6'⟩ (by dsimp only; omega) (by repeat' first | trivial | rfl | apply And.intro) (.append (.refl _) (.cons _ (.refl _)))
      · obtain rfl : i = G.length := by omega
        rw [List.take_length] at hr
        repeat' (first | ((with_reducible apply kF 16); refine sC 16 (kj _ _ _ _ hr SBt) ?_) | (with_reducible first | refine c_seq ?_ | refine c_reg ?_ | refine c_region ?_ | refine c_block ?_ | refine c_skip ?_ | refine c_exit ?_ | refine c_ret ?_ | refine s_nil ?_ | refine x_then ?_ | refine x_then_exit ?_ | refine x_then_ret ?_ | refine x_block ?_ | refine x_block_ret ?_ | refine x_block_same ?_ | refine x_block_other (by first | rfl | decide) ?_ | refine q_nil ?_ | refine k_nil ?_) | ((with_reducible apply kN); first | refine stP ?_ | refine stI ?_ | refine st1 ?_ | refine stW ?_) | ((with_reducible apply kP (.box _ _)); first | refine sBA (fun b => ?_) | refine sB (fun b => ?_)) | ((with_reducible apply kP (.buildSlice _ 1 _)); first | refine sl1A (fun b => ?_) | refine sl1 (fun b => ?_)) | ((with_reducible apply kP (.call ⟨.builtin .append, _, _⟩)); refine sAp (fun oa2 c2 blk2 hrow2 => ?_)) | ((with_reducible apply kP _); refine sP ?_) | ((with_reducible apply kP _); refine sX ?_) | ((with_reducible apply kC); first | refine cT ?_ | refine cF ?_ | (refine cI (fun h => ?_) (fun h => ?_) <;> (try (exfalso; omega))) | refine cB (fun h => ?_) (fun h => ?_)))
        all_goals try (exfalso; omega)
        exact e_ret2 (hs' := hs) rfl rfl rfl ⟨rfl, rfl⟩ (sbA (sbA (sbA (.cons _ (.refl _)))))
  · rw [if_neg hv]
    generalize vErr r g = E at *
    refine fn_enter Tryd.func6 rfl Tryd.ntmps6 (by simp) ?_
    repeat' (first | ((with_reducible apply kP (.box 24 _)); refine sBA (fun b1 => ?_)) | ((with_reducible apply kP (.alloc 24)); refine sA (fun b4 => ?_)) | ((with_reducible apply kF 14); refine sR 14 (kt _ SBt) ?_; rintro v7 h7 ⟨blk7, ⟨o7, o8, c7, c8, k7, k8, rfl, hr7, hr8, rfl⟩, rfl⟩; unfold bv; rw [List.append_assoc]) | ((with_reducible apply kN); refine stW ?_ (hf := flat_cons rfl (flat1 rfl))) | (with_reducible first | refine c_seq ?_ | refine c_reg ?_ | refine c_region ?_ | refine c_block ?_ | refine c_skip ?_ | refine c_exit ?_ | refine c_ret ?_ | refine s_nil ?_ | refine x_then ?_ | refine x_then_exit ?_ | refine x_then_ret ?_ | refine x_block ?_ | refine x_block_ret ?_ | refine x_block_same ?_ | refine x_block_other (by first | rfl | decide) ?_ | refine q_nil ?_ | refine k_nil ?_) | ((with_reducible apply kN); first | refine stP ?_ | refine stI ?_ | refine st1 ?_ | refine stW ?_) | ((with_reducible apply kP (.box _ _)); first | refine sBA (fun b => ?_) | refine sB (fun b => ?_)) | ((with_reducible apply kP (.buildSlice _ 1 _)); first | refine sl1A (fun b => ?_) | refine sl1 (fun b => ?_)) | ((with_reducible apply kP (.call ⟨.builtin .append, _, _⟩)); refine sAp (fun oa2 c2 blk2 hrow2 => ?_)) | ((with_reducible apply kP _); refine sP ?_) | ((with_reducible apply kP _); refine sX ?_) | ((with_reducible apply kC); first | refine cT ?_ | refine cF ?_ | (refine cI (fun h => ?_) (fun h => ?_) <;> (try (exfalso; omega))) | refine cB (fun h => ?_) (fun h => ?_)))
    all_goals first
      | (exfalso; omega)
      | exact e_ret2 (hs' := hs) rfl rfl rfl ⟨rfl, rfl⟩ (sbA (sbA (.cons _ (.refl _))))
      | trace_state
end Go.Proofs.YtmblgbcipniecaaDoor
