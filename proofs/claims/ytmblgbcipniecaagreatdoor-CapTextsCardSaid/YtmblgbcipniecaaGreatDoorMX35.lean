/- A line of a cap's text is written. -/
import Derived.Test.YtmblgbcipniecaaGreatDoorMX34
import Derived.Test.YtmblgbcipniecaaGreatDoorMX3
import Derived.Test.YtmblgbcipniecaaGreatDoorMX4
namespace Go.Proofs.YtmblgbcipniecaaGreatDoor
open Go.RowKit
/-- Numbers, each with a blank in front. -/
def nmT (l : List Int) : List UInt8 := (l.map fun x => 32 :: Go.Lib.itoa x).flatten
theorem nmT_snoc (l : List Int) (x : Int) : nmT (l ++ [x]) = nmT l ++ (32 :: Go.Lib.itoa x) := by
  unfold nmT
  rw [List.map_append, List.flatten_append]
  simp
theorem nmT_take {l : List Int} {i : Nat} (h : i < l.length) : nmT (l.take (i + 1)) = nmT (l.take i) ++ (32 :: Go.Lib.itoa (l.getD i 0)) := by
  rw [List.take_succ_eq_append_getElem h, nmT_snoc]
  congr 3
  rw [List.getD_eq_getElem?_getD, List.getElem?_eq_getElem h]
  rfl
theorem nmT_cut (l : List Int) (i : Nat) : (nmT (l.take i)).length ≤ (nmT l).length := by
  have h : nmT l = nmT (l.take i) ++ nmT (l.drop i) := by
    unfold nmT
    rw [← List.flatten_append, ← List.map_append, List.take_append_drop]
  rw [h, List.length_append]
  omega
theorem nmT_ge : ∀ l : List Int, l.length ≤ (nmT l).length
  | [] => Nat.zero_le _
  | x :: l => by
    have h := nmT_ge l
    have e : nmT (x :: l) = (32 :: Go.Lib.itoa x) ++ nmT l := by unfold nmT; simp
    rw [e, List.length_append, List.length_cons, List.length_cons]
    omega
/-- A line: a word, numbers, a line's end. -/
def lnT (w : List UInt8) (l : List Int) : List UInt8 := w ++ nmT l ++ [10]
theorem TxW.ms {B : Nat} {w0 w1 : Wd} (h : TxW B w0) (e : w1.w = w0.w) : TxW B w1 := by
  obtain ⟨a, b, c, d, f⟩ := h
  refine ⟨a, ?_, ?_, ?_, ?_⟩ <;> rw [e] <;> assumption
structure LnI where
  i : Nat
  bm : List (Nat × Obj)
attribute [local irreducible] OpF Ld CellAt Sl Sv
theorem x_line (B : Nat) (b : Nat) (t wd : List UInt8) (l : List Int) (oa : Option Addr) (c : Nat) (bm ms : List (Nat × Obj)) (hb : Bd b t bm) (h0 : wd ≠ []) (hl : (t ++ lnT wd l).length ≤ 1000000) (hI : ∀ x ∈ l, InI x) (W : World) (hT : TxW B ⟨W, ms⟩) (hs : HS) (hL : Sl B ⟨W, ms⟩ hs oa l) :
    FnW Tryz.prog 30 #[sv wd, .slice oa l.length c, .pointer (some ⟨b, 0, none⟩)] B ⟨W, bm ++ ms⟩ hs (fun v w1 h => v = .tuple #[] ∧ h = hs ∧ ∃ bm', Bd b (t ++ lnT wd l) bm' ∧ w1 = ⟨W, bm' ++ ms⟩) := by
  have hlen : (t ++ lnT wd l).length = t.length + (wd.length + (nmT l).length + 1) := by unfold lnT; simp only [List.length_append, List.length_cons, List.length_nil]
  have hge := nmT_ge l
  refine fn_enterW Tryz.func30 rfl Tryz.ntmps30 (by simp) ?_
  repeat' (first | ((with_reducible apply kF 31); refine s_callW (goF rfl) rfl (x_WriteString B b t wd bm ms hb h0 (by omega) W _) (by decide) ?_; rintro v1 w1 h1 ⟨rfl, rfl, bm1, hb1, rfl⟩) | (with_reducible first | refine c_seq ?_ | refine c_reg ?_ | refine c_region ?_ | refine c_block ?_ | refine c_skip ?_ | refine c_exit ?_ | refine c_ret ?_ | refine s_nil ?_ | refine x_then ?_ | refine x_then_exit ?_ | refine x_then_ret ?_ | refine x_block ?_ | refine x_block_ret ?_ | refine x_block_same ?_ | refine x_block_other (by first | rfl | decide) ?_ | refine q_nil ?_ | refine k_nil ?_) | ((with_reducible apply kP (.makeFunc _ _ _)); refine sMF ?_) | ((with_reducible apply kG); first | refine gY1 ?_ | refine gN1 ?_ | refine gU1 ?_ | (refine gD1 (fun h => ?_) (fun h => ?_) <;> (try (exfalso; omega))) | refine gB1 (fun h => ?_) (fun h => ?_)) | ((with_reducible apply kN); first | refine stP ?_ | refine stI ?_ | refine st1 ?_ | refine stW ?_) | ((with_reducible apply kP (.alloc _)); refine sA (fun b => ?_)) | ((with_reducible apply kP (.box _ _)); first | refine sBA (fun b => ?_) | refine sB (fun b => ?_)) | ((with_reducible apply kP (.buildSlice _ 1 _)); first | refine sl1A (fun b => ?_) | refine sl1 (fun b => ?_)) | ((with_reducible apply kP (.buildSlice _ 2 _)); refine sl2 (fun b => ?_)) | ((with_reducible apply kP (.buildSlice _ 3 _)); refine sl3 (fun b => ?_)) | ((with_reducible apply kP (.buildSlice _ 4 _)); refine sl4 (fun b => ?_)) | ((with_reducible apply kP (.buildSlice _ 0 _)); refine s_bs0 (scTOf rfl) (zsTOf rfl) (by decide) (fun b => ?_)) | ((with_reducible apply kP (.makeSlice _ _ _)); refine sMk (fun b => ?_)) | ((with_reducible apply kP (.call ⟨.builtin .append, _, _⟩)); refine sAp (fun oa2 c2 blk2 hrow2 => ?_)) | ((with_reducible apply kP _); refine sP ?_) | ((with_reducible apply kP _); refine sX ?_) | ((with_reducible apply kQG); first | refine qY1 ?_ | refine qN1 ?_ | refine qU1 ?_ | (refine qD1 (fun h => ?_) (fun h => ?_) <;> (try (exfalso; omega))) | refine qB1 (fun h => ?_) (fun h => ?_)) | ((with_reducible apply kQP); refine qP ?_) | ((with_reducible apply kQP); refine qX ?_) | ((with_reducible apply kC); first | refine cT ?_ | refine cF ?_ | (refine cI (fun h => ?_) (fun h => ?_) <;> (try (exfalso; omega))) | refine cB (fun h => ?_) (fun h => ?_)) | ((with_reducible apply kR); refine cQ ?_))
  refine c_loopM (fun s : LnI => ⟨W, s.bm ++ ms⟩) (fun s : LnI => [(0, sv wd), (1, .slice oa l.length c), (2, .pointer (some ⟨b, 0, none⟩)), (9, .slice oa l.length c), (10, iv l.length), (11, iv s.i)]) (fun _ => h1) (fun s : LnI => s.i ≤ l.length ∧ Bd b (t ++ wd ++ nmT (l.take s.i)) s.bm) (fun s : LnI => l.length - s.i) ⟨0, bm1⟩ ⟨Nat.zero_le _, by rw [List.take_zero, show nmT [] = [] from rfl, List.append_nil]; exact hb1⟩ (Wd.le.refl _) (by repeat' first | trivial | rfl | apply And.intro) (.refl _) ?_
  rintro ⟨i, bm2⟩ ⟨hi, hb2⟩
  dsimp only at hi hb2 ⊢
  have hL2 : Sl B ⟨W, bm2 ++ ms⟩ h1 oa l := hL.base (a := ⟨W, ms⟩) (b := ⟨W, bm2 ++ ms⟩) ⟨rfl, List.sublist_append_right _ _⟩
  by_cases hi' : i < l.length
  · have hx : InI (l.getD i 0) := hI _ (by rw [List.getD_eq_getElem?_getD, List.getElem?_eq_getElem hi']; exact List.getElem_mem hi')
    have hT2 : TxW B ⟨W, bm2 ++ ms⟩ := hT.ms rfl
    have ki := fun hs' => x_Itoa hT2 (l.getD i 0) hx hs'
    have hc2 := nmT_cut l (i + 1)
    rw [nmT_take hi'] at hc2
    simp only [List.length_append, List.length_cons] at hc2
    have i1 := hL2.any hi'
    repeat' (first | ((with_reducible apply kF 32); refine sC 32 (ki _) ?_) | ((with_reducible apply kP (.load 3 _)); refine sP ?_ (o_load rfl (ld_one (shTOf rfl) (hL2.at SBt hi')))) | ((with_reducible apply kDP (.load 3 _)); refine dP ?_ (hX := rfl) (hv := o_load rfl (ld_one (shTOf rfl) (hL2.at SBt hi')))) | ((with_reducible apply kQO (.load 3 _)); refine qP ?_ (o_load rfl (ld_one (shTOf rfl) (hL2.at SBt hi')))) | ((with_reducible apply kP (.indexAddr 35 _ _)); refine sP ?_ (o_indexS (scTOf rfl) rfl rfl rfl (aa0 _) i1 hi')) | ((with_reducible apply kDP (.indexAddr 35 _ _)); refine dP ?_ (hX := rfl) (hv := o_indexS (scTOf rfl) rfl rfl rfl (aa0 _) i1 hi')) | ((with_reducible apply kQO (.indexAddr 35 _ _)); refine qP ?_ (o_indexS (scTOf rfl) rfl rfl rfl (aa0 _) i1 hi')) | ((with_reducible apply kP (.binOp .add 9 _ _ _)); refine sP ?_ (o_sAdd (a := [32]) rfl rfl (by simp only [List.length_cons, List.length_nil]; omega))) | ((with_reducible apply kDP (.binOp .add 9 _ _ _)); refine dP ?_ (hX := rfl) (hv := o_sAdd (a := [32]) rfl rfl (by simp only [List.length_cons, List.length_nil]; omega))) | ((with_reducible apply kQO (.binOp .add 9 _ _ _)); refine qP ?_ (o_sAdd (a := [32]) rfl rfl (by simp only [List.length_cons, List.length_nil]; omega))) | ((with_reducible apply kF 31); refine s_callW (goF rfl) rfl (x_WriteString B b (t ++ wd ++ nmT (l.take i)) ([32] ++ Go.Lib.itoa (l.getD i 0)) bm2 ms hb2 (List.cons_ne_nil _ _) (by simp only [List.length_append, List.length_cons, List.length_nil]; omega) W _) (by decide) ?_; rintro v2 w2 h2 ⟨rfl, rfl, bm3, hb3, rfl⟩) | (with_reducible first | refine c_seq ?_ | refine c_reg ?_ | refine c_region ?_ | refine c_block ?_ | refine c_skip ?_ | refine c_exit ?_ | refine c_ret ?_ | refine s_nil ?_ | refine x_then ?_ | refine x_then_exit ?_ | refine x_then_ret ?_ | refine x_block ?_ | refine x_block_ret ?_ | refine x_block_same ?_ | refine x_block_other (by first | rfl | decide) ?_ | refine q_nil ?_ | refine k_nil ?_) | ((with_reducible apply kP (.makeFunc _ _ _)); refine sMF ?_) | ((with_reducible apply kG); first | refine gY1 ?_ | refine gN1 ?_ | refine gU1 ?_ | (refine gD1 (fun h => ?_) (fun h => ?_) <;> (try (exfalso; omega))) | refine gB1 (fun h => ?_) (fun h => ?_)) | ((with_reducible apply kN); first | refine stP ?_ | refine stI ?_ | refine st1 ?_ | refine stW ?_) | ((with_reducible apply kP (.alloc _)); refine sA (fun b => ?_)) | ((with_reducible apply kP (.box _ _)); first | refine sBA (fun b => ?_) | refine sB (fun b => ?_)) | ((with_reducible apply kP (.buildSlice _ 1 _)); first | refine sl1A (fun b => ?_) | refine sl1 (fun b => ?_)) | ((with_reducible apply kP (.buildSlice _ 2 _)); refine sl2 (fun b => ?_)) | ((with_reducible apply kP (.buildSlice _ 3 _)); refine sl3 (fun b => ?_)) | ((with_reducible apply kP (.buildSlice _ 4 _)); refine sl4 (fun b => ?_)) | ((with_reducible apply kP (.buildSlice _ 0 _)); refine s_bs0 (scTOf rfl) (zsTOf rfl) (by decide) (fun b => ?_)) | ((with_reducible apply kP (.makeSlice _ _ _)); refine sMk (fun b => ?_)) | ((with_reducible apply kP (.call ⟨.builtin .append, _, _⟩)); refine sAp (fun oa2 c2 blk2 hrow2 => ?_)) | ((with_reducible apply kP _); refine sP ?_) | ((with_reducible apply kP _); refine sX ?_) | ((with_reducible apply kQG); first | refine qY1 ?_ | refine qN1 ?_ | refine qU1 ?_ | (refine qD1 (fun h => ?_) (fun h => ?_) <;> (try (exfalso; omega))) | refine qB1 (fun h => ?_) (fun h => ?_)) | ((with_reducible apply kQP); refine qP ?_) | ((with_reducible apply kQP); refine qX ?_) | ((with_reducible apply kC); first | refine cT ?_ | refine cF ?_ | (refine cI (fun h => ?_) (fun h => ?_) <;> (try (exfalso; omega))) | refine cB (fun h => ?_) (fun h => ?_)) | ((with_reducible apply kR); refine cQ ?_))
    all_goals try (exfalso; omega)
    refine r_endM (⟨i + 1, bm3⟩ : LnI) ⟨hi', ?_⟩ (by dsimp only; omega) (Wd.le.refl _) (by repeat' first | trivial | rfl | apply And.intro) (.refl _)
    dsimp only
    rw [nmT_take hi', ← List.append_assoc]
    exact hb3
  · obtain rfl : i = l.length := by omega
    rw [List.take_length] at hb2
    repeat' (first | ((with_reducible apply kF 31); refine s_callW (goF rfl) rfl (x_WriteString B b (t ++ wd ++ nmT l) [10] bm2 ms hb2 (List.cons_ne_nil _ _) (by simp only [List.length_append, List.length_cons, List.length_nil]; omega) W _) (by decide) ?_; rintro v2 w2 h2 ⟨rfl, rfl, bm3, hb3, rfl⟩) | (with_reducible first | refine c_seq ?_ | refine c_reg ?_ | refine c_region ?_ | refine c_block ?_ | refine c_skip ?_ | refine c_exit ?_ | refine c_ret ?_ | refine s_nil ?_ | refine x_then ?_ | refine x_then_exit ?_ | refine x_then_ret ?_ | refine x_block ?_ | refine x_block_ret ?_ | refine x_block_same ?_ | refine x_block_other (by first | rfl | decide) ?_ | refine q_nil ?_ | refine k_nil ?_) | ((with_reducible apply kP (.makeFunc _ _ _)); refine sMF ?_) | ((with_reducible apply kG); first | refine gY1 ?_ | refine gN1 ?_ | refine gU1 ?_ | (refine gD1 (fun h => ?_) (fun h => ?_) <;> (try (exfalso; omega))) | refine gB1 (fun h => ?_) (fun h => ?_)) | ((with_reducible apply kN); first | refine stP ?_ | refine stI ?_ | refine st1 ?_ | refine stW ?_) | ((with_reducible apply kP (.alloc _)); refine sA (fun b => ?_)) | ((with_reducible apply kP (.box _ _)); first | refine sBA (fun b => ?_) | refine sB (fun b => ?_)) | ((with_reducible apply kP (.buildSlice _ 1 _)); first | refine sl1A (fun b => ?_) | refine sl1 (fun b => ?_)) | ((with_reducible apply kP (.buildSlice _ 2 _)); refine sl2 (fun b => ?_)) | ((with_reducible apply kP (.buildSlice _ 3 _)); refine sl3 (fun b => ?_)) | ((with_reducible apply kP (.buildSlice _ 4 _)); refine sl4 (fun b => ?_)) | ((with_reducible apply kP (.buildSlice _ 0 _)); refine s_bs0 (scTOf rfl) (zsTOf rfl) (by decide) (fun b => ?_)) | ((with_reducible apply kP (.makeSlice _ _ _)); refine sMk (fun b => ?_)) | ((with_reducible apply kP (.call ⟨.builtin .append, _, _⟩)); refine sAp (fun oa2 c2 blk2 hrow2 => ?_)) | ((with_reducible apply kP _); refine sP ?_) | ((with_reducible apply kP _); refine sX ?_) | ((with_reducible apply kQG); first | refine qY1 ?_ | refine qN1 ?_ | refine qU1 ?_ | (refine qD1 (fun h => ?_) (fun h => ?_) <;> (try (exfalso; omega))) | refine qB1 (fun h => ?_) (fun h => ?_)) | ((with_reducible apply kQP); refine qP ?_) | ((with_reducible apply kQP); refine qX ?_) | ((with_reducible apply kC); first | refine cT ?_ | refine cF ?_ | (refine cI (fun h => ?_) (fun h => ?_) <;> (try (exfalso; omega))) | refine cB (fun h => ?_) (fun h => ?_)) | ((with_reducible apply kR); refine cQ ?_))
    all_goals try (exfalso; omega)
    refine e_retW0 (hs' := h2) rfl ⟨rfl, rfl, bm3, ?_, rfl⟩ (.refl _)
    unfold lnT
    rw [List.append_assoc, List.append_assoc] at hb3
    rw [List.append_assoc wd]
    exact hb3
end Go.Proofs.YtmblgbcipniecaaGreatDoor
