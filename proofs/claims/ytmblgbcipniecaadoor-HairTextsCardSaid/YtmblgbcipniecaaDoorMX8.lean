/- Parse of both. -/
import Derived.WideLaws
import Derived.Test.YtmblgbcipniecaaDoorMX7
namespace Go.Proofs.YtmblgbcipniecaaDoor
open Go.RowKit
section
variable {n : NN} {B : Nat} {w0 : Wd} {fr : FR} {hs : HS} {ty : TypeId}
theorem sat_tk {K : Act → World → Prop} {blk rest : HS} (hT : Take blk hs rest) (h : Sat n B w0 K fr (blk ++ rest)) : Sat n B w0 K fr hs := Sat.perm hT h
theorem o_errT {t' : TypeId} {x : Operand} {u : TypeId} {p : Value} {e : TypeId} (he : Tryd.prog.underlying e = some (.interface (Tryd.prog.methodsAt e))) (hx : opv fr x = some (.iface u p)) : OpF Tryd.prog n B w0 (.binOp .neq e x (.const .nilIface) t') ty fr hs (.bool true) := fun a w ha _ => by
  have h1 : a.eval (.const .nilIface) = .nilIface := rfl
  have h2 := run_neq_held_nil (P := Tryd.prog) (w := w) e u p he
  have h3 : (eqGuard .neq e x (.const .nilIface) (.iface u p) .nilIface).run Tryd.prog w = .ok () w := by unfold eqGuard; rfl
  simp [ex, execOp, ha.opv hx, h1, h2, h3]
theorem o_errF {t' : TypeId} {x : Operand} {e : TypeId} (he : Tryd.prog.underlying e = some (.interface (Tryd.prog.methodsAt e))) (hx : opv fr x = some .nilIface) : OpF Tryd.prog n B w0 (.binOp .neq e x (.const .nilIface) t') ty fr hs (.bool false) := fun a w ha _ => by
  have h1 : a.eval (.const .nilIface) = .nilIface := rfl
  have h2 := run_neq_nil_nil (P := Tryd.prog) (w := w) e he
  have h3 : (eqGuard .neq e x (.const .nilIface) .nilIface .nilIface).run Tryd.prog w = .ok () w := by unfold eqGuard; cases x <;> rfl
  simp [ex, execOp, ha.opv hx, h1, h2, h3]
theorem o_sEqlT {t t' : TypeId} {x y : Operand} {a b : List UInt8} (h : a = b) (hx : opv fr x = some (sv a)) (hy : opv fr y = some (sv b)) : OpF Tryd.prog n B w0 (.binOp .eql t x y t') ty fr hs (.bool true) := by
  have := o_sEql (P := Tryd.prog) (n := n) (B := B) (w0 := w0) (fr := fr) (hs := hs) (ty := ty) (t := t) (t' := t') hx hy
  rwa [decide_eq_true h] at this
theorem o_sEqlF {t t' : TypeId} {x y : Operand} {a b : List UInt8} (h : a ≠ b) (hx : opv fr x = some (sv a)) (hy : opv fr y = some (sv b)) : OpF Tryd.prog n B w0 (.binOp .eql t x y t') ty fr hs (.bool false) := by
  have := o_sEql (P := Tryd.prog) (n := n) (B := B) (w0 := w0) (fr := fr) (hs := hs) (ty := ty) (t := t) (t' := t') hx hy
  rwa [decide_eq_false h] at this
theorem o_sNeqT {t t' : TypeId} {x y : Operand} {a b : List UInt8} (h : a ≠ b) (hx : opv fr x = some (sv a)) (hy : opv fr y = some (sv b)) : OpF Tryd.prog n B w0 (.binOp .neq t x y t') ty fr hs (.bool true) := by
  have := o_sNeq (P := Tryd.prog) (n := n) (B := B) (w0 := w0) (fr := fr) (hs := hs) (ty := ty) (t := t) (t' := t') hx hy
  rwa [decide_eq_true h] at this
theorem o_sNeqF {t t' : TypeId} {x y : Operand} {a b : List UInt8} (h : a = b) (hx : opv fr x = some (sv a)) (hy : opv fr y = some (sv b)) : OpF Tryd.prog n B w0 (.binOp .neq t x y t') ty fr hs (.bool false) := by
  have := o_sNeq (P := Tryd.prog) (n := n) (B := B) (w0 := w0) (fr := fr) (hs := hs) (ty := ty) (t := t) (t' := t') hx hy
  rwa [decide_eq_false (fun h' => h' h)] at this
theorem Sv.row {oa : Option Addr} {c : Nat} {l : List Value} {blk : HS} (h : RowOk oa c 1 l blk) : Sv B w0 blk oa l := fun i hi => by
  rcases h with ⟨_, _, h2, _⟩ | ⟨b, z, rfl, rfl, _, _⟩
  · subst h2; cases hi
  · refine ⟨rfl, fun w hw => ?_⟩
    rw [ea_own, Nat.zero_add, hw.cell (.head _), List.getElem?_append_left hi]
theorem Sv.cellS {hs' : HS} {oa : Option Addr} {ls : List (List UInt8)} (h : Sv B w0 hs oa (svs ls)) (hsub : hs.Sublist hs') {i : Nat} (hi : i < ls.length) : CellAt B w0 hs' (ea oa i) (sv (ls.getD i [])) := fun w hw => by
  rw [(h i (by rw [svs_length]; exact hi)).2 w (hw.sub hsub), svs_get hi]
theorem Sv.anyS {oa : Option Addr} {ls : List (List UInt8)} (h : Sv B w0 hs oa (svs ls)) {i : Nat} (hi : i < ls.length) : oa.isSome = true := (h i (by rw [svs_length]; exact hi)).1
end
theorem wds_le (c : UInt8) : ∀ (l w : List UInt8), w ∈ wds c l → w.length ≤ l.length
  | [], w, h => by
    rw [wds, List.mem_singleton] at h
    rw [h]; exact Nat.le_refl _
  | x :: l, w, h => by
    have ih := wds_le c l
    unfold wds at h
    split at h
    · rcases List.mem_cons.1 h with rfl | h
      · exact Nat.zero_le _
      · have := ih w h; simp only [List.length_cons]; omega
    · split at h
      · rename_i v r hv
        rcases List.mem_cons.1 h with rfl | h
        · have := ih v (by rw [hv]; exact .head _); simp only [List.length_cons]; omega
        · have := ih w (by rw [hv]; exact .tail _ h); simp only [List.length_cons]; omega
      · rw [List.mem_singleton] at h
        rw [h]; simp
theorem drop_at {α : Type} {l : List α} {i : Nat} {d : α} (h : i < l.length) : l.drop i = l.getD i d :: l.drop (i + 1) := by
  rw [List.drop_eq_getElem_cons h, List.getD_eq_getElem?_getD, List.getElem?_eq_getElem h]
  rfl
structure PsI where
  i : Nat
  b : Bool
  R : List Int
  oR : Option Addr
  cR : Nat
  qR : HS
  G : List Int
  oG : Option Addr
  cG : Nat
  qG : HS
attribute [local irreducible] OpF Ld CellAt Sl Sv
theorem pbR_4 {t : List UInt8} (h : 4000 < t.length) : pbR nrF t = ([], [], 4) := by unfold pbR; rw [if_pos h]
theorem pbP_4 {t : List UInt8} (h : 4000 < t.length) : pbP t = ([], [], 4) := by unfold pbP; rw [if_pos h]
set_option maxRecDepth 100000 in
set_option maxHeartbeats 8000000 in
theorem r_Parse (t : List UInt8) (ht : t.length ≤ 100000) (B : Nat) (w0 : Wd) (hs : HS) :
    Fn Tryd.prog 9 #[sv t] B w0 hs (fun u h => ∃ blk, NewBE (pbR nrF t).1 (pbR nrF t).2.1 (pbR nrF t).2.2 u blk ∧ h = blk ++ hs) := by
  by_cases h0 : 4000 < t.length
  · rw [pbR_4 h0]
    refine fn_enter Tryd.func9 rfl Tryd.ntmps9 (by simp) ?_
    repeat' (first | ((with_reducible apply kP (.alloc 24)); refine sA (fun b2 => ?_)) | ((with_reducible apply kP (.call ⟨.builtin .len, _, _⟩)); refine sP ?_ (o_sLen uStr rfl)) | ((with_reducible apply kDP (.call ⟨.builtin .len, _, _⟩)); refine dP ?_ (hX := rfl) (hv := o_sLen uStr rfl)) | ((with_reducible apply kQO (.call ⟨.builtin .len, _, _⟩)); refine qP ?_ (o_sLen uStr rfl)) | ((with_reducible apply kN); refine stW ?_ (hf := flat_cons rfl (flat1 rfl))) | ((with_reducible apply kRg 12); refine cD [0, 0, 1, 1, 1, 1, 3, 2, 4, 1, 4] ?_) | ((with_reducible apply kRg 13); refine cD [0, 0, 1, 1, 1, 1, 3, 2, 4, 1, 4] ?_) | (with_reducible first | refine c_seq ?_ | refine c_reg ?_ | refine c_region ?_ | refine c_block ?_ | refine c_skip ?_ | refine c_exit ?_ | refine c_ret ?_ | refine s_nil ?_ | refine x_then ?_ | refine x_then_exit ?_ | refine x_then_ret ?_ | refine x_block ?_ | refine x_block_ret ?_ | refine x_block_same ?_ | refine x_block_other (by first | rfl | decide) ?_ | refine q_nil ?_ | refine k_nil ?_) | ((with_reducible apply kG); first | refine gY1 ?_ | refine gN1 ?_ | refine gU1 ?_ | (refine gD1 (fun h => ?_) (fun h => ?_) <;> (try (exfalso; omega))) | refine gB1 (fun h => ?_) (fun h => ?_)) | ((with_reducible apply kN); first | refine stP ?_ | refine stI ?_ | refine st1 ?_ | refine stW ?_) | ((with_reducible apply kP (.alloc _)); refine sA (fun b => ?_)) | ((with_reducible apply kP _); refine sP ?_) | ((with_reducible apply kP _); refine sX ?_) | ((with_reducible apply kC); first | refine cT ?_ | refine cF ?_ | (refine cI (fun h => ?_) (fun h => ?_) <;> (try (exfalso; omega))) | refine cB (fun h => ?_) (fun h => ?_)) | ((with_reducible apply kDN); first | refine dtI ?_ | refine dt1 ?_ | refine dtW ?_) | ((with_reducible apply kDP (.buildSlice _ 1 _)); first | refine dl1A (fun b => ?_) | refine dl1 (fun b => ?_)) | ((with_reducible apply kDP (.call ⟨.builtin .append, _, _⟩)); first | refine dAp3 (fun oa2 c2 blk2 hrow2 => ?_) (hS := SCt) | refine dAp4 (fun oa2 c2 blk2 hrow2 => ?_)) | ((with_reducible apply kDP _); refine dP ?_) | ((with_reducible apply kDP _); refine dX ?_))
    all_goals first
      | (exfalso; omega)
      | exact e_ret2 (hs' := hs) rfl ⟨_, rfl, ld_whole (shTOf rfl) MDt rfl⟩ rfl ⟨[], NewBE.none 4, rfl⟩ (.cons _ (.refl _))
      | trace_state
  · have kw := fun hs' => x_Words t 32 ht B w0 hs'
    have hWl := wds_len 32 t
    have hwne : 1 ≤ (wds 32 t).length := by have := wds_ne 32 t; cases h : wds 32 t with | nil => exact absurd h this | cons _ _ => simp
    have htl : (wds 32 t).drop 1 = (wds 32 t).tail := by simp
    have hwl : ∀ w ∈ wds 32 t, w.length ≤ 100000 := fun w hw => Nat.le_trans (wds_le 32 t w hw) ht
    have hpb : pbR nrF t = if vErr (psR nrF (wds 32 t).tail false [] []).1 (psR nrF (wds 32 t).tail false [] []).2 = 0 ∧ fmtT (trR (psR nrF (wds 32 t).tail false [] []).1 (psR nrF (wds 32 t).tail false [] []).2) (trG (psR nrF (wds 32 t).tail false [] []).1 (psR nrF (wds 32 t).tail false [] []).2) = t
      then (trR (psR nrF (wds 32 t).tail false [] []).1 (psR nrF (wds 32 t).tail false [] []).2, trG (psR nrF (wds 32 t).tail false [] []).1 (psR nrF (wds 32 t).tail false [] []).2, 0) else ([], [], 3) := by unfold pbR; rw [if_neg h0]
    rw [hpb]
    clear hpb
    rw [← htl]
    generalize wds 32 t = W at *
    refine fn_enter Tryd.func9 rfl Tryd.ntmps9 (by simp) ?_
    repeat' (first | ((with_reducible apply kP (.alloc 24)); refine sA (fun b2 => ?_)) | ((with_reducible apply kP (.call ⟨.builtin .len, _, _⟩)); refine sP ?_ (o_sLen uStr rfl)) | ((with_reducible apply kDP (.call ⟨.builtin .len, _, _⟩)); refine dP ?_ (hX := rfl) (hv := o_sLen uStr rfl)) | ((with_reducible apply kQO (.call ⟨.builtin .len, _, _⟩)); refine qP ?_ (o_sLen uStr rfl)) | ((with_reducible apply kN); refine stW ?_ (hf := flat_cons rfl (flat1 rfl))) | ((with_reducible apply kF 21); refine sR 21 (kw _) ?_; rintro v7 h7 ⟨qW, ⟨oW, cW, hrW, rfl⟩, rfl⟩) | ((with_reducible apply kRg 12); refine cD [0, 0, 1, 1, 1, 1, 3, 2, 4, 1, 4] ?_) | ((with_reducible apply kRg 13); refine cD [0, 0, 1, 1, 1, 1, 3, 2, 4, 1, 4] ?_) | (with_reducible first | refine c_seq ?_ | refine c_reg ?_ | refine c_region ?_ | refine c_block ?_ | refine c_skip ?_ | refine c_exit ?_ | refine c_ret ?_ | refine s_nil ?_ | refine x_then ?_ | refine x_then_exit ?_ | refine x_then_ret ?_ | refine x_block ?_ | refine x_block_ret ?_ | refine x_block_same ?_ | refine x_block_other (by first | rfl | decide) ?_ | refine q_nil ?_ | refine k_nil ?_) | ((with_reducible apply kG); first | refine gY1 ?_ | refine gN1 ?_ | refine gU1 ?_ | (refine gD1 (fun h => ?_) (fun h => ?_) <;> (try (exfalso; omega))) | refine gB1 (fun h => ?_) (fun h => ?_)) | ((with_reducible apply kN); first | refine stP ?_ | refine stI ?_ | refine st1 ?_ | refine stW ?_) | ((with_reducible apply kP (.alloc _)); refine sA (fun b => ?_)) | ((with_reducible apply kP _); refine sP ?_) | ((with_reducible apply kP _); refine sX ?_) | ((with_reducible apply kC); first | refine cT ?_ | refine cF ?_ | (refine cI (fun h => ?_) (fun h => ?_) <;> (try (exfalso; omega))) | refine cB (fun h => ?_) (fun h => ?_)) | ((with_reducible apply kDN); first | refine dtI ?_ | refine dt1 ?_ | refine dtW ?_) | ((with_reducible apply kDP (.buildSlice _ 1 _)); first | refine dl1A (fun b => ?_) | refine dl1 (fun b => ?_)) | ((with_reducible apply kDP (.call ⟨.builtin .append, _, _⟩)); first | refine dAp3 (fun oa2 c2 blk2 hrow2 => ?_) (hS := SCt) | refine dAp4 (fun oa2 c2 blk2 hrow2 => ?_)) | ((with_reducible apply kDP _); refine dP ?_) | ((with_reducible apply kDP _); refine dX ?_))
    all_goals try (exfalso; omega)
    rename_i b3
    have hLW := Sv.row (B := B) (w0 := w0) hrW
    refine c_loop (fun s : PsI => [(0, sv t), (2, .pointer (some ⟨b3, 0, none⟩)), (3, iv 0), (4, .pointer (some ⟨b2, 0, none⟩)), (5, .slice oW W.length cW), (6, .bool s.b), (7, iv s.i)])
      (fun s => s.qG ++ (s.qR ++ (qW ++ ((b2, [.slice s.oR s.R.length s.cR, .slice s.oG s.G.length s.cG]) :: (b3, [.slice none 0 0, .slice none 0 0]) :: hs))))
      (fun s => 1 ≤ s.i ∧ s.i ≤ W.length ∧ s.R.length ≤ s.i ∧ s.G.length ≤ s.i ∧ RowOk s.oR s.cR 1 (ivs s.R) s.qR ∧ RowOk s.oG s.cG 1 (ivs s.G) s.qG ∧ psR nrF (W.drop s.i) s.b s.R s.G = psR nrF (W.drop 1) false [] []) (fun s => W.length - s.i)
      ⟨1, false, [], none, 0, [], [], none, 0, []⟩ ⟨Nat.le_refl _, hwne, Nat.zero_le _, Nat.zero_le _, RowOk.nil, RowOk.nil, rfl⟩ (by repeat' first | trivial | rfl | apply And.intro) ?_ ?_
    · exact .refl _
    rintro ⟨i, b, R, oR, cR, qR, G, oG, cG, qG⟩ ⟨h1i, hi, hRi, hGi, hrR, hrG, hps⟩
    dsimp only at h1i hi hRi hGi hrR hrG hps ⊢
    have hkR : (ivs R).length = R.length * 1 := by rw [ivs_length, Nat.mul_one]
    have hkG : (ivs G).length = G.length * 1 := by rw [ivs_length, Nat.mul_one]
    by_cases hi' : i < W.length
    · have hd : W.drop i = W.getD i [] :: W.drop (i + 1) := drop_at hi'
      have hmem : W.getD i [] ∈ W := by
        rw [List.getD_eq_getElem?_getD, List.getElem?_eq_getElem hi']
        exact List.getElem_mem hi'
      have kn := fun hs' => x_Number (W.getD i []) (hwl _ hmem) B w0 hs'
      have iW := hLW.anyS hi'
      rw [hd] at hps
      have hcW := fun hs' (h : qW.Sublist hs') => hLW.cellS h hi'
      generalize W.getD i [] = w at *
      have eR : ∀ x : Int, (R ++ [x]).length = R.length + 1 := fun x => by rw [List.length_append]; rfl
      have eG : ∀ x : Int, (G ++ [x]).length = G.length + 1 := fun x => by rw [List.length_append]; rfl
      cases b
      · by_cases hww : w = sWrong
        · rw [psR, if_pos ⟨hww, rfl⟩] at hps
          repeat' (first | ((with_reducible apply kP (.load 9 _)); refine sP ?_ (o_load rfl (ld_one (shTOf rfl) (hcW _ SBt)))) | ((with_reducible apply kDP (.load 9 _)); refine dP ?_ (hX := rfl) (hv := o_load rfl (ld_one (shTOf rfl) (hcW _ SBt)))) | ((with_reducible apply kQO (.load 9 _)); refine qP ?_ (o_load rfl (ld_one (shTOf rfl) (hcW _ SBt)))) | ((with_reducible apply kP (.indexAddr 39 _ _)); refine sP ?_ (o_indexS (scTOf rfl) rfl rfl rfl (aa0 _) iW hi')) | ((with_reducible apply kDP (.indexAddr 39 _ _)); refine dP ?_ (hX := rfl) (hv := o_indexS (scTOf rfl) rfl rfl rfl (aa0 _) iW hi')) | ((with_reducible apply kQO (.indexAddr 39 _ _)); refine qP ?_ (o_indexS (scTOf rfl) rfl rfl rfl (aa0 _) iW hi')) | ((with_reducible apply kP (.binOp .eql 9 _ _ _)); refine sP ?_ (o_sEqlT (b := sWrong) hww rfl rfl)) | ((with_reducible apply kDP (.binOp .eql 9 _ _ _)); refine dP ?_ (hX := rfl) (hv := o_sEqlT (b := sWrong) hww rfl rfl)) | ((with_reducible apply kQO (.binOp .eql 9 _ _ _)); refine qP ?_ (o_sEqlT (b := sWrong) hww rfl rfl)) | ((with_reducible apply kRg 12); refine cD [0, 0, 1, 1, 1, 1, 3, 2, 4, 1, 4] ?_) | ((with_reducible apply kRg 13); refine cD [0, 0, 1, 1, 1, 1, 3, 2, 4, 1, 4] ?_) | (with_reducible first | refine c_seq ?_ | refine c_reg ?_ | refine c_region ?_ | refine c_block ?_ | refine c_skip ?_ | refine c_exit ?_ | refine c_ret ?_ | refine s_nil ?_ | refine x_then ?_ | refine x_then_exit ?_ | refine x_then_ret ?_ | refine x_block ?_ | refine x_block_ret ?_ | refine x_block_same ?_ | refine x_block_other (by first | rfl | decide) ?_ | refine q_nil ?_ | refine k_nil ?_) | ((with_reducible apply kG); first | refine gY1 ?_ | refine gN1 ?_ | refine gU1 ?_ | (refine gD1 (fun h => ?_) (fun h => ?_) <;> (try (exfalso; omega))) | refine gB1 (fun h => ?_) (fun h => ?_)) | ((with_reducible apply kN); first | refine stP ?_ | refine stI ?_ | refine st1 ?_ | refine stW ?_) | ((with_reducible apply kP (.alloc _)); refine sA (fun b => ?_)) | ((with_reducible apply kP _); refine sP ?_) | ((with_reducible apply kP _); refine sX ?_) | ((with_reducible apply kC); first | refine cT ?_ | refine cF ?_ | (refine cI (fun h => ?_) (fun h => ?_) <;> (try (exfalso; omega))) | refine cB (fun h => ?_) (fun h => ?_)) | ((with_reducible apply kDN); first | refine dtI ?_ | refine dt1 ?_ | refine dtW ?_) | ((with_reducible apply kDP (.buildSlice _ 1 _)); first | refine dl1A (fun b => ?_) | refine dl1 (fun b => ?_)) | ((with_reducible apply kDP (.call ⟨.builtin .append, _, _⟩)); first | refine dAp3 (fun oa2 c2 blk2 hrow2 => ?_) (hS := SCt) | refine dAp4 (fun oa2 c2 blk2 hrow2 => ?_)) | ((with_reducible apply kDP _); refine dP ?_) | ((with_reducible apply kDP _); refine dX ?_))
          all_goals first
            | (exfalso; omega)
            | exact r_end (⟨i + 1, true, R, oR, cR, qR, G, oG, cG, qG⟩ : PsI) ⟨by dsimp only; omega, hi', by dsimp only; omega, by dsimp only; omega, hrR, hrG, hps⟩ (by dsimp only; omega) (by repeat' first | trivial | rfl | apply And.intro) (.refl _)
            | trace_state
        · rw [psR, if_neg (fun h => hww h.1)] at hps
          simp only [Bool.false_eq_true, if_false] at hps
          repeat' (first | ((with_reducible apply kP (.load 9 _)); refine sP ?_ (o_load rfl (ld_one (shTOf rfl) (hcW _ SBt)))) | ((with_reducible apply kDP (.load 9 _)); refine dP ?_ (hX := rfl) (hv := o_load rfl (ld_one (shTOf rfl) (hcW _ SBt)))) | ((with_reducible apply kQO (.load 9 _)); refine qP ?_ (o_load rfl (ld_one (shTOf rfl) (hcW _ SBt)))) | ((with_reducible apply kP (.indexAddr 39 _ _)); refine sP ?_ (o_indexS (scTOf rfl) rfl rfl rfl (aa0 _) iW hi')) | ((with_reducible apply kDP (.indexAddr 39 _ _)); refine dP ?_ (hX := rfl) (hv := o_indexS (scTOf rfl) rfl rfl rfl (aa0 _) iW hi')) | ((with_reducible apply kQO (.indexAddr 39 _ _)); refine qP ?_ (o_indexS (scTOf rfl) rfl rfl rfl (aa0 _) iW hi')) | ((with_reducible apply kP (.binOp .eql 9 _ _ _)); refine sP ?_ (o_sEqlF (b := sWrong) hww rfl rfl)) | ((with_reducible apply kDP (.binOp .eql 9 _ _ _)); refine dP ?_ (hX := rfl) (hv := o_sEqlF (b := sWrong) hww rfl rfl)) | ((with_reducible apply kQO (.binOp .eql 9 _ _ _)); refine qP ?_ (o_sEqlF (b := sWrong) hww rfl rfl)) | ((with_reducible apply kDF 22); refine dC 22 (fun F => kn _) ?_) | ((with_reducible apply kDP (.call ⟨.builtin .append, _, _⟩)); refine dAp4 (fun oa5 c5 k5 hr5 => ?_) (hr := hrR) (hk := hkR) (hf := flat1 rfl)) | ((with_reducible apply kDN); refine dtC ?_) | ((with_reducible apply kRg 12); refine cD [0, 0, 1, 1, 1, 1, 3, 2, 4, 1, 4] ?_) | ((with_reducible apply kRg 13); refine cD [0, 0, 1, 1, 1, 1, 3, 2, 4, 1, 4] ?_) | (with_reducible first | refine c_seq ?_ | refine c_reg ?_ | refine c_region ?_ | refine c_block ?_ | refine c_skip ?_ | refine c_exit ?_ | refine c_ret ?_ | refine s_nil ?_ | refine x_then ?_ | refine x_then_exit ?_ | refine x_then_ret ?_ | refine x_block ?_ | refine x_block_ret ?_ | refine x_block_same ?_ | refine x_block_other (by first | rfl | decide) ?_ | refine q_nil ?_ | refine k_nil ?_) | ((with_reducible apply kG); first | refine gY1 ?_ | refine gN1 ?_ | refine gU1 ?_ | (refine gD1 (fun h => ?_) (fun h => ?_) <;> (try (exfalso; omega))) | refine gB1 (fun h => ?_) (fun h => ?_)) | ((with_reducible apply kN); first | refine stP ?_ | refine stI ?_ | refine st1 ?_ | refine stW ?_) | ((with_reducible apply kP (.alloc _)); refine sA (fun b => ?_)) | ((with_reducible apply kP _); refine sP ?_) | ((with_reducible apply kP _); refine sX ?_) | ((with_reducible apply kC); first | refine cT ?_ | refine cF ?_ | (refine cI (fun h => ?_) (fun h => ?_) <;> (try (exfalso; omega))) | refine cB (fun h => ?_) (fun h => ?_)) | ((with_reducible apply kDN); first | refine dtI ?_ | refine dt1 ?_ | refine dtW ?_) | ((with_reducible apply kDP (.buildSlice _ 1 _)); first | refine dl1A (fun b => ?_) | refine dl1 (fun b => ?_)) | ((with_reducible apply kDP (.call ⟨.builtin .append, _, _⟩)); first | refine dAp3 (fun oa2 c2 blk2 hrow2 => ?_) (hS := SCt) | refine dAp4 (fun oa2 c2 blk2 hrow2 => ?_)) | ((with_reducible apply kDP _); refine dP ?_) | ((with_reducible apply kDP _); refine dX ?_))
          all_goals try (exfalso; omega)
          have hr5' : RowOk oa5 c5 1 (ivs (R ++ [nrF w])) k5 := by rw [← ivs_snoc]; exact hr5
          refine sat_tk (blk := qG) (by with_reducible ((repeat (first | exact Take.head | exact Take.one | apply Take.tail | apply Take.app)); done)) ?_
          refine r_end (⟨i + 1, false, R ++ [nrF w], oa5, c5, k5, G, oG, cG, qG⟩ : PsI) ⟨by dsimp only; omega, hi', by dsimp only; rw [eR]; omega, by dsimp only; omega, hr5', hrG, hps⟩ (by dsimp only; omega) (by repeat' first | trivial | rfl | apply And.intro) ?_
          dsimp only
          rw [eR]
          exact .append (.refl _) (.append (.refl _) (.cons _ (.refl _)))
      · rw [psR, if_neg (fun h => Bool.noConfusion h.2)] at hps
        simp only [if_true] at hps
        by_cases hww : w = sWrong
        · repeat' (first | ((with_reducible apply kP (.load 9 _)); refine sP ?_ (o_load rfl (ld_one (shTOf rfl) (hcW _ SBt)))) | ((with_reducible apply kDP (.load 9 _)); refine dP ?_ (hX := rfl) (hv := o_load rfl (ld_one (shTOf rfl) (hcW _ SBt)))) | ((with_reducible apply kQO (.load 9 _)); refine qP ?_ (o_load rfl (ld_one (shTOf rfl) (hcW _ SBt)))) | ((with_reducible apply kP (.indexAddr 39 _ _)); refine sP ?_ (o_indexS (scTOf rfl) rfl rfl rfl (aa0 _) iW hi')) | ((with_reducible apply kDP (.indexAddr 39 _ _)); refine dP ?_ (hX := rfl) (hv := o_indexS (scTOf rfl) rfl rfl rfl (aa0 _) iW hi')) | ((with_reducible apply kQO (.indexAddr 39 _ _)); refine qP ?_ (o_indexS (scTOf rfl) rfl rfl rfl (aa0 _) iW hi')) | ((with_reducible apply kP (.binOp .eql 9 _ _ _)); refine sP ?_ (o_sEqlT (b := sWrong) hww rfl rfl)) | ((with_reducible apply kDP (.binOp .eql 9 _ _ _)); refine dP ?_ (hX := rfl) (hv := o_sEqlT (b := sWrong) hww rfl rfl)) | ((with_reducible apply kQO (.binOp .eql 9 _ _ _)); refine qP ?_ (o_sEqlT (b := sWrong) hww rfl rfl)) | ((with_reducible apply kDF 22); refine dC 22 (fun F => kn _) ?_) | ((with_reducible apply kDP (.call ⟨.builtin .append, _, _⟩)); refine dAp4 (fun oa5 c5 k5 hr5 => ?_) (hr := hrG) (hk := hkG) (hf := flat1 rfl)) | ((with_reducible apply kDN); refine dtC ?_) | ((with_reducible apply kRg 12); refine cD [0, 0, 1, 1, 1, 1, 3, 2, 4, 1, 4] ?_) | ((with_reducible apply kRg 13); refine cD [0, 0, 1, 1, 1, 1, 3, 2, 4, 1, 4] ?_) | (with_reducible first | refine c_seq ?_ | refine c_reg ?_ | refine c_region ?_ | refine c_block ?_ | refine c_skip ?_ | refine c_exit ?_ | refine c_ret ?_ | refine s_nil ?_ | refine x_then ?_ | refine x_then_exit ?_ | refine x_then_ret ?_ | refine x_block ?_ | refine x_block_ret ?_ | refine x_block_same ?_ | refine x_block_other (by first | rfl | decide) ?_ | refine q_nil ?_ | refine k_nil ?_) | ((with_reducible apply kG); first | refine gY1 ?_ | refine gN1 ?_ | refine gU1 ?_ | (refine gD1 (fun h => ?_) (fun h => ?_) <;> (try (exfalso; omega))) | refine gB1 (fun h => ?_) (fun h => ?_)) | ((with_reducible apply kN); first | refine stP ?_ | refine stI ?_ | refine st1 ?_ | refine stW ?_) | ((with_reducible apply kP (.alloc _)); refine sA (fun b => ?_)) | ((with_reducible apply kP _); refine sP ?_) | ((with_reducible apply kP _); refine sX ?_) | ((with_reducible apply kC); first | refine cT ?_ | refine cF ?_ | (refine cI (fun h => ?_) (fun h => ?_) <;> (try (exfalso; omega))) | refine cB (fun h => ?_) (fun h => ?_)) | ((with_reducible apply kDN); first | refine dtI ?_ | refine dt1 ?_ | refine dtW ?_) | ((with_reducible apply kDP (.buildSlice _ 1 _)); first | refine dl1A (fun b => ?_) | refine dl1 (fun b => ?_)) | ((with_reducible apply kDP (.call ⟨.builtin .append, _, _⟩)); first | refine dAp3 (fun oa2 c2 blk2 hrow2 => ?_) (hS := SCt) | refine dAp4 (fun oa2 c2 blk2 hrow2 => ?_)) | ((with_reducible apply kDP _); refine dP ?_) | ((with_reducible apply kDP _); refine dX ?_))
          all_goals try (exfalso; omega)
          have hr5' : RowOk oa5 c5 1 (ivs (G ++ [nrF w])) k5 := by rw [← ivs_snoc]; exact hr5
          refine r_end (⟨i + 1, true, R, oR, cR, qR, G ++ [nrF w], oa5, c5, k5⟩ : PsI) ⟨by dsimp only; omega, hi', by dsimp only; omega, by dsimp only; rw [eG]; omega, hrR, hr5', hps⟩ (by dsimp only; omega) (by repeat' first | trivial | rfl | apply And.intro) ?_
          dsimp only
          rw [eG]
          exact .append (.refl _) (.cons _ (.refl _))
        · repeat' (first | ((with_reducible apply kP (.load 9 _)); refine sP ?_ (o_load rfl (ld_one (shTOf rfl) (hcW _ SBt)))) | ((with_reducible apply kDP (.load 9 _)); refine dP ?_ (hX := rfl) (hv := o_load rfl (ld_one (shTOf rfl) (hcW _ SBt)))) | ((with_reducible apply kQO (.load 9 _)); refine qP ?_ (o_load rfl (ld_one (shTOf rfl) (hcW _ SBt)))) | ((with_reducible apply kP (.indexAddr 39 _ _)); refine sP ?_ (o_indexS (scTOf rfl) rfl rfl rfl (aa0 _) iW hi')) | ((with_reducible apply kDP (.indexAddr 39 _ _)); refine dP ?_ (hX := rfl) (hv := o_indexS (scTOf rfl) rfl rfl rfl (aa0 _) iW hi')) | ((with_reducible apply kQO (.indexAddr 39 _ _)); refine qP ?_ (o_indexS (scTOf rfl) rfl rfl rfl (aa0 _) iW hi')) | ((with_reducible apply kP (.binOp .eql 9 _ _ _)); refine sP ?_ (o_sEqlF (b := sWrong) hww rfl rfl)) | ((with_reducible apply kDP (.binOp .eql 9 _ _ _)); refine dP ?_ (hX := rfl) (hv := o_sEqlF (b := sWrong) hww rfl rfl)) | ((with_reducible apply kQO (.binOp .eql 9 _ _ _)); refine qP ?_ (o_sEqlF (b := sWrong) hww rfl rfl)) | ((with_reducible apply kDF 22); refine dC 22 (fun F => kn _) ?_) | ((with_reducible apply kDP (.call ⟨.builtin .append, _, _⟩)); refine dAp4 (fun oa5 c5 k5 hr5 => ?_) (hr := hrG) (hk := hkG) (hf := flat1 rfl)) | ((with_reducible apply kDN); refine dtC ?_) | ((with_reducible apply kRg 12); refine cD [0, 0, 1, 1, 1, 1, 3, 2, 4, 1, 4] ?_) | ((with_reducible apply kRg 13); refine cD [0, 0, 1, 1, 1, 1, 3, 2, 4, 1, 4] ?_) | (with_reducible first | refine c_seq ?_ | refine c_reg ?_ | refine c_region ?_ | refine c_block ?_ | refine c_skip ?_ | refine c_exit ?_ | refine c_ret ?_ | refine s_nil ?_ | refine x_then ?_ | refine x_then_exit ?_ | refine x_then_ret ?_ | refine x_block ?_ | refine x_block_ret ?_ | refine x_block_same ?_ | refine x_block_other (by first | rfl | decide) ?_ | refine q_nil ?_ | refine k_nil ?_) | ((with_reducible apply kG); first | refine gY1 ?_ | refine gN1 ?_ | refine gU1 ?_ | (refine gD1 (fun h => ?_) (fun h => ?_) <;> (try (exfalso; omega))) | refine gB1 (fun h => ?_) (fun h => ?_)) | ((with_reducible apply kN); first | refine stP ?_ | refine stI ?_ | refine st1 ?_ | refine stW ?_) | ((with_reducible apply kP (.alloc _)); refine sA (fun b => ?_)) | ((with_reducible apply kP _); refine sP ?_) | ((with_reducible apply kP _); refine sX ?_) | ((with_reducible apply kC); first | refine cT ?_ | refine cF ?_ | (refine cI (fun h => ?_) (fun h => ?_) <;> (try (exfalso; omega))) | refine cB (fun h => ?_) (fun h => ?_)) | ((with_reducible apply kDN); first | refine dtI ?_ | refine dt1 ?_ | refine dtW ?_) | ((with_reducible apply kDP (.buildSlice _ 1 _)); first | refine dl1A (fun b => ?_) | refine dl1 (fun b => ?_)) | ((with_reducible apply kDP (.call ⟨.builtin .append, _, _⟩)); first | refine dAp3 (fun oa2 c2 blk2 hrow2 => ?_) (hS := SCt) | refine dAp4 (fun oa2 c2 blk2 hrow2 => ?_)) | ((with_reducible apply kDP _); refine dP ?_) | ((with_reducible apply kDP _); refine dX ?_))
          all_goals try (exfalso; omega)
          have hr5' : RowOk oa5 c5 1 (ivs (G ++ [nrF w])) k5 := by rw [← ivs_snoc]; exact hr5
          refine r_end (⟨i + 1, true, R, oR, cR, qR, G ++ [nrF w], oa5, c5, k5⟩ : PsI) ⟨by dsimp only; omega, hi', by dsimp only; omega, by dsimp only; rw [eG]; omega, hrR, hr5', hps⟩ (by dsimp only; omega) (by repeat' first | trivial | rfl | apply And.intro) ?_
          dsimp only
          rw [eG]
          exact .append (.refl _) (.cons _ (.refl _))
    · obtain rfl : i = W.length := by omega
      rw [List.drop_length] at hps
      rw [← hps, show psR nrF [] b R G = (R, G) from rfl]
      dsimp only
      have hLR := Sl.row (B := B) (w0 := w0) hrR
      have hLG := Sl.row (B := B) (w0 := w0) hrG
      have kt := fun hs' (h1 : qR.Sublist hs') (h2 : qG.Sublist hs') => r_Trim oR oG cR cG R G B w0 hs' (hLR.sub h1) (hLG.sub h2)
      have kf := fun hs' (h1 : qR.Sublist hs') (h2 : qG.Sublist hs') => r_Format oR oG cR cG R G B w0 hs' (hLR.sub h1) (hLG.sub h2)
      unfold fmV at kf
      by_cases hE : vErr R G = 0
      · rw [if_pos hE] at kf
        rw [hE] at kf kt
        by_cases hF : fmtT (trR R G) (trG R G) = t
        · rw [if_pos ⟨hE, hF⟩]
          repeat' (first | ((with_reducible apply kF 17); refine sR 17 (kt _ SBt SBt) ?_; rintro v7 h7 ⟨blk7, ⟨o7, o8, c7, c8, k7, k8, rfl, hr7, hr8, rfl⟩, rfl⟩; unfold bv; rw [List.append_assoc]) | ((with_reducible apply kF 7); refine sC 7 (kf _ SBt SBt) ?_) | ((with_reducible apply kP (.binOp .neq 9 _ _ _)); refine sP ?_ (o_sNeqF hF rfl rfl)) | ((with_reducible apply kDP (.binOp .neq 9 _ _ _)); refine dP ?_ (hX := rfl) (hv := o_sNeqF hF rfl rfl)) | ((with_reducible apply kQO (.binOp .neq 9 _ _ _)); refine qP ?_ (o_sNeqF hF rfl rfl)) | ((with_reducible apply kP (.alloc 24)); refine sA (fun b8 => ?_)) | ((with_reducible apply kN); refine stW ?_ (hf := flat_cons rfl (flat1 rfl))) | ((with_reducible apply kRg 12); refine cD [0, 0, 1, 1, 1, 1, 3, 2, 4, 1, 4] ?_) | ((with_reducible apply kRg 13); refine cD [0, 0, 1, 1, 1, 1, 3, 2, 4, 1, 4] ?_) | (with_reducible first | refine c_seq ?_ | refine c_reg ?_ | refine c_region ?_ | refine c_block ?_ | refine c_skip ?_ | refine c_exit ?_ | refine c_ret ?_ | refine s_nil ?_ | refine x_then ?_ | refine x_then_exit ?_ | refine x_then_ret ?_ | refine x_block ?_ | refine x_block_ret ?_ | refine x_block_same ?_ | refine x_block_other (by first | rfl | decide) ?_ | refine q_nil ?_ | refine k_nil ?_) | ((with_reducible apply kG); first | refine gY1 ?_ | refine gN1 ?_ | refine gU1 ?_ | (refine gD1 (fun h => ?_) (fun h => ?_) <;> (try (exfalso; omega))) | refine gB1 (fun h => ?_) (fun h => ?_)) | ((with_reducible apply kN); first | refine stP ?_ | refine stI ?_ | refine st1 ?_ | refine stW ?_) | ((with_reducible apply kP (.alloc _)); refine sA (fun b => ?_)) | ((with_reducible apply kP _); refine sP ?_) | ((with_reducible apply kP _); refine sX ?_) | ((with_reducible apply kC); first | refine cT ?_ | refine cF ?_ | (refine cI (fun h => ?_) (fun h => ?_) <;> (try (exfalso; omega))) | refine cB (fun h => ?_) (fun h => ?_)) | ((with_reducible apply kDN); first | refine dtI ?_ | refine dt1 ?_ | refine dtW ?_) | ((with_reducible apply kDP (.buildSlice _ 1 _)); first | refine dl1A (fun b => ?_) | refine dl1 (fun b => ?_)) | ((with_reducible apply kDP (.call ⟨.builtin .append, _, _⟩)); first | refine dAp3 (fun oa2 c2 blk2 hrow2 => ?_) (hS := SCt) | refine dAp4 (fun oa2 c2 blk2 hrow2 => ?_)) | ((with_reducible apply kDP _); refine dP ?_) | ((with_reducible apply kDP _); refine dX ?_))
          all_goals try (exfalso; omega)
          exact e_ret2 (hs' := k8 ++ (k7 ++ hs)) rfl ⟨_, rfl, ld_whole (shTOf rfl) (by with_reducible ((repeat (first | exact mm0 | refine mmT ?_ | refine mmA ?_)); done)) rfl⟩ rfl ⟨k8 ++ k7, ⟨o7, o8, c7, c8, k7, k8, rfl, hr7, hr8, rfl⟩, (List.append_assoc ..).symm⟩ (.cons _ (.append (.refl _) (.append (.refl _) (sbA (sbA (sbA (.cons _ (.cons _ (.refl _)))))))))
        · rw [if_neg (fun h => hF h.2)]
          repeat' (first | ((with_reducible apply kF 17); refine sR 17 (kt _ SBt SBt) ?_; rintro v7 h7 ⟨blk7, ⟨o7, o8, c7, c8, k7, k8, rfl, hr7, hr8, rfl⟩, rfl⟩; unfold bv; rw [List.append_assoc]) | ((with_reducible apply kF 7); refine sC 7 (kf _ SBt SBt) ?_) | ((with_reducible apply kP (.binOp .neq 9 _ _ _)); refine sP ?_ (o_sNeqT hF rfl rfl)) | ((with_reducible apply kDP (.binOp .neq 9 _ _ _)); refine dP ?_ (hX := rfl) (hv := o_sNeqT hF rfl rfl)) | ((with_reducible apply kQO (.binOp .neq 9 _ _ _)); refine qP ?_ (o_sNeqT hF rfl rfl)) | ((with_reducible apply kP (.alloc 24)); refine sA (fun b8 => ?_)) | ((with_reducible apply kN); refine stW ?_ (hf := flat_cons rfl (flat1 rfl))) | ((with_reducible apply kRg 12); refine cD [0, 0, 1, 1, 1, 1, 3, 2, 4, 1, 4] ?_) | ((with_reducible apply kRg 13); refine cD [0, 0, 1, 1, 1, 1, 3, 2, 4, 1, 4] ?_) | (with_reducible first | refine c_seq ?_ | refine c_reg ?_ | refine c_region ?_ | refine c_block ?_ | refine c_skip ?_ | refine c_exit ?_ | refine c_ret ?_ | refine s_nil ?_ | refine x_then ?_ | refine x_then_exit ?_ | refine x_then_ret ?_ | refine x_block ?_ | refine x_block_ret ?_ | refine x_block_same ?_ | refine x_block_other (by first | rfl | decide) ?_ | refine q_nil ?_ | refine k_nil ?_) | ((with_reducible apply kG); first | refine gY1 ?_ | refine gN1 ?_ | refine gU1 ?_ | (refine gD1 (fun h => ?_) (fun h => ?_) <;> (try (exfalso; omega))) | refine gB1 (fun h => ?_) (fun h => ?_)) | ((with_reducible apply kN); first | refine stP ?_ | refine stI ?_ | refine st1 ?_ | refine stW ?_) | ((with_reducible apply kP (.alloc _)); refine sA (fun b => ?_)) | ((with_reducible apply kP _); refine sP ?_) | ((with_reducible apply kP _); refine sX ?_) | ((with_reducible apply kC); first | refine cT ?_ | refine cF ?_ | (refine cI (fun h => ?_) (fun h => ?_) <;> (try (exfalso; omega))) | refine cB (fun h => ?_) (fun h => ?_)) | ((with_reducible apply kDN); first | refine dtI ?_ | refine dt1 ?_ | refine dtW ?_) | ((with_reducible apply kDP (.buildSlice _ 1 _)); first | refine dl1A (fun b => ?_) | refine dl1 (fun b => ?_)) | ((with_reducible apply kDP (.call ⟨.builtin .append, _, _⟩)); first | refine dAp3 (fun oa2 c2 blk2 hrow2 => ?_) (hS := SCt) | refine dAp4 (fun oa2 c2 blk2 hrow2 => ?_)) | ((with_reducible apply kDP _); refine dP ?_) | ((with_reducible apply kDP _); refine dX ?_))
          all_goals try (exfalso; omega)
          exact e_ret2 (hs' := hs) rfl ⟨_, rfl, ld_whole (shTOf rfl) (by with_reducible ((repeat (first | exact mm0 | refine mmT ?_ | refine mmA ?_)); done)) rfl⟩ rfl ⟨[], NewBE.none 3, rfl⟩ (.cons _ (sbA (sbA (sbA (sbA (sbA (.cons _ (.cons _ (.refl _)))))))))
      · rw [if_neg (fun h => hE h.1)]
        rw [if_neg hE] at kf
        generalize vErr R G = E at *
        repeat' (first | ((with_reducible apply kF 17); refine sR 17 (kt _ SBt SBt) ?_; rintro v7 h7 ⟨blk7, ⟨o7, o8, c7, c8, k7, k8, rfl, hr7, hr8, rfl⟩, rfl⟩; unfold bv; rw [List.append_assoc]) | ((with_reducible apply kF 7); refine sC 7 (kf _ SBt SBt) ?_) | ((with_reducible apply kP (.binOp .neq 9 _ _ _)); refine sP ?_ (o_sNeq rfl rfl)) | ((with_reducible apply kDP (.binOp .neq 9 _ _ _)); refine dP ?_ (hX := rfl) (hv := o_sNeq rfl rfl)) | ((with_reducible apply kQO (.binOp .neq 9 _ _ _)); refine qP ?_ (o_sNeq rfl rfl)) | ((with_reducible apply kP (.alloc 24)); refine sA (fun b8 => ?_)) | ((with_reducible apply kN); refine stW ?_ (hf := flat_cons rfl (flat1 rfl))) | ((with_reducible apply kRg 12); refine cD [0, 0, 1, 1, 1, 1, 3, 2, 4, 1, 4] ?_) | ((with_reducible apply kRg 13); refine cD [0, 0, 1, 1, 1, 1, 3, 2, 4, 1, 4] ?_) | (with_reducible first | refine c_seq ?_ | refine c_reg ?_ | refine c_region ?_ | refine c_block ?_ | refine c_skip ?_ | refine c_exit ?_ | refine c_ret ?_ | refine s_nil ?_ | refine x_then ?_ | refine x_then_exit ?_ | refine x_then_ret ?_ | refine x_block ?_ | refine x_block_ret ?_ | refine x_block_same ?_ | refine x_block_other (by first | rfl | decide) ?_ | refine q_nil ?_ | refine k_nil ?_) | ((with_reducible apply kG); first | refine gY1 ?_ | refine gN1 ?_ | refine gU1 ?_ | (refine gD1 (fun h => ?_) (fun h => ?_) <;> (try (exfalso; omega))) | refine gB1 (fun h => ?_) (fun h => ?_)) | ((with_reducible apply kN); first | refine stP ?_ | refine stI ?_ | refine st1 ?_ | refine stW ?_) | ((with_reducible apply kP (.alloc _)); refine sA (fun b => ?_)) | ((with_reducible apply kP _); refine sP ?_) | ((with_reducible apply kP _); refine sX ?_) | ((with_reducible apply kC); first | refine cT ?_ | refine cF ?_ | (refine cI (fun h => ?_) (fun h => ?_) <;> (try (exfalso; omega))) | refine cB (fun h => ?_) (fun h => ?_)) | ((with_reducible apply kDN); first | refine dtI ?_ | refine dt1 ?_ | refine dtW ?_) | ((with_reducible apply kDP (.buildSlice _ 1 _)); first | refine dl1A (fun b => ?_) | refine dl1 (fun b => ?_)) | ((with_reducible apply kDP (.call ⟨.builtin .append, _, _⟩)); first | refine dAp3 (fun oa2 c2 blk2 hrow2 => ?_) (hS := SCt) | refine dAp4 (fun oa2 c2 blk2 hrow2 => ?_)) | ((with_reducible apply kDP _); refine dP ?_) | ((with_reducible apply kDP _); refine dX ?_))
        all_goals try (exfalso; omega)
        exact e_ret2 (hs' := hs) rfl ⟨_, rfl, ld_whole (shTOf rfl) (by with_reducible ((repeat (first | exact mm0 | refine mmT ?_ | refine mmA ?_)); done)) rfl⟩ rfl ⟨[], NewBE.none 3, rfl⟩ (.cons _ (sbA (sbA (sbA (sbA (sbA (.cons _ (.cons _ (.refl _)))))))))
end Go.Proofs.YtmblgbcipniecaaDoor
