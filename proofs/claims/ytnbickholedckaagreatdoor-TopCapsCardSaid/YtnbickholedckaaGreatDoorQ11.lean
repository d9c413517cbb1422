/- Texts of this claim, put together; the parts that it needs. -/
import Derived.Test.YtnbickholedckaaGreatDoorQ10
namespace Go.Proofs.YtnbickholedckaaGreatDoor
open Go.RowKit
section
variable {P : Program} {n : NN} {B : Nat} {w0 : Wd} {fr : FR} {hs hs' : HS}
theorem e_ret0r {fn : Func} {R : Value → HS → Prop} (hr : fn.results = #[]) (hR : R (.tuple #[]) hs') (hsub : hs'.Sublist hs) (hd0 : n.ds = [] := by rfl) :
    Sat n B w0 (bodyPost P fn (Ends B w0 R) .ret) fr hs := sat_mk fun a w ha hw => by
  refine ⟨ha.defers.trans hd0, .tuple #[], ?_, _, hs', rfl, hR, hw.sub hsub⟩
  simp [results, hr]
theorem Sv.tailS {oa : Option Addr} {w : List UInt8} {ls : List (List UInt8)} (h : Sv B w0 hs oa (svs (w :: ls))) {c : Nat} (hc : ls.length + 1 ≤ c) : Sv B w0 hs (subA oa c 1 1) (svs ls) := fun i hi => by
  rw [svs_length] at hi
  obtain ⟨g1, g2⟩ := h (1 + i) (by rw [svs_length, List.length_cons]; omega)
  have e1 : (svs (w :: ls))[1 + i]? = (svs ls)[i]? := by
    unfold svs
    rw [List.map_cons, Nat.add_comm 1 i, List.getElem?_cons_succ]
  rw [e1] at g2
  unfold subA
  rw [if_neg (by omega)]
  cases oa with
  | none => cases g1
  | some a =>
    refine ⟨rfl, fun w hw => ?_⟩
    have := g2 w hw
    rw [Option.map_some, Nat.mul_one, ea_add]
    exact this
end
theorem x_AtoiOk {B : Nat} {w0 : Wd} (hT : TxW B w0) (l : List UInt8) (hl : l.length ≤ 1000000) (m : Int) (hm : Go.Lib.atoiAll l = .ok m) (hs : HS) : Fn Tryz.prog 41 #[sv l] B w0 hs (fun v h => v = .tuple #[iv m, .nilIface] ∧ h = hs) :=
  (x_Atoi hT l hl hs).mono fun v h hv => by
    rcases hv with ⟨⟨m', h1, rfl⟩ | ⟨h1, _⟩, h2⟩
    · rw [hm] at h1; cases h1
      exact ⟨rfl, h2⟩
    · exact absurd hm (h1 m)
theorem x_AtoiBad {B : Nat} {w0 : Wd} (hT : TxW B w0) (l : List UInt8) (hl : l.length ≤ 1000000) (hm : ∀ m, Go.Lib.atoiAll l ≠ .ok m) (hs : HS) : Fn Tryz.prog 41 #[sv l] B w0 hs (fun v h => ∃ blk : HS, (∃ x t p, v = .tuple #[iv x, .iface t p] ∧ blk = []) ∧ h = blk ++ hs) :=
  (x_Atoi hT l hl hs).mono fun v h hv => by
    rcases hv with ⟨⟨m', h1, rfl⟩ | ⟨_, x, t, p, rfl⟩, h2⟩
    · exact absurd h1 (hm m')
    · exact ⟨[], ⟨x, t, p, rfl, rfl⟩, h2⟩
structure RlI where
  L : List Int
  oL : Option Addr
  cL : Nat
  bl : HS
attribute [local irreducible] OpF Ld CellAt Sl Sv pcA
set_option maxRecDepth 100000 in
set_option maxHeartbeats 8000000 in
theorem k_read (d : Rd) (rs : List Rp) (oP : Option Addr) (cP : Nat) (bo : HS) (oS : Option Addr) (cS : Nat) (ko : HS) (M : RdM d rs oP cP bo oS cS ko) (hn : rs.length ≤ 10000) (hS : d.S.length ≤ 100000) (l : List UInt8) (hl : l.length ≤ 10000) (b4 : Nat) (B : Nat) (w0 : Wd) (hT : TxW B w0) (hs : HS) :
    Fn Tryz.prog 23 #[.pointer (some ⟨b4, 0, none⟩), sv l] B w0 (ko ++ (bo ++ (rpb rs ++ ((b4, [.slice oP rs.length cP, .slice oS (d.S.length / 4) cS, iv d.E]) :: hs))))
      (fun v h => v = .tuple #[] ∧ ∃ rs' oP' cP' bo' oS' cS' ko', RdM (rdP d l) rs' oP' cP' bo' oS' cS' ko' ∧ h = ko' ++ (bo' ++ (rpb rs' ++ ((b4, [.slice oP' rs'.length cP', .slice oS' ((rdP d l).S.length / 4) cS', iv (rdP d l).E]) :: hs)))) := by
  have kw := fun hs' => x_Split hT l 32 (by omega) hs'
  have hlw : ∀ w ∈ wds 32 l, w.length ≤ 100000 := fun w hw => Nat.le_trans (wds_le 32 l w hw) (by omega)
  have hWl := wds_len 32 l
  obtain ⟨wd, ws, hW⟩ : ∃ wd ws, wds 32 l = wd :: ws := by
    cases h : wds 32 l with
    | nil => exact absurd h (wds_ne 32 l)
    | cons a b => exact ⟨a, b, rfl⟩
  have hrd : rdP d l = match npP ws [] with | none => d | some L => sgP d wd L := by unfold rdP; rw [hW]; rfl
  rw [hrd]
  clear hrd
  rw [hW] at kw hlw hWl
  simp only [List.length_cons] at hWl
  generalize hBB : ko ++ (bo ++ (rpb rs ++ ((b4, [.slice oP rs.length cP, .slice oS (d.S.length / 4) cS, iv d.E]) :: hs))) = BB
  refine fn_enter Tryz.func23 rfl Tryz.ntmps23 (by simp) ?_
  repeat' (first | ((with_reducible apply kF 40); refine sR 40 (kw _) ?_; rintro v7 h7 ⟨qW, ⟨oW, cW, hrW, rfl⟩, rfl⟩) | ((with_reducible apply kP (.slice 93 _ (some _) none none)); refine sP ?_ (o_sliceL (j := 1) (scTOf rfl) rfl rfl rfl (by simp))) | ((with_reducible apply kDP (.slice 93 _ (some _) none none)); refine dP ?_ (hX := rfl) (hv := o_sliceL (j := 1) (scTOf rfl) rfl rfl rfl (by simp))) | ((with_reducible apply kQO (.slice 93 _ (some _) none none)); refine qP ?_ (o_sliceL (j := 1) (scTOf rfl) rfl rfl rfl (by simp))) | ((with_reducible apply kRg 16); refine cD [1, 1, 1, 1, 1, 1, 2, 4, 1, 4] ?_) | ((with_reducible apply kRg 17); refine cD [1, 1, 1, 1, 1, 1, 1, 2, 4, 1, 4] ?_) | ((with_reducible apply kRg 18); refine cD [0, 1, 1, 1, 1, 1, 2, 3, 1, 1, 4] ?_) | ((with_reducible apply kRg 20); refine cD [0, 1, 1, 1, 1, 1, 1, 1, 1, 1, 1, 1, 1, 1, 1, 1, 1, 1, 2, 3, 1, 1, 4] ?_) | (with_reducible first | refine c_seq ?_ | refine c_reg ?_ | refine c_region ?_ | refine c_block ?_ | refine c_skip ?_ | refine c_exit ?_ | refine c_ret ?_ | refine s_nil ?_ | refine x_then ?_ | refine x_then_exit ?_ | refine x_then_ret ?_ | refine x_block ?_ | refine x_block_ret ?_ | refine x_block_same ?_ | refine x_block_other (by first | rfl | decide) ?_ | refine q_nil ?_ | refine k_nil ?_) | ((with_reducible apply kG); first | refine gY1 ?_ | refine gN1 ?_ | refine gU1 ?_ | (refine gD1 (fun h => ?_) (fun h => ?_) <;> (try (exfalso; omega))) | refine gB1 (fun h => ?_) (fun h => ?_)) | ((with_reducible apply kN); first | refine stP ?_ | refine stI ?_ | refine st1 ?_ | refine stW ?_) | ((with_reducible apply kP (.alloc _)); refine sA (fun b => ?_)) | ((with_reducible apply kP (.buildSlice _ 1 _)); first | refine sl1A (fun b => ?_) | refine sl1 (fun b => ?_)) | ((with_reducible apply kP (.call ⟨.builtin .append, _, _⟩)); refine sAp (fun oa2 c2 blk2 hrow2 => ?_)) | ((with_reducible apply kP _); refine sP ?_) | ((with_reducible apply kP _); refine sX ?_) | ((with_reducible apply kC); first | refine cT ?_ | refine cF ?_ | (refine cI (fun h => ?_) (fun h => ?_) <;> (try (exfalso; omega))) | refine cB (fun h => ?_) (fun h => ?_)) | ((with_reducible apply kDN); first | refine dtI ?_ | refine dt1 ?_ | refine dtW ?_) | ((with_reducible apply kDP (.buildSlice _ 1 _)); first | refine dl1A (fun b => ?_) | refine dl1 (fun b => ?_)) | ((with_reducible apply kDP (.call ⟨.builtin .append, _, _⟩)); first | refine dAp3 (fun oa2 c2 blk2 hrow2 => ?_) (hS := SCt) | refine dAp4 (fun oa2 c2 blk2 hrow2 => ?_)) | ((with_reducible apply kDP _); refine dP ?_) | ((with_reducible apply kDP _); refine dX ?_))
  have hcW : ws.length + 1 ≤ cW := by
    rcases hrW with ⟨_, _, h3, _⟩ | ⟨b, z, _, _, hz, _⟩
    · unfold svs at h3; simp at h3
    · rw [List.length_append, svs_length, List.length_cons] at hz; omega
  have hLW := Sv.rowS (B := B) (w0 := w0) hrW
  have hLT := hLW.tailS hcW
  refine c_loop (fun s : RlI => [(0, .pointer (some ⟨b4, 0, none⟩)), (4, .slice oW (wd :: ws).length cW), (5, .slice s.oL s.L.length s.cL), (15, .slice (subA oW cW 1 1) ws.length (cW - 1)), (16, iv ws.length), (17, iv s.L.length)])
    (fun s : RlI => s.bl ++ (qW ++ BB)) (fun s : RlI => s.L.length ≤ ws.length ∧ npP (ws.drop s.L.length) s.L = npP ws [] ∧ RowOk s.oL s.cL 1 (ivs s.L) s.bl) (fun s : RlI => ws.length - s.L.length) ⟨[], none, 0, []⟩ ⟨Nat.zero_le _, rfl, RowOk.nil⟩ (by repeat' first | trivial | rfl | apply And.intro) (.refl _) ?_
  rintro ⟨L, oL, cL, bl⟩ ⟨hk, hnp, hr⟩
  dsimp only at hk hnp hr ⊢
  by_cases hk' : L.length < ws.length
  · have hmem : ws.getD L.length [] ∈ wd :: ws := by
      refine .tail _ ?_
      rw [List.getD_eq_getElem?_getD, List.getElem?_eq_getElem hk']
      exact List.getElem_mem hk'
    have hwl := hlw _ hmem
    have iW := hLT.anyS hk'
    have hcT := fun hs' (h : qW.Sublist hs') => hLT.cellS h hk'
    have hkl : (ivs L).length = L.length * 1 := by rw [ivs_length, Nat.mul_one]
    have hdr : ws.drop L.length = ws.getD L.length [] :: ws.drop (L.length + 1) := by
      rw [List.drop_eq_getElem_cons hk', List.getD_eq_getElem?_getD, List.getElem?_eq_getElem hk']
      rfl
    rw [hdr] at hnp
    generalize ws.getD L.length [] = w at *
    by_cases hA : ∃ m, Go.Lib.atoiAll w = .ok m
    · obtain ⟨m, hm⟩ := hA
      rw [npP, hm] at hnp
      dsimp only at hnp
      have kn := fun hs' => x_AtoiOk hT w (by omega) m hm hs'
      have eL : (L ++ [m]).length = L.length + 1 := by rw [List.length_append]; rfl
      repeat' (first | ((with_reducible apply kP (.load 9 _)); refine sP ?_ (o_load rfl (ld_one (shTOf rfl) (hcT _ SBt)))) | ((with_reducible apply kDP (.load 9 _)); refine dP ?_ (hX := rfl) (hv := o_load rfl (ld_one (shTOf rfl) (hcT _ SBt)))) | ((with_reducible apply kQO (.load 9 _)); refine qP ?_ (o_load rfl (ld_one (shTOf rfl) (hcT _ SBt)))) | ((with_reducible apply kP (.indexAddr 93 _ _)); refine sP ?_ (o_indexS (scTOf rfl) rfl rfl rfl (aa0 _) iW hk')) | ((with_reducible apply kDP (.indexAddr 93 _ _)); refine dP ?_ (hX := rfl) (hv := o_indexS (scTOf rfl) rfl rfl rfl (aa0 _) iW hk')) | ((with_reducible apply kQO (.indexAddr 93 _ _)); refine qP ?_ (o_indexS (scTOf rfl) rfl rfl rfl (aa0 _) iW hk')) | ((with_reducible apply kF 41); refine sC 41 (kn _) ?_) | ((with_reducible apply kP (.binOp .neq 86 _ _ _)); refine sP ?_ (o_errF uErr rfl)) | ((with_reducible apply kDP (.binOp .neq 86 _ _ _)); refine dP ?_ (hX := rfl) (hv := o_errF uErr rfl)) | ((with_reducible apply kQO (.binOp .neq 86 _ _ _)); refine qP ?_ (o_errF uErr rfl)) | ((with_reducible apply kP (.call ⟨.builtin .append, _, _⟩)); refine sAp (fun oa5 c5 k5 hr5 => ?_) (hr := hr) (hk := hkl) (hf := flat1 rfl)) | ((with_reducible apply kRg 16); refine cD [1, 1, 1, 1, 1, 1, 2, 4, 1, 4] ?_) | ((with_reducible apply kRg 17); refine cD [1, 1, 1, 1, 1, 1, 1, 2, 4, 1, 4] ?_) | ((with_reducible apply kRg 18); refine cD [0, 1, 1, 1, 1, 1, 2, 3, 1, 1, 4] ?_) | ((with_reducible apply kRg 20); refine cD [0, 1, 1, 1, 1, 1, 1, 1, 1, 1, 1, 1, 1, 1, 1, 1, 1, 1, 2, 3, 1, 1, 4] ?_) | (with_reducible first | refine c_seq ?_ | refine c_reg ?_ | refine c_region ?_ | refine c_block ?_ | refine c_skip ?_ | refine c_exit ?_ | refine c_ret ?_ | refine s_nil ?_ | refine x_then ?_ | refine x_then_exit ?_ | refine x_then_ret ?_ | refine x_block ?_ | refine x_block_ret ?_ | refine x_block_same ?_ | refine x_block_other (by first | rfl | decide) ?_ | refine q_nil ?_ | refine k_nil ?_) | ((with_reducible apply kG); first | refine gY1 ?_ | refine gN1 ?_ | refine gU1 ?_ | (refine gD1 (fun h => ?_) (fun h => ?_) <;> (try (exfalso; omega))) | refine gB1 (fun h => ?_) (fun h => ?_)) | ((with_reducible apply kN); first | refine stP ?_ | refine stI ?_ | refine st1 ?_ | refine stW ?_) | ((with_reducible apply kP (.alloc _)); refine sA (fun b => ?_)) | ((with_reducible apply kP (.buildSlice _ 1 _)); first | refine sl1A (fun b => ?_) | refine sl1 (fun b => ?_)) | ((with_reducible apply kP (.call ⟨.builtin .append, _, _⟩)); refine sAp (fun oa2 c2 blk2 hrow2 => ?_)) | ((with_reducible apply kP _); refine sP ?_) | ((with_reducible apply kP _); refine sX ?_) | ((with_reducible apply kC); first | refine cT ?_ | refine cF ?_ | (refine cI (fun h => ?_) (fun h => ?_) <;> (try (exfalso; omega))) | refine cB (fun h => ?_) (fun h => ?_)) | ((with_reducible apply kDN); first | refine dtI ?_ | refine dt1 ?_ | refine dtW ?_) | ((with_reducible apply kDP (.buildSlice _ 1 _)); first | refine dl1A (fun b => ?_) | refine dl1 (fun b => ?_)) | ((with_reducible apply kDP (.call ⟨.builtin .append, _, _⟩)); first | refine dAp3 (fun oa2 c2 blk2 hrow2 => ?_) (hS := SCt) | refine dAp4 (fun oa2 c2 blk2 hrow2 => ?_)) | ((with_reducible apply kDP _); refine dP ?_) | ((with_reducible apply kDP _); refine dX ?_))
      all_goals try (exfalso; omega)
      exact r_end (⟨L ++ [m], oa5, c5, k5⟩ : RlI) ⟨by dsimp only; rw [eL]; exact hk', by dsimp only; rw [eL]; exact hnp, by dsimp only; rw [← ivs_snoc]; exact hr5⟩ (by dsimp only; rw [eL]; omega) (by dsimp only; rw [eL]; (repeat' first | trivial | rfl | apply And.intro)) (.append (.refl _) (.cons _ (.refl _)))
    · have hbad : ∀ m, Go.Lib.atoiAll w ≠ .ok m := fun m h => hA ⟨m, h⟩
      have hnone : npP ws [] = none := by
        rw [← hnp, npP]
        split
        · exact absurd (by assumption) (hbad _)
        · rfl
      rw [hnone]
      have kn := fun hs' => x_AtoiBad hT w (by omega) hbad hs'
      repeat' (first | ((with_reducible apply kP (.load 9 _)); refine sP ?_ (o_load rfl (ld_one (shTOf rfl) (hcT _ SBt)))) | ((with_reducible apply kDP (.load 9 _)); refine dP ?_ (hX := rfl) (hv := o_load rfl (ld_one (shTOf rfl) (hcT _ SBt)))) | ((with_reducible apply kQO (.load 9 _)); refine qP ?_ (o_load rfl (ld_one (shTOf rfl) (hcT _ SBt)))) | ((with_reducible apply kP (.indexAddr 93 _ _)); refine sP ?_ (o_indexS (scTOf rfl) rfl rfl rfl (aa0 _) iW hk')) | ((with_reducible apply kDP (.indexAddr 93 _ _)); refine dP ?_ (hX := rfl) (hv := o_indexS (scTOf rfl) rfl rfl rfl (aa0 _) iW hk')) | ((with_reducible apply kQO (.indexAddr 93 _ _)); refine qP ?_ (o_indexS (scTOf rfl) rfl rfl rfl (aa0 _) iW hk')) | ((with_reducible apply kP (.binOp .neq 86 _ _ _)); refine sP ?_ (o_errT uErr rfl)) | ((with_reducible apply kDP (.binOp .neq 86 _ _ _)); refine dP ?_ (hX := rfl) (hv := o_errT uErr rfl)) | ((with_reducible apply kQO (.binOp .neq 86 _ _ _)); refine qP ?_ (o_errT uErr rfl)) | ((with_reducible apply kF 41); refine sR 41 (kn _) ?_; rintro v8 h8 ⟨blk8, ⟨x8, t8, p8, rfl, rfl⟩, rfl⟩; rw [List.nil_append]) | ((with_reducible apply kRg 16); refine cD [1, 1, 1, 1, 1, 1, 2, 4, 1, 4] ?_) | ((with_reducible apply kRg 17); refine cD [1, 1, 1, 1, 1, 1, 1, 2, 4, 1, 4] ?_) | ((with_reducible apply kRg 18); refine cD [0, 1, 1, 1, 1, 1, 2, 3, 1, 1, 4] ?_) | ((with_reducible apply kRg 20); refine cD [0, 1, 1, 1, 1, 1, 1, 1, 1, 1, 1, 1, 1, 1, 1, 1, 1, 1, 2, 3, 1, 1, 4] ?_) | (with_reducible first | refine c_seq ?_ | refine c_reg ?_ | refine c_region ?_ | refine c_block ?_ | refine c_skip ?_ | refine c_exit ?_ | refine c_ret ?_ | refine s_nil ?_ | refine x_then ?_ | refine x_then_exit ?_ | refine x_then_ret ?_ | refine x_block ?_ | refine x_block_ret ?_ | refine x_block_same ?_ | refine x_block_other (by first | rfl | decide) ?_ | refine q_nil ?_ | refine k_nil ?_) | ((with_reducible apply kG); first | refine gY1 ?_ | refine gN1 ?_ | refine gU1 ?_ | (refine gD1 (fun h => ?_) (fun h => ?_) <;> (try (exfalso; omega))) | refine gB1 (fun h => ?_) (fun h => ?_)) | ((with_reducible apply kN); first | refine stP ?_ | refine stI ?_ | refine st1 ?_ | refine stW ?_) | ((with_reducible apply kP (.alloc _)); refine sA (fun b => ?_)) | ((with_reducible apply kP (.buildSlice _ 1 _)); first | refine sl1A (fun b => ?_) | refine sl1 (fun b => ?_)) | ((with_reducible apply kP (.call ⟨.builtin .append, _, _⟩)); refine sAp (fun oa2 c2 blk2 hrow2 => ?_)) | ((with_reducible apply kP _); refine sP ?_) | ((with_reducible apply kP _); refine sX ?_) | ((with_reducible apply kC); first | refine cT ?_ | refine cF ?_ | (refine cI (fun h => ?_) (fun h => ?_) <;> (try (exfalso; omega))) | refine cB (fun h => ?_) (fun h => ?_)) | ((with_reducible apply kDN); first | refine dtI ?_ | refine dt1 ?_ | refine dtW ?_) | ((with_reducible apply kDP (.buildSlice _ 1 _)); first | refine dl1A (fun b => ?_) | refine dl1 (fun b => ?_)) | ((with_reducible apply kDP (.call ⟨.builtin .append, _, _⟩)); first | refine dAp3 (fun oa2 c2 blk2 hrow2 => ?_) (hS := SCt) | refine dAp4 (fun oa2 c2 blk2 hrow2 => ?_)) | ((with_reducible apply kDP _); refine dP ?_) | ((with_reducible apply kDP _); refine dX ?_))
      all_goals try (exfalso; omega)
      exact e_ret0r (hs' := BB) rfl ⟨rfl, rs, oP, cP, bo, oS, cS, ko, M, hBB.symm⟩ (sbA (sbA (.refl _)))
  · have hkE : L.length = ws.length := by omega
    rw [hkE, List.drop_length, show npP [] L = some L from rfl] at hnp
    rw [← hnp]
    dsimp only
    have iW0 := hLW.anyS (i := 0) (by simp)
    have hcW0 := fun hs' (h : qW.Sublist hs') => hLW.cellS h (i := 0) (by simp)
    have hg0 : (wd :: ws).getD 0 [] = wd := rfl
    rw [hg0] at hcW0
    have hLL := Sl.row (B := B) (w0 := w0) hr
    unfold sgP
    by_cases hE : wd = sEase
    · have hP : wd ≠ sPiece := by rw [hE]; decide
      have hS : wd ≠ sSeam := by rw [hE]; decide
      by_cases h1 : L.length = 1
      · rw [if_pos ⟨hE, h1⟩]
        have i0 := hLL.any (i := 0) (by omega)
        subst hBB
        repeat' (first | ((with_reducible apply kP (.load 9 _)); refine sP ?_ (o_load rfl (ld_one (shTOf rfl) (hcW0 _ SBt)))) | ((with_reducible apply kDP (.load 9 _)); refine dP ?_ (hX := rfl) (hv := o_load rfl (ld_one (shTOf rfl) (hcW0 _ SBt)))) | ((with_reducible apply kQO (.load 9 _)); refine qP ?_ (o_load rfl (ld_one (shTOf rfl) (hcW0 _ SBt)))) | ((with_reducible apply kP (.indexAddr 93 _ _)); refine sP ?_ (o_indexS (scTOf rfl) rfl rfl rfl (aa0 _) iW0 (by simp))) | ((with_reducible apply kDP (.indexAddr 93 _ _)); refine dP ?_ (hX := rfl) (hv := o_indexS (scTOf rfl) rfl rfl rfl (aa0 _) iW0 (by simp))) | ((with_reducible apply kQO (.indexAddr 93 _ _)); refine qP ?_ (o_indexS (scTOf rfl) rfl rfl rfl (aa0 _) iW0 (by simp))) | ((with_reducible apply kP (.binOp .eql 9 _ _ _)); refine sP ?_ (o_sEqlT (b := sEase) hE rfl rfl)) | ((with_reducible apply kDP (.binOp .eql 9 _ _ _)); refine dP ?_ (hX := rfl) (hv := o_sEqlT (b := sEase) hE rfl rfl)) | ((with_reducible apply kQO (.binOp .eql 9 _ _ _)); refine qP ?_ (o_sEqlT (b := sEase) hE rfl rfl)) | ((with_reducible apply kP (.binOp .eql 9 _ _ _)); refine sP ?_ (o_sEqlF (b := sPiece) hP rfl rfl)) | ((with_reducible apply kDP (.binOp .eql 9 _ _ _)); refine dP ?_ (hX := rfl) (hv := o_sEqlF (b := sPiece) hP rfl rfl)) | ((with_reducible apply kQO (.binOp .eql 9 _ _ _)); refine qP ?_ (o_sEqlF (b := sPiece) hP rfl rfl)) | ((with_reducible apply kP (.binOp .eql 9 _ _ _)); refine sP ?_ (o_sEqlF (b := sSeam) hS rfl rfl)) | ((with_reducible apply kDP (.binOp .eql 9 _ _ _)); refine dP ?_ (hX := rfl) (hv := o_sEqlF (b := sSeam) hS rfl rfl)) | ((with_reducible apply kQO (.binOp .eql 9 _ _ _)); refine qP ?_ (o_sEqlF (b := sSeam) hS rfl rfl)) | ((with_reducible apply kP (.load 3 (.tmp 45))); refine sP ?_ (o_load rfl (ld_one (shTOf rfl) (hLL.at SBt (show 0 < L.length by omega))))) | ((with_reducible apply kDP (.load 3 (.tmp 45))); refine dP ?_ (hX := rfl) (hv := o_load rfl (ld_one (shTOf rfl) (hLL.at SBt (show 0 < L.length by omega))))) | ((with_reducible apply kQO (.load 3 (.tmp 45))); refine qP ?_ (o_load rfl (ld_one (shTOf rfl) (hLL.at SBt (show 0 < L.length by omega))))) | ((with_reducible apply kP (.indexAddr 27 _ _)); refine sP ?_ (o_indexS (scTOf rfl) rfl rfl rfl (aa0 _) i0 (show 0 < L.length by omega))) | ((with_reducible apply kDP (.indexAddr 27 _ _)); refine dP ?_ (hX := rfl) (hv := o_indexS (scTOf rfl) rfl rfl rfl (aa0 _) i0 (show 0 < L.length by omega))) | ((with_reducible apply kQO (.indexAddr 27 _ _)); refine qP ?_ (o_indexS (scTOf rfl) rfl rfl rfl (aa0 _) i0 (show 0 < L.length by omega))) | ((with_reducible apply kN); refine stC ?_) | ((with_reducible apply kRg 16); refine cD [1, 1, 1, 1, 1, 1, 2, 4, 1, 4] ?_) | ((with_reducible apply kRg 17); refine cD [1, 1, 1, 1, 1, 1, 1, 2, 4, 1, 4] ?_) | ((with_reducible apply kRg 18); refine cD [0, 1, 1, 1, 1, 1, 2, 3, 1, 1, 4] ?_) | ((with_reducible apply kRg 20); refine cD [0, 1, 1, 1, 1, 1, 1, 1, 1, 1, 1, 1, 1, 1, 1, 1, 1, 1, 2, 3, 1, 1, 4] ?_) | (with_reducible first | refine c_seq ?_ | refine c_reg ?_ | refine c_region ?_ | refine c_block ?_ | refine c_skip ?_ | refine c_exit ?_ | refine c_ret ?_ | refine s_nil ?_ | refine x_then ?_ | refine x_then_exit ?_ | refine x_then_ret ?_ | refine x_block ?_ | refine x_block_ret ?_ | refine x_block_same ?_ | refine x_block_other (by first | rfl | decide) ?_ | refine q_nil ?_ | refine k_nil ?_) | ((with_reducible apply kG); first | refine gY1 ?_ | refine gN1 ?_ | refine gU1 ?_ | (refine gD1 (fun h => ?_) (fun h => ?_) <;> (try (exfalso; omega))) | refine gB1 (fun h => ?_) (fun h => ?_)) | ((with_reducible apply kN); first | refine stP ?_ | refine stI ?_ | refine st1 ?_ | refine stW ?_) | ((with_reducible apply kP (.alloc _)); refine sA (fun b => ?_)) | ((with_reducible apply kP (.buildSlice _ 1 _)); first | refine sl1A (fun b => ?_) | refine sl1 (fun b => ?_)) | ((with_reducible apply kP (.call ⟨.builtin .append, _, _⟩)); refine sAp (fun oa2 c2 blk2 hrow2 => ?_)) | ((with_reducible apply kP _); refine sP ?_) | ((with_reducible apply kP _); refine sX ?_) | ((with_reducible apply kC); first | refine cT ?_ | refine cF ?_ | (refine cI (fun h => ?_) (fun h => ?_) <;> (try (exfalso; omega))) | refine cB (fun h => ?_) (fun h => ?_)) | ((with_reducible apply kDN); first | refine dtI ?_ | refine dt1 ?_ | refine dtW ?_) | ((with_reducible apply kDP (.buildSlice _ 1 _)); first | refine dl1A (fun b => ?_) | refine dl1 (fun b => ?_)) | ((with_reducible apply kDP (.call ⟨.builtin .append, _, _⟩)); first | refine dAp3 (fun oa2 c2 blk2 hrow2 => ?_) (hS := SCt) | refine dAp4 (fun oa2 c2 blk2 hrow2 => ?_)) | ((with_reducible apply kDP _); refine dP ?_) | ((with_reducible apply kDP _); refine dX ?_))
        all_goals try (exfalso; omega)
        exact e_ret0 (hs' := ko ++ (bo ++ (rpb rs ++ ((b4, [.slice oP rs.length cP, .slice oS (d.S.length / 4) cS, iv (L.getD 0 0)]) :: hs)))) rfl ⟨rfl, rs, oP, cP, bo, oS, cS, ko, ⟨M.P, M.ok, M.bo, M.ko, M.m4⟩, rfl⟩ (sbA (sbA (.refl _)))
      · rw [if_neg (fun h => h1 h.2), if_neg (fun h => hP h.1), if_neg (fun h => hS h.1)]
        repeat' (first | ((with_reducible apply kP (.load 9 _)); refine sP ?_ (o_load rfl (ld_one (shTOf rfl) (hcW0 _ SBt)))) | ((with_reducible apply kDP (.load 9 _)); refine dP ?_ (hX := rfl) (hv := o_load rfl (ld_one (shTOf rfl) (hcW0 _ SBt)))) | ((with_reducible apply kQO (.load 9 _)); refine qP ?_ (o_load rfl (ld_one (shTOf rfl) (hcW0 _ SBt)))) | ((with_reducible apply kP (.indexAddr 93 _ _)); refine sP ?_ (o_indexS (scTOf rfl) rfl rfl rfl (aa0 _) iW0 (by simp))) | ((with_reducible apply kDP (.indexAddr 93 _ _)); refine dP ?_ (hX := rfl) (hv := o_indexS (scTOf rfl) rfl rfl rfl (aa0 _) iW0 (by simp))) | ((with_reducible apply kQO (.indexAddr 93 _ _)); refine qP ?_ (o_indexS (scTOf rfl) rfl rfl rfl (aa0 _) iW0 (by simp))) | ((with_reducible apply kP (.binOp .eql 9 _ _ _)); refine sP ?_ (o_sEqlT (b := sEase) hE rfl rfl)) | ((with_reducible apply kDP (.binOp .eql 9 _ _ _)); refine dP ?_ (hX := rfl) (hv := o_sEqlT (b := sEase) hE rfl rfl)) | ((with_reducible apply kQO (.binOp .eql 9 _ _ _)); refine qP ?_ (o_sEqlT (b := sEase) hE rfl rfl)) | ((with_reducible apply kP (.binOp .eql 9 _ _ _)); refine sP ?_ (o_sEqlF (b := sPiece) hP rfl rfl)) | ((with_reducible apply kDP (.binOp .eql 9 _ _ _)); refine dP ?_ (hX := rfl) (hv := o_sEqlF (b := sPiece) hP rfl rfl)) | ((with_reducible apply kQO (.binOp .eql 9 _ _ _)); refine qP ?_ (o_sEqlF (b := sPiece) hP rfl rfl)) | ((with_reducible apply kP (.binOp .eql 9 _ _ _)); refine sP ?_ (o_sEqlF (b := sSeam) hS rfl rfl)) | ((with_reducible apply kDP (.binOp .eql 9 _ _ _)); refine dP ?_ (hX := rfl) (hv := o_sEqlF (b := sSeam) hS rfl rfl)) | ((with_reducible apply kQO (.binOp .eql 9 _ _ _)); refine qP ?_ (o_sEqlF (b := sSeam) hS rfl rfl)) | ((with_reducible apply kN); refine stW ?_ (hf := flat_cons rfl (flat2 rfl rfl))) | ((with_reducible apply kRg 16); refine cD [1, 1, 1, 1, 1, 1, 2, 4, 1, 4] ?_) | ((with_reducible apply kRg 17); refine cD [1, 1, 1, 1, 1, 1, 1, 2, 4, 1, 4] ?_) | ((with_reducible apply kRg 18); refine cD [0, 1, 1, 1, 1, 1, 2, 3, 1, 1, 4] ?_) | ((with_reducible apply kRg 20); refine cD [0, 1, 1, 1, 1, 1, 1, 1, 1, 1, 1, 1, 1, 1, 1, 1, 1, 1, 2, 3, 1, 1, 4] ?_) | (with_reducible first | refine c_seq ?_ | refine c_reg ?_ | refine c_region ?_ | refine c_block ?_ | refine c_skip ?_ | refine c_exit ?_ | refine c_ret ?_ | refine s_nil ?_ | refine x_then ?_ | refine x_then_exit ?_ | refine x_then_ret ?_ | refine x_block ?_ | refine x_block_ret ?_ | refine x_block_same ?_ | refine x_block_other (by first | rfl | decide) ?_ | refine q_nil ?_ | refine k_nil ?_) | ((with_reducible apply kG); first | refine gY1 ?_ | refine gN1 ?_ | refine gU1 ?_ | (refine gD1 (fun h => ?_) (fun h => ?_) <;> (try (exfalso; omega))) | refine gB1 (fun h => ?_) (fun h => ?_)) | ((with_reducible apply kN); first | refine stP ?_ | refine stI ?_ | refine st1 ?_ | refine stW ?_) | ((with_reducible apply kP (.alloc _)); refine sA (fun b => ?_)) | ((with_reducible apply kP (.buildSlice _ 1 _)); first | refine sl1A (fun b => ?_) | refine sl1 (fun b => ?_)) | ((with_reducible apply kP (.call ⟨.builtin .append, _, _⟩)); refine sAp (fun oa2 c2 blk2 hrow2 => ?_)) | ((with_reducible apply kP _); refine sP ?_) | ((with_reducible apply kP _); refine sX ?_) | ((with_reducible apply kC); first | refine cT ?_ | refine cF ?_ | (refine cI (fun h => ?_) (fun h => ?_) <;> (try (exfalso; omega))) | refine cB (fun h => ?_) (fun h => ?_)) | ((with_reducible apply kDN); first | refine dtI ?_ | refine dt1 ?_ | refine dtW ?_) | ((with_reducible apply kDP (.buildSlice _ 1 _)); first | refine dl1A (fun b => ?_) | refine dl1 (fun b => ?_)) | ((with_reducible apply kDP (.call ⟨.builtin .append, _, _⟩)); first | refine dAp3 (fun oa2 c2 blk2 hrow2 => ?_) (hS := SCt) | refine dAp4 (fun oa2 c2 blk2 hrow2 => ?_)) | ((with_reducible apply kDP _); refine dP ?_) | ((with_reducible apply kDP _); refine dX ?_))
        all_goals try (exfalso; omega)
        exact e_ret0 (hs' := BB) rfl ⟨rfl, rs, oP, cP, bo, oS, cS, ko, M, hBB.symm⟩ (sbA (sbA (.refl _)))
    · rw [if_neg (fun h => hE h.1)]
      by_cases hP : wd = sPiece
      · have hS : wd ≠ sSeam := by rw [hP]; decide
        by_cases h2 : L.length % 2 = 0
        · rw [if_pos ⟨hP, h2⟩]
          subst hBB
          dsimp only
          repeat' (first | ((with_reducible apply kP (.load 9 _)); refine sP ?_ (o_load rfl (ld_one (shTOf rfl) (hcW0 _ SBt)))) | ((with_reducible apply kDP (.load 9 _)); refine dP ?_ (hX := rfl) (hv := o_load rfl (ld_one (shTOf rfl) (hcW0 _ SBt)))) | ((with_reducible apply kQO (.load 9 _)); refine qP ?_ (o_load rfl (ld_one (shTOf rfl) (hcW0 _ SBt)))) | ((with_reducible apply kP (.indexAddr 93 _ _)); refine sP ?_ (o_indexS (scTOf rfl) rfl rfl rfl (aa0 _) iW0 (by simp))) | ((with_reducible apply kDP (.indexAddr 93 _ _)); refine dP ?_ (hX := rfl) (hv := o_indexS (scTOf rfl) rfl rfl rfl (aa0 _) iW0 (by simp))) | ((with_reducible apply kQO (.indexAddr 93 _ _)); refine qP ?_ (o_indexS (scTOf rfl) rfl rfl rfl (aa0 _) iW0 (by simp))) | ((with_reducible apply kP (.binOp .eql 9 _ _ _)); refine sP ?_ (o_sEqlF (b := sEase) hE rfl rfl)) | ((with_reducible apply kDP (.binOp .eql 9 _ _ _)); refine dP ?_ (hX := rfl) (hv := o_sEqlF (b := sEase) hE rfl rfl)) | ((with_reducible apply kQO (.binOp .eql 9 _ _ _)); refine qP ?_ (o_sEqlF (b := sEase) hE rfl rfl)) | ((with_reducible apply kP (.binOp .eql 9 _ _ _)); refine sP ?_ (o_sEqlT (b := sPiece) hP rfl rfl)) | ((with_reducible apply kDP (.binOp .eql 9 _ _ _)); refine dP ?_ (hX := rfl) (hv := o_sEqlT (b := sPiece) hP rfl rfl)) | ((with_reducible apply kQO (.binOp .eql 9 _ _ _)); refine qP ?_ (o_sEqlT (b := sPiece) hP rfl rfl)) | ((with_reducible apply kP (.binOp .eql 9 _ _ _)); refine sP ?_ (o_sEqlF (b := sSeam) hS rfl rfl)) | ((with_reducible apply kDP (.binOp .eql 9 _ _ _)); refine dP ?_ (hX := rfl) (hv := o_sEqlF (b := sSeam) hS rfl rfl)) | ((with_reducible apply kQO (.binOp .eql 9 _ _ _)); refine qP ?_ (o_sEqlF (b := sSeam) hS rfl rfl)) | ((with_reducible apply kP (.alloc 29)); refine sA (fun b8 => ?_)) | ((with_reducible apply kRg 16); refine cD [1, 1, 1, 1, 1, 1, 2, 4, 1, 4] ?_) | ((with_reducible apply kRg 17); refine cD [1, 1, 1, 1, 1, 1, 1, 2, 4, 1, 4] ?_) | ((with_reducible apply kRg 18); refine cD [0, 1, 1, 1, 1, 1, 2, 3, 1, 1, 4] ?_) | ((with_reducible apply kRg 20); refine cD [0, 1, 1, 1, 1, 1, 1, 1, 1, 1, 1, 1, 1, 1, 1, 1, 1, 1, 2, 3, 1, 1, 4] ?_) | (with_reducible first | refine c_seq ?_ | refine c_reg ?_ | refine c_region ?_ | refine c_block ?_ | refine c_skip ?_ | refine c_exit ?_ | refine c_ret ?_ | refine s_nil ?_ | refine x_then ?_ | refine x_then_exit ?_ | refine x_then_ret ?_ | refine x_block ?_ | refine x_block_ret ?_ | refine x_block_same ?_ | refine x_block_other (by first | rfl | decide) ?_ | refine q_nil ?_ | refine k_nil ?_) | ((with_reducible apply kG); first | refine gY1 ?_ | refine gN1 ?_ | refine gU1 ?_ | (refine gD1 (fun h => ?_) (fun h => ?_) <;> (try (exfalso; omega))) | refine gB1 (fun h => ?_) (fun h => ?_)) | ((with_reducible apply kN); first | refine stP ?_ | refine stI ?_ | refine st1 ?_ | refine stW ?_) | ((with_reducible apply kP (.alloc _)); refine sA (fun b => ?_)) | ((with_reducible apply kP (.buildSlice _ 1 _)); first | refine sl1A (fun b => ?_) | refine sl1 (fun b => ?_)) | ((with_reducible apply kP (.call ⟨.builtin .append, _, _⟩)); refine sAp (fun oa2 c2 blk2 hrow2 => ?_)) | ((with_reducible apply kP _); refine sP ?_) | ((with_reducible apply kP _); refine sX ?_) | ((with_reducible apply kC); first | refine cT ?_ | refine cF ?_ | (refine cI (fun h => ?_) (fun h => ?_) <;> (try (exfalso; omega))) | refine cB (fun h => ?_) (fun h => ?_)) | ((with_reducible apply kDN); first | refine dtI ?_ | refine dt1 ?_ | refine dtW ?_) | ((with_reducible apply kDP (.buildSlice _ 1 _)); first | refine dl1A (fun b => ?_) | refine dl1 (fun b => ?_)) | ((with_reducible apply kDP (.call ⟨.builtin .append, _, _⟩)); first | refine dAp3 (fun oa2 c2 blk2 hrow2 => ?_) (hS := SCt) | refine dAp4 (fun oa2 c2 blk2 hrow2 => ?_)) | ((with_reducible apply kDP _); refine dP ?_) | ((with_reducible apply kDP _); refine dX ?_))
          all_goals try (exfalso; omega)
          refine c_loop (fun s : TkJ => [(0, .pointer (some ⟨b4, 0, none⟩)), (4, .slice oW (wd :: ws).length cW), (5, .slice oL L.length cL), (10, .pointer (some ⟨b8, 0, none⟩)), (11, iv (2 * s.j : Nat))])
            (fun s : TkJ => s.bb ++ (s.ba ++ ((b8, [.slice s.oa s.j s.ca, .slice s.ob s.j s.cb]) :: (bl ++ (qW ++ (ko ++ (bo ++ (rpb rs ++ ((b4, [.slice oP rs.length cP, .slice oS (d.S.length / 4) cS, iv d.E]) :: hs)))))))))
            (fun s : TkJ => s.j ≤ L.length / 2 ∧ RowOk s.oa s.ca 1 (ivs (evT L s.j)) s.ba ∧ RowOk s.ob s.cb 1 (ivs (odT L s.j)) s.bb) (fun s : TkJ => L.length / 2 - s.j) ⟨0, none, 0, [], none, 0, []⟩ ⟨Nat.zero_le _, RowOk.nil, RowOk.nil⟩ (by repeat' first | trivial | rfl | apply And.intro) (.refl _) ?_
          rintro ⟨j, oa, ca, ba, ob, cb, bb⟩ ⟨hj, hra, hrb⟩
          dsimp only at hj hra hrb ⊢
          have hka : (ivs (evT L j)).length = j * 1 := by rw [ivs_length, evT_len, Nat.mul_one]
          have hkb : (ivs (odT L j)).length = j * 1 := by rw [ivs_length, odT_len, Nat.mul_one]
          by_cases hj' : j < L.length / 2
          · have h2j : 2 * j < L.length := by omega
            have h2k : 2 * j + 1 < L.length := by omega
            have i0 := hLL.any h2j
            repeat' (first | ((with_reducible apply kP (.load 3 (.tmp 70))); refine sP ?_ (o_load rfl (ld_one (shTOf rfl) (hLL.at SBt h2j)))) | ((with_reducible apply kDP (.load 3 (.tmp 70))); refine dP ?_ (hX := rfl) (hv := o_load rfl (ld_one (shTOf rfl) (hLL.at SBt h2j)))) | ((with_reducible apply kQO (.load 3 (.tmp 70))); refine qP ?_ (o_load rfl (ld_one (shTOf rfl) (hLL.at SBt h2j)))) | ((with_reducible apply kP (.load 3 (.tmp 80))); refine sP ?_ (o_load rfl (ld_one (shTOf rfl) (hLL.at SBt h2k)))) | ((with_reducible apply kDP (.load 3 (.tmp 80))); refine dP ?_ (hX := rfl) (hv := o_load rfl (ld_one (shTOf rfl) (hLL.at SBt h2k)))) | ((with_reducible apply kQO (.load 3 (.tmp 80))); refine qP ?_ (o_load rfl (ld_one (shTOf rfl) (hLL.at SBt h2k)))) | ((with_reducible apply kP (.indexAddr 27 (.tmp 68) _)); refine sP ?_ (o_indexS (jn := 2 * j) (scTOf rfl) rfl rfl rfl (aa0 _) i0 h2j)) | ((with_reducible apply kDP (.indexAddr 27 (.tmp 68) _)); refine dP ?_ (hX := rfl) (hv := o_indexS (jn := 2 * j) (scTOf rfl) rfl rfl rfl (aa0 _) i0 h2j)) | ((with_reducible apply kQO (.indexAddr 27 (.tmp 68) _)); refine qP ?_ (o_indexS (jn := 2 * j) (scTOf rfl) rfl rfl rfl (aa0 _) i0 h2j)) | ((with_reducible apply kP (.indexAddr 27 (.tmp 77) _)); refine sP ?_ (o_indexS (jn := 2 * j + 1) (scTOf rfl) rfl rfl rfl (aa0 _) i0 h2k)) | ((with_reducible apply kDP (.indexAddr 27 (.tmp 77) _)); refine dP ?_ (hX := rfl) (hv := o_indexS (jn := 2 * j + 1) (scTOf rfl) rfl rfl rfl (aa0 _) i0 h2k)) | ((with_reducible apply kQO (.indexAddr 27 (.tmp 77) _)); refine qP ?_ (o_indexS (jn := 2 * j + 1) (scTOf rfl) rfl rfl rfl (aa0 _) i0 h2k)) | ((with_reducible apply kDP (.call ⟨.builtin .append, _, _⟩)); first | refine dAp4 (fun oa5 c5 k5 hr5 => ?_) (hr := hra) (hk := hka) (hf := flat1 rfl) | refine dAp4 (fun oa6 c6 k6 hr6 => ?_) (hr := hrb) (hk := hkb) (hf := flat1 rfl)) | ((with_reducible apply kDN); refine dtC ?_) | ((with_reducible apply kRg 16); refine cD [1, 1, 1, 1, 1, 1, 2, 4, 1, 4] ?_) | ((with_reducible apply kRg 17); refine cD [1, 1, 1, 1, 1, 1, 1, 2, 4, 1, 4] ?_) | ((with_reducible apply kRg 18); refine cD [0, 1, 1, 1, 1, 1, 2, 3, 1, 1, 4] ?_) | ((with_reducible apply kRg 20); refine cD [0, 1, 1, 1, 1, 1, 1, 1, 1, 1, 1, 1, 1, 1, 1, 1, 1, 1, 2, 3, 1, 1, 4] ?_) | (with_reducible first | refine c_seq ?_ | refine c_reg ?_ | refine c_region ?_ | refine c_block ?_ | refine c_skip ?_ | refine c_exit ?_ | refine c_ret ?_ | refine s_nil ?_ | refine x_then ?_ | refine x_then_exit ?_ | refine x_then_ret ?_ | refine x_block ?_ | refine x_block_ret ?_ | refine x_block_same ?_ | refine x_block_other (by first | rfl | decide) ?_ | refine q_nil ?_ | refine k_nil ?_) | ((with_reducible apply kG); first | refine gY1 ?_ | refine gN1 ?_ | refine gU1 ?_ | (refine gD1 (fun h => ?_) (fun h => ?_) <;> (try (exfalso; omega))) | refine gB1 (fun h => ?_) (fun h => ?_)) | ((with_reducible apply kN); first | refine stP ?_ | refine stI ?_ | refine st1 ?_ | refine stW ?_) | ((with_reducible apply kP (.alloc _)); refine sA (fun b => ?_)) | ((with_reducible apply kP (.buildSlice _ 1 _)); first | refine sl1A (fun b => ?_) | refine sl1 (fun b => ?_)) | ((with_reducible apply kP (.call ⟨.builtin .append, _, _⟩)); refine sAp (fun oa2 c2 blk2 hrow2 => ?_)) | ((with_reducible apply kP _); refine sP ?_) | ((with_reducible apply kP _); refine sX ?_) | ((with_reducible apply kC); first | refine cT ?_ | refine cF ?_ | (refine cI (fun h => ?_) (fun h => ?_) <;> (try (exfalso; omega))) | refine cB (fun h => ?_) (fun h => ?_)) | ((with_reducible apply kDN); first | refine dtI ?_ | refine dt1 ?_ | refine dtW ?_) | ((with_reducible apply kDP (.buildSlice _ 1 _)); first | refine dl1A (fun b => ?_) | refine dl1 (fun b => ?_)) | ((with_reducible apply kDP (.call ⟨.builtin .append, _, _⟩)); first | refine dAp3 (fun oa2 c2 blk2 hrow2 => ?_) (hS := SCt) | refine dAp4 (fun oa2 c2 blk2 hrow2 => ?_)) | ((with_reducible apply kDP _); refine dP ?_) | ((with_reducible apply kDP _); refine dX ?_))
            all_goals try (exfalso; omega)
            exact r_end (⟨j + 1, oa5, c5, k5, oa6, c6, k6⟩ : TkJ) ⟨hj', by dsimp only; rw [evT, ← ivs_snoc]; exact hr5, by dsimp only; rw [odT, ← ivs_snoc]; exact hr6⟩ (by dsimp only; omega) (by repeat' first | trivial | rfl | apply And.intro) (.append (.refl _) (.cons _ (.append (.refl _) (.cons _ (.refl _)))))
          · obtain rfl : j = L.length / 2 := by omega
            have hkP : (pcsv (rpP rs)).length = rs.length * 2 := by rw [pcsv_len]; unfold rpP; rw [List.length_map]; omega
            repeat' (first | ((with_reducible apply kP (.load 9 _)); refine sP ?_ (o_load rfl (ld_one (shTOf rfl) (hcW0 _ SBt)))) | ((with_reducible apply kDP (.load 9 _)); refine dP ?_ (hX := rfl) (hv := o_load rfl (ld_one (shTOf rfl) (hcW0 _ SBt)))) | ((with_reducible apply kQO (.load 9 _)); refine qP ?_ (o_load rfl (ld_one (shTOf rfl) (hcW0 _ SBt)))) | ((with_reducible apply kP (.indexAddr 93 _ _)); refine sP ?_ (o_indexS (scTOf rfl) rfl rfl rfl (aa0 _) iW0 (by simp))) | ((with_reducible apply kDP (.indexAddr 93 _ _)); refine dP ?_ (hX := rfl) (hv := o_indexS (scTOf rfl) rfl rfl rfl (aa0 _) iW0 (by simp))) | ((with_reducible apply kQO (.indexAddr 93 _ _)); refine qP ?_ (o_indexS (scTOf rfl) rfl rfl rfl (aa0 _) iW0 (by simp))) | ((with_reducible apply kP (.binOp .eql 9 _ _ _)); refine sP ?_ (o_sEqlF (b := sEase) hE rfl rfl)) | ((with_reducible apply kDP (.binOp .eql 9 _ _ _)); refine dP ?_ (hX := rfl) (hv := o_sEqlF (b := sEase) hE rfl rfl)) | ((with_reducible apply kQO (.binOp .eql 9 _ _ _)); refine qP ?_ (o_sEqlF (b := sEase) hE rfl rfl)) | ((with_reducible apply kP (.binOp .eql 9 _ _ _)); refine sP ?_ (o_sEqlT (b := sPiece) hP rfl rfl)) | ((with_reducible apply kDP (.binOp .eql 9 _ _ _)); refine dP ?_ (hX := rfl) (hv := o_sEqlT (b := sPiece) hP rfl rfl)) | ((with_reducible apply kQO (.binOp .eql 9 _ _ _)); refine qP ?_ (o_sEqlT (b := sPiece) hP rfl rfl)) | ((with_reducible apply kP (.binOp .eql 9 _ _ _)); refine sP ?_ (o_sEqlF (b := sSeam) hS rfl rfl)) | ((with_reducible apply kDP (.binOp .eql 9 _ _ _)); refine dP ?_ (hX := rfl) (hv := o_sEqlF (b := sSeam) hS rfl rfl)) | ((with_reducible apply kQO (.binOp .eql 9 _ _ _)); refine qP ?_ (o_sEqlF (b := sSeam) hS rfl rfl)) | ((with_reducible apply kRg 18); refine cDS [0, 1, 1, 1, 1, 1, 2, 3, 1, 1, 4] [] ?_ (hS := List.nil_sublist _)) | ((with_reducible apply kDP (.call ⟨.builtin .append, _, _⟩)); refine dAp3 (fun oa5 c5 k5 hr5 => ?_) (hr := M.bo) (hk := hkP) (hf := flat2 rfl rfl) (hS := List.nil_sublist _)) | ((with_reducible apply kDN); refine dtC ?_) | ((with_reducible apply kRg 16); refine cD [1, 1, 1, 1, 1, 1, 2, 4, 1, 4] ?_) | ((with_reducible apply kRg 17); refine cD [1, 1, 1, 1, 1, 1, 1, 2, 4, 1, 4] ?_) | ((with_reducible apply kRg 20); refine cD [0, 1, 1, 1, 1, 1, 1, 1, 1, 1, 1, 1, 1, 1, 1, 1, 1, 1, 2, 3, 1, 1, 4] ?_) | (with_reducible first | refine c_seq ?_ | refine c_reg ?_ | refine c_region ?_ | refine c_block ?_ | refine c_skip ?_ | refine c_exit ?_ | refine c_ret ?_ | refine s_nil ?_ | refine x_then ?_ | refine x_then_exit ?_ | refine x_then_ret ?_ | refine x_block ?_ | refine x_block_ret ?_ | refine x_block_same ?_ | refine x_block_other (by first | rfl | decide) ?_ | refine q_nil ?_ | refine k_nil ?_) | ((with_reducible apply kG); first | refine gY1 ?_ | refine gN1 ?_ | refine gU1 ?_ | (refine gD1 (fun h => ?_) (fun h => ?_) <;> (try (exfalso; omega))) | refine gB1 (fun h => ?_) (fun h => ?_)) | ((with_reducible apply kN); first | refine stP ?_ | refine stI ?_ | refine st1 ?_ | refine stW ?_) | ((with_reducible apply kP (.alloc _)); refine sA (fun b => ?_)) | ((with_reducible apply kP (.buildSlice _ 1 _)); first | refine sl1A (fun b => ?_) | refine sl1 (fun b => ?_)) | ((with_reducible apply kP (.call ⟨.builtin .append, _, _⟩)); refine sAp (fun oa2 c2 blk2 hrow2 => ?_)) | ((with_reducible apply kP _); refine sP ?_) | ((with_reducible apply kP _); refine sX ?_) | ((with_reducible apply kC); first | refine cT ?_ | refine cF ?_ | (refine cI (fun h => ?_) (fun h => ?_) <;> (try (exfalso; omega))) | refine cB (fun h => ?_) (fun h => ?_)) | ((with_reducible apply kDN); first | refine dtI ?_ | refine dt1 ?_ | refine dtW ?_) | ((with_reducible apply kDP (.buildSlice _ 1 _)); first | refine dl1A (fun b => ?_) | refine dl1 (fun b => ?_)) | ((with_reducible apply kDP (.call ⟨.builtin .append, _, _⟩)); first | refine dAp3 (fun oa2 c2 blk2 hrow2 => ?_) (hS := SCt) | refine dAp4 (fun oa2 c2 blk2 hrow2 => ?_)) | ((with_reducible apply kDP _); refine dP ?_) | ((with_reducible apply kDP _); refine dX ?_))
            all_goals try (exfalso; omega)
            have hM : RdM ⟨d.P ++ [(evT L (L.length / 2), odT L (L.length / 2))], d.S, d.E⟩ (rs ++ [⟨⟨oa, ca, evT L (L.length / 2), ob, cb, odT L (L.length / 2)⟩, bb ++ ba⟩]) oa5 c5 k5 oS cS ko := by
              have e1 : rpP (rs ++ [⟨⟨oa, ca, evT L (L.length / 2), ob, cb, odT L (L.length / 2)⟩, bb ++ ba⟩]) = rpP rs ++ [⟨oa, ca, evT L (L.length / 2), ob, cb, odT L (L.length / 2)⟩] := by unfold rpP; rw [List.map_append]; rfl
              refine ⟨?_, fun r hr => ?_, ?_, M.ko, M.m4⟩
              · rw [e1, List.map_append, M.P]; rfl
              · rcases List.mem_append.1 hr with hr | hr
                · exact M.ok r hr
                · rw [List.mem_singleton.1 hr]
                  exact ⟨ba, bb, hra, hrb, rfl⟩
              · rw [e1, pcsv_app]
                have e2 : pcsv [(⟨oa, ca, evT L (L.length / 2), ob, cb, odT L (L.length / 2)⟩ : Pc)] = [.slice oa (L.length / 2) ca, .slice ob (L.length / 2) cb] := by
                  unfold pcsv pcv pcsv
                  dsimp only
                  rw [evT_len, odT_len]
                  rfl
                rw [e2]
                exact hr5
            refine sat_tk (blk := ko) (by with_reducible ((repeat (first | exact Take.head | exact Take.one | apply Take.tail | apply Take.app)); done)) ?_
            refine e_ret0 (hs' := ko ++ (k5 ++ (rpb (rs ++ [⟨⟨oa, ca, evT L (L.length / 2), ob, cb, odT L (L.length / 2)⟩, bb ++ ba⟩]) ++ ((b4, [.slice oa5 (rs.length + 1) c5, .slice oS (d.S.length / 4) cS, iv d.E]) :: hs)))) rfl ⟨rfl, _, oa5, c5, k5, oS, cS, ko, hM, ?_⟩ ?_
            · rw [List.length_append]; rfl
            · rw [rpb_snoc]
              dsimp only
              rw [List.append_assoc, List.append_assoc]
              exact .append (.refl _) (.append (.refl _) (.cons _ (.append (.refl _) (.append (.refl _) (.cons _ (sbA (sbA (.refl _))))))))
        · rw [if_neg (fun h => h2 h.2), if_neg (fun h => hS h.1)]
          repeat' (first | ((with_reducible apply kP (.load 9 _)); refine sP ?_ (o_load rfl (ld_one (shTOf rfl) (hcW0 _ SBt)))) | ((with_reducible apply kDP (.load 9 _)); refine dP ?_ (hX := rfl) (hv := o_load rfl (ld_one (shTOf rfl) (hcW0 _ SBt)))) | ((with_reducible apply kQO (.load 9 _)); refine qP ?_ (o_load rfl (ld_one (shTOf rfl) (hcW0 _ SBt)))) | ((with_reducible apply kP (.indexAddr 93 _ _)); refine sP ?_ (o_indexS (scTOf rfl) rfl rfl rfl (aa0 _) iW0 (by simp))) | ((with_reducible apply kDP (.indexAddr 93 _ _)); refine dP ?_ (hX := rfl) (hv := o_indexS (scTOf rfl) rfl rfl rfl (aa0 _) iW0 (by simp))) | ((with_reducible apply kQO (.indexAddr 93 _ _)); refine qP ?_ (o_indexS (scTOf rfl) rfl rfl rfl (aa0 _) iW0 (by simp))) | ((with_reducible apply kP (.binOp .eql 9 _ _ _)); refine sP ?_ (o_sEqlF (b := sEase) hE rfl rfl)) | ((with_reducible apply kDP (.binOp .eql 9 _ _ _)); refine dP ?_ (hX := rfl) (hv := o_sEqlF (b := sEase) hE rfl rfl)) | ((with_reducible apply kQO (.binOp .eql 9 _ _ _)); refine qP ?_ (o_sEqlF (b := sEase) hE rfl rfl)) | ((with_reducible apply kP (.binOp .eql 9 _ _ _)); refine sP ?_ (o_sEqlT (b := sPiece) hP rfl rfl)) | ((with_reducible apply kDP (.binOp .eql 9 _ _ _)); refine dP ?_ (hX := rfl) (hv := o_sEqlT (b := sPiece) hP rfl rfl)) | ((with_reducible apply kQO (.binOp .eql 9 _ _ _)); refine qP ?_ (o_sEqlT (b := sPiece) hP rfl rfl)) | ((with_reducible apply kP (.binOp .eql 9 _ _ _)); refine sP ?_ (o_sEqlF (b := sSeam) hS rfl rfl)) | ((with_reducible apply kDP (.binOp .eql 9 _ _ _)); refine dP ?_ (hX := rfl) (hv := o_sEqlF (b := sSeam) hS rfl rfl)) | ((with_reducible apply kQO (.binOp .eql 9 _ _ _)); refine qP ?_ (o_sEqlF (b := sSeam) hS rfl rfl)) | ((with_reducible apply kN); refine stW ?_ (hf := flat_cons rfl (flat2 rfl rfl))) | ((with_reducible apply kRg 16); refine cD [1, 1, 1, 1, 1, 1, 2, 4, 1, 4] ?_) | ((with_reducible apply kRg 17); refine cD [1, 1, 1, 1, 1, 1, 1, 2, 4, 1, 4] ?_) | ((with_reducible apply kRg 18); refine cD [0, 1, 1, 1, 1, 1, 2, 3, 1, 1, 4] ?_) | ((with_reducible apply kRg 20); refine cD [0, 1, 1, 1, 1, 1, 1, 1, 1, 1, 1, 1, 1, 1, 1, 1, 1, 1, 2, 3, 1, 1, 4] ?_) | (with_reducible first | refine c_seq ?_ | refine c_reg ?_ | refine c_region ?_ | refine c_block ?_ | refine c_skip ?_ | refine c_exit ?_ | refine c_ret ?_ | refine s_nil ?_ | refine x_then ?_ | refine x_then_exit ?_ | refine x_then_ret ?_ | refine x_block ?_ | refine x_block_ret ?_ | refine x_block_same ?_ | refine x_block_other (by first | rfl | decide) ?_ | refine q_nil ?_ | refine k_nil ?_) | ((with_reducible apply kG); first | refine gY1 ?_ | refine gN1 ?_ | refine gU1 ?_ | (refine gD1 (fun h => ?_) (fun h => ?_) <;> (try (exfalso; omega))) | refine gB1 (fun h => ?_) (fun h => ?_)) | ((with_reducible apply kN); first | refine stP ?_ | refine stI ?_ | refine st1 ?_ | refine stW ?_) | ((with_reducible apply kP (.alloc _)); refine sA (fun b => ?_)) | ((with_reducible apply kP (.buildSlice _ 1 _)); first | refine sl1A (fun b => ?_) | refine sl1 (fun b => ?_)) | ((with_reducible apply kP (.call ⟨.builtin .append, _, _⟩)); refine sAp (fun oa2 c2 blk2 hrow2 => ?_)) | ((with_reducible apply kP _); refine sP ?_) | ((with_reducible apply kP _); refine sX ?_) | ((with_reducible apply kC); first | refine cT ?_ | refine cF ?_ | (refine cI (fun h => ?_) (fun h => ?_) <;> (try (exfalso; omega))) | refine cB (fun h => ?_) (fun h => ?_)) | ((with_reducible apply kDN); first | refine dtI ?_ | refine dt1 ?_ | refine dtW ?_) | ((with_reducible apply kDP (.buildSlice _ 1 _)); first | refine dl1A (fun b => ?_) | refine dl1 (fun b => ?_)) | ((with_reducible apply kDP (.call ⟨.builtin .append, _, _⟩)); first | refine dAp3 (fun oa2 c2 blk2 hrow2 => ?_) (hS := SCt) | refine dAp4 (fun oa2 c2 blk2 hrow2 => ?_)) | ((with_reducible apply kDP _); refine dP ?_) | ((with_reducible apply kDP _); refine dX ?_))
          all_goals try (exfalso; omega)
          exact e_ret0 (hs' := BB) rfl ⟨rfl, rs, oP, cP, bo, oS, cS, ko, M, hBB.symm⟩ (sbA (sbA (.refl _)))
      · rw [if_neg (fun h => hP h.1)]
        by_cases hS : wd = sSeam
        · by_cases h4 : L.length = 4
          · rw [if_pos ⟨hS, h4⟩]
            obtain ⟨a0, a1, a2, a3, rfl⟩ := len_4 h4
            subst hBB
            have e4 : (d.S ++ [a0, a1, a2, a3]).length / 4 = d.S.length / 4 + 1 := by rw [List.length_append]; simp only [List.length_cons, List.length_nil]; omega
            dsimp only
            rw [e4]
            have hkS : (ivs d.S).length = d.S.length / 4 * 4 := by have := M.m4; rw [ivs_length]; omega
            have i0 := hLL.any (i := 0) (Nat.le_of_ble_eq_true rfl)
            repeat' (first | ((with_reducible apply kP (.load 9 _)); refine sP ?_ (o_load rfl (ld_one (shTOf rfl) (hcW0 _ SBt)))) | ((with_reducible apply kDP (.load 9 _)); refine dP ?_ (hX := rfl) (hv := o_load rfl (ld_one (shTOf rfl) (hcW0 _ SBt)))) | ((with_reducible apply kQO (.load 9 _)); refine qP ?_ (o_load rfl (ld_one (shTOf rfl) (hcW0 _ SBt)))) | ((with_reducible apply kP (.indexAddr 93 _ _)); refine sP ?_ (o_indexS (scTOf rfl) rfl rfl rfl (aa0 _) iW0 (by simp))) | ((with_reducible apply kDP (.indexAddr 93 _ _)); refine dP ?_ (hX := rfl) (hv := o_indexS (scTOf rfl) rfl rfl rfl (aa0 _) iW0 (by simp))) | ((with_reducible apply kQO (.indexAddr 93 _ _)); refine qP ?_ (o_indexS (scTOf rfl) rfl rfl rfl (aa0 _) iW0 (by simp))) | ((with_reducible apply kP (.binOp .eql 9 _ _ _)); refine sP ?_ (o_sEqlF (b := sEase) hE rfl rfl)) | ((with_reducible apply kDP (.binOp .eql 9 _ _ _)); refine dP ?_ (hX := rfl) (hv := o_sEqlF (b := sEase) hE rfl rfl)) | ((with_reducible apply kQO (.binOp .eql 9 _ _ _)); refine qP ?_ (o_sEqlF (b := sEase) hE rfl rfl)) | ((with_reducible apply kP (.binOp .eql 9 _ _ _)); refine sP ?_ (o_sEqlF (b := sPiece) hP rfl rfl)) | ((with_reducible apply kDP (.binOp .eql 9 _ _ _)); refine dP ?_ (hX := rfl) (hv := o_sEqlF (b := sPiece) hP rfl rfl)) | ((with_reducible apply kQO (.binOp .eql 9 _ _ _)); refine qP ?_ (o_sEqlF (b := sPiece) hP rfl rfl)) | ((with_reducible apply kP (.binOp .eql 9 _ _ _)); refine sP ?_ (o_sEqlT (b := sSeam) hS rfl rfl)) | ((with_reducible apply kDP (.binOp .eql 9 _ _ _)); refine dP ?_ (hX := rfl) (hv := o_sEqlT (b := sSeam) hS rfl rfl)) | ((with_reducible apply kQO (.binOp .eql 9 _ _ _)); refine qP ?_ (o_sEqlT (b := sSeam) hS rfl rfl)) | ((with_reducible apply kRg 20); refine cDS [0, 1, 1, 1, 1, 1, 1, 1, 1, 1, 1, 1, 1, 1, 1, 1, 1, 1, 2, 3, 1, 1, 4] [] ?_ (hS := List.nil_sublist _)) | ((with_reducible apply kP (.load 3 (.tmp 111))); refine sP ?_ (o_load rfl (ld_one (shTOf rfl) (hLL.at (i := 0) SBt (Nat.le_of_ble_eq_true rfl))))) | ((with_reducible apply kDP (.load 3 (.tmp 111))); refine dP ?_ (hX := rfl) (hv := o_load rfl (ld_one (shTOf rfl) (hLL.at (i := 0) SBt (Nat.le_of_ble_eq_true rfl))))) | ((with_reducible apply kQO (.load 3 (.tmp 111))); refine qP ?_ (o_load rfl (ld_one (shTOf rfl) (hLL.at (i := 0) SBt (Nat.le_of_ble_eq_true rfl))))) | ((with_reducible apply kP (.load 3 (.tmp 114))); refine sP ?_ (o_load rfl (ld_one (shTOf rfl) (hLL.at (i := 1) SBt (Nat.le_of_ble_eq_true rfl))))) | ((with_reducible apply kDP (.load 3 (.tmp 114))); refine dP ?_ (hX := rfl) (hv := o_load rfl (ld_one (shTOf rfl) (hLL.at (i := 1) SBt (Nat.le_of_ble_eq_true rfl))))) | ((with_reducible apply kQO (.load 3 (.tmp 114))); refine qP ?_ (o_load rfl (ld_one (shTOf rfl) (hLL.at (i := 1) SBt (Nat.le_of_ble_eq_true rfl))))) | ((with_reducible apply kP (.load 3 (.tmp 117))); refine sP ?_ (o_load rfl (ld_one (shTOf rfl) (hLL.at (i := 2) SBt (Nat.le_of_ble_eq_true rfl))))) | ((with_reducible apply kDP (.load 3 (.tmp 117))); refine dP ?_ (hX := rfl) (hv := o_load rfl (ld_one (shTOf rfl) (hLL.at (i := 2) SBt (Nat.le_of_ble_eq_true rfl))))) | ((with_reducible apply kQO (.load 3 (.tmp 117))); refine qP ?_ (o_load rfl (ld_one (shTOf rfl) (hLL.at (i := 2) SBt (Nat.le_of_ble_eq_true rfl))))) | ((with_reducible apply kP (.load 3 (.tmp 120))); refine sP ?_ (o_load rfl (ld_one (shTOf rfl) (hLL.at (i := 3) SBt (Nat.le_of_ble_eq_true rfl))))) | ((with_reducible apply kDP (.load 3 (.tmp 120))); refine dP ?_ (hX := rfl) (hv := o_load rfl (ld_one (shTOf rfl) (hLL.at (i := 3) SBt (Nat.le_of_ble_eq_true rfl))))) | ((with_reducible apply kQO (.load 3 (.tmp 120))); refine qP ?_ (o_load rfl (ld_one (shTOf rfl) (hLL.at (i := 3) SBt (Nat.le_of_ble_eq_true rfl))))) | ((with_reducible apply kP (.indexAddr 27 _ _)); refine sP ?_ (o_indexS (scTOf rfl) rfl rfl rfl (aa0 _) i0 (Nat.le_of_ble_eq_true rfl))) | ((with_reducible apply kDP (.indexAddr 27 _ _)); refine dP ?_ (hX := rfl) (hv := o_indexS (scTOf rfl) rfl rfl rfl (aa0 _) i0 (Nat.le_of_ble_eq_true rfl))) | ((with_reducible apply kQO (.indexAddr 27 _ _)); refine qP ?_ (o_indexS (scTOf rfl) rfl rfl rfl (aa0 _) i0 (Nat.le_of_ble_eq_true rfl))) | ((with_reducible apply kDP (.call ⟨.builtin .append, _, _⟩)); refine dAp3 (fun oa5 c5 k5 hr5 => ?_) (hr := M.ko) (hk := hkS) (hf := flat_iv [a0, a1, a2, a3]) (hm := by exact mm0) (hS := List.nil_sublist _)) | ((with_reducible apply kDN); refine dtC ?_) | ((with_reducible apply kRg 16); refine cD [1, 1, 1, 1, 1, 1, 2, 4, 1, 4] ?_) | ((with_reducible apply kRg 17); refine cD [1, 1, 1, 1, 1, 1, 1, 2, 4, 1, 4] ?_) | ((with_reducible apply kRg 18); refine cD [0, 1, 1, 1, 1, 1, 2, 3, 1, 1, 4] ?_) | (with_reducible first | refine c_seq ?_ | refine c_reg ?_ | refine c_region ?_ | refine c_block ?_ | refine c_skip ?_ | refine c_exit ?_ | refine c_ret ?_ | refine s_nil ?_ | refine x_then ?_ | refine x_then_exit ?_ | refine x_then_ret ?_ | refine x_block ?_ | refine x_block_ret ?_ | refine x_block_same ?_ | refine x_block_other (by first | rfl | decide) ?_ | refine q_nil ?_ | refine k_nil ?_) | ((with_reducible apply kG); first | refine gY1 ?_ | refine gN1 ?_ | refine gU1 ?_ | (refine gD1 (fun h => ?_) (fun h => ?_) <;> (try (exfalso; omega))) | refine gB1 (fun h => ?_) (fun h => ?_)) | ((with_reducible apply kN); first | refine stP ?_ | refine stI ?_ | refine st1 ?_ | refine stW ?_) | ((with_reducible apply kP (.alloc _)); refine sA (fun b => ?_)) | ((with_reducible apply kP (.buildSlice _ 1 _)); first | refine sl1A (fun b => ?_) | refine sl1 (fun b => ?_)) | ((with_reducible apply kP (.call ⟨.builtin .append, _, _⟩)); refine sAp (fun oa2 c2 blk2 hrow2 => ?_)) | ((with_reducible apply kP _); refine sP ?_) | ((with_reducible apply kP _); refine sX ?_) | ((with_reducible apply kC); first | refine cT ?_ | refine cF ?_ | (refine cI (fun h => ?_) (fun h => ?_) <;> (try (exfalso; omega))) | refine cB (fun h => ?_) (fun h => ?_)) | ((with_reducible apply kDN); first | refine dtI ?_ | refine dt1 ?_ | refine dtW ?_) | ((with_reducible apply kDP (.buildSlice _ 1 _)); first | refine dl1A (fun b => ?_) | refine dl1 (fun b => ?_)) | ((with_reducible apply kDP (.call ⟨.builtin .append, _, _⟩)); first | refine dAp3 (fun oa2 c2 blk2 hrow2 => ?_) (hS := SCt) | refine dAp4 (fun oa2 c2 blk2 hrow2 => ?_)) | ((with_reducible apply kDP _); refine dP ?_) | ((with_reducible apply kDP _); refine dX ?_))
            all_goals try (exfalso; omega)
            have hkN : RowOk oa5 c5 4 (ivs (d.S ++ [a0, a1, a2, a3])) k5 := by
              have e5 : ivs (d.S ++ [a0, a1, a2, a3]) = ivs d.S ++ ivs [a0, a1, a2, a3] := by simp [ivs]
              rw [e5]; exact hr5
            exact e_ret0 (hs' := k5 ++ (bo ++ (rpb rs ++ ((b4, [.slice oP rs.length cP, .slice oa5 (d.S.length / 4 + 1) c5, iv d.E]) :: hs)))) rfl ⟨rfl, rs, oP, cP, bo, oa5, c5, k5, ⟨M.P, M.ok, M.bo, hkN, by show (d.S ++ [a0, a1, a2, a3]).length % 4 = 0; have := M.m4; rw [List.length_append]; simp only [List.length_cons, List.length_nil]; omega⟩, rfl⟩ (.append (.refl _) (.cons _ (sbA (sbA (.refl _)))))
          · rw [if_neg (fun h => h4 h.2)]
            repeat' (first | ((with_reducible apply kP (.load 9 _)); refine sP ?_ (o_load rfl (ld_one (shTOf rfl) (hcW0 _ SBt)))) | ((with_reducible apply kDP (.load 9 _)); refine dP ?_ (hX := rfl) (hv := o_load rfl (ld_one (shTOf rfl) (hcW0 _ SBt)))) | ((with_reducible apply kQO (.load 9 _)); refine qP ?_ (o_load rfl (ld_one (shTOf rfl) (hcW0 _ SBt)))) | ((with_reducible apply kP (.indexAddr 93 _ _)); refine sP ?_ (o_indexS (scTOf rfl) rfl rfl rfl (aa0 _) iW0 (by simp))) | ((with_reducible apply kDP (.indexAddr 93 _ _)); refine dP ?_ (hX := rfl) (hv := o_indexS (scTOf rfl) rfl rfl rfl (aa0 _) iW0 (by simp))) | ((with_reducible apply kQO (.indexAddr 93 _ _)); refine qP ?_ (o_indexS (scTOf rfl) rfl rfl rfl (aa0 _) iW0 (by simp))) | ((with_reducible apply kP (.binOp .eql 9 _ _ _)); refine sP ?_ (o_sEqlF (b := sEase) hE rfl rfl)) | ((with_reducible apply kDP (.binOp .eql 9 _ _ _)); refine dP ?_ (hX := rfl) (hv := o_sEqlF (b := sEase) hE rfl rfl)) | ((with_reducible apply kQO (.binOp .eql 9 _ _ _)); refine qP ?_ (o_sEqlF (b := sEase) hE rfl rfl)) | ((with_reducible apply kP (.binOp .eql 9 _ _ _)); refine sP ?_ (o_sEqlF (b := sPiece) hP rfl rfl)) | ((with_reducible apply kDP (.binOp .eql 9 _ _ _)); refine dP ?_ (hX := rfl) (hv := o_sEqlF (b := sPiece) hP rfl rfl)) | ((with_reducible apply kQO (.binOp .eql 9 _ _ _)); refine qP ?_ (o_sEqlF (b := sPiece) hP rfl rfl)) | ((with_reducible apply kP (.binOp .eql 9 _ _ _)); refine sP ?_ (o_sEqlT (b := sSeam) hS rfl rfl)) | ((with_reducible apply kDP (.binOp .eql 9 _ _ _)); refine dP ?_ (hX := rfl) (hv := o_sEqlT (b := sSeam) hS rfl rfl)) | ((with_reducible apply kQO (.binOp .eql 9 _ _ _)); refine qP ?_ (o_sEqlT (b := sSeam) hS rfl rfl)) | ((with_reducible apply kN); refine stW ?_ (hf := flat_cons rfl (flat2 rfl rfl))) | ((with_reducible apply kRg 16); refine cD [1, 1, 1, 1, 1, 1, 2, 4, 1, 4] ?_) | ((with_reducible apply kRg 17); refine cD [1, 1, 1, 1, 1, 1, 1, 2, 4, 1, 4] ?_) | ((with_reducible apply kRg 18); refine cD [0, 1, 1, 1, 1, 1, 2, 3, 1, 1, 4] ?_) | ((with_reducible apply kRg 20); refine cD [0, 1, 1, 1, 1, 1, 1, 1, 1, 1, 1, 1, 1, 1, 1, 1, 1, 1, 2, 3, 1, 1, 4] ?_) | (with_reducible first | refine c_seq ?_ | refine c_reg ?_ | refine c_region ?_ | refine c_block ?_ | refine c_skip ?_ | refine c_exit ?_ | refine c_ret ?_ | refine s_nil ?_ | refine x_then ?_ | refine x_then_exit ?_ | refine x_then_ret ?_ | refine x_block ?_ | refine x_block_ret ?_ | refine x_block_same ?_ | refine x_block_other (by first | rfl | decide) ?_ | refine q_nil ?_ | refine k_nil ?_) | ((with_reducible apply kG); first | refine gY1 ?_ | refine gN1 ?_ | refine gU1 ?_ | (refine gD1 (fun h => ?_) (fun h => ?_) <;> (try (exfalso; omega))) | refine gB1 (fun h => ?_) (fun h => ?_)) | ((with_reducible apply kN); first | refine stP ?_ | refine stI ?_ | refine st1 ?_ | refine stW ?_) | ((with_reducible apply kP (.alloc _)); refine sA (fun b => ?_)) | ((with_reducible apply kP (.buildSlice _ 1 _)); first | refine sl1A (fun b => ?_) | refine sl1 (fun b => ?_)) | ((with_reducible apply kP (.call ⟨.builtin .append, _, _⟩)); refine sAp (fun oa2 c2 blk2 hrow2 => ?_)) | ((with_reducible apply kP _); refine sP ?_) | ((with_reducible apply kP _); refine sX ?_) | ((with_reducible apply kC); first | refine cT ?_ | refine cF ?_ | (refine cI (fun h => ?_) (fun h => ?_) <;> (try (exfalso; omega))) | refine cB (fun h => ?_) (fun h => ?_)) | ((with_reducible apply kDN); first | refine dtI ?_ | refine dt1 ?_ | refine dtW ?_) | ((with_reducible apply kDP (.buildSlice _ 1 _)); first | refine dl1A (fun b => ?_) | refine dl1 (fun b => ?_)) | ((with_reducible apply kDP (.call ⟨.builtin .append, _, _⟩)); first | refine dAp3 (fun oa2 c2 blk2 hrow2 => ?_) (hS := SCt) | refine dAp4 (fun oa2 c2 blk2 hrow2 => ?_)) | ((with_reducible apply kDP _); refine dP ?_) | ((with_reducible apply kDP _); refine dX ?_))
            all_goals try (exfalso; omega)
            exact e_ret0 (hs' := BB) rfl ⟨rfl, rs, oP, cP, bo, oS, cS, ko, M, hBB.symm⟩ (sbA (sbA (.refl _)))
        · rw [if_neg (fun h => hS h.1)]
          repeat' (first | ((with_reducible apply kP (.load 9 _)); refine sP ?_ (o_load rfl (ld_one (shTOf rfl) (hcW0 _ SBt)))) | ((with_reducible apply kDP (.load 9 _)); refine dP ?_ (hX := rfl) (hv := o_load rfl (ld_one (shTOf rfl) (hcW0 _ SBt)))) | ((with_reducible apply kQO (.load 9 _)); refine qP ?_ (o_load rfl (ld_one (shTOf rfl) (hcW0 _ SBt)))) | ((with_reducible apply kP (.indexAddr 93 _ _)); refine sP ?_ (o_indexS (scTOf rfl) rfl rfl rfl (aa0 _) iW0 (by simp))) | ((with_reducible apply kDP (.indexAddr 93 _ _)); refine dP ?_ (hX := rfl) (hv := o_indexS (scTOf rfl) rfl rfl rfl (aa0 _) iW0 (by simp))) | ((with_reducible apply kQO (.indexAddr 93 _ _)); refine qP ?_ (o_indexS (scTOf rfl) rfl rfl rfl (aa0 _) iW0 (by simp))) | ((with_reducible apply kP (.binOp .eql 9 _ _ _)); refine sP ?_ (o_sEqlF (b := sEase) hE rfl rfl)) | ((with_reducible apply kDP (.binOp .eql 9 _ _ _)); refine dP ?_ (hX := rfl) (hv := o_sEqlF (b := sEase) hE rfl rfl)) | ((with_reducible apply kQO (.binOp .eql 9 _ _ _)); refine qP ?_ (o_sEqlF (b := sEase) hE rfl rfl)) | ((with_reducible apply kP (.binOp .eql 9 _ _ _)); refine sP ?_ (o_sEqlF (b := sPiece) hP rfl rfl)) | ((with_reducible apply kDP (.binOp .eql 9 _ _ _)); refine dP ?_ (hX := rfl) (hv := o_sEqlF (b := sPiece) hP rfl rfl)) | ((with_reducible apply kQO (.binOp .eql 9 _ _ _)); refine qP ?_ (o_sEqlF (b := sPiece) hP rfl rfl)) | ((with_reducible apply kP (.binOp .eql 9 _ _ _)); refine sP ?_ (o_sEqlF (b := sSeam) hS rfl rfl)) | ((with_reducible apply kDP (.binOp .eql 9 _ _ _)); refine dP ?_ (hX := rfl) (hv := o_sEqlF (b := sSeam) hS rfl rfl)) | ((with_reducible apply kQO (.binOp .eql 9 _ _ _)); refine qP ?_ (o_sEqlF (b := sSeam) hS rfl rfl)) | ((with_reducible apply kN); refine stW ?_ (hf := flat_cons rfl (flat2 rfl rfl))) | ((with_reducible apply kRg 16); refine cD [1, 1, 1, 1, 1, 1, 2, 4, 1, 4] ?_) | ((with_reducible apply kRg 17); refine cD [1, 1, 1, 1, 1, 1, 1, 2, 4, 1, 4] ?_) | ((with_reducible apply kRg 18); refine cD [0, 1, 1, 1, 1, 1, 2, 3, 1, 1, 4] ?_) | ((with_reducible apply kRg 20); refine cD [0, 1, 1, 1, 1, 1, 1, 1, 1, 1, 1, 1, 1, 1, 1, 1, 1, 1, 2, 3, 1, 1, 4] ?_) | (with_reducible first | refine c_seq ?_ | refine c_reg ?_ | refine c_region ?_ | refine c_block ?_ | refine c_skip ?_ | refine c_exit ?_ | refine c_ret ?_ | refine s_nil ?_ | refine x_then ?_ | refine x_then_exit ?_ | refine x_then_ret ?_ | refine x_block ?_ | refine x_block_ret ?_ | refine x_block_same ?_ | refine x_block_other (by first | rfl | decide) ?_ | refine q_nil ?_ | refine k_nil ?_) | ((with_reducible apply kG); first | refine gY1 ?_ | refine gN1 ?_ | refine gU1 ?_ | (refine gD1 (fun h => ?_) (fun h => ?_) <;> (try (exfalso; omega))) | refine gB1 (fun h => ?_) (fun h => ?_)) | ((with_reducible apply kN); first | refine stP ?_ | refine stI ?_ | refine st1 ?_ | refine stW ?_) | ((with_reducible apply kP (.alloc _)); refine sA (fun b => ?_)) | ((with_reducible apply kP (.buildSlice _ 1 _)); first | refine sl1A (fun b => ?_) | refine sl1 (fun b => ?_)) | ((with_reducible apply kP (.call ⟨.builtin .append, _, _⟩)); refine sAp (fun oa2 c2 blk2 hrow2 => ?_)) | ((with_reducible apply kP _); refine sP ?_) | ((with_reducible apply kP _); refine sX ?_) | ((with_reducible apply kC); first | refine cT ?_ | refine cF ?_ | (refine cI (fun h => ?_) (fun h => ?_) <;> (try (exfalso; omega))) | refine cB (fun h => ?_) (fun h => ?_)) | ((with_reducible apply kDN); first | refine dtI ?_ | refine dt1 ?_ | refine dtW ?_) | ((with_reducible apply kDP (.buildSlice _ 1 _)); first | refine dl1A (fun b => ?_) | refine dl1 (fun b => ?_)) | ((with_reducible apply kDP (.call ⟨.builtin .append, _, _⟩)); first | refine dAp3 (fun oa2 c2 blk2 hrow2 => ?_) (hS := SCt) | refine dAp4 (fun oa2 c2 blk2 hrow2 => ?_)) | ((with_reducible apply kDP _); refine dP ?_) | ((with_reducible apply kDP _); refine dX ?_))
          all_goals try (exfalso; omega)
          exact e_ret0 (hs' := BB) rfl ⟨rfl, rs, oP, cP, bo, oS, cS, ko, M, hBB.symm⟩ (sbA (sbA (.refl _)))
end Go.Proofs.YtnbickholedckaaGreatDoor
namespace Go.Proofs.YtnbickholedckaaGreatDoor
open Go.RowKit
/-- What yields all of xs, one after another; its block bs holds at first x0, and what it writes there. -/
def IterU (P : Program) (g : Nat) (cap : List Value) (B : Nat) (xs : List Value) (RD : Wd → HS → Prop) (bs : Nat) (x0 : Value) : Prop :=
  ∀ (ι : Type) (W : ι → Wd) (H : ι → HS) (C : Value → Nat → ι → Prop) (l : Nat), (∀ y k i, C y k i → (bs, [y]) ∈ H i ∧ RD (W i) (H i)) →
    (∀ y k i, C y k i → ∀ y', ∃ i', C y' k i' ∧ W i' = W i ∧ Upd bs [y] [y'] (H i) (H i')) →
    (∀ y k i x, xs[k]? = some x → C y k i → ∀ w, Hp B (W i) w (H i) → ∃ fn tmps assign body, (Instr.yield l #[x]).run P w = .ok (.round l fn tmps assign body) w ∧
      RoundIn Fence.wide 0 P l fn tmps assign body w (fun e w' => e = .returned (.bool true) ∧ ∃ j, C y (k + 1) j ∧ Hp B (W j) w' (H j))) →
    ∀ i w, C x0 0 i → Hp B (W i) w (H i) → Calls P g ((.func (.yield l) #[] #[] :: cap).toArray) w (fun e w' => (∃ v, e = .returned v) ∧ ∃ y j, C y xs.length j ∧ Hp B (W j) w' (H j))
section
variable {P : Program} {n : NN} {B : Nat} {w0 : Wd} {fr fr' : FR} {hs hs' : HS} {K K' : Act → World → Prop} {Q Q' : Exit → Act → World → Prop} {ro : Option Nat}
theorem g_rangeU {p g : Nat} {f : Operand} {cap xs : List Value} {assign body : Code} {RD : Wd → HS → Prop} (hf : opv fr f = some (.func (.func g) #[] cap.toArray)) (hg : isGo P g = true) {bs : Nat} {x0 : Value} (hit : IterU P g cap B xs RD bs x0) (hp : p < n.n)
    {ι : Type} (W : ι → Wd) (H : ι → HS) (C : Value → Nat → ι → Prop) (F1 : Value → FR) (i0 : ι) (h0 : C x0 0 i0) (hb : (W i0).le w0) (hH : (H i0).Sublist hs)
    (hRD : ∀ y k i, C y k i → (bs, [y]) ∈ H i ∧ ∀ W', (W i).le W' → RD W' (H i)) (hU : ∀ y k i, C y k i → ∀ y', ∃ i', C y' k i' ∧ W i' = W i ∧ Upd bs [y] [y'] (H i) (H i'))
    (hassign : ∀ y k i x, xs[k]? = some x → C y k i → ∀ l D o, Sat ⟨n.n, []⟩ B ⟨(W i).w, (l, o) :: (D, .deferred (some [])) :: (W i).ms⟩ (assign.wpIn (rF (some l)) 0 P (onlyN fun a w => Fr ⟨n.n, []⟩ a (F1 x) ∧ Hp B ⟨(W i).w, (l, o) :: (D, .deferred (some [])) :: (W i).ms⟩ w (H i))) ((p, x) :: fr) (H i))
    (hbody : ∀ y k i x, xs[k]? = some x → C y k i → ∀ l D o, Sat ⟨n.n, []⟩ B ⟨(W i).w, (l, o) :: (D, .deferred (some [])) :: (W i).ms⟩ (body.wpIn (rF (some l)) 0 P (onlyN fun _ w => ∃ j, C y (k + 1) j ∧ Hp B ⟨(W j).w, (l, o) :: (D, .deferred (some [])) :: (W j).ms⟩ w (H j))) (F1 x) (H i))
    (done : ∀ y j, C y xs.length j → ∀ D, Sat ⟨n.n, mkD D :: n.ds⟩ B ⟨(W j).w, (D, .deferred (some [])) :: (W j).ms⟩ (Q .normal) fr (H j)) :
    Sat n B w0 ((Code.rangeFunc f #[p] assign body).wpIn (rF none) 0 P Q) fr hs := sat_mk fun a w ha hw => by
  refine wpIn_rangeFunc fun fn hfn => ?_
  obtain ⟨rec, hrec⟩ : ∃ rec : LoopState → Loop, rec = fun st => { state := st, pending := none, fn, tmps := a.tmps, params := #[p], assign, body, defers := w.heap.size } := ⟨_, rfl⟩
  have hw0 : Hp B (W i0) w (H i0) := (hw.sub hH).base hb
  have hw1 := (hw0.newObj (o := .deferred (some [])) rfl).newObj (o := .loop (rec .ready)) rfl
  rw [World.size_alloc] at hw1
  obtain ⟨W1, hW1⟩ : ∃ W1, (w.alloc (.deferred (some []))).alloc (.loop (rec .ready)) = W1 := ⟨_, rfl⟩
  rw [hW1] at hw1
  refine ⟨w.heap.size + 1, [mkD w.heap.size], W1, { target := .fn (.func g) cap.toArray, args := #[.func (.yield (w.heap.size + 1)) #[] #[]] }, W1, g, (.func (.yield (w.heap.size + 1)) #[] #[] :: cap).toArray, W1, by rw [← hW1, hrec]; exact run_enterLoop_outer _ _ _ _ _, ?_, fun _ _ => trivial, ?_, rF_dep, rF_calls _ ?_⟩
  · simp only [resolve, ha.opv hf]
    simp [go_sem]
  · simp [invoke, go_sem, run_callFn hg]
  · have hback : ∀ (j : ι) (w' : World) (o o' : Obj) (h : HS), notCells o' = true → Hp B ⟨(W j).w, (w.heap.size + 1, o) :: (w.heap.size, .deferred (some [])) :: (W j).ms⟩ w' h →
        w'.heap[w.heap.size + 1]? = some o ∧ Hp B ⟨(W j).w, (w.heap.size + 1, o') :: (w.heap.size, .deferred (some [])) :: (W j).ms⟩ (w'.putObj (w.heap.size + 1) o') h := fun j w' o o' h hn hh =>
      ⟨(hh.obj _ (.head _)).2.1, hh.setObj (w0 := ⟨(W j).w, (w.heap.size + 1, o) :: (w.heap.size, .deferred (some [])) :: (W j).ms⟩) (.head _) hn⟩
    refine (hit ι (fun i => ⟨(W i).w, (w.heap.size + 1, .loop (rec .ready)) :: (w.heap.size, .deferred (some [])) :: (W i).ms⟩) H C (w.heap.size + 1) (fun y k i hc => ⟨(hRD y k i hc).1, (hRD y k i hc).2 _ ⟨rfl, .cons _ (.cons _ (List.Sublist.refl _))⟩⟩) (fun y k i hc y' => by obtain ⟨i', h1, h2, h3⟩ := hU y k i hc y'; exact ⟨i', h1, by simp only [h2], h3⟩) ?_ i0 _ h0 hw1).mono ?_
    · intro y k i x hx hc w2 hw2
      obtain ⟨hl2, hw3⟩ := hback i w2 _ (.loop { rec .ready with state := .busy }) _ rfl hw2
      have hy := run_yield (P := P) (args := #[x]) hl2 (by rw [hrec]; rfl)
      refine ⟨_, _, _, _, hy, ?_⟩
      have hF : Fr ⟨n.n, []⟩ ⟨(((rec .ready).params.zip #[x]).foldl (fun tmps (t, a) => tmps.setIfInBounds t a) (rec .ready).tmps), []⟩ ((p, x) :: fr) := by
        have h1 : Fr ⟨n.n, []⟩ ⟨a.tmps, []⟩ fr := ⟨ha.size, rfl, ha.get⟩
        have h2 := h1.put (d := p) hp x
        rw [hrec]
        simpa [Act.put] using h2
      refine roundIn_of_wpIn (F := Fence.wide) trivial ?_
      have hA := sat_el (hassign y k i x hx hc (w.heap.size + 1) w.heap.size (.loop (rec .ready))) _ w2 hF hw2
      have hrb : (rec .ready).body = body ∧ (rec .ready).assign = assign := by rw [hrec]; exact ⟨rfl, rfl⟩
      rw [hrb.1, hrb.2]
      refine wpIn_mono hA (fun e a1 w4 h4 => ?_)
      cases e with
      | normal =>
        obtain ⟨hF1, hw4⟩ := h4
        obtain ⟨hl4, hw5⟩ := hback i w4 _ (.loop { rec .ready with state := .busy }) _ rfl hw4
        refine ⟨_, run_beginRound hl4 (by rw [hrec]), ?_⟩
        refine wpIn_mono (sat_el (hbody y k i x hx hc (w.heap.size + 1) w.heap.size _) _ _ hF1 hw5) (fun e a2 w6 h6 => ?_)
        cases e with
        | normal =>
          obtain ⟨j, hcj, hw6⟩ := h6
          obtain ⟨hl6, hw7⟩ := hback j w6 _ (.loop { rec .ready with state := .ready, pending := none }) _ rfl hw6
          refine ⟨_, _, run_endRound none hl6, rfl, j, hcj, ?_⟩
          have : ({ ({ rec .ready with state := .busy } : Loop) with state := if (none : Option Code).isNone then .ready else .done, pending := none } : Loop) = rec .ready := by rw [hrec]; rfl
          rw [this]
          have h8 : ({ rec .ready with state := .ready, pending := none } : Loop) = rec .ready := by rw [hrec]
          rw [h8] at hw7
          exact hw7
        | exit id => exact h6.elim
        | goto t => exact h6.elim
        | ret => exact h6.elim
        | panic ch => exact h6.elim
        | outgrown => exact h6.elim
      | exit id => exact h4.elim
      | goto t => exact h4.elim
      | ret => exact h4.elim
      | panic ch => exact h4.elim
      | outgrown => exact h4.elim
    · rintro e w2 ⟨⟨v, rfl⟩, y, j, hcj, hw2⟩
      obtain ⟨hl2, hw3⟩ := hback j w2 _ (.loop { rec .ready with state := .exhausted }) _ rfl hw2
      refine ⟨none, w2.putObj (w.heap.size + 1) (.loop { rec .ready with state := .exhausted }), ?_, ?_⟩
      · have := run_endLoop (P := P) hl2 (by rw [hrec]; simp)
        rw [this]
        congr 1
        rw [hrec]
      · refine sat_el (done y j hcj w.heap.size) _ _ ⟨ha.size, ?_, ha.get⟩ (by refine Hp.base ?_ hw3; exact ⟨rfl, .cons _ (List.Sublist.refl _)⟩)
        show [mkD w.heap.size] ++ a.defers = _
        rw [ha.defers]; rfl
end
end Go.Proofs.YtnbickholedckaaGreatDoor
namespace Go.Proofs.YtnbickholedckaaGreatDoor
open Go.RowKit Go.Shelf
section
variable {P : Program} {n : NN} {B : Nat} {w0 : Wd} {fr : FR} {hs : HS} {ty : TypeId}
theorem o_sSubR {t : TypeId} {x hi : Operand} {a : List UInt8} {j : Nat} {i : Int} (ht : P.underlying t = some .string) (hx : opv fr x = some (sv a)) (hl : opv fr hi = some (.int .i64 i)) (hj : i = (j : Int)) (h1 : j ≤ a.length) :
    OpF P n B w0 (.slice t x none (some hi) none) ty fr hs (sv (a.take j)) := fun ac w ha _ => by
  unfold sv at hx
  have hb : (Instr.sliceBounds false a.length a.length none (some (.int .i64 i)) none).run P w = .ok (0, j, a.length) w := by
    simp [Instr.sliceBounds, run_slb _ hj h1]
  simp [ex, execOp, Instr.sliceAt, Instr.slice, ha.opv hx, ha.opv hl, underlying, ht, ba_size, hb, ba_extract, sv, -ByteArray.size_data]
end
theorem x_Index {B : Nat} {w0 : Wd} (hT : TxW B w0) (l s : List UInt8) (hl : l.length ≤ 1000000) (hs : HS) : Fn Tryz.prog 56 #[sv l, sv s] B w0 hs (fun v h => v = iv (Go.Lib.index l s) ∧ h = hs) := fn_mk fun w hw => by
  obtain ⟨m, hm⟩ := hT.ml
  have h := Any.strings_Index { Tryz.laysM143 with } ⟨l.toArray⟩ ⟨s.toArray⟩ m w (by rw [ba_size]; omega) (hw.cellB hT.nB.1 hm)
  refine h.mono ?_
  rintro e w' ⟨rfl, rfl⟩
  exact ⟨_, _, rfl, ⟨by simp [iv], rfl⟩, hw⟩
end Go.Proofs.YtnbickholedckaaGreatDoor
namespace Go.Proofs.YtnbickholedckaaGreatDoor
open Go.RowKit
attribute [local irreducible] OpF Ld CellAt Sl Sv pcA
set_option maxRecDepth 100000 in
set_option maxHeartbeats 8000000 in
theorem k_split (t : List UInt8) (ht : t.length ≤ 100000) (B b1 b2 b3 : Nat) :
    IterU Tryz.prog 54 [.pointer (some ⟨b1, 0, none⟩), .pointer (some ⟨b2, 0, none⟩), .pointer (some ⟨b3, 0, none⟩)] B (svs (wds 10 t))
      (fun W h => TxW B W ∧ (b1, [sv [10]]) ∈ h ∧ (b3, [iv 0]) ∈ h) b2 (sv t) := by
  intro ι W H C ly hRD hU hY i0 w1 h0 hw1
  obtain ⟨hm20, hT0, hm10, hm30⟩ := hRD _ 0 i0 h0
  refine calls_enterG Tryz.func54 rfl Tryz.ntmps54 (by simp) (hw1) ?_
  repeat' (first | (with_reducible first | refine g_seq ?_ | refine g_block ?_ | refine g_skip ?_ | refine g_exit ?_ | refine g_ret ?_ | refine si_nil ?_) | ((with_reducible apply gCI); first | refine gT ?_ | refine gF ?_ | (refine gI (fun h => ?_) (fun h => ?_) <;> (try (exfalso; omega))) | refine gBB (fun h => ?_) (fun h => ?_)) | ((with_reducible apply gRI); refine g_quiet mixed (by kernel_rfl) (by rfl) ?_) | (refine g_region ?_) | ((with_reducible apply kYo _); refine si_one rfl ?_) | ((with_reducible apply kP (.load 9 (.tmp 1))); refine sP ?_ (o_load rfl (ld_one (shTOf rfl) (own hm10 rfl)))) | ((with_reducible apply kP (.call ⟨.builtin .len, _, _⟩)); refine sP ?_ (o_sLen uStr rfl)) | ((with_reducible apply kDP (.call ⟨.builtin .len, _, _⟩)); refine dP ?_ (hX := rfl) (hv := o_sLen uStr rfl)) | ((with_reducible apply kQO (.call ⟨.builtin .len, _, _⟩)); refine qP ?_ (o_sLen uStr rfl)) | (with_reducible first | refine c_seq ?_ | refine c_reg ?_ | refine c_region ?_ | refine c_block ?_ | refine c_skip ?_ | refine c_exit ?_ | refine c_ret ?_ | refine s_nil ?_ | refine x_then ?_ | refine x_then_exit ?_ | refine x_then_ret ?_ | refine x_block ?_ | refine x_block_ret ?_ | refine x_block_same ?_ | refine x_block_other (by first | rfl | decide) ?_ | refine q_nil ?_ | refine k_nil ?_) | ((with_reducible apply kN); first | refine stP ?_ | refine stI ?_ | refine st1 ?_ | refine stW ?_) | ((with_reducible apply kP _); refine sP ?_) | ((with_reducible apply kP _); refine sX ?_) | ((with_reducible apply kC); first | refine cT ?_ | refine cF ?_ | (refine cI (fun h => ?_) (fun h => ?_) <;> (try (exfalso; omega))) | refine cB (fun h => ?_) (fun h => ?_)))
  refine g_loop (ι := Nat × List UInt8 × ι) (fun _ => []) (fun s => W s.2.2) (fun s => [(0, .func (.yield ly) #[] #[]), (1, .pointer (some ⟨b1, 0, none⟩)), (2, .pointer (some ⟨b2, 0, none⟩)), (3, .pointer (some ⟨b3, 0, none⟩))]) (fun s => H s.2.2) (fun s => s.2.1.length ≤ 100000 ∧ (wds 10 t).drop s.1 = wds 10 s.2.1 ∧ C (sv s.2.1) s.1 s.2.2) (fun s => s.2.1.length) (0, t, i0) ⟨ht, rfl, h0⟩ rfl (.refl _) (by repeat' first | trivial | rfl | apply And.intro) (.refl _) ?_
  rintro ⟨k, rest, i⟩ ⟨hl, hd, hCk⟩
  dsimp only at hl hd hCk ⊢
  obtain ⟨hm2, hT, hm1, hm3⟩ := hRD _ k i hCk
  have ki := fun hs' => x_Index hT rest [10] (by omega) hs'
  by_cases hc : (10 : UInt8) ∈ rest
  · obtain ⟨w, r, rfl, hw⟩ := cut_at 10 hc
    rw [index_one 10 r hw] at ki
    rw [wds_app r hw] at hd
    have hk1 : k < (wds 10 t).length := by
      refine Nat.lt_of_not_le fun h => ?_
      rw [List.drop_of_length_le h] at hd; cases hd
    have hx : (svs (wds 10 t))[k]? = some (sv w) := by
      have h2 : (wds 10 t)[k]? = some w := by rw [← List.head?_drop, hd]; rfl
      unfold svs
      rw [List.getElem?_map, h2]
      rfl
    have hd2 : (wds 10 t).drop (k + 1) = wds 10 r := by rw [← List.drop_drop, hd]; rfl
    have hwl : (w ++ 10 :: r).length = w.length + (r.length + 1) := by rw [List.length_append, List.length_cons]
    have htk : (w ++ 10 :: r).take w.length = w := List.take_left
    have hdr : (w ++ 10 :: r).drop (w.length + 1) = r := by rw [← List.drop_drop, List.drop_left]; rfl
    repeat' (first | ((with_reducible apply kGR 8); refine g_regY ?_) | ((with_reducible apply kYc 39); refine si_yield (W := W) (H := H) (C := C (sv (w ++ 10 :: r)) (k + 1)) rfl rfl (by decide) (hY _ k i _ hx hCk) (fun i2 hC2 => ?_)) | (with_reducible first | refine g_seq ?_ | refine g_block ?_ | refine g_skip ?_ | refine g_exit ?_ | refine g_ret ?_ | refine si_nil ?_) | ((with_reducible apply gCI); first | refine gT ?_ | refine gF ?_ | (refine gI (fun h => ?_) (fun h => ?_) <;> (try (exfalso; omega))) | refine gBB (fun h => ?_) (fun h => ?_)) | ((with_reducible apply gRI); refine g_quiet mixed (by kernel_rfl) (by rfl) ?_) | (refine g_region ?_) | ((with_reducible apply kYo _); refine si_one rfl ?_) | ((with_reducible apply kP (.load 9 (.tmp 1))); refine sP ?_ (o_load rfl (ld_one (shTOf rfl) (own hm1 rfl)))) | ((with_reducible apply kP (.load 9 (.tmp 2))); refine sP ?_ (o_load rfl (ld_one (shTOf rfl) (own hm2 rfl)))) | ((with_reducible apply kP (.load 3 (.tmp 3))); refine sP ?_ (o_load rfl (ld_one (shTOf rfl) (own hm3 rfl)))) | ((with_reducible apply kF 56); refine sC 56 (ki _) ?_) | ((with_reducible apply kP (.slice 9 _ none (some _) none)); refine sP ?_ ((htk ▸ o_sSubR uStr rfl rfl (j := w.length) (by simp) (by omega)))) | ((with_reducible apply kDP (.slice 9 _ none (some _) none)); refine dP ?_ (hX := rfl) (hv := (htk ▸ o_sSubR uStr rfl rfl (j := w.length) (by simp) (by omega)))) | ((with_reducible apply kQO (.slice 9 _ none (some _) none)); refine qP ?_ ((htk ▸ o_sSubR uStr rfl rfl (j := w.length) (by simp) (by omega)))) | (with_reducible first | refine c_seq ?_ | refine c_reg ?_ | refine c_region ?_ | refine c_block ?_ | refine c_skip ?_ | refine c_exit ?_ | refine c_ret ?_ | refine s_nil ?_ | refine x_then ?_ | refine x_then_exit ?_ | refine x_then_ret ?_ | refine x_block ?_ | refine x_block_ret ?_ | refine x_block_same ?_ | refine x_block_other (by first | rfl | decide) ?_ | refine q_nil ?_ | refine k_nil ?_) | ((with_reducible apply kN); first | refine stP ?_ | refine stI ?_ | refine st1 ?_ | refine stW ?_) | ((with_reducible apply kP _); refine sP ?_) | ((with_reducible apply kP _); refine sX ?_) | ((with_reducible apply kC); first | refine cT ?_ | refine cF ?_ | (refine cI (fun h => ?_) (fun h => ?_) <;> (try (exfalso; omega))) | refine cB (fun h => ?_) (fun h => ?_)))
    all_goals try (exfalso; omega)
    obtain ⟨hm2', hT', hm1', hm3'⟩ := hRD _ (k + 1) i2 hC2
    obtain ⟨i3, hC3, hW3, hu3⟩ := hU _ (k + 1) i2 hC2 (sv r)
    repeat' (first | ((with_reducible apply kP (.load 9 (.tmp 1))); refine sP ?_ (o_load rfl (ld_one (shTOf rfl) (own hm1' rfl)))) | ((with_reducible apply kP (.load 9 (.tmp 2))); refine sP ?_ (o_load rfl (ld_one (shTOf rfl) (own hm2' rfl)))) | ((with_reducible apply kP (.binOp .add 3 _ _ _)); refine sP ?_ (o_add rfl rfl (by constructor <;> (simp only [List.length_cons, List.length_nil]; omega)))) | ((with_reducible apply kDP (.binOp .add 3 _ _ _)); refine dP ?_ (hX := rfl) (hv := o_add rfl rfl (by constructor <;> (simp only [List.length_cons, List.length_nil]; omega)))) | ((with_reducible apply kQO (.binOp .add 3 _ _ _)); refine qP ?_ (o_add rfl rfl (by constructor <;> (simp only [List.length_cons, List.length_nil]; omega)))) | ((with_reducible apply kP (.call ⟨.builtin .len, _, _⟩)); refine sP ?_ (o_sLen uStr rfl)) | ((with_reducible apply kDP (.call ⟨.builtin .len, _, _⟩)); refine dP ?_ (hX := rfl) (hv := o_sLen uStr rfl)) | ((with_reducible apply kQO (.call ⟨.builtin .len, _, _⟩)); refine qP ?_ (o_sLen uStr rfl)) | ((with_reducible apply kP (.slice 9 _ (some _) none none)); refine sP ?_ ((hdr ▸ o_sSubL uStr rfl rfl (j := w.length + 1) (by simp) (by omega)))) | ((with_reducible apply kDP (.slice 9 _ (some _) none none)); refine dP ?_ (hX := rfl) (hv := (hdr ▸ o_sSubL uStr rfl rfl (j := w.length + 1) (by simp) (by omega)))) | ((with_reducible apply kQO (.slice 9 _ (some _) none none)); refine qP ?_ ((hdr ▸ o_sSubL uStr rfl rfl (j := w.length + 1) (by simp) (by omega)))) | ((with_reducible apply kN); refine s_store (bb := false) (k := 1) rfl rfl (shTOf rfl) rfl (flat1 rfl) (by simp) hu3 rfl ?_) | (with_reducible first | refine g_seq ?_ | refine g_block ?_ | refine g_skip ?_ | refine g_exit ?_ | refine g_ret ?_ | refine si_nil ?_) | ((with_reducible apply gCI); first | refine gT ?_ | refine gF ?_ | (refine gI (fun h => ?_) (fun h => ?_) <;> (try (exfalso; omega))) | refine gBB (fun h => ?_) (fun h => ?_)) | ((with_reducible apply gRI); refine g_quiet mixed (by kernel_rfl) (by rfl) ?_) | (refine g_region ?_) | ((with_reducible apply kYo _); refine si_one rfl ?_) | (with_reducible first | refine c_seq ?_ | refine c_reg ?_ | refine c_region ?_ | refine c_block ?_ | refine c_skip ?_ | refine c_exit ?_ | refine c_ret ?_ | refine s_nil ?_ | refine x_then ?_ | refine x_then_exit ?_ | refine x_then_ret ?_ | refine x_block ?_ | refine x_block_ret ?_ | refine x_block_same ?_ | refine x_block_other (by first | rfl | decide) ?_ | refine q_nil ?_ | refine k_nil ?_) | ((with_reducible apply kN); first | refine stP ?_ | refine stI ?_ | refine st1 ?_ | refine stW ?_) | ((with_reducible apply kP _); refine sP ?_) | ((with_reducible apply kP _); refine sX ?_) | ((with_reducible apply kC); first | refine cT ?_ | refine cF ?_ | (refine cI (fun h => ?_) (fun h => ?_) <;> (try (exfalso; omega))) | refine cB (fun h => ?_) (fun h => ?_)))
    all_goals try (exfalso; omega)
    exact g_end (k + 1, r, i3) ⟨by dsimp only; omega, hd2, hC3⟩ (by dsimp only; omega) rfl (by dsimp only; rw [hW3]; exact Wd.le.refl _) (by repeat' first | trivial | rfl | apply And.intro) (.refl _)
  · rw [index_no hc] at ki
    rw [wds_no hc] at hd
    have hk1 : k + 1 = (wds 10 t).length := by
      have := congrArg List.length hd
      rw [List.length_drop, List.length_singleton] at this
      omega
    have hx : (svs (wds 10 t))[k]? = some (sv rest) := by
      have h2 : (wds 10 t)[k]? = some rest := by rw [← List.head?_drop, hd]; rfl
      unfold svs
      rw [List.getElem?_map, h2]
      rfl
    repeat' (first | (refine g_regY ?_) | ((with_reducible apply kYc 49); refine si_yield (W := W) (H := H) (C := C (sv rest) (k + 1)) rfl rfl (by decide) (hY _ k i _ hx hCk) (fun i2 hC2 => ?_)) | (with_reducible first | refine g_seq ?_ | refine g_block ?_ | refine g_skip ?_ | refine g_exit ?_ | refine g_ret ?_ | refine si_nil ?_) | ((with_reducible apply gCI); first | refine gT ?_ | refine gF ?_ | (refine gI (fun h => ?_) (fun h => ?_) <;> (try (exfalso; omega))) | refine gBB (fun h => ?_) (fun h => ?_)) | ((with_reducible apply gRI); refine g_quiet mixed (by kernel_rfl) (by rfl) ?_) | (refine g_region ?_) | ((with_reducible apply kYo _); refine si_one rfl ?_) | ((with_reducible apply kP (.load 9 (.tmp 1))); refine sP ?_ (o_load rfl (ld_one (shTOf rfl) (own hm1 rfl)))) | ((with_reducible apply kP (.load 9 (.tmp 2))); refine sP ?_ (o_load rfl (ld_one (shTOf rfl) (own hm2 rfl)))) | ((with_reducible apply kF 56); refine sC 56 (ki _) ?_) | (with_reducible first | refine c_seq ?_ | refine c_reg ?_ | refine c_region ?_ | refine c_block ?_ | refine c_skip ?_ | refine c_exit ?_ | refine c_ret ?_ | refine s_nil ?_ | refine x_then ?_ | refine x_then_exit ?_ | refine x_then_ret ?_ | refine x_block ?_ | refine x_block_ret ?_ | refine x_block_same ?_ | refine x_block_other (by first | rfl | decide) ?_ | refine q_nil ?_ | refine k_nil ?_) | ((with_reducible apply kN); first | refine stP ?_ | refine stI ?_ | refine st1 ?_ | refine stW ?_) | ((with_reducible apply kP _); refine sP ?_) | ((with_reducible apply kP _); refine sX ?_) | ((with_reducible apply kC); first | refine cT ?_ | refine cF ?_ | (refine cI (fun h => ?_) (fun h => ?_) <;> (try (exfalso; omega))) | refine cB (fun h => ?_) (fun h => ?_)))
    all_goals try (exfalso; omega)
    have hC3 : C (sv rest) (svs (wds 10 t)).length i2 := by rw [svs_length, ← hk1]; exact hC2
    first | exact e_retY rfl (fun w hw' => ⟨⟨_, rfl⟩, _, i2, hC3, hw'⟩) | exact e_retYn rfl (fun w hw' => ⟨⟨_, rfl⟩, _, i2, hC3, hw'⟩) | trace_state
end Go.Proofs.YtnbickholedckaaGreatDoor
namespace Go.Proofs.YtnbickholedckaaGreatDoor
open Go.RowKit
attribute [local irreducible] OpF Ld CellAt Sl Sv pcA
set_option maxRecDepth 100000 in
set_option maxHeartbeats 8000000 in
theorem x_splitSeq (l s : List UInt8) (B : Nat) (w0 : Wd) (hs : HS) :
    Fn Tryz.prog 39 #[sv l, sv s, iv 0] B w0 hs (fun v h => ∃ blk, (∃ b1 b2 b3, v = .func (.func 54) #[] #[.pointer (some ⟨b1, 0, none⟩), .pointer (some ⟨b2, 0, none⟩), .pointer (some ⟨b3, 0, none⟩)] ∧ blk = [(b3, [iv 0]), (b1, [sv s]), (b2, [sv l])]) ∧ h = blk ++ hs) := by
  refine fn_enter Tryz.func39 rfl Tryz.ntmps39 (by simp) ?_
  repeat' (first | ((with_reducible apply kP (.box 9 (.tmp 0))); refine sB (fun b2 => ?_)) | ((with_reducible apply kP (.box 9 (.tmp 1))); refine sB (fun b1 => ?_)) | ((with_reducible apply kP (.box 3 _)); refine sB (fun b3 => ?_)) | (with_reducible first | refine c_seq ?_ | refine c_reg ?_ | refine c_region ?_ | refine c_block ?_ | refine c_skip ?_ | refine c_exit ?_ | refine c_ret ?_ | refine s_nil ?_ | refine x_then ?_ | refine x_then_exit ?_ | refine x_then_ret ?_ | refine x_block ?_ | refine x_block_ret ?_ | refine x_block_same ?_ | refine x_block_other (by first | rfl | decide) ?_ | refine q_nil ?_ | refine k_nil ?_) | ((with_reducible apply kP (.makeFunc _ _ _)); refine sMF ?_) | ((with_reducible apply kP (.box _ _)); first | refine sBA (fun b => ?_) | refine sB (fun b => ?_)) | ((with_reducible apply kP _); refine sP ?_) | ((with_reducible apply kP _); refine sX ?_) | ((with_reducible apply kC); first | refine cT ?_ | refine cF ?_ | (refine cI (fun h => ?_) (fun h => ?_) <;> (try (exfalso; omega))) | refine cB (fun h => ?_) (fun h => ?_)))
  exact e_ret1 (hs' := (b3, [iv 0]) :: (b1, [sv s]) :: (b2, [sv l]) :: hs) rfl rfl ⟨_, ⟨b1, b2, b3, rfl, rfl⟩, rfl⟩ (.refl _)
set_option maxRecDepth 100000 in
set_option maxHeartbeats 8000000 in
theorem x_SplitSeq (l s : List UInt8) (B : Nat) (w0 : Wd) (hs : HS) :
    Fn Tryz.prog 22 #[sv l, sv s] B w0 hs (fun v h => ∃ blk, (∃ b1 b2 b3, v = .func (.func 54) #[] #[.pointer (some ⟨b1, 0, none⟩), .pointer (some ⟨b2, 0, none⟩), .pointer (some ⟨b3, 0, none⟩)] ∧ blk = [(b3, [iv 0]), (b1, [sv s]), (b2, [sv l])]) ∧ h = blk ++ hs) := by
  refine fn_enter Tryz.func22 rfl Tryz.ntmps22 (by simp) ?_
  repeat' (first | ((with_reducible apply kF 39); refine sR 39 (x_splitSeq l s B w0 _) ?_; rintro v1 h1 ⟨blk, ⟨b1, b2, b3, rfl, rfl⟩, rfl⟩) | (with_reducible first | refine c_seq ?_ | refine c_reg ?_ | refine c_region ?_ | refine c_block ?_ | refine c_skip ?_ | refine c_exit ?_ | refine c_ret ?_ | refine s_nil ?_ | refine x_then ?_ | refine x_then_exit ?_ | refine x_then_ret ?_ | refine x_block ?_ | refine x_block_ret ?_ | refine x_block_same ?_ | refine x_block_other (by first | rfl | decide) ?_ | refine q_nil ?_ | refine k_nil ?_) | ((with_reducible apply kP _); refine sP ?_) | ((with_reducible apply kP _); refine sX ?_) | ((with_reducible apply kC); first | refine cT ?_ | refine cF ?_ | (refine cI (fun h => ?_) (fun h => ?_) <;> (try (exfalso; omega))) | refine cB (fun h => ?_) (fun h => ?_)))
  exact e_ret1 (hs' := (b3, [iv 0]) :: (b1, [sv s]) :: (b2, [sv l]) :: hs) rfl rfl ⟨_, ⟨b1, b2, b3, rfl, rfl⟩, rfl⟩ (.refl _)
end Go.Proofs.YtnbickholedckaaGreatDoor
namespace Go.Proofs.YtnbickholedckaaGreatDoor
open Go.RowKit
theorem x_read {d : Rd} {n : Nat} {oP : Option Addr} {cP : Nat} {oS : Option Addr} {cS : Nat} {blk : HS} (M : RdB d n oP cP oS cS blk) (hn : n ≤ 10000) (hS : d.S.length ≤ 100000) (l : List UInt8) (hl : l.length ≤ 10000) (b4 : Nat) (B : Nat) (w0 : Wd) (hT : TxW B w0) (hs : HS) :
    Fn Tryz.prog 23 #[.pointer (some ⟨b4, 0, none⟩), sv l] B w0 (blk ++ ((b4, [.slice oP n cP, .slice oS (d.S.length / 4) cS, iv d.E]) :: hs))
      (fun v h => v = .tuple #[] ∧ ∃ n' oP' cP' oS' cS' blk', RdB (rdP d l) n' oP' cP' oS' cS' blk' ∧ h = blk' ++ ((b4, [.slice oP' n' cP', .slice oS' ((rdP d l).S.length / 4) cS', iv (rdP d l).E]) :: hs)) := by
  obtain ⟨rs, bo, ko, h1, rfl, rfl⟩ := M
  have h := k_read d rs oP cP bo oS cS ko h1 hn hS l hl b4 B w0 hT hs
  rw [List.append_assoc, List.append_assoc]
  refine h.mono fun v h' => ?_
  rintro ⟨rfl, rs', oP', cP', bo', oS', cS', ko', hM, rfl⟩
  exact ⟨rfl, rs'.length, oP', cP', oS', cS', ko' ++ (bo' ++ rpb rs'), ⟨rs', bo', ko', hM, rfl, rfl⟩, by rw [List.append_assoc, List.append_assoc]⟩
end Go.Proofs.YtnbickholedckaaGreatDoor
namespace Go.Proofs.YtnbickholedckaaGreatDoor
open Go.RowKit
section
variable {P : Program} {n : NN} {B : Nat} {w0 : Wd} {fr : FR} {hs hs' : HS}
theorem e_retG2 {w1 : Wd} {fn : Func} {R : Value → HS → Prop} {r s : ResultVar} {v u : Value} {Ds : List Nat} {ms : List (Nat × Obj)} (hd : n.ds = Ds.map mkD) (hw1 : w1 = ⟨w0.w, (Ds.map fun D => (D, Obj.deferred (some []))) ++ ms⟩) (hms : w0.ms.Sublist ms)
    (hr : fn.results = #[r, s]) (h1 : RV P B w0 fr hs r v) (h2 : RV P B w0 fr hs s u) (hR : R (.tuple #[v, u]) hs') (hsub : hs'.Sublist hs) : Sat n B w1 (bodyPostM (rF none) 0 P fn (Ends B w0 R) .ret) fr hs := sat_mk fun a w ha hw => by
  show LeavesInM (rF none) 0 P fn a.tmps (Ends B w0 R) a.defers .returning w
  rw [ha.defers, hd]
  subst hw1
  exact leaves_marks (fun w hw => by simp [results_rv1, hr, RV.run ha hw h1, RV.run ha hw h2]) hR hsub Ds ms w hw hms
end
theorem rdP_n (d : Rd) (l : List UInt8) : (rdP d l).P.length ≤ d.P.length + 1 ∧ (rdP d l).S.length ≤ d.S.length + 4 := by
  unfold rdP
  split
  · exact ⟨by omega, by omega⟩
  · split
    · exact ⟨by omega, by omega⟩
    · unfold sgP
      split
      · exact ⟨by dsimp only; omega, by dsimp only; omega⟩
      · split
        · exact ⟨by dsimp only; rw [List.length_append]; exact Nat.le_refl _, by dsimp only; omega⟩
        · split
          · rename_i h4
            exact ⟨by dsimp only; omega, by dsimp only; rw [List.length_append, h4.2]; exact Nat.le_refl _⟩
          · exact ⟨by omega, by omega⟩
structure PkI where
  x : Value
  k : Nat
  n : Nat
  oP : Option Addr
  cP : Nat
  oS : Option Addr
  cS : Nat
  blk : HS
attribute [local irreducible] OpF Ld CellAt Sl Sv pcA
set_option maxRecDepth 100000 in
set_option maxHeartbeats 8000000 in
theorem k_Parse (t : List UInt8) (ht : t.length ≤ 100000) (B : Nat) (w0 : Wd) (hT : TxW B w0) (hs : HS) :
    Fn Tryz.prog 8 #[sv t] B w0 hs (fun u h => ∃ blk, PaA rdP t u blk ∧ h = blk ++ hs) := by
  unfold PaA
  by_cases h0 : 4000 < t.length
  · have e : paA rdP t = (rd0, 4) := by unfold paA; rw [if_pos h0]
    rw [e]
    refine fn_enterG Tryz.func8 rfl Tryz.ntmps8 (by simp) ?_
    repeat' (first | ((with_reducible apply kP (.alloc 25)); refine sA (fun b2 => ?_)) | ((with_reducible apply kP (.call ⟨.builtin .len, _, _⟩)); refine sP ?_ (o_sLen uStr rfl)) | ((with_reducible apply kDP (.call ⟨.builtin .len, _, _⟩)); refine dP ?_ (hX := rfl) (hv := o_sLen uStr rfl)) | ((with_reducible apply kQO (.call ⟨.builtin .len, _, _⟩)); refine qP ?_ (o_sLen uStr rfl)) | ((with_reducible apply kN); refine stW ?_ (hf := flat_cons rfl (flat2 rfl rfl))) | (with_reducible first | refine g_seq ?_ | refine g_block ?_ | refine g_skip ?_ | refine g_exit ?_ | refine g_ret ?_ | refine si_nil ?_) | ((with_reducible apply gCI); first | refine gT ?_ | refine gF ?_ | (refine gI (fun h => ?_) (fun h => ?_) <;> (try (exfalso; omega))) | refine gBB (fun h => ?_) (fun h => ?_)) | ((with_reducible apply gRI); refine g_quiet mixed (by kernel_rfl) (by rfl) ?_) | (refine g_region ?_) | ((with_reducible apply kYo _); refine si_one rfl ?_) | (with_reducible first | refine c_seq ?_ | refine c_reg ?_ | refine c_region ?_ | refine c_block ?_ | refine c_skip ?_ | refine c_exit ?_ | refine c_ret ?_ | refine s_nil ?_ | refine x_then ?_ | refine x_then_exit ?_ | refine x_then_ret ?_ | refine x_block ?_ | refine x_block_ret ?_ | refine x_block_same ?_ | refine x_block_other (by first | rfl | decide) ?_ | refine q_nil ?_ | refine k_nil ?_) | ((with_reducible apply kG); first | refine gY1 ?_ | refine gN1 ?_ | refine gU1 ?_ | (refine gD1 (fun h => ?_) (fun h => ?_) <;> (try (exfalso; omega))) | refine gB1 (fun h => ?_) (fun h => ?_)) | ((with_reducible apply kN); first | refine stP ?_ | refine stI ?_ | refine st1 ?_ | refine stW ?_) | ((with_reducible apply kP (.alloc _)); refine sA (fun b => ?_)) | ((with_reducible apply kP _); refine sP ?_) | ((with_reducible apply kP _); refine sX ?_) | ((with_reducible apply kC); first | refine cT ?_ | refine cF ?_ | (refine cI (fun h => ?_) (fun h => ?_) <;> (try (exfalso; omega))) | refine cB (fun h => ?_) (fun h => ?_)))
    all_goals first
      | (exfalso; omega)
      | exact e_retG2 (Ds := []) (ms := w0.ms) (hs' := hs) rfl rfl (.refl _) rfl ⟨_, rfl, ld_whole (shTOf rfl) MDt rfl⟩ rfl ⟨[], ⟨_, ⟨0, none, 0, none, 0, RdB.zero, rfl⟩, rfl⟩, rfl⟩ (.cons _ (.refl _))
      | trace_state
  · have hWl := wds_len 10 t
    have hwl : ∀ w ∈ wds 10 t, w.length ≤ 4000 := fun w hw => by have := wds_le 10 t w hw; omega
    have hpa : paA rdP t = if vdD ((wds 10 t).foldl rdP rd0) = 0 ∧ tD ((wds 10 t).foldl rdP rd0) = t then ((wds 10 t).foldl rdP rd0, 0) else (rd0, 3) := by unfold paA; rw [if_neg h0]
    rw [hpa]
    clear hpa
    have kit := fun b1 b2 b3 => k_split t ht B b1 b2 b3
    have ksp := fun hs' => x_SplitSeq t [10] B w0 hs'
    generalize wds 10 t = W at *
    refine fn_enterG Tryz.func8 rfl Tryz.ntmps8 (by simp) ?_
    repeat' (first | ((with_reducible apply kP (.alloc 25)); refine sA (fun b4 => ?_)) | ((with_reducible apply kP (.call ⟨.builtin .len, _, _⟩)); refine sP ?_ (o_sLen uStr rfl)) | ((with_reducible apply kDP (.call ⟨.builtin .len, _, _⟩)); refine dP ?_ (hX := rfl) (hv := o_sLen uStr rfl)) | ((with_reducible apply kQO (.call ⟨.builtin .len, _, _⟩)); refine qP ?_ (o_sLen uStr rfl)) | ((with_reducible apply kN); refine stW ?_ (hf := flat_cons rfl (flat2 rfl rfl))) | ((with_reducible apply kF 22); refine sR 22 (ksp _) ?_; rintro v7 h7 ⟨q7, ⟨b1, b5, b3, rfl, rfl⟩, rfl⟩) | (with_reducible first | refine g_seq ?_ | refine g_block ?_ | refine g_skip ?_ | refine g_exit ?_ | refine g_ret ?_ | refine si_nil ?_) | ((with_reducible apply gCI); first | refine gT ?_ | refine gF ?_ | (refine gI (fun h => ?_) (fun h => ?_) <;> (try (exfalso; omega))) | refine gBB (fun h => ?_) (fun h => ?_)) | ((with_reducible apply gRI); refine g_quiet mixed (by kernel_rfl) (by rfl) ?_) | (refine g_region ?_) | ((with_reducible apply kYo _); refine si_one rfl ?_) | (with_reducible first | refine c_seq ?_ | refine c_reg ?_ | refine c_region ?_ | refine c_block ?_ | refine c_skip ?_ | refine c_exit ?_ | refine c_ret ?_ | refine s_nil ?_ | refine x_then ?_ | refine x_then_exit ?_ | refine x_then_ret ?_ | refine x_block ?_ | refine x_block_ret ?_ | refine x_block_same ?_ | refine x_block_other (by first | rfl | decide) ?_ | refine q_nil ?_ | refine k_nil ?_) | ((with_reducible apply kG); first | refine gY1 ?_ | refine gN1 ?_ | refine gU1 ?_ | (refine gD1 (fun h => ?_) (fun h => ?_) <;> (try (exfalso; omega))) | refine gB1 (fun h => ?_) (fun h => ?_)) | ((with_reducible apply kN); first | refine stP ?_ | refine stI ?_ | refine st1 ?_ | refine stW ?_) | ((with_reducible apply kP (.alloc _)); refine sA (fun b => ?_)) | ((with_reducible apply kP _); refine sP ?_) | ((with_reducible apply kP _); refine sX ?_) | ((with_reducible apply kC); first | refine cT ?_ | refine cF ?_ | (refine cI (fun h => ?_) (fun h => ?_) <;> (try (exfalso; omega))) | refine cB (fun h => ?_) (fun h => ?_)))
    all_goals try (exfalso; omega)
    rename_i b2
    dsimp only [List.cons_append, List.nil_append]
    refine sat_tk (blk := [(b4, [.slice none 0 0, .slice none 0 0, .int .i64 0])]) (by with_reducible ((repeat (first | exact Take.head | exact Take.one | exact Take.nil | apply Take.tail | apply Take.app)); done)) ?_
    dsimp only [List.cons_append, List.nil_append]
    refine g_rangeU rfl (goF rfl) (kit b1 b5 b3) (by first | decide | exact ltd rfl) (fun _ : PkI => w0)
      (fun s : PkI => s.blk ++ ((b4, [.slice s.oP s.n s.cP, .slice s.oS (((W.take s.k).foldl rdP rd0).S.length / 4) s.cS, iv ((W.take s.k).foldl rdP rd0).E]) :: (b3, [iv 0]) :: (b1, [sv [10]]) :: (b5, [s.x]) :: (b2, [.slice none 0 0, .slice none 0 0, iv 0]) :: hs))
      (fun y k s => s.x = y ∧ s.k = k ∧ s.k ≤ W.length ∧ RdB ((W.take s.k).foldl rdP rd0) s.n s.oP s.cP s.oS s.cS s.blk ∧ ((W.take s.k).foldl rdP rd0).P.length ≤ s.k ∧ ((W.take s.k).foldl rdP rd0).S.length ≤ 4 * s.k)
      (fun v => [(5, v), (0, sv t), (2, .pointer (some ⟨b2, 0, none⟩)), (4, .pointer (some ⟨b4, 0, none⟩))])
      ⟨sv t, 0, 0, none, 0, none, 0, []⟩ ⟨rfl, rfl, Nat.zero_le _, RdB.zero, Nat.zero_le _, Nat.zero_le _⟩ (.refl _) (by simp only [List.take_zero, List.foldl_nil, rd0, List.length_nil, Nat.zero_div]; exact .refl _) ?_ ?_ ?_ ?_ ?_
    · rintro y k ⟨x, k', n, oP, cP, oS, cS, blk⟩ ⟨rfl, rfl, _⟩
      exact ⟨MMt, fun W' hW' => ⟨hT.ms hW'.1, MMt, MMt⟩⟩
    · rintro y k ⟨x, k', n, oP, cP, oS, cS, blk⟩ ⟨rfl, rfl, hC⟩ y'
      exact ⟨⟨y', k', n, oP, cP, oS, cS, blk⟩, ⟨rfl, rfl, hC⟩, rfl, (by with_reducible ((repeat (first | exact uu0 | apply Upd.tail | apply Upd.app)); done))⟩
    · intro y k s v hv hC l D o
      repeat' (first | (with_reducible first | refine g_seq ?_ | refine g_block ?_ | refine g_skip ?_ | refine g_exit ?_ | refine g_ret ?_ | refine si_nil ?_) | ((with_reducible apply gCI); first | refine gT ?_ | refine gF ?_ | (refine gI (fun h => ?_) (fun h => ?_) <;> (try (exfalso; omega))) | refine gBB (fun h => ?_) (fun h => ?_)) | ((with_reducible apply gRI); refine g_quiet mixed (by kernel_rfl) (by rfl) ?_) | (refine g_region ?_) | ((with_reducible apply kYo _); refine si_one rfl ?_) | (with_reducible first | refine c_seq ?_ | refine c_reg ?_ | refine c_region ?_ | refine c_block ?_ | refine c_skip ?_ | refine c_exit ?_ | refine c_ret ?_ | refine s_nil ?_ | refine x_then ?_ | refine x_then_exit ?_ | refine x_then_ret ?_ | refine x_block ?_ | refine x_block_ret ?_ | refine x_block_same ?_ | refine x_block_other (by first | rfl | decide) ?_ | refine q_nil ?_ | refine k_nil ?_) | ((with_reducible apply kG); first | refine gY1 ?_ | refine gN1 ?_ | refine gU1 ?_ | (refine gD1 (fun h => ?_) (fun h => ?_) <;> (try (exfalso; omega))) | refine gB1 (fun h => ?_) (fun h => ?_)) | ((with_reducible apply kN); first | refine stP ?_ | refine stI ?_ | refine st1 ?_ | refine stW ?_) | ((with_reducible apply kP (.alloc _)); refine sA (fun b => ?_)) | ((with_reducible apply kP _); refine sP ?_) | ((with_reducible apply kP _); refine sX ?_) | ((with_reducible apply kC); first | refine cT ?_ | refine cF ?_ | (refine cI (fun h => ?_) (fun h => ?_) <;> (try (exfalso; omega))) | refine cB (fun h => ?_) (fun h => ?_)))
      exact e_asg (by repeat' first | trivial | rfl | apply And.intro) (.refl _) (.refl _)
    · rintro y k ⟨x, k', n, oP, cP, oS, cS, blk⟩ v hv ⟨rfl, rfl, hk, hM, hP, hS⟩ l D o
      dsimp only at hv hk hM hP hS ⊢
      obtain ⟨w, hw, rfl⟩ : ∃ w, W[k']? = some w ∧ v = sv w := by
        unfold svs at hv
        rw [List.getElem?_map] at hv
        cases hx : W[k']? with
        | none => rw [hx] at hv; cases hv
        | some x => rw [hx] at hv; exact ⟨x, rfl, by simpa using hv.symm⟩
      have hkl := (List.getElem?_eq_some_iff.1 hw).1
      have hnx : (W.take (k' + 1)).foldl rdP rd0 = rdP ((W.take k').foldl rdP rd0) w := by
        rw [take_snoc hw, List.foldl_append]; rfl
      have hw4 := hwl _ (List.mem_of_getElem? hw)
      have hrn := rdP_n ((W.take k').foldl rdP rd0) w
      generalize (W.take k').foldl rdP rd0 = d at *
      have hnl := hM.len
      have kr := fun hs' => x_read hM (by omega) (by omega) w (by omega) b4 B ⟨w0.w, (l, o) :: (D, .deferred (some [])) :: w0.ms⟩ (hT.ms rfl) hs'
      repeat' (first | ((with_reducible apply kF 23); refine sR 23 (kr _) ?_; rintro v7 h7 ⟨rfl, n2, oP2, cP2, oS2, cS2, blk2, hM2, rfl⟩) | (with_reducible first | refine g_seq ?_ | refine g_block ?_ | refine g_skip ?_ | refine g_exit ?_ | refine g_ret ?_ | refine si_nil ?_) | ((with_reducible apply gCI); first | refine gT ?_ | refine gF ?_ | (refine gI (fun h => ?_) (fun h => ?_) <;> (try (exfalso; omega))) | refine gBB (fun h => ?_) (fun h => ?_)) | ((with_reducible apply gRI); refine g_quiet mixed (by kernel_rfl) (by rfl) ?_) | (refine g_region ?_) | ((with_reducible apply kYo _); refine si_one rfl ?_) | (with_reducible first | refine c_seq ?_ | refine c_reg ?_ | refine c_region ?_ | refine c_block ?_ | refine c_skip ?_ | refine c_exit ?_ | refine c_ret ?_ | refine s_nil ?_ | refine x_then ?_ | refine x_then_exit ?_ | refine x_then_ret ?_ | refine x_block ?_ | refine x_block_ret ?_ | refine x_block_same ?_ | refine x_block_other (by first | rfl | decide) ?_ | refine q_nil ?_ | refine k_nil ?_) | ((with_reducible apply kG); first | refine gY1 ?_ | refine gN1 ?_ | refine gU1 ?_ | (refine gD1 (fun h => ?_) (fun h => ?_) <;> (try (exfalso; omega))) | refine gB1 (fun h => ?_) (fun h => ?_)) | ((with_reducible apply kN); first | refine stP ?_ | refine stI ?_ | refine st1 ?_ | refine stW ?_) | ((with_reducible apply kP (.alloc _)); refine sA (fun b => ?_)) | ((with_reducible apply kP _); refine sP ?_) | ((with_reducible apply kP _); refine sX ?_) | ((with_reducible apply kC); first | refine cT ?_ | refine cF ?_ | (refine cI (fun h => ?_) (fun h => ?_) <;> (try (exfalso; omega))) | refine cB (fun h => ?_) (fun h => ?_)))
      exact e_round (⟨x, k' + 1, n2, oP2, cP2, oS2, cS2, blk2⟩ : PkI) ⟨rfl, rfl, hkl, by dsimp only; rw [hnx]; exact hM2, by dsimp only; rw [hnx]; omega, by dsimp only; rw [hnx]; omega⟩ (.refl _) (by dsimp only; rw [hnx]; exact .refl _)
    · rintro y ⟨x, k', n, oP, cP, oS, cS, blk⟩ ⟨rfl, hkx, hk, hM, hP, hS⟩ D
      dsimp only at hkx hk hM hP hS ⊢
      rw [svs_length] at hkx
      subst hkx
      rw [List.take_length] at *
      generalize W.foldl rdP rd0 = d at *
      have hnl := hM.len
      obtain ⟨rs, bo, ko, M, rfl, rfl⟩ := hM
      have hlr : (rpP rs).length = rs.length := by unfold rpP; rw [List.length_map]
      have hm4 := M.m4
      have hCM : CapM B ⟨w0.w, (D, .deferred (some [])) :: w0.ms⟩ (ko ++ (bo ++ rpb rs)) oP oS (rpP rs) d.S := by
        have := capC (B := B) (w0 := ⟨w0.w, (D, .deferred (some [])) :: w0.ms⟩) (hs := []) M.bo M.ok M.ko
        rwa [List.append_nil] at this
      have kv := fun hs' (h : (ko ++ (bo ++ rpb rs)).Sublist hs') => k_Validate (rpP rs) oP oS cP (d.S.length / 4) cS d.S d.E (by omega) (by omega) (by omega) B _ hs' (hCM.sub h)
      have e0 : vdE (rpP rs).length (sdF (rpP rs)) (anF (rpP rs)) (d.S.length / 4) d.S d.E = vdD d := by unfold vdD; rw [← M.P, vdC_D]; rfl
      have e1 : capT (rpP rs) d.S (d.S.length / 4) d.E = tD d := by unfold tD; rw [← M.P, capT_D]
      rw [e0, hlr] at kv
      by_cases hE : vdD d = 0
      · have hT2 : TxC (rpP rs) d.S (d.S.length / 4) d.E := (vdC_0 (by rw [← e0] at hE; exact hE)).tx
        have kf := fun hs' (h : (ko ++ (bo ++ rpb rs)).Sublist hs') => k_format (rpP rs) oP oS cP (d.S.length / 4) cS d.S d.E (by omega) (by omega) hT2 B ⟨w0.w, (D, .deferred (some [])) :: w0.ms⟩ (hT.ms rfl) hs' (hCM.sub h)
        rw [e1, hlr] at kf
        rw [hE] at kv
        by_cases hF : tD d = t
        · rw [if_pos ⟨hE, hF⟩]
          repeat' (first | ((with_reducible apply kF 6); refine sC 6 (kv _ SBt) ?_) | ((with_reducible apply kF 21); refine sC 21 (kf _ SBt) ?_) | ((with_reducible apply kP (.binOp .neq 9 _ _ _)); refine sP ?_ (o_sNeqF hF rfl rfl)) | ((with_reducible apply kDP (.binOp .neq 9 _ _ _)); refine dP ?_ (hX := rfl) (hv := o_sNeqF hF rfl rfl)) | ((with_reducible apply kQO (.binOp .neq 9 _ _ _)); refine qP ?_ (o_sNeqF hF rfl rfl)) | ((with_reducible apply kN); refine stW ?_ (hf := flat_cons rfl (flat2 rfl rfl))) | (with_reducible first | refine g_seq ?_ | refine g_block ?_ | refine g_skip ?_ | refine g_exit ?_ | refine g_ret ?_ | refine si_nil ?_) | ((with_reducible apply gCI); first | refine gT ?_ | refine gF ?_ | (refine gI (fun h => ?_) (fun h => ?_) <;> (try (exfalso; omega))) | refine gBB (fun h => ?_) (fun h => ?_)) | ((with_reducible apply gRI); refine g_quiet mixed (by kernel_rfl) (by rfl) ?_) | (refine g_region ?_) | ((with_reducible apply kYo _); refine si_one rfl ?_) | (with_reducible first | refine c_seq ?_ | refine c_reg ?_ | refine c_region ?_ | refine c_block ?_ | refine c_skip ?_ | refine c_exit ?_ | refine c_ret ?_ | refine s_nil ?_ | refine x_then ?_ | refine x_then_exit ?_ | refine x_then_ret ?_ | refine x_block ?_ | refine x_block_ret ?_ | refine x_block_same ?_ | refine x_block_other (by first | rfl | decide) ?_ | refine q_nil ?_ | refine k_nil ?_) | ((with_reducible apply kG); first | refine gY1 ?_ | refine gN1 ?_ | refine gU1 ?_ | (refine gD1 (fun h => ?_) (fun h => ?_) <;> (try (exfalso; omega))) | refine gB1 (fun h => ?_) (fun h => ?_)) | ((with_reducible apply kN); first | refine stP ?_ | refine stI ?_ | refine st1 ?_ | refine stW ?_) | ((with_reducible apply kP (.alloc _)); refine sA (fun b => ?_)) | ((with_reducible apply kP _); refine sP ?_) | ((with_reducible apply kP _); refine sX ?_) | ((with_reducible apply kC); first | refine cT ?_ | refine cF ?_ | (refine cI (fun h => ?_) (fun h => ?_) <;> (try (exfalso; omega))) | refine cB (fun h => ?_) (fun h => ?_)))
          all_goals try (exfalso; omega)
          exact e_retG2 (Ds := [D]) (ms := w0.ms) (hs' := (ko ++ (bo ++ rpb rs)) ++ hs) rfl rfl (.refl _) rfl ⟨_, rfl, ld_whole (shTOf rfl) (by with_reducible ((repeat (first | exact mm0 | refine mmT ?_ | refine mmA ?_)); done)) rfl⟩ rfl ⟨ko ++ (bo ++ rpb rs), ⟨_, ⟨rs.length, oP, cP, oS, cS, ⟨rs, bo, ko, M, rfl, rfl⟩, rfl⟩, rfl⟩, rfl⟩ (.append (.refl _) (.cons _ (.cons _ (.cons _ (.cons _ (.cons _ (.refl _)))))))
        · rw [if_neg (fun h => hF h.2)]
          repeat' (first | ((with_reducible apply kF 6); refine sC 6 (kv _ SBt) ?_) | ((with_reducible apply kF 21); refine sC 21 (kf _ SBt) ?_) | ((with_reducible apply kP (.binOp .neq 9 _ _ _)); refine sP ?_ (o_sNeqT hF rfl rfl)) | ((with_reducible apply kDP (.binOp .neq 9 _ _ _)); refine dP ?_ (hX := rfl) (hv := o_sNeqT hF rfl rfl)) | ((with_reducible apply kQO (.binOp .neq 9 _ _ _)); refine qP ?_ (o_sNeqT hF rfl rfl)) | ((with_reducible apply kN); refine stW ?_ (hf := flat_cons rfl (flat2 rfl rfl))) | (with_reducible first | refine g_seq ?_ | refine g_block ?_ | refine g_skip ?_ | refine g_exit ?_ | refine g_ret ?_ | refine si_nil ?_) | ((with_reducible apply gCI); first | refine gT ?_ | refine gF ?_ | (refine gI (fun h => ?_) (fun h => ?_) <;> (try (exfalso; omega))) | refine gBB (fun h => ?_) (fun h => ?_)) | ((with_reducible apply gRI); refine g_quiet mixed (by kernel_rfl) (by rfl) ?_) | (refine g_region ?_) | ((with_reducible apply kYo _); refine si_one rfl ?_) | (with_reducible first | refine c_seq ?_ | refine c_reg ?_ | refine c_region ?_ | refine c_block ?_ | refine c_skip ?_ | refine c_exit ?_ | refine c_ret ?_ | refine s_nil ?_ | refine x_then ?_ | refine x_then_exit ?_ | refine x_then_ret ?_ | refine x_block ?_ | refine x_block_ret ?_ | refine x_block_same ?_ | refine x_block_other (by first | rfl | decide) ?_ | refine q_nil ?_ | refine k_nil ?_) | ((with_reducible apply kG); first | refine gY1 ?_ | refine gN1 ?_ | refine gU1 ?_ | (refine gD1 (fun h => ?_) (fun h => ?_) <;> (try (exfalso; omega))) | refine gB1 (fun h => ?_) (fun h => ?_)) | ((with_reducible apply kN); first | refine stP ?_ | refine stI ?_ | refine st1 ?_ | refine stW ?_) | ((with_reducible apply kP (.alloc _)); refine sA (fun b => ?_)) | ((with_reducible apply kP _); refine sP ?_) | ((with_reducible apply kP _); refine sX ?_) | ((with_reducible apply kC); first | refine cT ?_ | refine cF ?_ | (refine cI (fun h => ?_) (fun h => ?_) <;> (try (exfalso; omega))) | refine cB (fun h => ?_) (fun h => ?_)))
          all_goals try (exfalso; omega)
          exact e_retG2 (Ds := [D]) (ms := w0.ms) (hs' := hs) (v := .agg #[.slice none 0 0, .slice none 0 0, .int .i64 0]) rfl rfl (.refl _) rfl ⟨_, rfl, ld_whole (shTOf rfl) (by with_reducible ((repeat (first | exact mm0 | refine mmT ?_ | refine mmA ?_)); done)) rfl⟩ rfl ⟨[], ⟨_, ⟨0, none, 0, none, 0, RdB.zero, rfl⟩, rfl⟩, rfl⟩ (sbA (.cons _ (.cons _ (.cons _ (.cons _ (.cons _ (.refl _)))))))
      · rw [if_neg (fun h => hE h.1)]
        generalize vdD d = E at *
        repeat' (first | ((with_reducible apply kF 6); refine sC 6 (kv _ SBt) ?_) | ((with_reducible apply kN); refine stW ?_ (hf := flat_cons rfl (flat2 rfl rfl))) | (with_reducible first | refine g_seq ?_ | refine g_block ?_ | refine g_skip ?_ | refine g_exit ?_ | refine g_ret ?_ | refine si_nil ?_) | ((with_reducible apply gCI); first | refine gT ?_ | refine gF ?_ | (refine gI (fun h => ?_) (fun h => ?_) <;> (try (exfalso; omega))) | refine gBB (fun h => ?_) (fun h => ?_)) | ((with_reducible apply gRI); refine g_quiet mixed (by kernel_rfl) (by rfl) ?_) | (refine g_region ?_) | ((with_reducible apply kYo _); refine si_one rfl ?_) | (with_reducible first | refine c_seq ?_ | refine c_reg ?_ | refine c_region ?_ | refine c_block ?_ | refine c_skip ?_ | refine c_exit ?_ | refine c_ret ?_ | refine s_nil ?_ | refine x_then ?_ | refine x_then_exit ?_ | refine x_then_ret ?_ | refine x_block ?_ | refine x_block_ret ?_ | refine x_block_same ?_ | refine x_block_other (by first | rfl | decide) ?_ | refine q_nil ?_ | refine k_nil ?_) | ((with_reducible apply kG); first | refine gY1 ?_ | refine gN1 ?_ | refine gU1 ?_ | (refine gD1 (fun h => ?_) (fun h => ?_) <;> (try (exfalso; omega))) | refine gB1 (fun h => ?_) (fun h => ?_)) | ((with_reducible apply kN); first | refine stP ?_ | refine stI ?_ | refine st1 ?_ | refine stW ?_) | ((with_reducible apply kP (.alloc _)); refine sA (fun b => ?_)) | ((with_reducible apply kP _); refine sP ?_) | ((with_reducible apply kP _); refine sX ?_) | ((with_reducible apply kC); first | refine cT ?_ | refine cF ?_ | (refine cI (fun h => ?_) (fun h => ?_) <;> (try (exfalso; omega))) | refine cB (fun h => ?_) (fun h => ?_)))
        all_goals try (exfalso; omega)
        exact e_retG2 (Ds := [D]) (ms := w0.ms) (hs' := hs) (v := .agg #[.slice none 0 0, .slice none 0 0, .int .i64 0]) rfl rfl (.refl _) rfl ⟨_, rfl, ld_whole (shTOf rfl) (by with_reducible ((repeat (first | exact mm0 | refine mmT ?_ | refine mmA ?_)); done)) rfl⟩ rfl ⟨[], ⟨_, ⟨0, none, 0, none, 0, RdB.zero, rfl⟩, rfl⟩, rfl⟩ (sbA (.cons _ (.cons _ (.cons _ (.cons _ (.cons _ (.refl _)))))))
end Go.Proofs.YtnbickholedckaaGreatDoor
namespace Go.Proofs.YtnbickholedckaaGreatDoor
open Go.RowKit
theorem RdA.x {d : Rd} {v : Value} {blk : HS} (h : RdA d v blk) : ∃ (qs : List Pc) (oP : Option Addr) (cP : Nat) (oS : Option Addr) (cS : Nat), v = .agg #[.slice oP qs.length cP, .slice oS (d.S.length / 4) cS, iv d.E] ∧ qs.map prP = d.P ∧ d.S.length % 4 = 0 ∧ ∀ B w0, CapM B w0 blk oP oS qs d.S := by
  obtain ⟨n, oP, cP, oS, cS, ⟨rs, bo, ko, M, rfl, rfl⟩, rfl⟩ := h
  refine ⟨rpP rs, oP, cP, oS, cS, ?_, M.P, M.m4, fun B w0 => ?_⟩
  · rw [show (rpP rs).length = rs.length by unfold rpP; rw [List.length_map]]
    rfl
  · have := capC (B := B) (w0 := w0) (hs := []) M.bo M.ok M.ko
    rwa [List.append_nil] at this
theorem prP_at {qs rs : List Pc} (h : qs.map prP = rs.map prP) : qs.length = rs.length ∧ ∀ i, (pcA qs i).sd = (pcA rs i).sd ∧ (pcA qs i).an = (pcA rs i).an := by
  refine ⟨by have := congrArg List.length h; simpa using this, fun i => ?_⟩
  have h1 := pcD_at qs i
  have h2 := pcD_at rs i
  rw [h] at h1
  exact ⟨h1.1.symm.trans h2.1, h1.2.symm.trans h2.2⟩
attribute [local irreducible] OpF Ld CellAt Sl Sv pcA usP
end Go.Proofs.YtnbickholedckaaGreatDoor
namespace Go.Proofs.YtnbickholedckaaGreatDoor
open Go.RowKit
def dsum (l : List Pt) : Int := (l.map (·.df)).foldr (· + ·) 0
theorem dsum_app : ∀ l l' : List Pt, dsum (l ++ l') = dsum l + dsum l'
  | [], l' => by simp [dsum]
  | x :: l, l' => by
    have := dsum_app l l'
    simp only [dsum, List.cons_append, List.map_cons, List.foldr_cons] at this ⊢
    omega
theorem dsum_take {l : List Pt} {j : Nat} {p : Pt} (h : l[j]? = some p) : dsum (l.take (j + 1)) = dsum (l.take j) + p.df := by
  rw [take_snoc h, dsum_app]; simp [dsum]
theorem asum_filter (ag : Nat → Int) (p : Nat → Bool) : ∀ n, asum ag ((List.range n).filter p) = sumTo (fun y => if p y = true then ag y else 0) n
  | 0 => rfl
  | n + 1 => by
    rw [List.range_succ, List.filter_append, asum_app, asum_filter ag p n, sumTo_succ]
    cases h : p n <;> simp [asum, h]
section
variable {n : Nat} {nx pv mu : Nat → Nat} {ag : Nat → Int}
theorem ptsL_sum : ∀ i, dsum (ptsL n nx mu ag i) = sumTo (fun j => if ptF n nx mu j = true then (ptO n nx mu ag j).df else 0) i
  | 0 => rfl
  | i + 1 => by
    rw [sumTo_succ, ← ptsL_sum i]
    cases h : ptF n nx mu i with
    | true => rw [ptsL_yes h, dsum_app]; simp [dsum]
    | false => rw [ptsL_no h]; simp
theorem cls_sum (E : List (Nat × Nat)) (n : Nat) (ag : Nat → Int) : ∀ i, sumTo (fun j => if rpE E j = j then sumTo (fun y => if rpE E y = rpE E j then ag y else 0) n else 0) i = sumTo (fun y => if rpE E y < i then ag y else 0) n
  | 0 => by rw [sumTo_zero n (fun y _ => if_neg (Nat.not_lt_zero _))]; rfl
  | i + 1 => by
    rw [sumTo_succ, cls_sum E n ag i]
    have e : sumTo (fun y => if rpE E y < i + 1 then ag y else 0) n = sumTo (fun y => (if rpE E y < i then ag y else 0) + (if rpE E y = i then ag y else 0)) n := sumTo_congr n fun y _ => by
      by_cases h1 : rpE E y < i
      · rw [if_pos h1, if_pos (by omega), if_neg (by omega)]; omega
      · by_cases h2 : rpE E y = i
        · rw [if_neg h1, if_pos h2, if_pos (by omega)]; omega
        · rw [if_neg h1, if_neg h2, if_neg (by omega)]; rfl
    rw [e, sumTo_add]
    congr 1
    by_cases h : rpE E i = i
    · rw [if_pos h]
      exact sumTo_congr n fun y _ => by rw [h]
    · rw [if_neg h, sumTo_zero]
      intro y _
      exact if_neg fun h2 => h (by rw [← h2, rpE_idem])
theorem cls_all (E : List (Nat × Nat)) (n : Nat) (ag : Nat → Int) : sumTo (fun j => if rpE E j = j then sumTo (fun y => if rpE E y = rpE E j then ag y else 0) n else 0) n = sumTo ag n := by
  rw [cls_sum]
  exact sumTo_congr n fun y hy => if_pos (by have := rpE_le E y; omega)
theorem cnN_sum (p : Nat → Bool) (q : Nat → Bool) : ∀ n, sumTo (fun j => if p j = true then (if q j = true then 360 else 180 : Int) else 0) n = 360 * (cnN (fun i => p i && q i) n : Int) + 180 * (cnN (fun i => p i && !q i) n : Int)
  | 0 => rfl
  | n + 1 => by
    rw [sumTo_succ, cnN_sum p q n]
    simp only [cnN]
    cases p n <;> cases q n <;> simp <;> omega
theorem sumTo_sub (F G : Nat → Int) : ∀ n, sumTo (fun i => F i - G i) n = sumTo F n - sumTo G n
  | 0 => rfl
  | n + 1 => by simp only [sumTo_succ, sumTo_sub F G n]; omega
/-- What is missing at all points. -/
theorem NetN.defect (h : NetN n nx pv mu) {m : Nat} (hf : frN n mu + 2 * m = n) : dsum (ptsL n nx mu ag n) = 360 * (ccE n (ptE n nx mu) : Int) - 180 * ((n : Int) - 2 * m) - sumTo ag n := by
  have e1 := cnN_split (fun i => decide (rpE (ptE n nx mu) i = i)) (innB n nx mu) n
  have e2 := h.outer
  have e3 := cnN_sum (fun i => decide (rpE (ptE n nx mu) i = i)) (innB n nx mu) n
  have e4 := cls_all (ptE n nx mu) n ag
  rw [ptsL_sum]
  have e5 : sumTo (fun j => if ptF n nx mu j = true then (ptO n nx mu ag j).df else 0) n = sumTo (fun j => (if decide (rpE (ptE n nx mu) j = j) = true then (if innB n nx mu j = true then 360 else 180 : Int) else 0) - (if rpE (ptE n nx mu) j = j then sumTo (fun y => if rpE (ptE n nx mu) y = rpE (ptE n nx mu) j then ag y else 0) n else 0)) n := sumTo_congr n fun j _ => by
    unfold ptF ptO
    simp only [decide_eq_true_eq]
    by_cases hj : rpE (ptE n nx mu) j = j
    · rw [if_pos hj, if_pos hj, if_pos hj]
      unfold clsL
      rw [asum_filter]
      simp only [decide_eq_true_eq]
    · rw [if_neg hj, if_neg hj, if_neg hj]; rfl
  rw [e5, sumTo_sub, e3, e4]
  have e6 : ccE n (ptE n nx mu) = cnN (fun i => decide (rpE (ptE n nx mu) i = i)) n := rfl
  omega
end
theorem sumTo_addn (F : Nat → Int) (a : Nat) : ∀ k, sumTo F (a + k) = sumTo F a + sumTo (fun i => F (a + i)) k
  | 0 => by simp [sumTo]
  | k + 1 => by
    rw [show a + (k + 1) = (a + k) + 1 by omega, sumTo_succ, sumTo_addn F a k, sumTo_succ]; omega
/-- The sum of all angles. -/
theorem ang_sum {ps : List Pc} (hA : allOK ps.length (sdF ps) (anF ps)) : ∀ p, p ≤ ps.length → sumTo (agF ps) (fsN (sdF ps) p) = 180 * (fsN (sdF ps) p : Int) - 360 * (p : Int)
  | 0, _ => rfl
  | p + 1, hp => by
    have e1 : fsN (sdF ps) (p + 1) = fsN (sdF ps) p + (sdF ps p).length := rfl
    rw [e1, sumTo_addn, ang_sum hA p (by omega)]
    obtain ⟨_, h2, _, h4⟩ := hA p (by omega)
    have e2 : sumTo (fun i => agF ps (fsN (sdF ps) p + i)) (sdF ps p).length = sumTo (fun i => (anF ps p).getD i 0) (sdF ps p).length := sumTo_congr _ fun i hi => by
      unfold agF
      have h5 : pcG (sdF ps) ps.length (fsN (sdF ps) p + i) = p := pcG_uniq (by omega) (by rw [e1]; omega) (by omega)
      rw [h5, show fsN (sdF ps) p + i - fsN (sdF ps) p = i by omega]
      rfl
    rw [e2, h4]
    omega
/-- The parts, the handles. -/
def paC (ps : List Pc) (sm : List Int) (m : Nat) : Nat := ccE ps.length (cmpE (pcG (sdF ps) ps.length) (smL (sdF ps) sm m))
def haC (ps : List Pc) (sm : List Int) (m : Nat) : Int := (2 * (paC ps sm m : Int) - euC ps sm m - ((lpsC ps sm m).length : Int)) / 2
section
variable {ps : List Pc} {sm : List Int} {m : Nat} {e : Int}
theorem VdC.msC (h : VdC ps sm m e) : dsum (ptsC ps sm m) = 360 * euC ps sm m := by
  have h1 := h.okS.free
  rw [smL_len] at h1
  have h2 := h.net.defect (ag := agF ps) h1
  have h3 := ang_sum h.ok ps.length (Nat.le_refl _)
  unfold ptsC euC
  unfold ptsC
  rw [ptsL_len, h2]
  unfold nC at h1 ⊢
  rw [h3]
  unfold muC
  omega
theorem VdC.pcs1 (h : VdC ps sm m e) : ∀ p, p < ps.length → 1 ≤ (sdF ps p).length := fun p hp => by
  have := (h.ok p hp).1.1; omega
theorem VdC.hd (h : VdC ps sm m e) : ∃ g : Nat, HdN (nC ps) (nxC ps) (pcG (sdF ps) ps.length) ps.length (smL (sdF ps) sm m) g :=
  h.okS.handles (cap_net (sdF ps) ps.length) (fun i hi => (nx_pc hi).1) (fun i hi => (pcG_spec hi).1) (cap_zero h.pcs1)
theorem VdC.sum (h : VdC ps sm m e) {g : Nat} (hg : HdN (nC ps) (nxC ps) (pcG (sdF ps) ps.length) ps.length (smL (sdF ps) sm m) g) : 2 * (paC ps sm m : Int) - euC ps sm m - ((lpsC ps sm m).length : Int) = 2 * (g : Int) := by
  have h1 := hg.sum (cap_net (sdF ps) ps.length) h.okS
  rw [smL_len] at h1
  unfold euC ptsC lpsC
  rw [ptsL_len, lpsL_len]
  unfold paC muC
  unfold nC nxC at *
  omega
theorem VdC.ha (h : VdC ps sm m e) {g : Nat} (hg : HdN (nC ps) (nxC ps) (pcG (sdF ps) ps.length) ps.length (smL (sdF ps) sm m) g) : haC ps sm m = (g : Int) := by
  unfold haC
  rw [h.sum hg, Int.mul_ediv_cancel_left _ (by decide)]
theorem VdC.ha0 (h : VdC ps sm m e) : 0 ≤ haC ps sm m ∧ euC ps sm m = 2 * (paC ps sm m : Int) - 2 * haC ps sm m - ((lpsC ps sm m).length : Int) := by
  obtain ⟨g, hg⟩ := h.hd
  have h1 := h.sum hg
  rw [h.ha hg]
  omega
theorem VdC.pa1 (h : VdC ps sm m e) : 1 ≤ paC ps sm m := by
  unfold paC ccE
  have h1 := h.n1
  have : (fun i => decide (rpE (cmpE (pcG (sdF ps) ps.length) (smL (sdF ps) sm m)) i = i)) 0 = true := by
    have := rpE_le (cmpE (pcG (sdF ps) ps.length) (smL (sdF ps) sm m)) 0
    simp only [decide_eq_true_eq]; omega
  have := cnN_rm (k := 0) (p := fun i => decide (rpE (cmpE (pcG (sdF ps) ps.length) (smL (sdF ps) sm m)) i = i)) this ps.length (by omega)
  omega
end
end Go.Proofs.YtnbickholedckaaGreatDoor
