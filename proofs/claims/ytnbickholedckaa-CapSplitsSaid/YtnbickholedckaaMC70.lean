/- Split of the reference: the good case. -/
import Derived.Test.YtnbickholedckaaMC67
import Derived.Test.YtnbickholedckaaMC66
namespace Go.Proofs.Ytnbickholedckaa
open Go.RowKit
structure SuI where
  i : Nat
  k : HS
attribute [local irreducible] OpF Ld CellAt Sl Sv pcA usP
theorem r_halves2 (o1 o2 : Option Addr) (c1 c2 : Nat) (r g : List Int) (i j s : Nat) (z w : Int) (hsE : s = (j + r.length - i) % r.length) (hr : 1 ≤ r.length ∧ r.length ≤ 6) (hg : g.length = r.length) (hi : i < r.length) (hj : j < r.length) (hij : i ≠ j) (hb : ∀ u, u < r.length → 1 ≤ g.getD u 0 ∧ g.getD u 0 ≤ 359) (hw : 1 ≤ w ∧ w ≤ 359) (B : Nat) (w0 : Wd) (hs : HS) (h1 : Sl B w0 hs o1 r) (h2 : Sl B w0 hs o2 g) :
    Fn Try.prog 81 #[.agg #[.slice o1 r.length c1, .slice o2 g.length c2], iv i, iv j, iv z, iv w] B w0 hs (fun v hs' => ∃ t SA AN SB BN oa5 oa6 oa7 oa8 c5 c6 c7 c8 k5 k6 k7 k8, s + t = r.length ∧ 1 ≤ t ∧ SA = ptl r i s z ∧ AN = tab s (hvF g i w) ++ [hvL g i s w] ∧ SB = ptl r j t z ∧ BN = tab t (hvF g j (g.getD j 0 - hvL g i s w)) ++ [g.getD i 0 - w]
      ∧ (SA.length = s + 1 ∧ AN.length = s + 1 ∧ SB.length = t + 1 ∧ BN.length = t + 1) ∧ (AN.getD s 0 = hvL g i s w ∧ BN.getD 0 0 = g.getD j 0 - hvL g i s w ∧ BN.getD t 0 = g.getD i 0 - w)
      ∧ RowOk oa5 c5 1 (ivs SA) k5 ∧ RowOk oa6 c6 1 (ivs AN) k6 ∧ RowOk oa7 c7 1 (ivs SB) k7 ∧ RowOk oa8 c8 1 (ivs BN) k8
      ∧ v = .tuple #[.agg #[.slice oa5 (s + 1) c5, .slice oa6 (s + 1) c6], .agg #[.slice oa7 (t + 1) c7, .slice oa8 (t + 1) c8]] ∧ hs' = k8 ++ (k7 ++ (k6 ++ (k5 ++ hs)))) := by
  subst hsE
  refine (r_halves o1 o2 c1 c2 r g i j z w hr hg hi hj hij hb hw B w0 hs h1 h2).mono ?_
  rintro v h ⟨s9, t9, u1, u2, q1, q2, y1, y2, y3, y4, ⟨oa5, oa6, c5, c6, k5, k6, rfl, hr5, hr6, rfl⟩, ⟨oa7, oa8, c7, c8, k7, k8, rfl, hr7, hr8, rfl⟩, rfl, rfl⟩
  subst y2
  have l1 : ∀ (n : Nat) (F : Nat → Int) (x : Int), (tab n F ++ [x]).length = n + 1 := fun n F x => by rw [List.length_append, tab_length]; rfl
  have l2 : ∀ (n : Nat) (F : Nat → Int) (x : Int), (tab n F ++ [x]).getD n 0 = x := fun n F x => by
    rw [List.getD_eq_getElem?_getD, List.getElem?_append_right (by rw [tab_length]; exact Nat.le_refl _), tab_length]; simp
  refine ⟨t9, _, _, _, _, oa5, oa6, oa7, oa8, c5, c6, c7, c8, k5, k6, k7, k8, y1, y4, rfl, rfl, rfl, rfl, ⟨ptl_len _ _ _ _, l1 _ _ _, ptl_len _ _ _ _, l1 _ _ _⟩, ⟨l2 _ _ _, ?_, l2 _ _ _⟩, hr5, hr6, hr7, hr8, ?_, ?_⟩
  · have := tab_getD (hvF g j (g.getD j 0 - hvL g i ((j + r.length - i) % r.length) w)) (show 0 < t9 by omega)
    rw [List.getD_eq_getElem?_getD] at this ⊢
    rw [List.getElem?_append_left (by rw [tab_length]; omega), this]
    unfold hvF
    rw [if_pos rfl]
  · rw [ptl_len, ptl_len, l1, l1]
  · rw [List.append_assoc, List.append_assoc, List.append_assoc]
set_option maxRecDepth 100000 in
set_option maxHeartbeats 8000000 in
theorem r_SplitOk (ps : List Pc) (oP oS : Option Addr) (cP m cS p i j s : Nat) (sm : List Int) (e z w : Int) (hn : ps.length ≤ 100) (hsm : sm.length = m * 4) (hm : m < 100) (hv : vdC ps sm m e = 0) (hsd : hsP ps.length (sdF ps) (p : Int) (i : Int) ∧ hsP ps.length (sdF ps) (p : Int) (j : Int)) (hsE : s = (j + (pcA ps p).sd.length - i) % (pcA ps p).sd.length) (hs2 : 2 ≤ s ∧ s + 2 ≤ (pcA ps p).sd.length) (hz : 1 ≤ z ∧ z ≤ 200) (hw : 1 ≤ w ∧ w < (pcA ps p).an.getD i 0)
    (hL : 1 ≤ hvL (pcA ps p).an i s w ∧ hvL (pcA ps p).an i s w ≤ 359) (hR : 1 ≤ (pcA ps p).an.getD j 0 - hvL (pcA ps p).an i s w ∧ (pcA ps p).an.getD j 0 - hvL (pcA ps p).an i s w ≤ 359) (hP : ps.length ≠ 8) (B : Nat) (w0 : Wd) (hs : HS) (hC : CapM B w0 hs oP oS ps sm) :
    Fn Try.prog 44 #[.agg #[.slice oP ps.length cP, .slice oS m cS, iv e], iv p, iv i, iv j, iv z, iv w] B w0 hs (fun v h => ∃ u blk, CpR (spP ps p i j z w) (spM ps sm m p i j) (m + 1) e u blk ∧ v = .tuple #[u, iv 0] ∧ h = blk ++ hs) := by
  have kv := fun hs' (h : hs.Sublist hs') => r_Validate ps oP oS cP m cS sm e hn hsm (by omega) B w0 hs' (hC.sub h)
  have V := vdC_0 hv
  have hv' : vdE ps.length (sdF ps) (anF ps) m sm e = 0 := hv
  rw [hv'] at kv
  have kd := fun a x hs' (h : hs.Sublist hs') => r_side ps oP oS cP m cS sm e a x hn (fun q hq => by have := (V.ok q hq).1; unfold sdF at this; omega) B w0 hs' (hC.sub h)
  have hP8 := V.n8
  have kd1 := fun hs' (h : hs.Sublist hs') => kd p i hs' h
  have kd2 := fun hs' (h : hs.Sublist hs') => kd p j hs' h
  rw [decide_eq_true hsd.1] at kd1
  rw [decide_eq_true hsd.2] at kd2
  clear kd
  obtain ⟨⟨hp1, hp2⟩, hi1, hi2⟩ := hsd.1
  obtain ⟨_, hj1, hj2⟩ := hsd.2
  simp only [Int.toNat_natCast] at hi2 hj2
  have hpp : p < ps.length := by omega
  obtain ⟨v1, v2, v3, v4⟩ := V.ok p hpp
  have e1 : (sdF ps p).length = (pcA ps p).sd.length := rfl
  have e2 : (anF ps p).length = (pcA ps p).an.length := rfl
  have hbb : ∀ u, u < (pcA ps p).sd.length → 1 ≤ (pcA ps p).an.getD u 0 ∧ (pcA ps p).an.getD u 0 ≤ 359 := fun u hu => (v3 u hu).2
  rw [e1] at v1 v2 hi2 hj2
  rw [e2] at v2
  have X := ctX (k := (pcA ps p).sd.length) (i := i) (j := j) (by omega) (by omega) (by omega)
  rw [← hsE] at X
  have x1 := X.sk
  have x2 := X.ij
  have x3 := X.i1
  have x4 := X.j1
  have hgi := hbb i (by omega)
  have hgj := hbb j (by omega)
  have iP := hC.isS hpp
  have hcl := fun hs' (h : hs.Sublist hs') => hC.ld (t := 41) (P := Try.prog) (shTOf rfl) h hpp
  have kw := fun x lo hi hs => r_within x lo hi B w0 hs
  have hsA := hC.sds p hpp
  have hsB := hC.ans p hpp
  have kh := fun hs' (h : hs.Sublist hs') => r_halves2 (pcA ps p).oa (pcA ps p).ob (pcA ps p).ca (pcA ps p).cb (pcA ps p).sd (pcA ps p).an i j s z w hsE (by omega) (by omega) (by omega) (by omega) (by omega) hbb (by omega) B w0 hs' (hsA.sub h) (hsB.sub h)
  have kc := fun hs' (h : hs.Sublist hs') => r_CopyC ps oP oS cP m cS sm e (by omega) (vdC_ok V) hsm (by omega) B w0 hs' (hC.sub h)
  refine fn_enter Try.func44 rfl Try.ntmps44 (by simp) ?_
  repeat' (first | ((with_reducible apply kP (.box 25 _)); refine sBA (fun b6 => ?_)) | ((with_reducible apply kP (.alloc 25)); refine sA (fun b12 => ?_)) | ((with_reducible apply kP (.alloc 41)); refine sA (fun b15 => ?_)) | ((with_reducible apply kF 19); refine sC 19 (kv _ SBt) ?_) | ((with_reducible apply kF 17); refine sR 17 (kc _ SBt) ?_; rintro v9 h9 ⟨blk9, ⟨oP', cP', oS', cS', rs, bo, ko, rfl, g2, g3, g4, g5, g6, rfl⟩, rfl⟩; obtain ⟨L1, ⟨⟨pa, pca, psd, pb, pcb, pan⟩, pk⟩, L2, rfl, hL1⟩ := split_at (show p < rs.length by omega); rcases g2 with ⟨_, _, g2, _⟩ | ⟨bP, zP, rfl, rfl, hzP, hcP⟩; (exfalso; rw [pcsv_mid] at g2; simp at g2); have hre : ∀ c F, (ko ++ ([(bP, c)] ++ rpb (L1 ++ (⟨⟨pa, pca, psd, pb, pcb, pan⟩, pk⟩ : Rp) :: L2))) ++ F = ko ++ ((bP, c) :: (rpb L2 ++ (pk ++ (rpb L1 ++ F)))) := (fun c F => by rw [rpb_split]; simp); rw [hre, pcsv_mid]; rw [pcsv_mid] at hzP; have hAl : p * 2 = (pcsv (rpP L1)).length := (by rw [pcsv_len, rpP, List.length_map]; omega); have hCl : (pcsv (rpP L2)).length + (p + 1) * 2 = ps.length * 2 := (by rw [pcsv_len, rpP, List.length_map]; rw [List.length_append, List.length_cons] at g4; omega); have hrn : RowOk (some ⟨bP, 0, none⟩) cP' 2 (pcsv (rpP L1) ++ (.slice oa5 (s + 1) c5 :: .slice oa6 (s + 1) c6 :: pcsv (rpP L2))) [(bP, (pcsv (rpP L1) ++ (.slice oa5 (s + 1) c5 :: .slice oa6 (s + 1) c6 :: pcsv (rpP L2))) ++ zP)] := .inr ⟨bP, zP, rfl, rfl, (by simp only [List.length_append, List.length_cons] at hzP ⊢; exact hzP), hcP⟩; have hnl : (pcsv (rpP L1) ++ (Value.slice oa5 (s + 1) c5 :: .slice oa6 (s + 1) c6 :: pcsv (rpP L2))).length = ps.length * 2 := (by simp only [List.length_append, List.length_cons]; omega)) | ((with_reducible apply kN); refine st41 hAl ?_ (flat_cons rfl (flat1 rfl))) | ((with_reducible apply kP (.call ⟨.builtin .append, _, _⟩)); refine sAp (fun oaN cN kN2 hrN => ?_) (hr := hrn) (hk := hnl) (hf := flat_cons rfl (flat1 rfl))) | ((with_reducible apply kN); refine stC ?_) | ((with_reducible apply kF 80); refine sC 80 (kd1 _ SBt) ?_) | ((with_reducible apply kF 80); refine sC 80 (kd2 _ SBt) ?_) | ((with_reducible apply kP (.load 41 _)); refine sP ?_ (o_load rfl (hcl _ SBt))) | ((with_reducible apply kDP (.load 41 _)); refine dP ?_ (hX := rfl) (hv := o_load rfl (hcl _ SBt))) | ((with_reducible apply kQO (.load 41 _)); refine qP ?_ (o_load rfl (hcl _ SBt))) | ((with_reducible apply kF 58); refine sC 58 (kw _ _ _ _) ?_) | ((with_reducible apply kP (.fieldAddr _ _ _)); refine sP ?_ (o_fieldE rfl (by assumption) (foTOf2 rfl rfl) (by with_reducible first | exact bb0 _ | exact bb1 _ | exact bb2 _ _))) | ((with_reducible apply kDP (.fieldAddr _ _ _)); refine dP ?_ (hX := rfl) (hv := o_fieldE rfl (by assumption) (foTOf2 rfl rfl) (by with_reducible first | exact bb0 _ | exact bb1 _ | exact bb2 _ _))) | ((with_reducible apply kQO (.fieldAddr _ _ _)); refine qP ?_ (o_fieldE rfl (by assumption) (foTOf2 rfl rfl) (by with_reducible first | exact bb0 _ | exact bb1 _ | exact bb2 _ _))) | ((with_reducible apply kF 81); refine sR 81 (kh _ SBt) ?_; rintro v7 h7 ⟨t9, SA, AN, SB, BN, oa5, oa6, oa7, oa8, c5, c6, c7, c8, k5, k6, k7, k8, y1, y4, ySA, yAN, ySB, yBN, ⟨l1, l2, l3, l4⟩, ⟨a1, a2, a3⟩, hr5, hr6, hr7, hr8, rfl, rfl⟩; have hL6 := Sl.row (B := B) (w0 := w0) hr6; have hL8 := Sl.row (B := B) (w0 := w0) hr8; have i6 := hL6.any (i := s) (by omega); have i8 := hL8.any (i := 0) (by omega); have hjA : ((s + 1 : Nat) : Int) - 1 = (s : Nat) := (by omega); have hjB : ((t9 + 1 : Nat) : Int) - 1 = (t9 : Nat) := (by omega)) | ((with_reducible apply kP (.indexAddr 39 (.tmp 100) _)); refine sP ?_ (o_indexS (scTOf rfl) rfl rfl hjA (aa0 _) i6 (by omega))) | ((with_reducible apply kDP (.indexAddr 39 (.tmp 100) _)); refine dP ?_ (hX := rfl) (hv := o_indexS (scTOf rfl) rfl rfl hjA (aa0 _) i6 (by omega))) | ((with_reducible apply kQO (.indexAddr 39 (.tmp 100) _)); refine qP ?_ (o_indexS (scTOf rfl) rfl rfl hjA (aa0 _) i6 (by omega))) | ((with_reducible apply kP (.indexAddr 39 (.tmp 116) _)); refine sP ?_ (o_indexS (scTOf rfl) rfl rfl hjB (aa0 _) i8 (by omega))) | ((with_reducible apply kDP (.indexAddr 39 (.tmp 116) _)); refine dP ?_ (hX := rfl) (hv := o_indexS (scTOf rfl) rfl rfl hjB (aa0 _) i8 (by omega))) | ((with_reducible apply kQO (.indexAddr 39 (.tmp 116) _)); refine qP ?_ (o_indexS (scTOf rfl) rfl rfl hjB (aa0 _) i8 (by omega))) | ((with_reducible apply kN); refine stW ?_ (hf := flat_cons rfl (flat_cons rfl (flat1 rfl)))) | ((with_reducible apply kN); refine stW ?_ (hf := flat_cons rfl (flat1 rfl))) | (with_reducible first | refine c_seq ?_ | refine c_reg ?_ | refine c_region ?_ | refine c_block ?_ | refine c_skip ?_ | refine c_exit ?_ | refine c_ret ?_ | refine s_nil ?_ | refine x_then ?_ | refine x_then_exit ?_ | refine x_then_ret ?_ | refine x_block ?_ | refine x_block_ret ?_ | refine x_block_same ?_ | refine x_block_other (by first | rfl | decide) ?_ | refine q_nil ?_ | refine k_nil ?_) | ((with_reducible apply kG); first | refine gY1 ?_ | refine gN1 ?_ | refine gU1 ?_ | (refine gD1 (fun h => ?_) (fun h => ?_) <;> (try (exfalso; omega))) | refine gB1 (fun h => ?_) (fun h => ?_)) | ((with_reducible apply kN); first | refine stP ?_ | refine stI ?_ | refine st1 ?_ | refine stW ?_) | ((with_reducible apply kP (.alloc _)); refine sA (fun b => ?_)) | ((with_reducible apply kP (.box _ _)); first | refine sBA (fun b => ?_) | refine sB (fun b => ?_)) | ((with_reducible apply kP (.buildSlice _ 1 _)); first | refine sl1A (fun b => ?_) | refine sl1 (fun b => ?_)) | ((with_reducible apply kP (.call ⟨.builtin .append, _, _⟩)); refine sAp (fun oa2 c2 blk2 hrow2 => ?_)) | ((with_reducible apply kP _); refine sP ?_) | ((with_reducible apply kP _); refine sX ?_) | ((with_reducible apply kQP); refine qP ?_) | ((with_reducible apply kQP); refine qX ?_) | ((with_reducible apply kC); first | refine cT ?_ | refine cF ?_ | (refine cI (fun h => ?_) (fun h => ?_) <;> (try (exfalso; omega))) | refine cB (fun h => ?_) (fun h => ?_)) | ((with_reducible apply kR); refine cQ ?_))
  all_goals try (exfalso; omega)
  rename_i b12r b15x _ _ _ _ _ b15y _ _ _
  have hsl := hC.sms
  have hd0 : sm = spT sm p i j (pcA ps p).sd.length s ps.length 0 ++ sm.drop (0 * 4) := by simp [spT]
  refine c_loop (fun t : SuI => [(1, iv p), (2, iv i), (3, iv j), (6, .pointer (some ⟨b6, 0, none⟩)), (12, .pointer (some ⟨b12r, 0, none⟩)), (13, iv 0), (16, iv (pcA ps p).sd.length), (19, iv (((s + 1 : Nat) : Int) - 1)), (20, iv (((t9 + 1 : Nat) : Int) - 1)), (21, .pointer (some ⟨b12, 0, none⟩)), (22, iv t.i)])
    (fun t : SuI => kN2 ++ ((b12, [.slice oaN (ps.length + 1) cN, .slice oS' m cS', iv e]) :: (t.k ++ (rpb L2 ++ (rpb L1 ++ (k8 ++ (k7 ++ (k6 ++ (k5 ++ ((b12r, [.slice none 0 0, .slice none 0 0, iv 0]) :: (b6, [.slice oP ps.length cP, .slice oS m cS, iv e]) :: hs))))))))))
    (fun t => t.i ≤ m ∧ RowOk oS' cS' 4 (ivs (spT sm p i j (pcA ps p).sd.length s ps.length t.i ++ sm.drop (t.i * 4))) t.k) (fun t => m - t.i) ⟨0, ko⟩ ⟨Nat.zero_le _, by dsimp only; rw [← hd0]; exact g6⟩ (by repeat' first | trivial | rfl | apply And.intro) ?_ ?_
  · exact .append (.refl _) (.cons _ (.cons_cons _ (.append (.refl _) (.append (.refl _) (sbA (.append (.refl _) (.cons _ (.cons _ (.append (.refl _) (.append (.refl _) (.append (.refl _) (.append (.refl _) (.cons _ (.refl _))))))))))))))
  rintro ⟨t, kt⟩ ⟨ht, hrt⟩
  dsimp only at ht hrt ⊢
  by_cases ht' : t < m
  · obtain ⟨⟨⟨d1, d2⟩, d3, d4⟩, ⟨d5, d6⟩, d7, d8⟩ := seP (V.se t ht')
    have hA : sm.getD (t * 4) 0 = ((smA sm t).toNat : Int) := by have q : smA sm t = sm.getD (t * 4) 0 := (by unfold smA; rfl); omega
    have hI : sm.getD (t * 4 + 1) 0 = ((smI sm t).toNat : Int) := by have q : smI sm t = sm.getD (t * 4 + 1) 0 := (by unfold smI; rfl); omega
    have hD : sm.getD (t * 4 + 2) 0 = ((smB sm t).toNat : Int) := by have q : smB sm t = sm.getD (t * 4 + 2) 0 := (by unfold smB; rfl); omega
    have hJ : sm.getD (t * 4 + 3) 0 = ((smJ sm t).toNat : Int) := by have q : smJ sm t = sm.getD (t * 4 + 3) 0 := (by unfold smJ; rfl); omega
    have hl1 := ((V.ok (smA sm t).toNat (by omega)).1).2
    have hl2 := ((V.ok (smB sm t).toNat (by omega)).1).2
    have km1 : ∀ hs', Fn Try.prog 82 #[iv (sm.getD (t * 4) 0), iv (sm.getD (t * 4 + 1) 0), iv p, iv i, iv j, iv (pcA ps p).sd.length, iv ps.length] B w0 hs' (fun v h => v = .tuple #[iv (mv1 (smA sm t).toNat (smI sm t).toNat p i (pcA ps p).sd.length s ps.length), iv (mv2 (smA sm t).toNat (smI sm t).toNat p i j (pcA ps p).sd.length s)] ∧ h = hs') := fun hs' => by
      rw [hA, hI]; have q := r_moved (smA sm t).toNat (smI sm t).toNat p i j (pcA ps p).sd.length ps.length (by omega) (by omega) (by omega) (by omega) (by omega) (by omega) (by omega) B w0 hs'; rw [← hsE] at q; exact q
    have km2 : ∀ hs', Fn Try.prog 82 #[iv (sm.getD (t * 4 + 2) 0), iv (sm.getD (t * 4 + 3) 0), iv p, iv i, iv j, iv (pcA ps p).sd.length, iv ps.length] B w0 hs' (fun v h => v = .tuple #[iv (mv1 (smB sm t).toNat (smJ sm t).toNat p i (pcA ps p).sd.length s ps.length), iv (mv2 (smB sm t).toNat (smJ sm t).toNat p i j (pcA ps p).sd.length s)] ∧ h = hs') := fun hs' => by
      rw [hD, hJ]; have q := r_moved (smB sm t).toNat (smJ sm t).toNat p i j (pcA ps p).sd.length ps.length (by omega) (by omega) (by omega) (by omega) (by omega) (by omega) (by omega) B w0 hs'; rw [← hsE] at q; exact q
    have hdr : sm.drop (t * 4) = sm.getD (t * 4) 0 :: sm.getD (t * 4 + 1) 0 :: sm.getD (t * 4 + 2) 0 :: sm.getD (t * 4 + 3) 0 :: sm.drop ((t + 1) * 4) := by
      have g : ∀ q, q < sm.length → sm.drop q = sm.getD q 0 :: sm.drop (q + 1) := fun q hq => by
        rw [List.drop_eq_getElem_cons hq, List.getD_eq_getElem?_getD, List.getElem?_eq_getElem hq]; rfl
      rw [g _ (by omega), g _ (by omega), g _ (by omega), g _ (by omega), show t * 4 + 1 + 1 + 1 + 1 = (t + 1) * 4 by omega]
    rw [hdr] at hrt
    have hTl := spT_len sm p i j (pcA ps p).sd.length s ps.length t
    rcases hrt with ⟨_, _, h3, _⟩ | ⟨bS, zS, rfl, rfl, hzS, hcS⟩
    · exfalso
      have := congrArg List.length h3
      rw [ivs_length] at this
      simp at this
    have iS := hsl.any (i := 0) (by omega)
    rw [List.cons_append, List.nil_append]
    repeat' (first | ((with_reducible apply kP (.alloc 56)); refine sA (fun b23 => ?_)) | ((with_reducible apply kP (.load 56 (.tmp 152))); refine sP ?_ (o_load rfl (ld_4S (shTOf rfl) hsl SBt (by omega)))) | ((with_reducible apply kDP (.load 56 (.tmp 152))); refine dP ?_ (hX := rfl) (hv := o_load rfl (ld_4S (shTOf rfl) hsl SBt (by omega)))) | ((with_reducible apply kQO (.load 56 (.tmp 152))); refine qP ?_ (o_load rfl (ld_4S (shTOf rfl) hsl SBt (by omega)))) | ((with_reducible apply kP (.load 56 _)); refine sP ?_ (o_load rfl (ld_own (shTOf rfl) MMt rfl rfl))) | ((with_reducible apply kDP (.load 56 _)); refine dP ?_ (hX := rfl) (hv := o_load rfl (ld_own (shTOf rfl) MMt rfl rfl))) | ((with_reducible apply kQO (.load 56 _)); refine qP ?_ (o_load rfl (ld_own (shTOf rfl) MMt rfl rfl))) | ((with_reducible apply kF 82); refine sC 82 (km1 _) ?_) | ((with_reducible apply kF 82); refine sC 82 (km2 _) ?_) | ((with_reducible apply kN); refine st56 hTl.symm ?_) | ((with_reducible apply kN); refine stC ?_) | ((with_reducible apply kN); refine stW ?_ (hf := flat_iv [_, _, _, _])) | (with_reducible first | refine c_seq ?_ | refine c_reg ?_ | refine c_region ?_ | refine c_block ?_ | refine c_skip ?_ | refine c_exit ?_ | refine c_ret ?_ | refine s_nil ?_ | refine x_then ?_ | refine x_then_exit ?_ | refine x_then_ret ?_ | refine x_block ?_ | refine x_block_ret ?_ | refine x_block_same ?_ | refine x_block_other (by first | rfl | decide) ?_ | refine q_nil ?_ | refine k_nil ?_) | ((with_reducible apply kG); first | refine gY1 ?_ | refine gN1 ?_ | refine gU1 ?_ | (refine gD1 (fun h => ?_) (fun h => ?_) <;> (try (exfalso; omega))) | refine gB1 (fun h => ?_) (fun h => ?_)) | ((with_reducible apply kN); first | refine stP ?_ | refine stI ?_ | refine st1 ?_ | refine stW ?_) | ((with_reducible apply kP (.alloc _)); refine sA (fun b => ?_)) | ((with_reducible apply kP (.box _ _)); first | refine sBA (fun b => ?_) | refine sB (fun b => ?_)) | ((with_reducible apply kP (.buildSlice _ 1 _)); first | refine sl1A (fun b => ?_) | refine sl1 (fun b => ?_)) | ((with_reducible apply kP (.call ⟨.builtin .append, _, _⟩)); refine sAp (fun oa2 c2 blk2 hrow2 => ?_)) | ((with_reducible apply kP _); refine sP ?_) | ((with_reducible apply kP _); refine sX ?_) | ((with_reducible apply kQP); refine qP ?_) | ((with_reducible apply kQP); refine qX ?_) | ((with_reducible apply kC); first | refine cT ?_ | refine cF ?_ | (refine cI (fun h => ?_) (fun h => ?_) <;> (try (exfalso; omega))) | refine cB (fun h => ?_) (fun h => ?_)) | ((with_reducible apply kR); refine cQ ?_))
    all_goals try (exfalso; omega)
    have hnx : spT sm p i j (pcA ps p).sd.length s ps.length (t + 1) ++ sm.drop ((t + 1) * 4) = spT sm p i j (pcA ps p).sd.length s ps.length t ++ (((mv1 (smA sm t).toNat (smI sm t).toNat p i (pcA ps p).sd.length s ps.length : Nat) : Int) :: ((mv2 (smA sm t).toNat (smI sm t).toNat p i j (pcA ps p).sd.length s : Nat) : Int) :: ((mv1 (smB sm t).toNat (smJ sm t).toNat p i (pcA ps p).sd.length s ps.length : Nat) : Int) :: ((mv2 (smB sm t).toNat (smJ sm t).toNat p i j (pcA ps p).sd.length s : Nat) : Int) :: sm.drop ((t + 1) * 4)) := by
      show (spT sm p i j (pcA ps p).sd.length s ps.length t ++ [_, _, _, _]) ++ _ = _
      rw [List.append_assoc]; rfl
    refine r_end (⟨t + 1, [(bS, ivs (spT sm p i j (pcA ps p).sd.length s ps.length (t + 1) ++ sm.drop ((t + 1) * 4)) ++ zS)]⟩ : SuI) ⟨ht', .inr ⟨bS, zS, rfl, rfl, ?_, hcS⟩⟩ (by dsimp only; omega) (by repeat' first | trivial | rfl | apply And.intro) ?_
    · dsimp only
      rw [hnx]
      rw [List.length_append, ivs_length, List.length_append] at hzS ⊢
      simp only [List.length_cons] at hzS ⊢
      exact hzS
    · dsimp only
      rw [hnx]
      exact .cons _ (.cons _ (.refl _))
  · obtain rfl : m = t := by omega
    have hdn : sm.drop (m * 4) = [] := List.drop_eq_nil_of_le (by omega)
    rw [hdn, List.append_nil] at hrt
    have hTl := spT_len sm p i j (pcA ps p).sd.length s ps.length m
    have hTk : (ivs (spT sm p i j (pcA ps p).sd.length s ps.length m)).length = m * 4 := by rw [ivs_length, hTl]
    repeat' (first | ((with_reducible apply kP (.build 56 _)); refine sP ?_ (o_bld4 rfl rfl rfl rfl rfl rfl rfl rfl (zcTOf rfl) (plTOf rfl))) | ((with_reducible apply kDP (.build 56 _)); refine dP ?_ (hX := rfl) (hv := o_bld4 rfl rfl rfl rfl rfl rfl rfl rfl (zcTOf rfl) (plTOf rfl))) | ((with_reducible apply kQO (.build 56 _)); refine qP ?_ (o_bld4 rfl rfl rfl rfl rfl rfl rfl rfl (zcTOf rfl) (plTOf rfl))) | ((with_reducible apply kP (.call ⟨.builtin .append, _, _⟩)); refine sAp (fun oaM cM kM hrM => ?_) (hr := hrt) (hk := hTk) (hf := flat_cons rfl (flat_cons rfl (flat_cons rfl (flat1 rfl))))) | ((with_reducible apply kN); refine stC ?_) | ((with_reducible apply kN); refine stW ?_ (hf := flat_cons rfl (flat_cons rfl (flat1 rfl)))) | (with_reducible first | refine c_seq ?_ | refine c_reg ?_ | refine c_region ?_ | refine c_block ?_ | refine c_skip ?_ | refine c_exit ?_ | refine c_ret ?_ | refine s_nil ?_ | refine x_then ?_ | refine x_then_exit ?_ | refine x_then_ret ?_ | refine x_block ?_ | refine x_block_ret ?_ | refine x_block_same ?_ | refine x_block_other (by first | rfl | decide) ?_ | refine q_nil ?_ | refine k_nil ?_) | ((with_reducible apply kG); first | refine gY1 ?_ | refine gN1 ?_ | refine gU1 ?_ | (refine gD1 (fun h => ?_) (fun h => ?_) <;> (try (exfalso; omega))) | refine gB1 (fun h => ?_) (fun h => ?_)) | ((with_reducible apply kN); first | refine stP ?_ | refine stI ?_ | refine st1 ?_ | refine stW ?_) | ((with_reducible apply kP (.alloc _)); refine sA (fun b => ?_)) | ((with_reducible apply kP (.box _ _)); first | refine sBA (fun b => ?_) | refine sB (fun b => ?_)) | ((with_reducible apply kP (.buildSlice _ 1 _)); first | refine sl1A (fun b => ?_) | refine sl1 (fun b => ?_)) | ((with_reducible apply kP (.call ⟨.builtin .append, _, _⟩)); refine sAp (fun oa2 c2 blk2 hrow2 => ?_)) | ((with_reducible apply kP _); refine sP ?_) | ((with_reducible apply kP _); refine sX ?_) | ((with_reducible apply kQP); refine qP ?_) | ((with_reducible apply kQP); refine qX ?_) | ((with_reducible apply kC); first | refine cT ?_ | refine cF ?_ | (refine cI (fun h => ?_) (fun h => ?_) <;> (try (exfalso; omega))) | refine cB (fun h => ?_) (fun h => ?_)) | ((with_reducible apply kR); refine cQ ?_))
    all_goals try (exfalso; omega)
    obtain rfl : t9 = (pcA ps p).sd.length - s := by omega
    rw [hjA, hjB] at hrM
    subst ySA yAN ySB yBN
    have hq := CpR.cutS (e := e) hsE g4 hL1 g3 g5 hr5 hr6 hr7 hr8 hrN hrM
    refine sat_take (blk := rpb L1) (by with_reducible ((repeat (first | exact Take.head | exact Take.one | apply Take.tail | apply Take.app)); done)) (sat_take (blk := k5) (by with_reducible ((repeat (first | exact Take.head | exact Take.one | apply Take.tail | apply Take.app)); done)) (sat_take (blk := k6) (by with_reducible ((repeat (first | exact Take.head | exact Take.one | apply Take.tail | apply Take.app)); done)) (sat_take (blk := rpb L2) (by with_reducible ((repeat (first | exact Take.head | exact Take.one | apply Take.tail | apply Take.app)); done)) (sat_take (blk := k7) (by with_reducible ((repeat (first | exact Take.head | exact Take.one | apply Take.tail | apply Take.app)); done)) (sat_take (blk := k8) (by with_reducible ((repeat (first | exact Take.head | exact Take.one | apply Take.tail | apply Take.app)); done)) (sat_take (blk := kN2) (by with_reducible ((repeat (first | exact Take.head | exact Take.one | apply Take.tail | apply Take.app)); done)) (sat_take (blk := kM) (by with_reducible ((repeat (first | exact Take.head | exact Take.one | apply Take.tail | apply Take.app)); done)) ?_)))))))
    refine e_ret2 rfl ⟨_, rfl, ld_whole (shTOf rfl) MDt rfl⟩ rfl ⟨_, _, hq, rfl, rfl⟩ ?_
    simp only [List.append_assoc]
    exact .append (.refl _) (.append (.refl _) (.append (.refl _) (.append (.refl _) (.append (.refl _) (.append (.refl _) (.append (.refl _) (.append (.refl _) (.cons _ (.cons _ (.cons _ (.cons _ (.refl _))))))))))))
end Go.Proofs.Ytnbickholedckaa
