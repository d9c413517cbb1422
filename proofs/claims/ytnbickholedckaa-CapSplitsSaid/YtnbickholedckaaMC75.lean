/- Split of the program, whole. -/
import Derived.Test.YtnbickholedckaaMC74
namespace Go.Proofs.Ytnbickholedckaa
open Go.RowKit
attribute [local irreducible] OpF Ld CellAt Sl Sv pcA usP
set_option maxRecDepth 100000 in
set_option maxHeartbeats 8000000 in
theorem k_Split (ps : List Pc) (oP oS : Option Addr) (cP m cS : Nat) (sm : List Int) (e p i j z w : Int) (hn : ps.length ≤ 100) (hsm : sm.length = m * 4) (hm : m < 100) (B : Nat) (w0 : Wd) (hs : HS) (hC : CapM B w0 hs oP oS ps sm) :
    Fn Try.prog 43 #[.agg #[.slice oP ps.length cP, .slice oS m cS, iv e], iv p, iv i, iv j, iv z, iv w] B w0 hs (CeR (spE ps sm m e p i j z w) (spP ps p.toNat i.toNat j.toNat z w) (spM ps sm m p.toNat i.toNat j.toNat) (m + 1) e hs) := by
  have kv := fun hs' (h : hs.Sublist hs') => k_Validate ps oP oS cP m cS sm e hn hsm (by omega) B w0 hs' (hC.sub h)
  unfold CeR spE
  by_cases hv : vdC ps sm m e = 0
  · have V := vdC_0 hv
    rw [if_neg (fun h => h hv)]
    have hv' : vdE ps.length (sdF ps) (anF ps) m sm e = 0 := hv
    rw [hv'] at kv
    have kd := fun a x hs' (h : hs.Sublist hs') => k_hasSide ps oP oS cP m cS sm e a x B w0 hs' (hC.sub h)
    have hP8 := V.n8
    by_cases hsd : hsP ps.length (sdF ps) p i ∧ hsP ps.length (sdF ps) p j
    · rw [if_neg (fun h => h hsd)]
      have kd1 := fun hs' (h : hs.Sublist hs') => kd p i hs' h
      have kd2 := fun hs' (h : hs.Sublist hs') => kd p j hs' h
      rw [decide_eq_true hsd.1] at kd1
      rw [decide_eq_true hsd.2] at kd2
      clear kd
      obtain ⟨⟨hp1, hp2⟩, hi1, hi2⟩ := hsd.1
      obtain ⟨_, hj1, hj2⟩ := hsd.2
      obtain ⟨p, rfl⟩ : ∃ y : Nat, p = (y : Int) := ⟨p.toNat, by omega⟩
      obtain ⟨i, rfl⟩ : ∃ y : Nat, i = (y : Int) := ⟨i.toNat, by omega⟩
      obtain ⟨j, rfl⟩ : ∃ y : Nat, j = (y : Int) := ⟨j.toNat, by omega⟩
      simp only [Int.toNat_natCast] at *
      have hpp : p < ps.length := by omega
      obtain ⟨v1, v2, v3, v4⟩ := V.ok p hpp
      have e1 : (sdF ps p).length = (pcA ps p).sd.length := rfl
      have e2 : (anF ps p).length = (pcA ps p).an.length := rfl
      have hbb : ∀ u, u < (pcA ps p).sd.length → 1 ≤ (pcA ps p).an.getD u 0 ∧ (pcA ps p).an.getD u 0 ≤ 359 := fun u hu => (v3 u hu).2
      rw [e1] at v1 v2 hi2 hj2
      rw [e2] at v2
      obtain ⟨s, hsE⟩ : ∃ s, s = (j + (pcA ps p).sd.length - i) % (pcA ps p).sd.length := ⟨_, rfl⟩
      have hsk : s < (pcA ps p).sd.length := by rw [hsE]; exact Nat.mod_lt _ (by omega)
      have hgi := hbb i (by omega)
      have hrm : ((j : Int) - (i : Int) + ((pcA ps p).sd.length : Int)) % ((pcA ps p).sd.length : Int) = (s : Int) := by
        rw [hsE, show (j : Int) - (i : Int) + ((pcA ps p).sd.length : Int) = ((j + (pcA ps p).sd.length - i : Nat) : Int) by omega, ← Int.natCast_emod]
      by_cases hg1 : s < 2 ∨ (pcA ps p).sd.length < s + 2 ∨ ¬ (1 ≤ z ∧ z ≤ 200) ∨ ¬ (1 ≤ w ∧ w < (pcA ps p).an.getD i 0)
      · have q1 := hg1
        rw [hsE] at q1
        rw [if_pos q1]
        have iP := hC.isS hpp
        have hcl := fun hs' (h : hs.Sublist hs') => hC.ld (t := 41) (P := Try.prog) (shTOf rfl) h hpp
        have kw := fun x lo hi hs => k_within x lo hi B w0 hs
        have hsB := hC.ans p hpp
        have iB := hsB.any (i := i) (by omega)
        refine fn_enter Try.func43 rfl Try.ntmps43 (by simp) ?_
        repeat' (first | ((with_reducible apply kP (.box 25 _)); refine sBA (fun b6 => ?_)) | ((with_reducible apply kP (.box 3 _)); refine sB (fun b7 => ?_)) | ((with_reducible apply kP (.alloc 25)); refine sA (fun b12 => ?_)) | ((with_reducible apply kP (.alloc 41)); refine sA (fun b15 => ?_)) | ((with_reducible apply kP (.alloc 3)); refine sA (fun b16 => ?_)) | ((with_reducible apply kF 18); refine sC 18 (kv _ SBt) ?_) | ((with_reducible apply kF 76); refine sC 76 (kd1 _ SBt) ?_) | ((with_reducible apply kF 76); refine sC 76 (kd2 _ SBt) ?_) | ((with_reducible apply kP (.load 41 (.tmp 47))); refine sP ?_ (o_load rfl (hcl _ SBt))) | ((with_reducible apply kDP (.load 41 (.tmp 47))); refine dP ?_ (hX := rfl) (hv := o_load rfl (hcl _ SBt))) | ((with_reducible apply kQO (.load 41 (.tmp 47))); refine qP ?_ (o_load rfl (hcl _ SBt))) | ((with_reducible apply kF 53); refine sC 53 (kw _ _ _ _) ?_) | ((with_reducible apply kP (.binOp .rem _ _ _ _)); refine sP ?_ (o_remE rfl rfl (by omega) (by omega) hrm)) | ((with_reducible apply kDP (.binOp .rem _ _ _ _)); refine dP ?_ (hX := rfl) (hv := o_remE rfl rfl (by omega) (by omega) hrm)) | ((with_reducible apply kQO (.binOp .rem _ _ _ _)); refine qP ?_ (o_remE rfl rfl (by omega) (by omega) hrm)) | ((with_reducible apply kP (.indexAddr 39 (.tmp 75) _)); refine sP ?_ (o_indexS (scTOf rfl) rfl rfl rfl (aa0 _) iB (by omega))) | ((with_reducible apply kDP (.indexAddr 39 (.tmp 75) _)); refine dP ?_ (hX := rfl) (hv := o_indexS (scTOf rfl) rfl rfl rfl (aa0 _) iB (by omega))) | ((with_reducible apply kQO (.indexAddr 39 (.tmp 75) _)); refine qP ?_ (o_indexS (scTOf rfl) rfl rfl rfl (aa0 _) iB (by omega))) | ((with_reducible apply kNx 43); fail) | ((with_reducible apply kRg 11); fail) | ((with_reducible apply kN); refine stW ?_ (hf := flat_cons rfl (flat_cons rfl (flat1 rfl)))) | ((with_reducible apply kN); refine stW ?_ (hf := flat_cons rfl (flat1 rfl))) | ((with_reducible apply kRg 15); refine cD [1, 1, 1, 1, 1, 1, 1, 1, 1, 1, 1, 1, 1, 1, 4] ?_) | ((with_reducible apply kRg 16); refine cD [1, 1, 1, 1, 1, 1, 1, 1, 1, 1, 1, 1, 1, 1, 4] ?_) | (with_reducible first | refine c_seq ?_ | refine c_reg ?_ | refine c_region ?_ | refine c_block ?_ | refine c_skip ?_ | refine c_exit ?_ | refine c_ret ?_ | refine s_nil ?_ | refine x_then ?_ | refine x_then_exit ?_ | refine x_then_ret ?_ | refine x_block ?_ | refine x_block_ret ?_ | refine x_block_same ?_ | refine x_block_other (by first | rfl | decide) ?_ | refine q_nil ?_ | refine k_nil ?_) | ((with_reducible apply kP (.makeFunc _ _ _)); refine sMF ?_) | ((with_reducible apply kG); first | refine gY1 ?_ | refine gN1 ?_ | refine gU1 ?_ | (refine gD1 (fun h => ?_) (fun h => ?_) <;> (try (exfalso; omega))) | refine gB1 (fun h => ?_) (fun h => ?_)) | ((with_reducible apply kN); first | refine stP ?_ | refine stI ?_ | refine st1 ?_ | refine stW ?_) | ((with_reducible apply kP (.alloc _)); refine sA (fun b => ?_)) | ((with_reducible apply kP (.box _ _)); first | refine sBA (fun b => ?_) | refine sB (fun b => ?_)) | ((with_reducible apply kP (.buildSlice _ 1 _)); first | refine sl1A (fun b => ?_) | refine sl1 (fun b => ?_)) | ((with_reducible apply kP (.call ⟨.builtin .append, _, _⟩)); refine sAp (fun oa2 c2 blk2 hrow2 => ?_)) | ((with_reducible apply kP _); refine sP ?_) | ((with_reducible apply kP _); refine sX ?_) | ((with_reducible apply kC); first | refine cT ?_ | refine cF ?_ | (refine cI (fun h => ?_) (fun h => ?_) <;> (try (exfalso; omega))) | refine cB (fun h => ?_) (fun h => ?_)) | ((with_reducible apply kDN); first | refine dtI ?_ | refine dt1 ?_ | refine dtW ?_) | ((with_reducible apply kDP (.alloc _)); refine dA (fun b => ?_)) | ((with_reducible apply kDP _); refine dP ?_) | ((with_reducible apply kDP _); refine dX ?_))
        all_goals try (exfalso; omega)
        all_goals first
          | exact e_ret2 (hs' := hs) rfl ⟨_, rfl, ld_whole (shTOf rfl) MDt rfl⟩ rfl (.inl ⟨by decide, rfl, rfl⟩) SCt
          | trace_state
      · have q1 := hg1
        rw [hsE] at q1
        rw [if_neg q1]
        by_cases hLR : (1 ≤ hvL (pcA ps p).an i s w ∧ hvL (pcA ps p).an i s w ≤ 359) ∧ (1 ≤ (pcA ps p).an.getD j 0 - hvL (pcA ps p).an i s w ∧ (pcA ps p).an.getD j 0 - hvL (pcA ps p).an i s w ≤ 359)
        · have q2 := (show ¬ (¬ (1 ≤ hvL (pcA ps p).an i s w ∧ hvL (pcA ps p).an i s w ≤ 359) ∨ ¬ (1 ≤ (pcA ps p).an.getD j 0 - hvL (pcA ps p).an i s w ∧ (pcA ps p).an.getD j 0 - hvL (pcA ps p).an i s w ≤ 359)) by omega)
          rw [hsE] at q2
          rw [if_neg q2]
          by_cases hP : ps.length = 8
          · rw [if_pos hP]
            exact (k_SplitLate ps oP oS cP m cS p i j s sm e z w 4 hn hsm hm hv hsd hsE (by omega) (by omega) (by omega) (.inr ⟨hLR, hP, rfl⟩) B w0 hs hC).mono fun v h hc => .inl ⟨by decide, hc⟩
          · rw [if_neg hP]
            exact (k_SplitOk ps oP oS cP m cS p i j s sm e z w hn hsm hm hv hsd hsE (by omega) (by omega) (by omega) hLR.1 hLR.2 hP B w0 hs hC).mono fun v h hc => .inr ⟨rfl, hc⟩
        · have q2 := (show ¬ (1 ≤ hvL (pcA ps p).an i s w ∧ hvL (pcA ps p).an i s w ≤ 359) ∨ ¬ (1 ≤ (pcA ps p).an.getD j 0 - hvL (pcA ps p).an i s w ∧ (pcA ps p).an.getD j 0 - hvL (pcA ps p).an i s w ≤ 359) by omega)
          rw [hsE] at q2
          rw [if_pos q2]
          exact (k_SplitLate ps oP oS cP m cS p i j s sm e z w 1 hn hsm hm hv hsd hsE (by omega) (by omega) (by omega) (.inl ⟨hLR, rfl⟩) B w0 hs hC).mono fun v h hc => .inl ⟨by decide, hc⟩
    · rw [if_pos hsd]
      by_cases hs1 : hsP ps.length (sdF ps) p i
      · have hs2 : ¬ hsP ps.length (sdF ps) p j := fun h => hsd ⟨hs1, h⟩
        have kd1 := fun hs' (h : hs.Sublist hs') => kd p i hs' h
        have kd2 := fun hs' (h : hs.Sublist hs') => kd p j hs' h
        rw [decide_eq_true hs1] at kd1
        rw [decide_eq_false hs2] at kd2
        refine fn_enter Try.func43 rfl Try.ntmps43 (by simp) ?_
        repeat' (first | ((with_reducible apply kP (.box 25 _)); refine sBA (fun b6 => ?_)) | ((with_reducible apply kP (.box 3 _)); refine sB (fun b7 => ?_)) | ((with_reducible apply kP (.alloc 25)); refine sA (fun b12 => ?_)) | ((with_reducible apply kF 18); refine sC 18 (kv _ SBt) ?_) | ((with_reducible apply kF 76); refine sC 76 (kd1 _ SBt) ?_) | ((with_reducible apply kF 76); refine sC 76 (kd2 _ SBt) ?_) | ((with_reducible apply kN); refine stW ?_ (hf := flat_cons rfl (flat_cons rfl (flat1 rfl)))) | ((with_reducible apply kN); refine stW ?_ (hf := flat_cons rfl (flat1 rfl))) | ((with_reducible apply kRg 11); refine cD [1, 1, 1, 1, 3, 0, 0, 0, 0, 0, 0, 3, 2, 2, 4, 4] ?_) | ((with_reducible apply kRg 15); refine cD [1, 1, 1, 1, 1, 1, 1, 1, 1, 1, 1, 1, 1, 1, 4] ?_) | ((with_reducible apply kRg 16); refine cD [1, 1, 1, 1, 1, 1, 1, 1, 1, 1, 1, 1, 1, 1, 4] ?_) | (with_reducible first | refine c_seq ?_ | refine c_reg ?_ | refine c_region ?_ | refine c_block ?_ | refine c_skip ?_ | refine c_exit ?_ | refine c_ret ?_ | refine s_nil ?_ | refine x_then ?_ | refine x_then_exit ?_ | refine x_then_ret ?_ | refine x_block ?_ | refine x_block_ret ?_ | refine x_block_same ?_ | refine x_block_other (by first | rfl | decide) ?_ | refine q_nil ?_ | refine k_nil ?_) | ((with_reducible apply kP (.makeFunc _ _ _)); refine sMF ?_) | ((with_reducible apply kG); first | refine gY1 ?_ | refine gN1 ?_ | refine gU1 ?_ | (refine gD1 (fun h => ?_) (fun h => ?_) <;> (try (exfalso; omega))) | refine gB1 (fun h => ?_) (fun h => ?_)) | ((with_reducible apply kN); first | refine stP ?_ | refine stI ?_ | refine st1 ?_ | refine stW ?_) | ((with_reducible apply kP (.alloc _)); refine sA (fun b => ?_)) | ((with_reducible apply kP (.box _ _)); first | refine sBA (fun b => ?_) | refine sB (fun b => ?_)) | ((with_reducible apply kP (.buildSlice _ 1 _)); first | refine sl1A (fun b => ?_) | refine sl1 (fun b => ?_)) | ((with_reducible apply kP (.call ⟨.builtin .append, _, _⟩)); refine sAp (fun oa2 c2 blk2 hrow2 => ?_)) | ((with_reducible apply kP _); refine sP ?_) | ((with_reducible apply kP _); refine sX ?_) | ((with_reducible apply kC); first | refine cT ?_ | refine cF ?_ | (refine cI (fun h => ?_) (fun h => ?_) <;> (try (exfalso; omega))) | refine cB (fun h => ?_) (fun h => ?_)) | ((with_reducible apply kDN); first | refine dtI ?_ | refine dt1 ?_ | refine dtW ?_) | ((with_reducible apply kDP (.alloc _)); refine dA (fun b => ?_)) | ((with_reducible apply kDP _); refine dP ?_) | ((with_reducible apply kDP _); refine dX ?_))
        all_goals try (exfalso; omega)
        exact e_ret2 (hs' := hs) rfl ⟨_, rfl, ld_whole (shTOf rfl) MDt rfl⟩ rfl (.inl ⟨by decide, rfl, rfl⟩) SCt
      · have kd1 := fun hs' (h : hs.Sublist hs') => kd p i hs' h
        have kd2 := fun hs' (h : hs.Sublist hs') => kd p j hs' h
        rw [decide_eq_false hs1] at kd1
        refine fn_enter Try.func43 rfl Try.ntmps43 (by simp) ?_
        repeat' (first | ((with_reducible apply kP (.box 25 _)); refine sBA (fun b6 => ?_)) | ((with_reducible apply kP (.box 3 _)); refine sB (fun b7 => ?_)) | ((with_reducible apply kP (.alloc 25)); refine sA (fun b12 => ?_)) | ((with_reducible apply kF 18); refine sC 18 (kv _ SBt) ?_) | ((with_reducible apply kF 76); refine sC 76 (kd1 _ SBt) ?_) | ((with_reducible apply kF 76); refine sC 76 (kd2 _ SBt) ?_) | ((with_reducible apply kN); refine stW ?_ (hf := flat_cons rfl (flat_cons rfl (flat1 rfl)))) | ((with_reducible apply kN); refine stW ?_ (hf := flat_cons rfl (flat1 rfl))) | ((with_reducible apply kRg 11); refine cD [1, 1, 1, 1, 3, 0, 0, 0, 0, 0, 0, 3, 2, 2, 4, 4] ?_) | ((with_reducible apply kRg 15); refine cD [1, 1, 1, 1, 1, 1, 1, 1, 1, 1, 1, 1, 1, 1, 4] ?_) | ((with_reducible apply kRg 16); refine cD [1, 1, 1, 1, 1, 1, 1, 1, 1, 1, 1, 1, 1, 1, 4] ?_) | (with_reducible first | refine c_seq ?_ | refine c_reg ?_ | refine c_region ?_ | refine c_block ?_ | refine c_skip ?_ | refine c_exit ?_ | refine c_ret ?_ | refine s_nil ?_ | refine x_then ?_ | refine x_then_exit ?_ | refine x_then_ret ?_ | refine x_block ?_ | refine x_block_ret ?_ | refine x_block_same ?_ | refine x_block_other (by first | rfl | decide) ?_ | refine q_nil ?_ | refine k_nil ?_) | ((with_reducible apply kP (.makeFunc _ _ _)); refine sMF ?_) | ((with_reducible apply kG); first | refine gY1 ?_ | refine gN1 ?_ | refine gU1 ?_ | (refine gD1 (fun h => ?_) (fun h => ?_) <;> (try (exfalso; omega))) | refine gB1 (fun h => ?_) (fun h => ?_)) | ((with_reducible apply kN); first | refine stP ?_ | refine stI ?_ | refine st1 ?_ | refine stW ?_) | ((with_reducible apply kP (.alloc _)); refine sA (fun b => ?_)) | ((with_reducible apply kP (.box _ _)); first | refine sBA (fun b => ?_) | refine sB (fun b => ?_)) | ((with_reducible apply kP (.buildSlice _ 1 _)); first | refine sl1A (fun b => ?_) | refine sl1 (fun b => ?_)) | ((with_reducible apply kP (.call ⟨.builtin .append, _, _⟩)); refine sAp (fun oa2 c2 blk2 hrow2 => ?_)) | ((with_reducible apply kP _); refine sP ?_) | ((with_reducible apply kP _); refine sX ?_) | ((with_reducible apply kC); first | refine cT ?_ | refine cF ?_ | (refine cI (fun h => ?_) (fun h => ?_) <;> (try (exfalso; omega))) | refine cB (fun h => ?_) (fun h => ?_)) | ((with_reducible apply kDN); first | refine dtI ?_ | refine dt1 ?_ | refine dtW ?_) | ((with_reducible apply kDP (.alloc _)); refine dA (fun b => ?_)) | ((with_reducible apply kDP _); refine dP ?_) | ((with_reducible apply kDP _); refine dX ?_))
        all_goals try (exfalso; omega)
        exact e_ret2 (hs' := hs) rfl ⟨_, rfl, ld_whole (shTOf rfl) MDt rfl⟩ rfl (.inl ⟨by decide, rfl, rfl⟩) SCt
  · rw [if_pos hv]
    have hv' : vdE ps.length (sdF ps) (anF ps) m sm e ≠ 0 := hv
    have hv2 : vdC ps sm m e = vdE ps.length (sdF ps) (anF ps) m sm e := rfl
    rw [hv2]
    generalize vdE ps.length (sdF ps) (anF ps) m sm e = zz at *
    refine fn_enter Try.func43 rfl Try.ntmps43 (by simp) ?_
    repeat' (first | ((with_reducible apply kP (.box 25 _)); refine sBA (fun b2 => ?_)) | ((with_reducible apply kP (.box 3 _)); refine sB (fun b7 => ?_)) | ((with_reducible apply kP (.alloc 25)); refine sA (fun b4 => ?_)) | ((with_reducible apply kF 18); refine sC 18 (kv _ SBt) ?_) | ((with_reducible apply kN); refine stW ?_ (hf := flat_cons rfl (flat_cons rfl (flat1 rfl)))) | ((with_reducible apply kRg 11); refine cD [1, 1, 1, 1, 3, 0, 0, 0, 0, 0, 0, 3, 2, 2, 4, 4] ?_) | ((with_reducible apply kRg 15); refine cD [1, 1, 1, 1, 1, 1, 1, 1, 1, 1, 1, 1, 1, 1, 4] ?_) | ((with_reducible apply kRg 16); refine cD [1, 1, 1, 1, 1, 1, 1, 1, 1, 1, 1, 1, 1, 1, 4] ?_) | (with_reducible first | refine c_seq ?_ | refine c_reg ?_ | refine c_region ?_ | refine c_block ?_ | refine c_skip ?_ | refine c_exit ?_ | refine c_ret ?_ | refine s_nil ?_ | refine x_then ?_ | refine x_then_exit ?_ | refine x_then_ret ?_ | refine x_block ?_ | refine x_block_ret ?_ | refine x_block_same ?_ | refine x_block_other (by first | rfl | decide) ?_ | refine q_nil ?_ | refine k_nil ?_) | ((with_reducible apply kP (.makeFunc _ _ _)); refine sMF ?_) | ((with_reducible apply kG); first | refine gY1 ?_ | refine gN1 ?_ | refine gU1 ?_ | (refine gD1 (fun h => ?_) (fun h => ?_) <;> (try (exfalso; omega))) | refine gB1 (fun h => ?_) (fun h => ?_)) | ((with_reducible apply kN); first | refine stP ?_ | refine stI ?_ | refine st1 ?_ | refine stW ?_) | ((with_reducible apply kP (.alloc _)); refine sA (fun b => ?_)) | ((with_reducible apply kP (.box _ _)); first | refine sBA (fun b => ?_) | refine sB (fun b => ?_)) | ((with_reducible apply kP (.buildSlice _ 1 _)); first | refine sl1A (fun b => ?_) | refine sl1 (fun b => ?_)) | ((with_reducible apply kP (.call ⟨.builtin .append, _, _⟩)); refine sAp (fun oa2 c2 blk2 hrow2 => ?_)) | ((with_reducible apply kP _); refine sP ?_) | ((with_reducible apply kP _); refine sX ?_) | ((with_reducible apply kC); first | refine cT ?_ | refine cF ?_ | (refine cI (fun h => ?_) (fun h => ?_) <;> (try (exfalso; omega))) | refine cB (fun h => ?_) (fun h => ?_)) | ((with_reducible apply kDN); first | refine dtI ?_ | refine dt1 ?_ | refine dtW ?_) | ((with_reducible apply kDP (.alloc _)); refine dA (fun b => ?_)) | ((with_reducible apply kDP _); refine dP ?_) | ((with_reducible apply kDP _); refine dX ?_))
    exact e_ret2 (hs' := hs) rfl ⟨_, rfl, ld_whole (shTOf rfl) MDt rfl⟩ rfl (.inl ⟨hv', rfl, rfl⟩) SCt
end Go.Proofs.Ytnbickholedckaa
