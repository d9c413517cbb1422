/- CapTexts, walked. -/
import Derived.Test.YtmblgbcipniecaaGreatDoorMX52
namespace Go.Proofs.YtmblgbcipniecaaGreatDoor
open Go.RowKit
theorem RdA.x {d : Rd} {v : Value} {blk : HS} (h : RdA d v blk) : ∃ (qs : List Pc) (oP : Option Addr) (cP : Nat) (oS : Option Addr) (cS : Nat), v = .agg #[.slice oP qs.length cP, .slice oS (d.S.length / 4) cS, iv d.E] ∧ qs.map prP = d.P ∧ d.S.length % 4 = 0 ∧ ∀ B w0, CapM B w0 blk oP oS qs d.S := by
  obtain ⟨n, oP, cP, oS, cS, ⟨rs, bo, ko, M, rfl, rfl⟩, rfl⟩ := h
  refine ⟨rpP rs, oP, cP, oS, cS, ?_, M.P, M.m4, fun B w0 => ?_⟩
  · rw [show (rpP rs).length = rs.length by unfold rpP; rw [List.length_map]]
    rfl
  · have := capC (B := B) (w0 := w0) (hs := []) M.bo M.ok M.ko
    rwa [List.append_nil] at this
theorem prP_at {qs rs : List Pc} (h : qs.map prP = rs.map prP) : qs.length = rs.length ∧ ∀ i, (pcA qs i).sd = (pcA rs i).sd ∧ (pcA qs i).an = (pcA rs i).an := by
  refine ⟨by have := congrArg List.length h; simpa using this, fun i => ?_⟩
  have h1 := pcD_at qs i
  have h2 := pcD_at rs i
  rw [h] at h1
  exact ⟨h1.1.symm.trans h2.1, h1.2.symm.trans h2.2⟩
theorem x_Same {qs rs : List Pc} {oP oS oP' oS' : Option Addr} (cP cS cP' cS' : Nat) {b1 b2 : HS} {sm : List Int} {m : Nat} (e : Int) {B : Nat} {w0 : Wd} (h : qs.map prP = rs.map prP) (hn : qs.length ≤ 100) (hl : ∀ i, i < qs.length → (pcA qs i).sd.length ≤ 100 ∧ (pcA qs i).an.length ≤ 100) (hsm : sm.length = m * 4) (hm : m ≤ 10000) (g1 : CapM B w0 b1 oP oS qs sm) (g2 : CapM B w0 b2 oP' oS' rs sm) (hs : HS) (s1 : b1.Sublist hs) (s2 : b2.Sublist hs) :
    Fn Tryz.prog 10 #[.agg #[.slice oP qs.length cP, .slice oS m cS, iv e], .agg #[.slice oP' rs.length cP', .slice oS' m cS', iv e]] B w0 hs (fun v h => v = .bool true ∧ h = hs) := by
  obtain ⟨h1, h2⟩ := prP_at h
  have := r_SameT qs rs oP oS oP' oS' cP m cS cP' cS' sm e (by omega) h1.symm hl (fun i _ => h2 i) hsm (by omega) B w0 hs (g1.sub s1) (g2.sub s2)
  rw [← h1]
  exact this
theorem fold_S : ∀ (ls : List (List UInt8)) (r : Rd), (ls.foldl rdP r).S.length ≤ r.S.length + 4 * ls.length
  | [], r => Nat.le_refl _
  | l :: ls, r => by
    have h1 := fold_S ls (rdP r l)
    have h2 := (rdP_n r l).2
    rw [List.foldl_cons, List.length_cons]
    omega
/-- Bounds of what a parser answers. -/
theorem pa_bd (t : List UInt8) : (paA rdP t).1.P.length ≤ 8 ∧ (∀ qs : List Pc, qs.map prP = (paA rdP t).1.P → ∀ i, i < qs.length → (pcA qs i).sd.length ≤ 100 ∧ (pcA qs i).an.length ≤ 100) ∧ (paA rdP t).1.S.length ≤ 4 * (t.length + 1) := by
  have z : rd0.P.length ≤ 8 ∧ (∀ qs : List Pc, qs.map prP = rd0.P → ∀ i, i < qs.length → (pcA qs i).sd.length ≤ 100 ∧ (pcA qs i).an.length ≤ 100) ∧ rd0.S.length ≤ 4 * (t.length + 1) := by
    refine ⟨Nat.zero_le _, fun qs h i hi => ?_, Nat.zero_le _⟩
    have : qs.length = 0 := by have := congrArg List.length h; simpa [rd0] using this
    omega
  unfold paA
  split
  · exact z
  · split
    · rename_i h
      have V := (vdC_0 h.1).tx
      have hw := wds_len 10 t
      have hf := fold_S (wds 10 t) rd0
      have h8 := V.n8
      have h0 : rd0.S.length = 0 := rfl
      dsimp only
      refine ⟨?_, fun qs hq i hi => ?_, by omega⟩
      · unfold pcD at h8
        rw [List.length_map] at h8
        exact h8
      · have h6 := V.sd6 i
        rw [← hq, pcD_len, (pcD_at qs i).1, (pcD_at qs i).2] at h6
        have := h6 hi
        omega
    · exact z
attribute [local irreducible] OpF Ld CellAt Sl Sv pcA usP
set_option maxRecDepth 100000 in
set_option maxHeartbeats 8000000 in
theorem k_CapTexts (ps : List Pc) (oP oS : Option Addr) (cP m cS : Nat) (sm : List Int) (e : Int) (hsm : sm.length = m * 4) (t : List UInt8) (B : Nat) (w0 : Wd) (hT : TxW B w0) (hs : HS) (hC : CapM B w0 hs oP oS ps sm) :
    Fn Tryz.prog 3 #[.agg #[.slice oP ps.length cP, .slice oS m cS, iv e], sv t] B w0 hs (fun v h => v = .bool true ∧ h = hs) := by
  have kL := fun hs' (h : hs.Sublist hs') => k_Long ps oP oS cP m cS sm e B w0 hs' (hC.sub h)
  by_cases hlg : lgC ps m
  · refine fn_enter Tryz.func3 rfl Tryz.ntmps3 (by simp) ?_
    repeat' (first | ((with_reducible apply kP (.box 25 _)); refine sBA (fun b1 => ?_)) | ((with_reducible apply kF 4); refine sR 4 (kL _ SBt) ?_; rintro v7 h7 ⟨⟨bb, rfl, hb⟩, rfl⟩; obtain rfl : bb = true := hb.2 hlg) | ((with_reducible apply kF 5); refine sC 5 (k_known B w0 _) ?_) | (with_reducible first | refine c_seq ?_ | refine c_reg ?_ | refine c_region ?_ | refine c_block ?_ | refine c_skip ?_ | refine c_exit ?_ | refine c_ret ?_ | refine s_nil ?_ | refine x_then ?_ | refine x_then_exit ?_ | refine x_then_ret ?_ | refine x_block ?_ | refine x_block_ret ?_ | refine x_block_same ?_ | refine x_block_other (by first | rfl | decide) ?_ | refine q_nil ?_ | refine k_nil ?_) | ((with_reducible apply kG); first | refine gY1 ?_ | refine gN1 ?_ | refine gU1 ?_ | (refine gD1 (fun h => ?_) (fun h => ?_) <;> (try (exfalso; omega))) | refine gB1 (fun h => ?_) (fun h => ?_)) | ((with_reducible apply kN); first | refine stP ?_ | refine stI ?_ | refine st1 ?_ | refine stW ?_) | ((with_reducible apply kP (.alloc _)); refine sA (fun b => ?_)) | ((with_reducible apply kP (.box _ _)); first | refine sBA (fun b => ?_) | refine sB (fun b => ?_)) | ((with_reducible apply kP _); refine sP ?_) | ((with_reducible apply kP _); refine sX ?_) | ((with_reducible apply kC); first | refine cT ?_ | refine cF ?_ | (refine cI (fun h => ?_) (fun h => ?_) <;> (try (exfalso; omega))) | refine cB (fun h => ?_) (fun h => ?_)))
    exact e_ret1 (hs' := hs) rfl rfl ⟨rfl, rfl⟩ SCt
  · by_cases ht : 5000 < t.length
    · refine fn_enter Tryz.func3 rfl Tryz.ntmps3 (by simp) ?_
      repeat' (first | ((with_reducible apply kP (.box 25 _)); refine sBA (fun b1 => ?_)) | ((with_reducible apply kF 4); refine sR 4 (kL _ SBt) ?_; rintro v7 h7 ⟨⟨bb, rfl, hb⟩, rfl⟩; obtain rfl : bb = false := by (rw [← Bool.not_eq_true]; exact fun h => hlg (hb.1 h))) | ((with_reducible apply kF 5); refine sC 5 (k_known B w0 _) ?_) | ((with_reducible apply kP (.call ⟨.builtin .len, _, _⟩)); refine sP ?_ (o_sLen uStr rfl)) | ((with_reducible apply kDP (.call ⟨.builtin .len, _, _⟩)); refine dP ?_ (hX := rfl) (hv := o_sLen uStr rfl)) | ((with_reducible apply kQO (.call ⟨.builtin .len, _, _⟩)); refine qP ?_ (o_sLen uStr rfl)) | (with_reducible first | refine c_seq ?_ | refine c_reg ?_ | refine c_region ?_ | refine c_block ?_ | refine c_skip ?_ | refine c_exit ?_ | refine c_ret ?_ | refine s_nil ?_ | refine x_then ?_ | refine x_then_exit ?_ | refine x_then_ret ?_ | refine x_block ?_ | refine x_block_ret ?_ | refine x_block_same ?_ | refine x_block_other (by first | rfl | decide) ?_ | refine q_nil ?_ | refine k_nil ?_) | ((with_reducible apply kG); first | refine gY1 ?_ | refine gN1 ?_ | refine gU1 ?_ | (refine gD1 (fun h => ?_) (fun h => ?_) <;> (try (exfalso; omega))) | refine gB1 (fun h => ?_) (fun h => ?_)) | ((with_reducible apply kN); first | refine stP ?_ | refine stI ?_ | refine st1 ?_ | refine stW ?_) | ((with_reducible apply kP (.alloc _)); refine sA (fun b => ?_)) | ((with_reducible apply kP (.box _ _)); first | refine sBA (fun b => ?_) | refine sB (fun b => ?_)) | ((with_reducible apply kP _); refine sP ?_) | ((with_reducible apply kP _); refine sX ?_) | ((with_reducible apply kC); first | refine cT ?_ | refine cF ?_ | (refine cI (fun h => ?_) (fun h => ?_) <;> (try (exfalso; omega))) | refine cB (fun h => ?_) (fun h => ?_)))
      all_goals first
        | (exfalso; omega)
        | exact e_ret1 (hs' := hs) rfl rfl ⟨rfl, rfl⟩ SCt
        | trace_state
    · have hn : ps.length ≤ 30 := by
        by_cases h : 30 < (ps.length : Int)
        · exact absurd (.inl h) hlg
        · omega
      have hm : m ≤ 60 := by
        by_cases h : 60 < (m : Int)
        · exact absurd (.inr (.inl h)) hlg
        · omega
      have kf1 := fun hs' (h : hs.Sublist hs') => k_Format ps oP oS cP m cS sm e (by omega) hsm (by omega) B w0 hT hs' (hC.sub h)
      have kf2 := fun hs' (h : hs.Sublist hs') => r_Format ps oP oS cP m cS sm e (by omega) hsm (by omega) B w0 hs' (hC.sub h)
      have kp1 := fun hs' => k_Parse t (by omega) B w0 hT hs'
      have kp2 := fun hs' => r_Parse t (by omega) B w0 hs'
      unfold PaA at kp1 kp2
      rw [← pa_eq rdP_ok (rdR_ok (fun x h => nr_itoa h)) rdP_mul (rdR_mul nrF) t] at kp2
      obtain ⟨l1, l2, l3⟩ := pa_bd t
      generalize paA rdP t = p at *
      obtain ⟨d, E⟩ := p
      dsimp only at l1 l2 l3 kp1 kp2
      unfold fcV at kf1 kf2
      have kS := fun hs' (q1 q2 : List Pc) (o1 o2 o3 o4 : Option Addr) (c1 c2 c3 c4 : Nat) (k1 k2 : HS) (e1 : q1.map prP = d.P) (e2 : q2.map prP = d.P) (e4 : d.S.length % 4 = 0) (g1 : CapM B w0 k1 o1 o2 q1 d.S) (g2 : CapM B w0 k2 o3 o4 q2 d.S) s1 s2 => x_Same c1 c2 c3 c4 d.E (e1.trans e2.symm) (by have := congrArg List.length e1; rw [List.length_map] at this; omega) (l2 q1 e1) (m := d.S.length / 4) (by omega) (by omega) g1 g2 hs' s1 s2
      by_cases hv : vdC ps sm m e = 0
      · rw [if_pos hv, hv] at kf1 kf2
        have T := (vdC_0 hv).tx
        by_cases hcl : 4000 < (capT ps sm m e).length
        · generalize capT ps sm m e = F at *
          refine fn_enter Tryz.func3 rfl Tryz.ntmps3 (by simp) ?_
          repeat' (first | ((with_reducible apply kP (.box 25 _)); refine sBA (fun b1 => ?_)) | ((with_reducible apply kP (.alloc 25)); refine sA (fun b4 => ?_)) | ((with_reducible apply kN); refine stW ?_ (hf := flat_cons rfl (flat_cons rfl (flat1 rfl)))) | ((with_reducible apply kF 4); refine sR 4 (kL _ SBt) ?_; rintro v7 h7 ⟨⟨bb, rfl, hb⟩, rfl⟩; obtain rfl : bb = false := by (rw [← Bool.not_eq_true]; exact fun h => hlg (hb.1 h))) | ((with_reducible apply kF 5); refine sC 5 (k_known B w0 _) ?_) | ((with_reducible apply kP (.call ⟨.builtin .len, _, _⟩)); refine sP ?_ (o_sLen uStr rfl)) | ((with_reducible apply kDP (.call ⟨.builtin .len, _, _⟩)); refine dP ?_ (hX := rfl) (hv := o_sLen uStr rfl)) | ((with_reducible apply kQO (.call ⟨.builtin .len, _, _⟩)); refine qP ?_ (o_sLen uStr rfl)) | ((with_reducible apply kF 6); refine sC 6 (kf1 _ SBt) ?_) | ((with_reducible apply kF 7); refine sC 7 (kf2 _ SBt) ?_) | ((with_reducible apply kF 8); refine sR 8 (kp1 _) ?_; rintro v7 h7 ⟨k1, ⟨u1, hA1, rfl⟩, rfl⟩; obtain ⟨q1, oP1, cP1, oS1, cS1, rfl, hq1, h41, hM1⟩ := hA1.x) | ((with_reducible apply kF 9); refine sR 9 (kp2 _) ?_; rintro v7 h7 ⟨k2, ⟨u2, hA2, rfl⟩, rfl⟩; obtain ⟨q2, oP2, cP2, oS2, cS2, rfl, hq2, h42, hM2⟩ := hA2.x) | ((with_reducible apply kP (.binOp .neq 9 _ _ _)); refine sP ?_ (o_sNeqF rfl rfl rfl)) | ((with_reducible apply kDP (.binOp .neq 9 _ _ _)); refine dP ?_ (hX := rfl) (hv := o_sNeqF rfl rfl rfl)) | ((with_reducible apply kQO (.binOp .neq 9 _ _ _)); refine qP ?_ (o_sNeqF rfl rfl rfl)) | ((with_reducible apply kF 10); refine sC 10 (kS _ q1 q2 oP1 oS1 oP2 oS2 cP1 cS1 cP2 cS2 k1 k2 hq1 hq2 h41 (hM1 B w0) (hM2 B w0) (.cons _ (sbA (.cons _ sbL))) (.cons _ sbL)) ?_) | (with_reducible first | refine c_seq ?_ | refine c_reg ?_ | refine c_region ?_ | refine c_block ?_ | refine c_skip ?_ | refine c_exit ?_ | refine c_ret ?_ | refine s_nil ?_ | refine x_then ?_ | refine x_then_exit ?_ | refine x_then_ret ?_ | refine x_block ?_ | refine x_block_ret ?_ | refine x_block_same ?_ | refine x_block_other (by first | rfl | decide) ?_ | refine q_nil ?_ | refine k_nil ?_) | ((with_reducible apply kG); first | refine gY1 ?_ | refine gN1 ?_ | refine gU1 ?_ | (refine gD1 (fun h => ?_) (fun h => ?_) <;> (try (exfalso; omega))) | refine gB1 (fun h => ?_) (fun h => ?_)) | ((with_reducible apply kN); first | refine stP ?_ | refine stI ?_ | refine st1 ?_ | refine stW ?_) | ((with_reducible apply kP (.alloc _)); refine sA (fun b => ?_)) | ((with_reducible apply kP (.box _ _)); first | refine sBA (fun b => ?_) | refine sB (fun b => ?_)) | ((with_reducible apply kP _); refine sP ?_) | ((with_reducible apply kP _); refine sX ?_) | ((with_reducible apply kC); first | refine cT ?_ | refine cF ?_ | (refine cI (fun h => ?_) (fun h => ?_) <;> (try (exfalso; omega))) | refine cB (fun h => ?_) (fun h => ?_)))
          all_goals try (exfalso; omega)
          exact e_ret1 (hs' := hs) rfl rfl ⟨rfl, rfl⟩ (.cons _ (sbA (.cons _ (sbA (.cons _ (.refl _))))))
        · have kp3 := fun hs' => k_Parse (capT ps sm m e) (by omega) B w0 hT hs'
          unfold PaA at kp3
          rw [pa_fmt rdP_ok hsm hv (by omega)] at kp3
          dsimp only at kp3
          have kS2 := fun hs' (q1 : List Pc) (o1 o2 : Option Addr) (c1 c2 : Nat) (k1 : HS) (e1 : q1.map prP = ps.map prP) (g1 : CapM B w0 k1 o1 o2 q1 sm) s1 (s2 : hs.Sublist hs') => x_Same (m := m) c1 c2 cP cS e e1 (by have := (prP_at e1).1; omega) (fun i hi => by have h1 := prP_at e1; have h2 := h1.2 i; rw [h2.1, h2.2]; have := T.sd6 i (by omega); omega) hsm (by omega) g1 hC hs' s1 s2
          have hm4 : sm.length / 4 = m := by omega
          generalize capT ps sm m e = F at *
          refine fn_enter Tryz.func3 rfl Tryz.ntmps3 (by simp) ?_
          repeat' (first | ((with_reducible apply kP (.box 25 _)); refine sBA (fun b1 => ?_)) | ((with_reducible apply kP (.alloc 25)); refine sA (fun b4 => ?_)) | ((with_reducible apply kN); refine stW ?_ (hf := flat_cons rfl (flat_cons rfl (flat1 rfl)))) | ((with_reducible apply kF 4); refine sR 4 (kL _ SBt) ?_; rintro v7 h7 ⟨⟨bb, rfl, hb⟩, rfl⟩; obtain rfl : bb = false := by (rw [← Bool.not_eq_true]; exact fun h => hlg (hb.1 h))) | ((with_reducible apply kF 5); refine sC 5 (k_known B w0 _) ?_) | ((with_reducible apply kP (.call ⟨.builtin .len, _, _⟩)); refine sP ?_ (o_sLen uStr rfl)) | ((with_reducible apply kDP (.call ⟨.builtin .len, _, _⟩)); refine dP ?_ (hX := rfl) (hv := o_sLen uStr rfl)) | ((with_reducible apply kQO (.call ⟨.builtin .len, _, _⟩)); refine qP ?_ (o_sLen uStr rfl)) | ((with_reducible apply kF 6); refine sC 6 (kf1 _ SBt) ?_) | ((with_reducible apply kF 7); refine sC 7 (kf2 _ SBt) ?_) | ((with_reducible apply kF 8); refine sR 8 (kp1 _) ?_; rintro v7 h7 ⟨k1, ⟨u1, hA1, rfl⟩, rfl⟩; obtain ⟨q1, oP1, cP1, oS1, cS1, rfl, hq1, h41, hM1⟩ := hA1.x) | ((with_reducible apply kF 8); refine sR 8 (kp3 _) ?_; rintro v7 h7 ⟨k3, ⟨u3, hA3, rfl⟩, rfl⟩; obtain ⟨q3, oP3, cP3, oS3, cS3, rfl, hq3, h43, hM3⟩ := hA3.x; dsimp only at hq3 h43 hM3; rw [hm4]) | ((with_reducible apply kF 9); refine sR 9 (kp2 _) ?_; rintro v7 h7 ⟨k2, ⟨u2, hA2, rfl⟩, rfl⟩; obtain ⟨q2, oP2, cP2, oS2, cS2, rfl, hq2, h42, hM2⟩ := hA2.x) | ((with_reducible apply kP (.binOp .neq 9 _ _ _)); refine sP ?_ (o_sNeqF rfl rfl rfl)) | ((with_reducible apply kDP (.binOp .neq 9 _ _ _)); refine dP ?_ (hX := rfl) (hv := o_sNeqF rfl rfl rfl)) | ((with_reducible apply kQO (.binOp .neq 9 _ _ _)); refine qP ?_ (o_sNeqF rfl rfl rfl)) | ((with_reducible apply kF 10); refine sC 10 (kS _ q1 q2 oP1 oS1 oP2 oS2 cP1 cS1 cP2 cS2 k1 k2 hq1 hq2 h41 (hM1 B w0) (hM2 B w0) (.cons _ (sbA (.cons _ sbL))) (.cons _ sbL)) ?_) | ((with_reducible apply kF 10); refine sC 10 (kS2 _ q3 oP3 oS3 cP3 cS3 k3 hq3 (hM3 B w0) (.cons _ sbL) SBt) ?_) | (with_reducible first | refine c_seq ?_ | refine c_reg ?_ | refine c_region ?_ | refine c_block ?_ | refine c_skip ?_ | refine c_exit ?_ | refine c_ret ?_ | refine s_nil ?_ | refine x_then ?_ | refine x_then_exit ?_ | refine x_then_ret ?_ | refine x_block ?_ | refine x_block_ret ?_ | refine x_block_same ?_ | refine x_block_other (by first | rfl | decide) ?_ | refine q_nil ?_ | refine k_nil ?_) | ((with_reducible apply kG); first | refine gY1 ?_ | refine gN1 ?_ | refine gU1 ?_ | (refine gD1 (fun h => ?_) (fun h => ?_) <;> (try (exfalso; omega))) | refine gB1 (fun h => ?_) (fun h => ?_)) | ((with_reducible apply kN); first | refine stP ?_ | refine stI ?_ | refine st1 ?_ | refine stW ?_) | ((with_reducible apply kP (.alloc _)); refine sA (fun b => ?_)) | ((with_reducible apply kP (.box _ _)); first | refine sBA (fun b => ?_) | refine sB (fun b => ?_)) | ((with_reducible apply kP _); refine sP ?_) | ((with_reducible apply kP _); refine sX ?_) | ((with_reducible apply kC); first | refine cT ?_ | refine cF ?_ | (refine cI (fun h => ?_) (fun h => ?_) <;> (try (exfalso; omega))) | refine cB (fun h => ?_) (fun h => ?_)))
          all_goals try (exfalso; omega)
          exact e_ret1 (hs' := hs) rfl rfl ⟨rfl, rfl⟩ (.cons _ (sbA (.cons _ (sbA (.cons _ (sbA (.cons _ (.refl _))))))))
      · rw [if_neg hv] at kf1 kf2
        generalize vdC ps sm m e = E' at *
        refine fn_enter Tryz.func3 rfl Tryz.ntmps3 (by simp) ?_
        repeat' (first | ((with_reducible apply kP (.box 25 _)); refine sBA (fun b1 => ?_)) | ((with_reducible apply kP (.alloc 25)); refine sA (fun b4 => ?_)) | ((with_reducible apply kN); refine stW ?_ (hf := flat_cons rfl (flat_cons rfl (flat1 rfl)))) | ((with_reducible apply kF 4); refine sR 4 (kL _ SBt) ?_; rintro v7 h7 ⟨⟨bb, rfl, hb⟩, rfl⟩; obtain rfl : bb = false := by (rw [← Bool.not_eq_true]; exact fun h => hlg (hb.1 h))) | ((with_reducible apply kF 5); refine sC 5 (k_known B w0 _) ?_) | ((with_reducible apply kP (.call ⟨.builtin .len, _, _⟩)); refine sP ?_ (o_sLen uStr rfl)) | ((with_reducible apply kDP (.call ⟨.builtin .len, _, _⟩)); refine dP ?_ (hX := rfl) (hv := o_sLen uStr rfl)) | ((with_reducible apply kQO (.call ⟨.builtin .len, _, _⟩)); refine qP ?_ (o_sLen uStr rfl)) | ((with_reducible apply kF 6); refine sC 6 (kf1 _ SBt) ?_) | ((with_reducible apply kF 7); refine sC 7 (kf2 _ SBt) ?_) | ((with_reducible apply kF 8); refine sR 8 (kp1 _) ?_; rintro v7 h7 ⟨k1, ⟨u1, hA1, rfl⟩, rfl⟩; obtain ⟨q1, oP1, cP1, oS1, cS1, rfl, hq1, h41, hM1⟩ := hA1.x) | ((with_reducible apply kF 9); refine sR 9 (kp2 _) ?_; rintro v7 h7 ⟨k2, ⟨u2, hA2, rfl⟩, rfl⟩; obtain ⟨q2, oP2, cP2, oS2, cS2, rfl, hq2, h42, hM2⟩ := hA2.x) | ((with_reducible apply kP (.binOp .neq 9 _ _ _)); refine sP ?_ (o_sNeqF rfl rfl rfl)) | ((with_reducible apply kDP (.binOp .neq 9 _ _ _)); refine dP ?_ (hX := rfl) (hv := o_sNeqF rfl rfl rfl)) | ((with_reducible apply kQO (.binOp .neq 9 _ _ _)); refine qP ?_ (o_sNeqF rfl rfl rfl)) | ((with_reducible apply kF 10); refine sC 10 (kS _ q1 q2 oP1 oS1 oP2 oS2 cP1 cS1 cP2 cS2 k1 k2 hq1 hq2 h41 (hM1 B w0) (hM2 B w0) (.cons _ (sbA (.cons _ sbL))) (.cons _ sbL)) ?_) | (with_reducible first | refine c_seq ?_ | refine c_reg ?_ | refine c_region ?_ | refine c_block ?_ | refine c_skip ?_ | refine c_exit ?_ | refine c_ret ?_ | refine s_nil ?_ | refine x_then ?_ | refine x_then_exit ?_ | refine x_then_ret ?_ | refine x_block ?_ | refine x_block_ret ?_ | refine x_block_same ?_ | refine x_block_other (by first | rfl | decide) ?_ | refine q_nil ?_ | refine k_nil ?_) | ((with_reducible apply kG); first | refine gY1 ?_ | refine gN1 ?_ | refine gU1 ?_ | (refine gD1 (fun h => ?_) (fun h => ?_) <;> (try (exfalso; omega))) | refine gB1 (fun h => ?_) (fun h => ?_)) | ((with_reducible apply kN); first | refine stP ?_ | refine stI ?_ | refine st1 ?_ | refine stW ?_) | ((with_reducible apply kP (.alloc _)); refine sA (fun b => ?_)) | ((with_reducible apply kP (.box _ _)); first | refine sBA (fun b => ?_) | refine sB (fun b => ?_)) | ((with_reducible apply kP _); refine sP ?_) | ((with_reducible apply kP _); refine sX ?_) | ((with_reducible apply kC); first | refine cT ?_ | refine cF ?_ | (refine cI (fun h => ?_) (fun h => ?_) <;> (try (exfalso; omega))) | refine cB (fun h => ?_) (fun h => ?_)))
        all_goals try (exfalso; omega)
        exact e_ret1 (hs' := hs) rfl rfl ⟨rfl, rfl⟩ (.cons _ (sbA (.cons _ (sbA (.cons _ (.refl _))))))
end Go.Proofs.YtmblgbcipniecaaGreatDoor
