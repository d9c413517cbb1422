/- SameLoops at equal loops; the law's walk of CapLoops. -/
import Derived.Test.YtnbickholedckaaMC43
namespace Go.Proofs.Ytnbickholedckaa
open Go.RowKit
attribute [local irreducible] OpF Ld CellAt Sl Sv pcA usP
set_option maxRecDepth 100000 in
set_option maxHeartbeats 8000000 in
theorem r_SameLoops (rs qs : List Lr) (oa ob : Option Addr) (c d : Nat) (hq : rs.map (·.l) = qs.map (·.l)) (hl : rs.length ≤ 1000) (hcl : ∀ i, i < rs.length → (lrA rs i).l.length ≤ 1000) (B : Nat) (w0 : Wd) (hs : HS) (hR : LrM B w0 hs oa rs) (hQ : LrM B w0 hs ob qs) :
    Fn Try.prog 28 #[.slice oa rs.length c, .slice ob qs.length d] B w0 hs (fun v h => v = .bool true ∧ h = hs) := by
  have hlen : qs.length = rs.length := by have := congrArg List.length hq; simpa using this.symm
  rw [hlen]
  refine fn_enter Try.func28 rfl Try.ntmps28 (by simp) ?_
  repeat' (first | ((with_reducible apply kRg 6); refine cD [1, 1, 1, 1, 1, 1, 1, 1, 4, 1] ?_) | (with_reducible first | refine c_seq ?_ | refine c_reg ?_ | refine c_region ?_ | refine c_block ?_ | refine c_skip ?_ | refine c_exit ?_ | refine c_ret ?_ | refine s_nil ?_ | refine x_then ?_ | refine x_then_exit ?_ | refine x_then_ret ?_ | refine x_block ?_ | refine x_block_ret ?_ | refine x_block_same ?_ | refine x_block_other (by first | rfl | decide) ?_ | refine q_nil ?_ | refine k_nil ?_) | ((with_reducible apply kP _); refine sP ?_) | ((with_reducible apply kP _); refine sX ?_) | ((with_reducible apply kC); first | refine cT ?_ | refine cF ?_ | (refine cI (fun h => ?_) (fun h => ?_) <;> (try (exfalso; omega))) | refine cB (fun h => ?_) (fun h => ?_)) | ((with_reducible apply kDP _); refine dP ?_) | ((with_reducible apply kDP _); refine dX ?_))
  refine c_loop (fun i : Nat => [(0, .slice oa rs.length c), (1, .slice ob rs.length d), (5, iv i)]) (fun _ => hs) (fun i => i ≤ rs.length) (fun i => rs.length - i) 0 (Nat.zero_le _) (by repeat' first | trivial | rfl | apply And.intro) (.refl _) ?_
  intro i hi
  by_cases hi' : i < rs.length
  · have hi2 : i < qs.length := by omega
    have i1 := hR.isS hi'
    have i2 := hQ.isS hi2
    have hc1 := fun hs' (h : hs.Sublist hs') => hR.c h hi'
    have hc2 := fun hs' (h : hs.Sublist hs') => hQ.c h hi2
    have hs1 := hR.ls i hi'
    have hs2 := hQ.ls i hi2
    have hll := hcl i hi'
    have hep : (lrA rs i).l = (lrA qs i).l := by
      have h1 := lrA_l hq hi'
      have h2 := lrA_l (ls := qs.map (·.l)) rfl hi2
      rw [h2] at h1
      exact (Option.some.inj h1).symm
    rw [← hep] at hc2 hs2
    generalize lrA rs i = r at *
    generalize lrA qs i = q at *
    obtain ⟨o1, d1, l, k1⟩ := r
    obtain ⟨o2, d2, l2, k2⟩ := q
    dsimp only at hc1 hc2 hs1 hs2 hll hep
    subst hep
    have ks := fun hs' (h : hs.Sublist hs') => r_same o1 o2 d1 d2 l l B w0 hs' (hs1.sub h) (hs2.sub h) (by omega)
    rw [decide_eq_true rfl] at ks
    repeat' (first | ((with_reducible apply kP (.load 39 (.tmp 19))); refine sP ?_ (o_load rfl (ld_one (shTOf rfl) (hc1 _ SBt)))) | ((with_reducible apply kDP (.load 39 (.tmp 19))); refine dP ?_ (hX := rfl) (hv := o_load rfl (ld_one (shTOf rfl) (hc1 _ SBt)))) | ((with_reducible apply kQO (.load 39 (.tmp 19))); refine qP ?_ (o_load rfl (ld_one (shTOf rfl) (hc1 _ SBt)))) | ((with_reducible apply kP (.load 39 (.tmp 23))); refine sP ?_ (o_load rfl (ld_one (shTOf rfl) (hc2 _ SBt)))) | ((with_reducible apply kDP (.load 39 (.tmp 23))); refine dP ?_ (hX := rfl) (hv := o_load rfl (ld_one (shTOf rfl) (hc2 _ SBt)))) | ((with_reducible apply kQO (.load 39 (.tmp 23))); refine qP ?_ (o_load rfl (ld_one (shTOf rfl) (hc2 _ SBt)))) | ((with_reducible apply kDF 29); refine dC 29 (fun F => ks _ (sbA SBt)) ?_) | ((with_reducible apply kRg 6); refine cD [1, 1, 1, 1, 1, 1, 1, 1, 4, 1] ?_) | (with_reducible first | refine c_seq ?_ | refine c_reg ?_ | refine c_region ?_ | refine c_block ?_ | refine c_skip ?_ | refine c_exit ?_ | refine c_ret ?_ | refine s_nil ?_ | refine x_then ?_ | refine x_then_exit ?_ | refine x_then_ret ?_ | refine x_block ?_ | refine x_block_ret ?_ | refine x_block_same ?_ | refine x_block_other (by first | rfl | decide) ?_ | refine q_nil ?_ | refine k_nil ?_) | ((with_reducible apply kP _); refine sP ?_) | ((with_reducible apply kP _); refine sX ?_) | ((with_reducible apply kC); first | refine cT ?_ | refine cF ?_ | (refine cI (fun h => ?_) (fun h => ?_) <;> (try (exfalso; omega))) | refine cB (fun h => ?_) (fun h => ?_)) | ((with_reducible apply kDP _); refine dP ?_) | ((with_reducible apply kDP _); refine dX ?_))
    all_goals first
      | exact r_end (i + 1) hi' (by omega) (by repeat' first | trivial | rfl | apply And.intro) SCt
      | (exfalso; omega)
      | trace_state
  · obtain rfl : rs.length = i := by omega
    repeat' (first | ((with_reducible apply kRg 6); refine cD [1, 1, 1, 1, 1, 1, 1, 1, 4, 1] ?_) | (with_reducible first | refine c_seq ?_ | refine c_reg ?_ | refine c_region ?_ | refine c_block ?_ | refine c_skip ?_ | refine c_exit ?_ | refine c_ret ?_ | refine s_nil ?_ | refine x_then ?_ | refine x_then_exit ?_ | refine x_then_ret ?_ | refine x_block ?_ | refine x_block_ret ?_ | refine x_block_same ?_ | refine x_block_other (by first | rfl | decide) ?_ | refine q_nil ?_ | refine k_nil ?_) | ((with_reducible apply kP _); refine sP ?_) | ((with_reducible apply kP _); refine sX ?_) | ((with_reducible apply kC); first | refine cT ?_ | refine cF ?_ | (refine cI (fun h => ?_) (fun h => ?_) <;> (try (exfalso; omega))) | refine cB (fun h => ?_) (fun h => ?_)) | ((with_reducible apply kDP _); refine dP ?_) | ((with_reducible apply kDP _); refine dX ?_))
    exact e_ret1 (hs' := hs) rfl rfl ⟨rfl, rfl⟩ SCt
set_option maxRecDepth 100000 in
set_option maxHeartbeats 8000000 in
theorem k_CapLoops (ps : List Pc) (oP oS : Option Addr) (cP m cS : Nat) (sm : List Int) (e : Int) (hsm : sm.length = m * 4) (B : Nat) (w0 : Wd) (hs : HS) (hC : CapM B w0 hs oP oS ps sm) :
    Fn Try.prog 6 #[.agg #[.slice oP ps.length cP, .slice oS m cS, iv e]] B w0 hs (fun v h => v = .bool true ∧ h = hs) := by
  have kL := fun hs' (h : hs.Sublist hs') => k_Long ps oP oS cP m cS sm e B w0 hs' (hC.sub h)
  by_cases hlg : lgC ps m
  · refine fn_enter Try.func6 rfl Try.ntmps6 (by simp) ?_
    repeat' (first | ((with_reducible apply kP (.box 25 _)); refine sBA (fun b1 => ?_)) | ((with_reducible apply kF 15); refine sR 15 (kL _ SBt) ?_; rintro v7 h7 ⟨⟨bb, rfl, hb⟩, rfl⟩; obtain rfl : bb = true := hb.2 hlg) | ((with_reducible apply kF 16); refine sC 16 (k_known B w0 _) ?_) | (with_reducible first | refine c_seq ?_ | refine c_reg ?_ | refine c_region ?_ | refine c_block ?_ | refine c_skip ?_ | refine c_exit ?_ | refine c_ret ?_ | refine s_nil ?_ | refine x_then ?_ | refine x_then_exit ?_ | refine x_then_ret ?_ | refine x_block ?_ | refine x_block_ret ?_ | refine x_block_same ?_ | refine x_block_other (by first | rfl | decide) ?_ | refine q_nil ?_ | refine k_nil ?_) | ((with_reducible apply kG); first | refine gY1 ?_ | refine gN1 ?_ | refine gU1 ?_ | (refine gD1 (fun h => ?_) (fun h => ?_) <;> (try (exfalso; omega))) | refine gB1 (fun h => ?_) (fun h => ?_)) | ((with_reducible apply kP (.box _ _)); first | refine sBA (fun b => ?_) | refine sB (fun b => ?_)) | ((with_reducible apply kP _); refine sP ?_) | ((with_reducible apply kP _); refine sX ?_) | ((with_reducible apply kC); first | refine cT ?_ | refine cF ?_ | (refine cI (fun h => ?_) (fun h => ?_) <;> (try (exfalso; omega))) | refine cB (fun h => ?_) (fun h => ?_)))
    exact e_ret1 (hs' := hs) rfl rfl ⟨rfl, rfl⟩ SCt
  · obtain ⟨hn, hm, hl⟩ := lgC_no hlg
    have k1 := fun hs' (h : hs.Sublist hs') => k_Loops ps oP oS cP m cS sm e (by omega) hsm (by omega) B w0 hs' (hC.sub h)
    have k2 := fun hs' (h : hs.Sublist hs') => r_Loops ps oP oS cP m cS sm e (by omega) hsm (by omega) B w0 hs' (hC.sub h)
    have k3 := fun hs' (h : hs.Sublist hs') => k_Hairline ps oP oS cP m cS sm e (by omega) hsm (by omega) B w0 hs' (hC.sub h)
    have k4 := fun hs' (h : hs.Sublist hs') => r_Hairline ps oP oS cP m cS sm e (by omega) hsm (by omega) B w0 hs' (hC.sub h)
    by_cases hv : vdC ps sm m e = 0
    · have V := vdC_0 hv
      have hlp := V.lpn
      have hrl := hrC_len ps sm m
      have k1' : ∀ hs' (h : hs.Sublist hs'), Fn Try.prog 24 #[.agg #[.slice oP ps.length cP, .slice oS m cS, iv e]] B w0 hs' (fun v h => ∃ blk, (∃ oa c rs, v = .tuple #[.slice oa rs.length c, iv 0] ∧ rs.map (·.l) = (lpsC ps sm m).map nats ∧ ∀ F, LrM B w0 (blk ++ F) oa rs) ∧ h = blk ++ hs') := fun hs' h => (k1 hs' h).mono (by
        rintro v h' (⟨h1, _⟩ | ⟨_, x, blk, hx, rfl, rfl⟩)
        · exact absurd hv h1
        · obtain ⟨oa, c, rs, rfl, g1, g2⟩ := hx.m (B := B) (w0 := w0) (hs := [])
          rw [List.append_nil] at g2
          exact ⟨blk, ⟨oa, c, rs, rfl, g1, fun F => g2.sub (List.sublist_append_left _ _)⟩, rfl⟩)
      have k2' : ∀ hs' (h : hs.Sublist hs'), Fn Try.prog 25 #[.agg #[.slice oP ps.length cP, .slice oS m cS, iv e]] B w0 hs' (fun v h => ∃ blk, (∃ oa c rs, v = .tuple #[.slice oa rs.length c, iv 0] ∧ rs.map (·.l) = (lpsC ps sm m).map nats ∧ ∀ F, LrM B w0 (blk ++ F) oa rs) ∧ h = blk ++ hs') := fun hs' h => (k2 hs' h).mono (by
        rintro v h' (⟨h1, _⟩ | ⟨_, x, blk, hx, rfl, rfl⟩)
        · exact absurd hv h1
        · obtain ⟨oa, c, rs, rfl, g1, g2⟩ := hx.m (B := B) (w0 := w0) (hs := [])
          rw [List.append_nil] at g2
          exact ⟨blk, ⟨oa, c, rs, rfl, g1, fun F => g2.sub (List.sublist_append_left _ _)⟩, rfl⟩)
      have k3' : ∀ hs' (h : hs.Sublist hs'), Fn Try.prog 26 #[.agg #[.slice oP ps.length cP, .slice oS m cS, iv e]] B w0 hs' (fun v h => ∃ blk, (∃ oa c, v = .tuple #[.slice oa (hrC ps sm m).length c, iv 0] ∧ ∀ F, Sl B w0 (blk ++ F) oa (hrC ps sm m)) ∧ h = blk ++ hs') := fun hs' h => (k3 hs' h).mono (by
        rintro v h' (⟨h1, _⟩ | ⟨_, oa, c, blk, hx, rfl, rfl⟩)
        · exact absurd hv h1
        · exact ⟨blk, ⟨oa, c, rfl, fun F => (Sl.row hx).sub (List.sublist_append_left _ _)⟩, rfl⟩)
      have k4' : ∀ hs' (h : hs.Sublist hs'), Fn Try.prog 27 #[.agg #[.slice oP ps.length cP, .slice oS m cS, iv e]] B w0 hs' (fun v h => ∃ blk, (∃ oa c, v = .tuple #[.slice oa (hrC ps sm m).length c, iv 0] ∧ ∀ F, Sl B w0 (blk ++ F) oa (hrC ps sm m)) ∧ h = blk ++ hs') := fun hs' h => (k4 hs' h).mono (by
        rintro v h' (⟨h1, _⟩ | ⟨_, oa, c, blk, hx, rfl, rfl⟩)
        · exact absurd hv h1
        · exact ⟨blk, ⟨oa, c, rfl, fun F => (Sl.row hx).sub (List.sublist_append_left _ _)⟩, rfl⟩)
      clear k1 k2 k3 k4
      refine fn_enter Try.func6 rfl Try.ntmps6 (by simp) ?_
      repeat' (first | ((with_reducible apply kP (.box 25 _)); refine sBA (fun b1 => ?_)) | ((with_reducible apply kF 15); refine sR 15 (kL _ SBt) ?_; rintro v7 h7 ⟨⟨bb, rfl, hb⟩, rfl⟩; obtain rfl : bb = false := by (rw [← Bool.not_eq_true]; exact fun h => hlg (hb.1 h))) | ((with_reducible apply kF 24); refine sR 24 (k1' _ SBt) ?_; rintro v8 h8 ⟨blk8, ⟨o8, c8, rs, rfl, g8, m8⟩, rfl⟩) | ((with_reducible apply kF 25); refine sR 25 (k2' _ SBt) ?_; rintro v9 h9 ⟨blk9, ⟨o9, c9, qs, rfl, g9, m9⟩, rfl⟩) | ((with_reducible apply kF 26); refine sR 26 (k3' _ SBt) ?_; rintro v3 h3 ⟨blk3, ⟨o3, c3, rfl, m3⟩, rfl⟩) | ((with_reducible apply kF 27); refine sR 27 (k4' _ SBt) ?_; rintro v4 h4 ⟨blk4, ⟨o4, c4, rfl, m4⟩, rfl⟩) | (with_reducible first | refine c_seq ?_ | refine c_reg ?_ | refine c_region ?_ | refine c_block ?_ | refine c_skip ?_ | refine c_exit ?_ | refine c_ret ?_ | refine s_nil ?_ | refine x_then ?_ | refine x_then_exit ?_ | refine x_then_ret ?_ | refine x_block ?_ | refine x_block_ret ?_ | refine x_block_same ?_ | refine x_block_other (by first | rfl | decide) ?_ | refine q_nil ?_ | refine k_nil ?_) | ((with_reducible apply kG); first | refine gY1 ?_ | refine gN1 ?_ | refine gU1 ?_ | (refine gD1 (fun h => ?_) (fun h => ?_) <;> (try (exfalso; omega))) | refine gB1 (fun h => ?_) (fun h => ?_)) | ((with_reducible apply kP (.box _ _)); first | refine sBA (fun b => ?_) | refine sB (fun b => ?_)) | ((with_reducible apply kP _); refine sP ?_) | ((with_reducible apply kP _); refine sX ?_) | ((with_reducible apply kC); first | refine cT ?_ | refine cF ?_ | (refine cI (fun h => ?_) (fun h => ?_) <;> (try (exfalso; omega))) | refine cB (fun h => ?_) (fun h => ?_)))
      have hrs : rs.length ≤ 48 := by have := congrArg List.length g8; simp at this; omega
      have hcl : ∀ i, i < rs.length → (lrA rs i).l.length ≤ 1000 := fun i hi => by
        have h1 := lrA_l g8 hi
        rw [List.getElem?_map] at h1
        cases h2 : (lpsC ps sm m)[i]? with
        | none => rw [h2] at h1; cases h1
        | some l =>
          rw [h2] at h1
          have h3 : nats l = (lrA rs i).l := by simpa using h1
          rw [← h3, nats_len]
          have := (V.lp h2).2
          omega
      have ks := r_SameLoops rs qs o8 o9 c8 c9 (g8.trans g9.symm) (by omega) hcl B w0 (blk4 ++ (blk3 ++ (blk9 ++ (blk8 ++ (b1, [.slice oP ps.length cP, .slice oS m cS, iv e]) :: hs)))) ((m8 ((b1, [.slice oP ps.length cP, .slice oS m cS, iv e]) :: hs)).sub (sbA (sbA (sbA sb0)))) ((m9 _).sub (sbA (sbA sb0)))
      have kt := r_same o3 o4 c3 c4 (hrC ps sm m) (hrC ps sm m) B w0 _ ((m3 (blk9 ++ (blk8 ++ (b1, [.slice oP ps.length cP, .slice oS m cS, iv e]) :: hs))).sub (sbA sb0)) (m4 _) (by omega)
      rw [decide_eq_true rfl] at kt
      repeat' (first | ((with_reducible apply kF 28); refine sC 28 (ks) ?_) | ((with_reducible apply kF 29); refine sC 29 (kt) ?_) | ((with_reducible apply kF 16); refine sC 16 (k_known B w0 _) ?_) | (with_reducible first | refine c_seq ?_ | refine c_reg ?_ | refine c_region ?_ | refine c_block ?_ | refine c_skip ?_ | refine c_exit ?_ | refine c_ret ?_ | refine s_nil ?_ | refine x_then ?_ | refine x_then_exit ?_ | refine x_then_ret ?_ | refine x_block ?_ | refine x_block_ret ?_ | refine x_block_same ?_ | refine x_block_other (by first | rfl | decide) ?_ | refine q_nil ?_ | refine k_nil ?_) | ((with_reducible apply kG); first | refine gY1 ?_ | refine gN1 ?_ | refine gU1 ?_ | (refine gD1 (fun h => ?_) (fun h => ?_) <;> (try (exfalso; omega))) | refine gB1 (fun h => ?_) (fun h => ?_)) | ((with_reducible apply kP (.box _ _)); first | refine sBA (fun b => ?_) | refine sB (fun b => ?_)) | ((with_reducible apply kP _); refine sP ?_) | ((with_reducible apply kP _); refine sX ?_) | ((with_reducible apply kC); first | refine cT ?_ | refine cF ?_ | (refine cI (fun h => ?_) (fun h => ?_) <;> (try (exfalso; omega))) | refine cB (fun h => ?_) (fun h => ?_)))
      exact e_ret1 (hs' := hs) rfl rfl ⟨rfl, rfl⟩ (sbA (sbA (sbA (sbA (.cons _ (.refl _))))))
    · have k1' : ∀ hs' (h : hs.Sublist hs'), Fn Try.prog 24 #[.agg #[.slice oP ps.length cP, .slice oS m cS, iv e]] B w0 hs' (fun v h => v = .tuple #[.slice none 0 0, iv (vdC ps sm m e)] ∧ h = hs') := fun hs' h => (k1 hs' h).mono (by
        rintro v h' (⟨_, h2, h3⟩ | ⟨h1, _⟩)
        · exact ⟨h2, h3⟩
        · exact absurd h1 hv)
      have k2' : ∀ hs' (h : hs.Sublist hs'), Fn Try.prog 25 #[.agg #[.slice oP ps.length cP, .slice oS m cS, iv e]] B w0 hs' (fun v h => v = .tuple #[.slice none 0 0, iv (vdC ps sm m e)] ∧ h = hs') := fun hs' h => (k2 hs' h).mono (by
        rintro v h' (⟨_, h2, h3⟩ | ⟨h1, _⟩)
        · exact ⟨h2, h3⟩
        · exact absurd h1 hv)
      have k3' : ∀ hs' (h : hs.Sublist hs'), Fn Try.prog 26 #[.agg #[.slice oP ps.length cP, .slice oS m cS, iv e]] B w0 hs' (fun v h => v = .tuple #[.slice none 0 0, iv (vdC ps sm m e)] ∧ h = hs') := fun hs' h => (k3 hs' h).mono (by
        rintro v h' (⟨_, h2, h3⟩ | ⟨h1, _⟩)
        · exact ⟨h2, h3⟩
        · exact absurd h1 hv)
      have k4' : ∀ hs' (h : hs.Sublist hs'), Fn Try.prog 27 #[.agg #[.slice oP ps.length cP, .slice oS m cS, iv e]] B w0 hs' (fun v h => v = .tuple #[.slice none 0 0, iv (vdC ps sm m e)] ∧ h = hs') := fun hs' h => (k4 hs' h).mono (by
        rintro v h' (⟨_, h2, h3⟩ | ⟨h1, _⟩)
        · exact ⟨h2, h3⟩
        · exact absurd h1 hv)
      have ks := fun hs' => r_SameLoops [] [] none none 0 0 rfl (by decide) (fun i hi => absurd hi (Nat.not_lt_zero _)) B w0 hs' LrM.nil LrM.nil
      have kt := fun hs' => r_same none none 0 0 [] [] B w0 hs' Sl.nil Sl.nil (by decide)
      rw [decide_eq_true rfl] at kt
      clear k1 k2 k3 k4
      generalize vdC ps sm m e = z at *
      refine fn_enter Try.func6 rfl Try.ntmps6 (by simp) ?_
      repeat' (first | ((with_reducible apply kP (.box 25 _)); refine sBA (fun b1 => ?_)) | ((with_reducible apply kF 15); refine sR 15 (kL _ SBt) ?_; rintro v7 h7 ⟨⟨bb, rfl, hb⟩, rfl⟩; obtain rfl : bb = false := by (rw [← Bool.not_eq_true]; exact fun h => hlg (hb.1 h))) | ((with_reducible apply kF 24); refine sC 24 (k1' _ SBt) ?_) | ((with_reducible apply kF 25); refine sC 25 (k2' _ SBt) ?_) | ((with_reducible apply kF 26); refine sC 26 (k3' _ SBt) ?_) | ((with_reducible apply kF 27); refine sC 27 (k4' _ SBt) ?_) | ((with_reducible apply kF 28); refine sC 28 (ks _) ?_) | ((with_reducible apply kF 29); refine sC 29 (kt _) ?_) | ((with_reducible apply kF 16); refine sC 16 (k_known B w0 _) ?_) | (with_reducible first | refine c_seq ?_ | refine c_reg ?_ | refine c_region ?_ | refine c_block ?_ | refine c_skip ?_ | refine c_exit ?_ | refine c_ret ?_ | refine s_nil ?_ | refine x_then ?_ | refine x_then_exit ?_ | refine x_then_ret ?_ | refine x_block ?_ | refine x_block_ret ?_ | refine x_block_same ?_ | refine x_block_other (by first | rfl | decide) ?_ | refine q_nil ?_ | refine k_nil ?_) | ((with_reducible apply kG); first | refine gY1 ?_ | refine gN1 ?_ | refine gU1 ?_ | (refine gD1 (fun h => ?_) (fun h => ?_) <;> (try (exfalso; omega))) | refine gB1 (fun h => ?_) (fun h => ?_)) | ((with_reducible apply kP (.box _ _)); first | refine sBA (fun b => ?_) | refine sB (fun b => ?_)) | ((with_reducible apply kP _); refine sP ?_) | ((with_reducible apply kP _); refine sX ?_) | ((with_reducible apply kC); first | refine cT ?_ | refine cF ?_ | (refine cI (fun h => ?_) (fun h => ?_) <;> (try (exfalso; omega))) | refine cB (fun h => ?_) (fun h => ?_)))
      all_goals first
        | exact e_ret1 (hs' := hs) rfl rfl ⟨rfl, rfl⟩ SCt
        | (exfalso; omega)
        | trace_state
end Go.Proofs.Ytnbickholedckaa
