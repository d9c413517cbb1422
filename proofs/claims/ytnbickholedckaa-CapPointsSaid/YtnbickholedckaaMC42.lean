/- SamePoints at equal points; the law's walk of CapPoints. -/
import Derived.Test.YtnbickholedckaaMC40
namespace Go.Proofs.Ytnbickholedckaa
open Go.RowKit
attribute [local irreducible] OpF Ld CellAt Sl Sv pcA usP
set_option maxRecDepth 100000 in
set_option maxHeartbeats 8000000 in
theorem r_SamePoints (rs qs : List Pr) (oa ob : Option Addr) (c d : Nat) (hq : rs.map (·.p) = qs.map (·.p)) (hl : rs.length ≤ 1000) (hcl : ∀ i, i < rs.length → (prA rs i).p.cs.length ≤ 1000) (B : Nat) (w0 : Wd) (hs : HS) (hR : PrM B w0 hs oa rs) (hQ : PrM B w0 hs ob qs) :
    Fn Try.prog 23 #[.slice oa rs.length c, .slice ob qs.length d] B w0 hs (fun v h => v = .bool true ∧ h = hs) := by
  have hlen : qs.length = rs.length := by have := congrArg List.length hq; simpa using this.symm
  rw [hlen]
  refine fn_enter Try.func23 rfl Try.ntmps23 (by simp) ?_
  repeat' (first | ((with_reducible apply kRg 6); refine cD [1, 1, 1, 1, 1, 1, 1, 1, 1, 1, 4, 1, 1, 1, 1, 1, 1, 1, 1, 1, 1, 1, 1, 1, 1, 1, 1, 1, 1, 1, 1, 1, 1, 1, 1, 1, 1, 1, 1, 1, 1, 1, 1, 1, 1, 1, 1, 1, 1, 1, 1] ?_) | (with_reducible first | refine c_seq ?_ | refine c_reg ?_ | refine c_region ?_ | refine c_block ?_ | refine c_skip ?_ | refine c_exit ?_ | refine c_ret ?_ | refine s_nil ?_ | refine x_then ?_ | refine x_then_exit ?_ | refine x_then_ret ?_ | refine x_block ?_ | refine x_block_ret ?_ | refine x_block_same ?_ | refine x_block_other (by first | rfl | decide) ?_ | refine q_nil ?_ | refine k_nil ?_) | ((with_reducible apply kP _); refine sP ?_) | ((with_reducible apply kP _); refine sX ?_) | ((with_reducible apply kC); first | refine cT ?_ | refine cF ?_ | (refine cI (fun h => ?_) (fun h => ?_) <;> (try (exfalso; omega))) | refine cB (fun h => ?_) (fun h => ?_)) | ((with_reducible apply kDG); first | refine dY1 ?_ | refine dNo1 ?_ | refine dU1 ?_ | (refine dD1 (fun h => ?_) (fun h => ?_) <;> (try (exfalso; omega))) | refine dB1 (fun h => ?_) (fun h => ?_)) | ((with_reducible apply kDP _); refine dP ?_) | ((with_reducible apply kDP _); refine dX ?_))
  refine c_loop (fun i : Nat => [(0, .slice oa rs.length c), (1, .slice ob rs.length d), (5, iv i)]) (fun _ => hs) (fun i => i ≤ rs.length) (fun i => rs.length - i) 0 (Nat.zero_le _) (by repeat' first | trivial | rfl | apply And.intro) (.refl _) ?_
  intro i hi
  by_cases hi' : i < rs.length
  · have hi2 : i < qs.length := by omega
    have i1 := hR.isS hi'
    have i2 := hQ.isS hi2
    have hc1 := fun hs' (h : hs.Sublist hs') => hR.c h hi'
    have hc2 := fun hs' (h : hs.Sublist hs') => hQ.c h hi2
    have hs1 := hR.cs i hi'
    have hs2 := hQ.cs i hi2
    have hll := hcl i hi'
    have hep := prA_p hq hi'
    rw [← hep] at hc2 hs2
    generalize prA rs i = r at *
    generalize prA qs i = q at *
    obtain ⟨o1, d1, ⟨cs, inn, an, df⟩, k1⟩ := r
    obtain ⟨o2, d2, p2, k2⟩ := q
    dsimp only at hc1 hc2 hs1 hs2 hll hep
    subst hep
    have ks := fun hs' (h : hs.Sublist hs') => r_same o1 o2 d1 d2 (nats cs) (nats cs) B w0 hs' (hs1.sub h) (hs2.sub h) (by rw [nats_len]; omega)
    rw [decide_eq_true rfl, nats_len] at ks
    repeat' (first | ((with_reducible apply kP (.fieldAddr _ _ _)); refine sP ?_ (o_fieldE rfl (by assumption) (foTOf2 rfl rfl) (by with_reducible first | exact bb0 _ | exact bb1 _ | exact bb2 _ _))) | ((with_reducible apply kDP (.fieldAddr _ _ _)); refine dP ?_ (hX := rfl) (hv := o_fieldE rfl (by assumption) (foTOf2 rfl rfl) (by with_reducible first | exact bb0 _ | exact bb1 _ | exact bb2 _ _))) | ((with_reducible apply kQO (.fieldAddr _ _ _)); refine qP ?_ (o_fieldE rfl (by assumption) (foTOf2 rfl rfl) (by with_reducible first | exact bb0 _ | exact bb1 _ | exact bb2 _ _))) | ((with_reducible apply kP (.load 39 (.tmp 20))); refine sP ?_ (o_load rfl (ld_one (shTOf rfl) (hc1 _ SBt).1))) | ((with_reducible apply kDP (.load 39 (.tmp 20))); refine dP ?_ (hX := rfl) (hv := o_load rfl (ld_one (shTOf rfl) (hc1 _ SBt).1))) | ((with_reducible apply kQO (.load 39 (.tmp 20))); refine qP ?_ (o_load rfl (ld_one (shTOf rfl) (hc1 _ SBt).1))) | ((with_reducible apply kP (.load 39 (.tmp 25))); refine sP ?_ (o_load rfl (ld_one (shTOf rfl) (hc2 _ SBt).1))) | ((with_reducible apply kDP (.load 39 (.tmp 25))); refine dP ?_ (hX := rfl) (hv := o_load rfl (ld_one (shTOf rfl) (hc2 _ SBt).1))) | ((with_reducible apply kQO (.load 39 (.tmp 25))); refine qP ?_ (o_load rfl (ld_one (shTOf rfl) (hc2 _ SBt).1))) | ((with_reducible apply kP (.load 4 (.tmp 33))); refine sP ?_ (o_load rfl (ld_one (shTOf rfl) (hc1 _ SBt).2.1))) | ((with_reducible apply kDP (.load 4 (.tmp 33))); refine dP ?_ (hX := rfl) (hv := o_load rfl (ld_one (shTOf rfl) (hc1 _ SBt).2.1))) | ((with_reducible apply kQO (.load 4 (.tmp 33))); refine qP ?_ (o_load rfl (ld_one (shTOf rfl) (hc1 _ SBt).2.1))) | ((with_reducible apply kP (.load 4 (.tmp 38))); refine sP ?_ (o_load rfl (ld_one (shTOf rfl) (hc2 _ SBt).2.1))) | ((with_reducible apply kDP (.load 4 (.tmp 38))); refine dP ?_ (hX := rfl) (hv := o_load rfl (ld_one (shTOf rfl) (hc2 _ SBt).2.1))) | ((with_reducible apply kQO (.load 4 (.tmp 38))); refine qP ?_ (o_load rfl (ld_one (shTOf rfl) (hc2 _ SBt).2.1))) | ((with_reducible apply kP (.load 3 (.tmp 46))); refine sP ?_ (o_load rfl (ld_one (shTOf rfl) (hc1 _ SBt).2.2.1))) | ((with_reducible apply kDP (.load 3 (.tmp 46))); refine dP ?_ (hX := rfl) (hv := o_load rfl (ld_one (shTOf rfl) (hc1 _ SBt).2.2.1))) | ((with_reducible apply kQO (.load 3 (.tmp 46))); refine qP ?_ (o_load rfl (ld_one (shTOf rfl) (hc1 _ SBt).2.2.1))) | ((with_reducible apply kP (.load 3 (.tmp 51))); refine sP ?_ (o_load rfl (ld_one (shTOf rfl) (hc2 _ SBt).2.2.1))) | ((with_reducible apply kDP (.load 3 (.tmp 51))); refine dP ?_ (hX := rfl) (hv := o_load rfl (ld_one (shTOf rfl) (hc2 _ SBt).2.2.1))) | ((with_reducible apply kQO (.load 3 (.tmp 51))); refine qP ?_ (o_load rfl (ld_one (shTOf rfl) (hc2 _ SBt).2.2.1))) | ((with_reducible apply kP (.load 3 (.tmp 59))); refine sP ?_ (o_load rfl (ld_one (shTOf rfl) (hc1 _ SBt).2.2.2))) | ((with_reducible apply kDP (.load 3 (.tmp 59))); refine dP ?_ (hX := rfl) (hv := o_load rfl (ld_one (shTOf rfl) (hc1 _ SBt).2.2.2))) | ((with_reducible apply kQO (.load 3 (.tmp 59))); refine qP ?_ (o_load rfl (ld_one (shTOf rfl) (hc1 _ SBt).2.2.2))) | ((with_reducible apply kP (.load 3 (.tmp 64))); refine sP ?_ (o_load rfl (ld_one (shTOf rfl) (hc2 _ SBt).2.2.2))) | ((with_reducible apply kDP (.load 3 (.tmp 64))); refine dP ?_ (hX := rfl) (hv := o_load rfl (ld_one (shTOf rfl) (hc2 _ SBt).2.2.2))) | ((with_reducible apply kQO (.load 3 (.tmp 64))); refine qP ?_ (o_load rfl (ld_one (shTOf rfl) (hc2 _ SBt).2.2.2))) | ((with_reducible apply kDF 29); refine dC 29 (fun F => ks _ (sbA SBt)) ?_) | ((with_reducible apply kRg 6); refine cD [1, 1, 1, 1, 1, 1, 1, 1, 1, 1, 4, 1, 1, 1, 1, 1, 1, 1, 1, 1, 1, 1, 1, 1, 1, 1, 1, 1, 1, 1, 1, 1, 1, 1, 1, 1, 1, 1, 1, 1, 1, 1, 1, 1, 1, 1, 1, 1, 1, 1, 1] ?_) | (with_reducible first | refine c_seq ?_ | refine c_reg ?_ | refine c_region ?_ | refine c_block ?_ | refine c_skip ?_ | refine c_exit ?_ | refine c_ret ?_ | refine s_nil ?_ | refine x_then ?_ | refine x_then_exit ?_ | refine x_then_ret ?_ | refine x_block ?_ | refine x_block_ret ?_ | refine x_block_same ?_ | refine x_block_other (by first | rfl | decide) ?_ | refine q_nil ?_ | refine k_nil ?_) | ((with_reducible apply kP _); refine sP ?_) | ((with_reducible apply kP _); refine sX ?_) | ((with_reducible apply kC); first | refine cT ?_ | refine cF ?_ | (refine cI (fun h => ?_) (fun h => ?_) <;> (try (exfalso; omega))) | refine cB (fun h => ?_) (fun h => ?_)) | ((with_reducible apply kDG); first | refine dY1 ?_ | refine dNo1 ?_ | refine dU1 ?_ | (refine dD1 (fun h => ?_) (fun h => ?_) <;> (try (exfalso; omega))) | refine dB1 (fun h => ?_) (fun h => ?_)) | ((with_reducible apply kDP _); refine dP ?_) | ((with_reducible apply kDP _); refine dX ?_))
    all_goals first
      | exact r_end (i + 1) hi' (by omega) (by repeat' first | trivial | rfl | apply And.intro) SCt
      | exact absurd rfl ‹inn ≠ inn›
      | (exfalso; omega)
      | trace_state
  · obtain rfl : rs.length = i := by omega
    repeat' (first | ((with_reducible apply kRg 6); refine cD [1, 1, 1, 1, 1, 1, 1, 1, 1, 1, 4, 1, 1, 1, 1, 1, 1, 1, 1, 1, 1, 1, 1, 1, 1, 1, 1, 1, 1, 1, 1, 1, 1, 1, 1, 1, 1, 1, 1, 1, 1, 1, 1, 1, 1, 1, 1, 1, 1, 1, 1] ?_) | (with_reducible first | refine c_seq ?_ | refine c_reg ?_ | refine c_region ?_ | refine c_block ?_ | refine c_skip ?_ | refine c_exit ?_ | refine c_ret ?_ | refine s_nil ?_ | refine x_then ?_ | refine x_then_exit ?_ | refine x_then_ret ?_ | refine x_block ?_ | refine x_block_ret ?_ | refine x_block_same ?_ | refine x_block_other (by first | rfl | decide) ?_ | refine q_nil ?_ | refine k_nil ?_) | ((with_reducible apply kP _); refine sP ?_) | ((with_reducible apply kP _); refine sX ?_) | ((with_reducible apply kC); first | refine cT ?_ | refine cF ?_ | (refine cI (fun h => ?_) (fun h => ?_) <;> (try (exfalso; omega))) | refine cB (fun h => ?_) (fun h => ?_)) | ((with_reducible apply kDG); first | refine dY1 ?_ | refine dNo1 ?_ | refine dU1 ?_ | (refine dD1 (fun h => ?_) (fun h => ?_) <;> (try (exfalso; omega))) | refine dB1 (fun h => ?_) (fun h => ?_)) | ((with_reducible apply kDP _); refine dP ?_) | ((with_reducible apply kDP _); refine dX ?_))
    exact e_ret1 (hs' := hs) rfl rfl ⟨rfl, rfl⟩ SCt
set_option maxRecDepth 100000 in
set_option maxHeartbeats 8000000 in
theorem k_CapPoints (ps : List Pc) (oP oS : Option Addr) (cP m cS : Nat) (sm : List Int) (e : Int) (hsm : sm.length = m * 4) (B : Nat) (w0 : Wd) (hs : HS) (hC : CapM B w0 hs oP oS ps sm) :
    Fn Try.prog 4 #[.agg #[.slice oP ps.length cP, .slice oS m cS, iv e]] B w0 hs (fun v h => v = .bool true ∧ h = hs) := by
  have kL := fun hs' (h : hs.Sublist hs') => k_Long ps oP oS cP m cS sm e B w0 hs' (hC.sub h)
  by_cases hlg : lgC ps m
  · refine fn_enter Try.func4 rfl Try.ntmps4 (by simp) ?_
    repeat' (first | ((with_reducible apply kP (.box 25 _)); refine sBA (fun b1 => ?_)) | ((with_reducible apply kF 15); refine sR 15 (kL _ SBt) ?_; rintro v7 h7 ⟨⟨bb, rfl, hb⟩, rfl⟩; obtain rfl : bb = true := hb.2 hlg) | ((with_reducible apply kF 16); refine sC 16 (k_known B w0 _) ?_) | (with_reducible first | refine c_seq ?_ | refine c_reg ?_ | refine c_region ?_ | refine c_block ?_ | refine c_skip ?_ | refine c_exit ?_ | refine c_ret ?_ | refine s_nil ?_ | refine x_then ?_ | refine x_then_exit ?_ | refine x_then_ret ?_ | refine x_block ?_ | refine x_block_ret ?_ | refine x_block_same ?_ | refine x_block_other (by first | rfl | decide) ?_ | refine q_nil ?_ | refine k_nil ?_) | ((with_reducible apply kG); first | refine gY1 ?_ | refine gN1 ?_ | refine gU1 ?_ | (refine gD1 (fun h => ?_) (fun h => ?_) <;> (try (exfalso; omega))) | refine gB1 (fun h => ?_) (fun h => ?_)) | ((with_reducible apply kP (.box _ _)); first | refine sBA (fun b => ?_) | refine sB (fun b => ?_)) | ((with_reducible apply kP _); refine sP ?_) | ((with_reducible apply kP _); refine sX ?_) | ((with_reducible apply kC); first | refine cT ?_ | refine cF ?_ | (refine cI (fun h => ?_) (fun h => ?_) <;> (try (exfalso; omega))) | refine cB (fun h => ?_) (fun h => ?_)))
    exact e_ret1 (hs' := hs) rfl rfl ⟨rfl, rfl⟩ SCt
  · obtain ⟨hn, hm, hl⟩ := lgC_no hlg
    have k1 := fun hs' (h : hs.Sublist hs') => k_Points ps oP oS cP m cS sm e (by omega) hsm (by omega) B w0 hs' (hC.sub h)
    have k2 := fun hs' (h : hs.Sublist hs') => r_Points ps oP oS cP m cS sm e (by omega) hsm (by omega) B w0 hs' (hC.sub h)
    by_cases hv : vdC ps sm m e = 0
    · obtain ⟨hpl, hpc⟩ := ptsC_in (vdC_0 hv)
      have k1' : ∀ hs' (h : hs.Sublist hs'), Fn Try.prog 21 #[.agg #[.slice oP ps.length cP, .slice oS m cS, iv e]] B w0 hs' (fun v h => ∃ blk, (∃ oa c rs, v = .tuple #[.slice oa rs.length c, iv 0] ∧ rs.map (·.p) = ptsC ps sm m ∧ ∀ F, PrM B w0 (blk ++ F) oa rs) ∧ h = blk ++ hs') := fun hs' h => (k1 hs' h).mono (by
        rintro v h' (⟨h1, _⟩ | ⟨_, x, blk, hx, rfl, rfl⟩)
        · exact absurd hv h1
        · obtain ⟨oa, c, rs, rfl, g1, g2⟩ := hx.m (B := B) (w0 := w0) (hs := [])
          rw [List.append_nil] at g2
          exact ⟨blk, ⟨oa, c, rs, rfl, g1, fun F => g2.sub (List.sublist_append_left _ _)⟩, rfl⟩)
      have k2' : ∀ hs' (h : hs.Sublist hs'), Fn Try.prog 22 #[.agg #[.slice oP ps.length cP, .slice oS m cS, iv e]] B w0 hs' (fun v h => ∃ blk, (∃ oa c rs, v = .tuple #[.slice oa rs.length c, iv 0] ∧ rs.map (·.p) = ptsC ps sm m ∧ ∀ F, PrM B w0 (blk ++ F) oa rs) ∧ h = blk ++ hs') := fun hs' h => (k2 hs' h).mono (by
        rintro v h' (⟨h1, _⟩ | ⟨_, x, blk, hx, rfl, rfl⟩)
        · exact absurd hv h1
        · obtain ⟨oa, c, rs, rfl, g1, g2⟩ := hx.m (B := B) (w0 := w0) (hs := [])
          rw [List.append_nil] at g2
          exact ⟨blk, ⟨oa, c, rs, rfl, g1, fun F => g2.sub (List.sublist_append_left _ _)⟩, rfl⟩)
      clear k1 k2
      refine fn_enter Try.func4 rfl Try.ntmps4 (by simp) ?_
      repeat' (first | ((with_reducible apply kP (.box 25 _)); refine sBA (fun b1 => ?_)) | ((with_reducible apply kF 15); refine sR 15 (kL _ SBt) ?_; rintro v7 h7 ⟨⟨bb, rfl, hb⟩, rfl⟩; obtain rfl : bb = false := by (rw [← Bool.not_eq_true]; exact fun h => hlg (hb.1 h))) | ((with_reducible apply kF 21); refine sR 21 (k1' _ SBt) ?_; rintro v8 h8 ⟨blk8, ⟨o8, c8, rs, rfl, g8, m8⟩, rfl⟩) | ((with_reducible apply kF 22); refine sR 22 (k2' _ SBt) ?_; rintro v9 h9 ⟨blk9, ⟨o9, c9, qs, rfl, g9, m9⟩, rfl⟩) | (with_reducible first | refine c_seq ?_ | refine c_reg ?_ | refine c_region ?_ | refine c_block ?_ | refine c_skip ?_ | refine c_exit ?_ | refine c_ret ?_ | refine s_nil ?_ | refine x_then ?_ | refine x_then_exit ?_ | refine x_then_ret ?_ | refine x_block ?_ | refine x_block_ret ?_ | refine x_block_same ?_ | refine x_block_other (by first | rfl | decide) ?_ | refine q_nil ?_ | refine k_nil ?_) | ((with_reducible apply kG); first | refine gY1 ?_ | refine gN1 ?_ | refine gU1 ?_ | (refine gD1 (fun h => ?_) (fun h => ?_) <;> (try (exfalso; omega))) | refine gB1 (fun h => ?_) (fun h => ?_)) | ((with_reducible apply kP (.box _ _)); first | refine sBA (fun b => ?_) | refine sB (fun b => ?_)) | ((with_reducible apply kP _); refine sP ?_) | ((with_reducible apply kP _); refine sX ?_) | ((with_reducible apply kC); first | refine cT ?_ | refine cF ?_ | (refine cI (fun h => ?_) (fun h => ?_) <;> (try (exfalso; omega))) | refine cB (fun h => ?_) (fun h => ?_)))
      have hrl : rs.length ≤ 48 := by have := congrArg List.length g8; simp at this; omega
      have hcl : ∀ i, i < rs.length → (prA rs i).p.cs.length ≤ 1000 := fun i hi => by
        have := hpc (prA rs i).p (by rw [← g8]; exact List.mem_map_of_mem (prA_mem hi))
        omega
      have ks := r_SamePoints rs qs o8 o9 c8 c9 (g8.trans g9.symm) (by omega) hcl B w0 _ ((m8 ((b1, [.slice oP ps.length cP, .slice oS m cS, iv e]) :: hs)).sub (sbA sb0)) (m9 _)
      repeat' (first | ((with_reducible apply kF 23); refine sC 23 (ks) ?_) | ((with_reducible apply kF 16); refine sC 16 (k_known B w0 _) ?_) | (with_reducible first | refine c_seq ?_ | refine c_reg ?_ | refine c_region ?_ | refine c_block ?_ | refine c_skip ?_ | refine c_exit ?_ | refine c_ret ?_ | refine s_nil ?_ | refine x_then ?_ | refine x_then_exit ?_ | refine x_then_ret ?_ | refine x_block ?_ | refine x_block_ret ?_ | refine x_block_same ?_ | refine x_block_other (by first | rfl | decide) ?_ | refine q_nil ?_ | refine k_nil ?_) | ((with_reducible apply kG); first | refine gY1 ?_ | refine gN1 ?_ | refine gU1 ?_ | (refine gD1 (fun h => ?_) (fun h => ?_) <;> (try (exfalso; omega))) | refine gB1 (fun h => ?_) (fun h => ?_)) | ((with_reducible apply kP (.box _ _)); first | refine sBA (fun b => ?_) | refine sB (fun b => ?_)) | ((with_reducible apply kP _); refine sP ?_) | ((with_reducible apply kP _); refine sX ?_) | ((with_reducible apply kC); first | refine cT ?_ | refine cF ?_ | (refine cI (fun h => ?_) (fun h => ?_) <;> (try (exfalso; omega))) | refine cB (fun h => ?_) (fun h => ?_)))
      exact e_ret1 (hs' := hs) rfl rfl ⟨rfl, rfl⟩ (sbA (sbA (.cons _ (.refl _))))
    · have k1' : ∀ hs' (h : hs.Sublist hs'), Fn Try.prog 21 #[.agg #[.slice oP ps.length cP, .slice oS m cS, iv e]] B w0 hs' (fun v h => v = .tuple #[.slice none 0 0, iv (vdC ps sm m e)] ∧ h = hs') := fun hs' h => (k1 hs' h).mono (by
        rintro v h' (⟨_, h2, h3⟩ | ⟨h1, _⟩)
        · exact ⟨h2, h3⟩
        · exact absurd h1 hv)
      have k2' : ∀ hs' (h : hs.Sublist hs'), Fn Try.prog 22 #[.agg #[.slice oP ps.length cP, .slice oS m cS, iv e]] B w0 hs' (fun v h => v = .tuple #[.slice none 0 0, iv (vdC ps sm m e)] ∧ h = hs') := fun hs' h => (k2 hs' h).mono (by
        rintro v h' (⟨_, h2, h3⟩ | ⟨h1, _⟩)
        · exact ⟨h2, h3⟩
        · exact absurd h1 hv)
      have ks := fun hs' => r_SamePoints [] [] none none 0 0 rfl (by decide) (fun i hi => absurd hi (Nat.not_lt_zero _)) B w0 hs' PrM.nil PrM.nil
      clear k1 k2
      generalize vdC ps sm m e = z at *
      refine fn_enter Try.func4 rfl Try.ntmps4 (by simp) ?_
      repeat' (first | ((with_reducible apply kP (.box 25 _)); refine sBA (fun b1 => ?_)) | ((with_reducible apply kF 15); refine sR 15 (kL _ SBt) ?_; rintro v7 h7 ⟨⟨bb, rfl, hb⟩, rfl⟩; obtain rfl : bb = false := by (rw [← Bool.not_eq_true]; exact fun h => hlg (hb.1 h))) | ((with_reducible apply kF 21); refine sC 21 (k1' _ SBt) ?_) | ((with_reducible apply kF 22); refine sC 22 (k2' _ SBt) ?_) | ((with_reducible apply kF 23); refine sC 23 (ks _) ?_) | ((with_reducible apply kF 16); refine sC 16 (k_known B w0 _) ?_) | (with_reducible first | refine c_seq ?_ | refine c_reg ?_ | refine c_region ?_ | refine c_block ?_ | refine c_skip ?_ | refine c_exit ?_ | refine c_ret ?_ | refine s_nil ?_ | refine x_then ?_ | refine x_then_exit ?_ | refine x_then_ret ?_ | refine x_block ?_ | refine x_block_ret ?_ | refine x_block_same ?_ | refine x_block_other (by first | rfl | decide) ?_ | refine q_nil ?_ | refine k_nil ?_) | ((with_reducible apply kG); first | refine gY1 ?_ | refine gN1 ?_ | refine gU1 ?_ | (refine gD1 (fun h => ?_) (fun h => ?_) <;> (try (exfalso; omega))) | refine gB1 (fun h => ?_) (fun h => ?_)) | ((with_reducible apply kP (.box _ _)); first | refine sBA (fun b => ?_) | refine sB (fun b => ?_)) | ((with_reducible apply kP _); refine sP ?_) | ((with_reducible apply kP _); refine sX ?_) | ((with_reducible apply kC); first | refine cT ?_ | refine cF ?_ | (refine cI (fun h => ?_) (fun h => ?_) <;> (try (exfalso; omega))) | refine cB (fun h => ?_) (fun h => ?_)))
      all_goals first
        | exact e_ret1 (hs' := hs) rfl rfl ⟨rfl, rfl⟩ SCt
        | (exfalso; omega)
        | trace_state
end Go.Proofs.Ytnbickholedckaa
