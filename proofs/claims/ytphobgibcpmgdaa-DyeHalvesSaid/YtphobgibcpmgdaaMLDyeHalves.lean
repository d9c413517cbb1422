/- DyeHalves holds: a mixture of equal parts is half way. -/
import Derived.Test.YtphobgibcpmgdaaMD53
import Derived.Test.YtphobgibcpmgdaaMD13
import Derived.Test.YtphobgibcpmgdaaMD49
import Derived.Test.YtphobgibcpmgdaaMClose2
namespace Go.Proofs.Ytphobgibcpmgdaa
open Go.RowKit Go.ChangeShapes Go.WideShapes Go.ChangeAt

theorem ab_mul {c : Int} (hc : 0 ≤ c) (x : Int) : c * ab x = ab (c * x) := by
  unfold ab
  rcases Int.le_total 0 x with h | h
  · have := Int.mul_nonneg hc h
    rw [Int.max_eq_left (by omega), Int.max_eq_left (by omega)]
  · have := Int.mul_nonneg hc (show 0 ≤ -x by omega)
    rw [Int.mul_neg] at this
    rw [Int.max_eq_right (by omega), Int.max_eq_right (by omega), Int.mul_neg]
theorem sumTo_mulL (F : Nat → Int) (c : Int) : ∀ n, sumTo (fun i => c * F i) n = c * sumTo F n
  | 0 => by simp [sumTo]
  | n + 1 => by rw [sumTo_succ, sumTo_succ, sumTo_mulL F c n, Int.mul_add]
/-- A fraction in its lowest terms. -/
def rdN (n d : Int) : Int := n / (Nat.gcd n.toNat d.toNat : Int)
def rdD (n d : Int) : Int := d / (Nat.gcd n.toNat d.toNat : Int)
theorem rd_mul {c n d : Int} (hc : 0 < c) (hn : 0 ≤ n) (hd : 0 < d) : rdN (c * n) (c * d) = rdN n d ∧ rdD (c * n) (c * d) = rdD n d := by
  obtain ⟨c', rfl⟩ := Int.eq_ofNat_of_zero_le (show 0 ≤ c by omega)
  obtain ⟨n', rfl⟩ := Int.eq_ofNat_of_zero_le hn
  obtain ⟨d', rfl⟩ := Int.eq_ofNat_of_zero_le (show 0 ≤ d by omega)
  unfold rdN rdD
  rw [← Int.natCast_mul, ← Int.natCast_mul, Int.toNat_natCast, Int.toNat_natCast, Int.toNat_natCast, Int.toNat_natCast, Nat.gcd_mul_left, Int.natCast_mul, Int.natCast_mul, Int.natCast_mul]
  exact ⟨Int.mul_ediv_mul_of_pos _ _ hc, Int.mul_ediv_mul_of_pos _ _ hc⟩
theorem rd_of {n d : Int} (hn : 0 ≤ n) (hd : 0 < d) : ∃ g : Int, 0 < g ∧ n = g * rdN n d ∧ d = g * rdD n d := by
  have hg : 0 < Nat.gcd n.toNat d.toNat := Nat.gcd_pos_of_pos_right _ (by omega)
  have e1 : (Nat.gcd n.toNat d.toNat : Int) ∣ n := by
    have := Int.natCast_dvd_natCast.2 (Nat.gcd_dvd_left n.toNat d.toNat)
    rwa [Int.toNat_of_nonneg hn] at this
  have e2 : (Nat.gcd n.toNat d.toNat : Int) ∣ d := by
    have := Int.natCast_dvd_natCast.2 (Nat.gcd_dvd_right n.toNat d.toNat)
    rwa [Int.toNat_of_nonneg (show 0 ≤ d by omega)] at this
  exact ⟨_, by omega, (Int.mul_ediv_cancel' e1).symm, (Int.mul_ediv_cancel' e2).symm⟩
/-- Half of a fraction. -/
theorem rd_half {D E : Int} (hD : 0 ≤ D) (hE : 0 < E) : 2 * rdN D (2 * E) * rdD D E = rdN D E * rdD D (2 * E) := by
  obtain ⟨g, hg, a1, a2⟩ := rd_of hD hE
  obtain ⟨h, hh, b1, b2⟩ := rd_of hD (show 0 < 2 * E by omega)
  generalize rdN D (2 * E) = y1 at *
  generalize rdD D (2 * E) = y2 at *
  generalize rdN D E = x1 at *
  generalize rdD D E = x2 at *
  have k1 : g * h * (2 * y1 * x2) = 2 * (D * E) := by
    rw [show g * h * (2 * y1 * x2) = 2 * ((h * y1) * (g * x2)) by ac_rfl, ← b1, ← a2]
  have k2 : g * h * (x1 * y2) = 2 * (D * E) := by
    rw [show g * h * (x1 * y2) = (g * x1) * (h * y2) by ac_rfl, ← a1, ← b2]; ac_rfl
  exact Int.eq_of_mul_eq_mul_left (show g * h ≠ 0 from Int.ne_of_gt (Int.mul_pos hg hh)) (k1.trans k2.symm)
theorem dst_rd (N M : Nat) (lz wz : List Int) : dst N M lz wz / dgc N M lz wz = rdN (dst N M lz wz) (dnm N M lz wz) ∧ dnm N M lz wz / dgc N M lz wz = rdD (dst N M lz wz) (dnm N M lz wz) := ⟨rfl, rfl⟩
/-- Either blend and their even mixture. -/
theorem half_a {N M m : Nat} {lz wz out : List Int} (h1 : VB N lz) (h2 : VB M wz) (hm : VB m out) (hW : wS out m = nW (mxV N M lz wz 1 1)) (h0 : ∀ k, 0 ≤ mxV N M lz wz 1 1 k) :
    (gcs (mxV N M lz wz 1 1) 240 : Int) * dst N m lz out = tW lz N * dst N M lz wz ∧ (gcs (mxV N M lz wz 1 1) 240 : Int) * dnm N m lz out = tW lz N * (2 * dnm N M lz wz) ∧
    (gcs (mxV N M lz wz 1 1) 240 : Int) * dst m M out wz = tW wz M * dst N M lz wz ∧ (gcs (mxV N M lz wz 1 1) 240 : Int) * dnm m M out wz = tW wz M * (2 * dnm N M lz wz) := by
  have t1 := h1.tot
  have t2 := h2.tot
  have eV : ∀ k, k < 240 → mxV N M lz wz 1 1 k = (gcs (mxV N M lz wz 1 1) 240 : Int) * wS out m k := fun k hk => by rw [hW]; exact nW_eq (n := 0) h0 hk
  have eM : ∀ k, mxV N M lz wz 1 1 k = tW wz M * wS lz N k + tW lz N * wS wz M k := fun k => by unfold mxV; rw [Int.one_mul, Int.one_mul]
  have eT : (gcs (mxV N M lz wz 1 1) 240 : Int) * tW out m = 2 * (tW lz N * tW wz M) := by
    have e1 := sum_wS hm.sd m (Nat.le_refl _)
    have e2 := sum_wS h1.sd N (Nat.le_refl _)
    have e3 := sum_wS h2.sd M (Nat.le_refl _)
    rw [← e1, ← sumTo_mulL, ← sumTo_congr 240 eV, sumTo_congr 240 (fun k _ => eM k), sumTo_add (fun k => tW wz M * wS lz N k) (fun k => tW lz N * wS wz M k), sumTo_mulL, sumTo_mulL, e2, e3, Int.mul_comm (tW wz M) (tW lz N)]
    omega
  have hG : 0 ≤ (gcs (mxV N M lz wz 1 1) 240 : Int) := by omega
  have eV' : ∀ k, k < 240 → (gcs (mxV N M lz wz 1 1) 240 : Int) * wS out m k = tW wz M * wS lz N k + tW lz N * wS wz M k := fun k hk => by rw [← eV k hk, eM k]
  clear eV eM hW h0
  generalize (gcs (mxV N M lz wz 1 1) 240 : Int) = G at *
  have ed : ∀ N' M' l w, dnm N' M' l w = 2 * (tW l N' * tW w M') := fun N' M' l w => by unfold dnm; rw [Int.mul_assoc]
  refine ⟨?_, ?_, ?_, ?_⟩
  · unfold dst
    rw [← sumTo_mulL, ← sumTo_mulL]
    refine sumTo_congr _ fun k hk => ?_
    unfold dsS
    rw [ab_mul hG, ab_mul (by omega)]
    congr 1
    have := eV' k hk
    rw [Int.mul_sub, show G * (wS lz N k * tW out m) = wS lz N k * (G * tW out m) by ac_rfl, eT, show G * (wS out m k * tW lz N) = (G * wS out m k) * tW lz N by ac_rfl, this, Int.mul_sub, Int.add_mul]
    have a1 : wS lz N k * (2 * (tW lz N * tW wz M)) = 2 * (tW lz N * (wS lz N k * tW wz M)) := by ac_rfl
    have a2 : tW wz M * wS lz N k * tW lz N = tW lz N * (wS lz N k * tW wz M) := by ac_rfl
    have a3 : tW lz N * wS wz M k * tW lz N = tW lz N * (wS wz M k * tW lz N) := by ac_rfl
    rw [a1, a2, a3]; omega
  · rw [ed, ed, show G * (2 * (tW lz N * tW out m)) = 2 * (tW lz N * (G * tW out m)) by ac_rfl, eT]; ac_rfl
  · unfold dst
    rw [← sumTo_mulL, ← sumTo_mulL]
    refine sumTo_congr _ fun k hk => ?_
    unfold dsS
    rw [ab_mul hG, ab_mul (by omega)]
    congr 1
    have := eV' k hk
    rw [Int.mul_sub, show G * (wS out m k * tW wz M) = (G * wS out m k) * tW wz M by ac_rfl, this, show G * (wS wz M k * tW out m) = wS wz M k * (G * tW out m) by ac_rfl, eT, Int.mul_sub, Int.add_mul]
    have a1 : wS wz M k * (2 * (tW lz N * tW wz M)) = 2 * (tW wz M * (wS wz M k * tW lz N)) := by ac_rfl
    have a2 : tW wz M * wS lz N k * tW wz M = tW wz M * (wS lz N k * tW wz M) := by ac_rfl
    have a3 : tW lz N * wS wz M k * tW wz M = tW wz M * (wS wz M k * tW lz N) := by ac_rfl
    rw [a1, a2, a3]; omega
  · rw [ed, ed, show G * (2 * (tW out m * tW wz M)) = 2 * (tW wz M * (G * tW out m)) by ac_rfl, eT]; ac_rfl
/-- The three distances. -/
theorem half_all {N M m : Nat} {lz wz out : List Int} (h1 : VB N lz) (h2 : VB M wz) (hm : VB m out) (hW : wS out m = nW (mxV N M lz wz 1 1)) (h0 : ∀ k, 0 ≤ mxV N M lz wz 1 1 k) (hp : ∃ k, k < 240 ∧ 0 < mxV N M lz wz 1 1 k) :
    ∃ D E : Int, 0 ≤ D ∧ D ≤ E ∧ 0 < E ∧ E ≤ 72000000 ∧ dst N M lz wz / dgc N M lz wz = rdN D E ∧ dnm N M lz wz / dgc N M lz wz = rdD D E ∧ dst N m lz out / dgc N m lz out = rdN D (2 * E) ∧ dnm N m lz out / dgc N m lz out = rdD D (2 * E) ∧ dst m M out wz / dgc m M out wz = rdN D (2 * E) ∧ dnm m M out wz / dgc m M out wz = rdD D (2 * E) := by
  obtain ⟨a1, a2, a3, a4⟩ := half_a h1 h2 hm hW h0
  have t1 := h1.tot
  have t2 := h2.tot
  have t3 := hm.tot
  have hg : 0 < (gcs (mxV N M lz wz 1 1) 240 : Int) := by
    obtain ⟨k, hk, h⟩ := hp
    have := gcs_pos hk h
    omega
  obtain ⟨d0, d1⟩ := dst_le h1 h2
  have dn : ∀ N' M' l w, (1 ≤ tW l N' ∧ tW l N' ≤ 6000) → (1 ≤ tW w M' ∧ tW w M' ≤ 6000) → 0 < dnm N' M' l w ∧ dnm N' M' l w ≤ 72000000 := fun N' M' l w u1 u2 => by
    have := prod_p (x := tW l N') (y := tW w M') (c := 6000) (d := 6000) (by omega) (by omega) (by decide)
    have := Int.mul_pos (show 0 < tW l N' by omega) (show 0 < tW w M' by omega)
    unfold dnm; rw [Int.mul_assoc]; omega
  have hE := dn N M lz wz t1 t2
  have hE1 := dn N m lz out t1 t3
  have hE2 := dn m M out wz t3 t2
  have f1 := dst_le h1 hm
  have f2 := dst_le hm h2
  refine ⟨dst N M lz wz, dnm N M lz wz, d0, d1, hE.1, hE.2, rfl, rfl, ?_⟩
  have r1 := rd_mul (c := (gcs (mxV N M lz wz 1 1) 240 : Int)) hg f1.1 hE1.1
  have r2 := rd_mul (c := tW lz N) (by omega) d0 (show 0 < 2 * dnm N M lz wz by omega)
  have r3 := rd_mul (c := (gcs (mxV N M lz wz 1 1) 240 : Int)) hg f2.1 hE2.1
  have r4 := rd_mul (c := tW wz M) (by omega) d0 (show 0 < 2 * dnm N M lz wz by omega)
  rw [a1, a2] at r1
  rw [a3, a4] at r3
  exact ⟨(dst_rd N m lz out).1.trans (r1.1.symm.trans r2.1), (dst_rd N m lz out).2.trans (r1.2.symm.trans r2.2), (dst_rd m M out wz).1.trans (r3.1.symm.trans r4.1), (dst_rd m M out wz).2.trans (r3.2.symm.trans r4.2)⟩
theorem rd_b {D E : Int} (hD : 0 ≤ D) (hE : 0 < E) : 0 ≤ rdN D E ∧ rdN D E ≤ D ∧ 0 ≤ rdD D E ∧ rdD D E ≤ E := by
  unfold rdN rdD
  exact ⟨Int.ediv_nonneg hD (by omega), Int.ediv_le_self _ hD, Int.ediv_nonneg (by omega) (by omega), Int.ediv_le_self _ (by omega)⟩
set_option maxRecDepth 100000 in
set_option maxHeartbeats 8000000 in
theorem l_halves (oa ob : Option Addr) (N M c d : Nat) (lz wz : List Int) (hl : lz.length = N * 4) (hw : wz.length = M * 4) (B : Nat) (w0 : Wd) (hs : HS) (hL : Sl B w0 hs oa lz) (hW : Sl B w0 hs ob wz) : Fn Try.prog 17 #[.slice oa N c, .slice ob M d] B w0 hs (fun v _ => v = .bool true) := by
  have m1 := k_many N c oa B w0
  have m2 := k_many M d ob B w0
  by_cases h1 : 100 < N
  · rw [show decide (100 < N) = true from by simp [h1]] at m1
    refine fn_enter Try.func17 rfl Try.ntmps17 (by simp) ?_
    repeat' (first | ((with_reducible apply kF 43); refine sC 43 (m1 _) ?_) | ((with_reducible apply kF 24); refine sC 24 (k_known B w0 _) ?_) | (with_reducible first | refine c_seq ?_ | refine c_reg ?_ | refine c_region ?_ | refine c_block ?_ | refine c_skip ?_ | refine c_exit ?_ | refine c_ret ?_ | refine s_nil ?_ | refine x_then ?_ | refine x_then_exit ?_ | refine x_then_ret ?_ | refine x_block ?_ | refine x_block_ret ?_ | refine x_block_same ?_ | refine x_block_other (by rfl) ?_ | refine q_nil ?_ | refine k_nil ?_) | ((with_reducible apply kP (.makeFunc _ _ _)); refine sMF ?_) | ((with_reducible apply kG); first | refine gY1 ?_ | refine gN1 ?_ | refine gU1 ?_ | (refine gD1 (fun h => ?_) (fun h => ?_) <;> (try (exfalso; omega))) | refine gB1 (fun h => ?_) (fun h => ?_)) | ((with_reducible apply kN); first | refine stP ?_ | refine stI ?_ | refine st1 ?_ | refine stW ?_) | ((with_reducible apply kP (.alloc _)); refine sA (fun b => ?_)) | ((with_reducible apply kP (.box _ _)); first | refine sBA (fun b => ?_) | refine sB (fun b => ?_)) | ((with_reducible apply kP (.buildSlice _ 1 _)); first | refine sl1A (fun b => ?_) | refine sl1 (fun b => ?_)) | ((with_reducible apply kP (.buildSlice _ 2 _)); refine sl2 (fun b => ?_)) | ((with_reducible apply kP (.buildSlice _ 3 _)); refine sl3 (fun b => ?_)) | ((with_reducible apply kP (.buildSlice _ 4 _)); refine sl4 (fun b => ?_)) | ((with_reducible apply kP (.buildSlice _ 0 _)); refine s_bs0 (scTOf rfl) (zsTOf rfl) (by decide) (fun b => ?_)) | ((with_reducible apply kP (.makeSlice _ _ _)); refine sMk (fun b => ?_)) | ((with_reducible apply kP (.call ⟨.builtin .append, _, _⟩)); refine sAp (fun oa2 c2 blk2 hrow2 => ?_)) | ((with_reducible apply kP _); refine sP ?_) | ((with_reducible apply kP _); refine sX ?_) | ((with_reducible apply kQG); first | refine qY1 ?_ | refine qN1 ?_ | refine qU1 ?_ | (refine qD1 (fun h => ?_) (fun h => ?_) <;> (try (exfalso; omega))) | refine qB1 (fun h => ?_) (fun h => ?_)) | ((with_reducible apply kQP); refine qP ?_) | ((with_reducible apply kQP); refine qX ?_) | ((with_reducible apply kC); first | refine cT ?_ | refine cF ?_ | (refine cI (fun h => ?_) (fun h => ?_) <;> (try (exfalso; omega))) | refine cB (fun h => ?_) (fun h => ?_)) | ((with_reducible apply kR); refine cQ ?_))
    all_goals first
      | exact e_ret1 rfl rfl rfl SCt
      | trace_state
  · rw [show decide (100 < N) = false from by simp [h1]] at m1
    by_cases h2 : 100 < M
    · rw [show decide (100 < M) = true from by simp [h2]] at m2
      refine fn_enter Try.func17 rfl Try.ntmps17 (by simp) ?_
      repeat' (first | ((with_reducible apply kF 43); refine sC 43 (m1 _) ?_) | ((with_reducible apply kF 43); refine sC 43 (m2 _) ?_) | ((with_reducible apply kF 24); refine sC 24 (k_known B w0 _) ?_) | (with_reducible first | refine c_seq ?_ | refine c_reg ?_ | refine c_region ?_ | refine c_block ?_ | refine c_skip ?_ | refine c_exit ?_ | refine c_ret ?_ | refine s_nil ?_ | refine x_then ?_ | refine x_then_exit ?_ | refine x_then_ret ?_ | refine x_block ?_ | refine x_block_ret ?_ | refine x_block_same ?_ | refine x_block_other (by rfl) ?_ | refine q_nil ?_ | refine k_nil ?_) | ((with_reducible apply kP (.makeFunc _ _ _)); refine sMF ?_) | ((with_reducible apply kG); first | refine gY1 ?_ | refine gN1 ?_ | refine gU1 ?_ | (refine gD1 (fun h => ?_) (fun h => ?_) <;> (try (exfalso; omega))) | refine gB1 (fun h => ?_) (fun h => ?_)) | ((with_reducible apply kN); first | refine stP ?_ | refine stI ?_ | refine st1 ?_ | refine stW ?_) | ((with_reducible apply kP (.alloc _)); refine sA (fun b => ?_)) | ((with_reducible apply kP (.box _ _)); first | refine sBA (fun b => ?_) | refine sB (fun b => ?_)) | ((with_reducible apply kP (.buildSlice _ 1 _)); first | refine sl1A (fun b => ?_) | refine sl1 (fun b => ?_)) | ((with_reducible apply kP (.buildSlice _ 2 _)); refine sl2 (fun b => ?_)) | ((with_reducible apply kP (.buildSlice _ 3 _)); refine sl3 (fun b => ?_)) | ((with_reducible apply kP (.buildSlice _ 4 _)); refine sl4 (fun b => ?_)) | ((with_reducible apply kP (.buildSlice _ 0 _)); refine s_bs0 (scTOf rfl) (zsTOf rfl) (by decide) (fun b => ?_)) | ((with_reducible apply kP (.makeSlice _ _ _)); refine sMk (fun b => ?_)) | ((with_reducible apply kP (.call ⟨.builtin .append, _, _⟩)); refine sAp (fun oa2 c2 blk2 hrow2 => ?_)) | ((with_reducible apply kP _); refine sP ?_) | ((with_reducible apply kP _); refine sX ?_) | ((with_reducible apply kQG); first | refine qY1 ?_ | refine qN1 ?_ | refine qU1 ?_ | (refine qD1 (fun h => ?_) (fun h => ?_) <;> (try (exfalso; omega))) | refine qB1 (fun h => ?_) (fun h => ?_)) | ((with_reducible apply kQP); refine qP ?_) | ((with_reducible apply kQP); refine qX ?_) | ((with_reducible apply kC); first | refine cT ?_ | refine cF ?_ | (refine cI (fun h => ?_) (fun h => ?_) <;> (try (exfalso; omega))) | refine cB (fun h => ?_) (fun h => ?_)) | ((with_reducible apply kR); refine cQ ?_))
      all_goals first
        | exact e_ret1 rfl rfl rfl SCt
        | trace_state
    · rw [show decide (100 < M) = false from by simp [h2]] at m2
      have k1 := fun hs hL hW => k_Mix N M lz wz 1 1 c d oa ob (by omega) (by omega) hl hw B w0 hs hL hW
      by_cases hok : boE N M lz wz = 0 ∧ nfB (mxV N M lz wz 1 1)
      · obtain ⟨hz, hn⟩ := hok
        have ho : okW 1 1 := by unfold okW; omega
        obtain ⟨v1, v2⟩ := bo_to hz
        have hv := mv_of v1 v2 ho
        have hzz : ∀ k, 240 ≤ k → mxV N M lz wz 1 1 k = 0 := hv.z
        have h0 : ∀ k, 0 ≤ mxV N M lz wz 1 1 k := fun k => by have := hv.az k; have := hv.cz k; unfold mxV; omega
        obtain ⟨hnl, hmp, hq⟩ := nf_len hzz hv.pos
        have hve := hq.1 hn
        have vm := VB.of hve
        have hwk : wS (kp (nW (mxV N M lz wz 1 1)) 240) (kpr (mxV N M lz wz 1 1) 240).length = nW (mxV N M lz wz 1 1) := by rw [← kpr_nW hzz]; exact wS_kp (nW_z hzz) (nW_0 h0)
        obtain ⟨D, E, q1, q2, q3, q4, x1, x2, y1, y2, z1, z2⟩ := half_all v1 v2 vm hwk h0 hv.pos
        have hvz : vbE N lz = 0 := by unfold boE at hz; split at hz <;> simp_all
        have hvw : vbE M wz = 0 := by unfold boE at hz; split at hz <;> simp_all
        have b1 : boE N (kpr (mxV N M lz wz 1 1) 240).length lz (kp (nW (mxV N M lz wz 1 1)) 240) = 0 := by unfold boE; rw [if_pos hvz, hve]
        have b2 : boE (kpr (mxV N M lz wz 1 1) 240).length M (kp (nW (mxV N M lz wz 1 1)) 240) wz = 0 := by unfold boE; rw [if_pos hve, hvw]
        have kx := k_Apart N M lz wz c d oa ob v1 v2 hz hl hw B w0
        have ky := fun ob d => k_Apart N _ lz _ c d oa ob v1 vm b1 hl hnl B w0
        have kz := fun oa c => k_Apart _ M _ wz c d oa ob vm v2 b2 hnl hw B w0
        unfold ratV at kx ky kz
        rw [x1, x2] at kx
        rw [y1, y2] at ky
        rw [z1, z2] at kz
        have hh := rd_half (by omega) q3 (D := D)
        have g1 := rd_b (D := D) (E := E) (by omega) q3
        have g2 := rd_b (D := D) (E := 2 * E) (by omega) (by omega)
        have e1 : ∀ u blk, MRes N M lz wz 1 1 u blk → ∃ oa c, u = .tuple #[.slice oa (kpr (mxV N M lz wz 1 1) 240).length c, iv 0] ∧ RowOk oa c 4 (ivs (kp (nW (mxV N M lz wz 1 1)) 240)) blk := fun u blk h => by
          rcases h with ⟨_, _, ⟨_, h⟩ | ⟨h, _⟩⟩ | ⟨_, h, _⟩ | ⟨h, _⟩
          · exact h
          · exact absurd hn h
          · exact absurd ho h
          · exact absurd hz h
        clear x1 x2 y1 y2 z1 z2 b1 b2 hve vm hwk hv hzz h0 hq hvz hvw v1 v2
        generalize (kpr (mxV N M lz wz 1 1) 240).length = m at *
        generalize kp (nW (mxV N M lz wz 1 1)) 240 = out at *
        generalize rdN D (2 * E) = y1 at *
        generalize rdD D (2 * E) = y2 at *
        generalize rdN D E = x1 at *
        generalize rdD D E = x2 at *
        have r1 := prod_p (x := 2 * y1) (y := x2) (c := 144000000) (d := 144000000) (by omega) (by omega) (by decide)
        have r2 := prod_p (x := x1) (y := y2) (c := 144000000) (d := 144000000) (by omega) (by omega) (by decide)
        refine fn_enter Try.func17 rfl Try.ntmps17 (by simp) ?_
        repeat' (first | ((with_reducible apply kF 43); refine sC 43 (m1 _) ?_) | ((with_reducible apply kF 43); refine sC 43 (m2 _) ?_) | ((with_reducible apply kF 24); refine sC 24 (k_known B w0 _) ?_) | ((with_reducible apply kF 54); refine sN 54 (k1 _ (hL.sub SBt) (hW.sub SBt)) ?_; rintro u blkA hu; obtain ⟨oaA, cA, rfl, hrA⟩ := e1 _ _ hu) | ((with_reducible apply kF 56); refine sC 56 (kx _ (hL.sub SBt) (hW.sub SBt)) ?_) | ((with_reducible apply kF 56); refine sC 56 (ky oaA cA _ (hL.sub SBt) ((Sv.row hrA).ints.sub SBt)) ?_) | ((with_reducible apply kF 56); refine sC 56 (kz oaA cA _ ((Sv.row hrA).ints.sub SBt) (hW.sub SBt)) ?_) | (with_reducible first | refine c_seq ?_ | refine c_reg ?_ | refine c_region ?_ | refine c_block ?_ | refine c_skip ?_ | refine c_exit ?_ | refine c_ret ?_ | refine s_nil ?_ | refine x_then ?_ | refine x_then_exit ?_ | refine x_then_ret ?_ | refine x_block ?_ | refine x_block_ret ?_ | refine x_block_same ?_ | refine x_block_other (by rfl) ?_ | refine q_nil ?_ | refine k_nil ?_) | ((with_reducible apply kP (.makeFunc _ _ _)); refine sMF ?_) | ((with_reducible apply kG); first | refine gY1 ?_ | refine gN1 ?_ | refine gU1 ?_ | (refine gD1 (fun h => ?_) (fun h => ?_) <;> (try (exfalso; omega))) | refine gB1 (fun h => ?_) (fun h => ?_)) | ((with_reducible apply kN); first | refine stP ?_ | refine stI ?_ | refine st1 ?_ | refine stW ?_) | ((with_reducible apply kP (.alloc _)); refine sA (fun b => ?_)) | ((with_reducible apply kP (.box _ _)); first | refine sBA (fun b => ?_) | refine sB (fun b => ?_)) | ((with_reducible apply kP (.buildSlice _ 1 _)); first | refine sl1A (fun b => ?_) | refine sl1 (fun b => ?_)) | ((with_reducible apply kP (.buildSlice _ 2 _)); refine sl2 (fun b => ?_)) | ((with_reducible apply kP (.buildSlice _ 3 _)); refine sl3 (fun b => ?_)) | ((with_reducible apply kP (.buildSlice _ 4 _)); refine sl4 (fun b => ?_)) | ((with_reducible apply kP (.buildSlice _ 0 _)); refine s_bs0 (scTOf rfl) (zsTOf rfl) (by decide) (fun b => ?_)) | ((with_reducible apply kP (.makeSlice _ _ _)); refine sMk (fun b => ?_)) | ((with_reducible apply kP (.call ⟨.builtin .append, _, _⟩)); refine sAp (fun oa2 c2 blk2 hrow2 => ?_)) | ((with_reducible apply kP _); refine sP ?_) | ((with_reducible apply kP _); refine sX ?_) | ((with_reducible apply kQG); first | refine qY1 ?_ | refine qN1 ?_ | refine qU1 ?_ | (refine qD1 (fun h => ?_) (fun h => ?_) <;> (try (exfalso; omega))) | refine qB1 (fun h => ?_) (fun h => ?_)) | ((with_reducible apply kQP); refine qP ?_) | ((with_reducible apply kQP); refine qX ?_) | ((with_reducible apply kC); first | refine cT ?_ | refine cF ?_ | (refine cI (fun h => ?_) (fun h => ?_) <;> (try (exfalso; omega))) | refine cB (fun h => ?_) (fun h => ?_)) | ((with_reducible apply kR); refine cQ ?_))
        all_goals first
          | exact e_ret1 rfl rfl rfl (List.Sublist.refl _)
          | exact absurd rfl ‹¬ _ = _›
          | exact absurd rfl ‹_ ≠ _›
          | (exfalso; omega)
          | trace_state
      · have e1 : ∀ u blk, MRes N M lz wz 1 1 u blk → ∃ e : Int, e ≠ 0 ∧ u = .tuple #[.slice none 0 0, iv e] := fun u blk h => by
          rcases h with ⟨hz, _, ⟨h, _⟩ | ⟨_, h, _⟩⟩ | ⟨_, _, h, _⟩ | ⟨hz, h, _⟩
          · exact absurd ⟨hz, h⟩ hok
          · exact ⟨4, by decide, h⟩
          · exact ⟨1, by decide, h⟩
          · exact ⟨_, hz, h⟩
        refine fn_enter Try.func17 rfl Try.ntmps17 (by simp) ?_
        repeat' (first | ((with_reducible apply kF 43); refine sC 43 (m1 _) ?_) | ((with_reducible apply kF 43); refine sC 43 (m2 _) ?_) | ((with_reducible apply kF 24); refine sC 24 (k_known B w0 _) ?_) | ((with_reducible apply kF 54); refine sN 54 (k1 _ (hL.sub SBt) (hW.sub SBt)) ?_; rintro u blkC hu; obtain ⟨eC, hC, rfl⟩ := e1 _ _ hu) | (with_reducible first | refine c_seq ?_ | refine c_reg ?_ | refine c_region ?_ | refine c_block ?_ | refine c_skip ?_ | refine c_exit ?_ | refine c_ret ?_ | refine s_nil ?_ | refine x_then ?_ | refine x_then_exit ?_ | refine x_then_ret ?_ | refine x_block ?_ | refine x_block_ret ?_ | refine x_block_same ?_ | refine x_block_other (by rfl) ?_ | refine q_nil ?_ | refine k_nil ?_) | ((with_reducible apply kP (.makeFunc _ _ _)); refine sMF ?_) | ((with_reducible apply kG); first | refine gY1 ?_ | refine gN1 ?_ | refine gU1 ?_ | (refine gD1 (fun h => ?_) (fun h => ?_) <;> (try (exfalso; omega))) | refine gB1 (fun h => ?_) (fun h => ?_)) | ((with_reducible apply kN); first | refine stP ?_ | refine stI ?_ | refine st1 ?_ | refine stW ?_) | ((with_reducible apply kP (.alloc _)); refine sA (fun b => ?_)) | ((with_reducible apply kP (.box _ _)); first | refine sBA (fun b => ?_) | refine sB (fun b => ?_)) | ((with_reducible apply kP (.buildSlice _ 1 _)); first | refine sl1A (fun b => ?_) | refine sl1 (fun b => ?_)) | ((with_reducible apply kP (.buildSlice _ 2 _)); refine sl2 (fun b => ?_)) | ((with_reducible apply kP (.buildSlice _ 3 _)); refine sl3 (fun b => ?_)) | ((with_reducible apply kP (.buildSlice _ 4 _)); refine sl4 (fun b => ?_)) | ((with_reducible apply kP (.buildSlice _ 0 _)); refine s_bs0 (scTOf rfl) (zsTOf rfl) (by decide) (fun b => ?_)) | ((with_reducible apply kP (.makeSlice _ _ _)); refine sMk (fun b => ?_)) | ((with_reducible apply kP (.call ⟨.builtin .append, _, _⟩)); refine sAp (fun oa2 c2 blk2 hrow2 => ?_)) | ((with_reducible apply kP _); refine sP ?_) | ((with_reducible apply kP _); refine sX ?_) | ((with_reducible apply kQG); first | refine qY1 ?_ | refine qN1 ?_ | refine qU1 ?_ | (refine qD1 (fun h => ?_) (fun h => ?_) <;> (try (exfalso; omega))) | refine qB1 (fun h => ?_) (fun h => ?_)) | ((with_reducible apply kQP); refine qP ?_) | ((with_reducible apply kQP); refine qX ?_) | ((with_reducible apply kC); first | refine cT ?_ | refine cF ?_ | (refine cI (fun h => ?_) (fun h => ?_) <;> (try (exfalso; omega))) | refine cB (fun h => ?_) (fun h => ?_)) | ((with_reducible apply kR); refine cQ ?_))
        all_goals first
          | exact e_ret1 rfl rfl rfl (List.Sublist.refl _)
          | exact absurd rfl ‹¬ _ = _›
          | exact absurd rfl ‹_ ≠ _›
          | (exfalso; omega)
          | trace_state
set_option maxRecDepth 100000 in
theorem halves_holds_lifted (os : Os) (started : os.Started) (H : Type) (enc : TypeId × Value → H) :
    ReturnsInHanded {} Try.checked os 17 .any (Rows.dyeHalvesSpec.pre6 enc Try.prog Try.f17 Rows.dyeHalvesRow.domain false) (Rows.dyeHalvesSpec.post enc Try.prog Try.f17 false true false false) := by
  refine returnsInHanded_of_change (C := Try.checked) ownK started (by kernel_rfl) Try.func17
    (ChangeSpec.witness6 (enc := enc) (C := Try.checked) false ⟨#[], #[.slice none 0 0, .slice none 0 0], []⟩ 8 (by kernel_rfl) (by kernel_rfl) (by kernel_rfl) (by kernel_rfl)) ?_
  intro W base args ds gs before hval0 hW hcnd _
  have hval : ∀ (j : Nat) t v, Try.f17.params[j]? = some t → args[j]? = some v → Value.okWide Try.prog W .any base t v := hval0
  have hW' := hW
  obtain ⟨p, q, hA0, hV, rfl, hfz, hnd⟩ := hW
  have hA : DataW.TrodAll enc Try.prog W 0 (fun _ => true) true Try.f17.params.toList args.toList ds p := hA0
  rw [Try.params17] at hA hval
  obtain ⟨v0, v1, d_0, d_1, p_0, p_1, rfl, rfl, rfl, h0, h1⟩ := trodAll_two hA
  obtain ⟨oa0, n0, c0, l0, rfl, e0, m0, g0, I0, s0⟩ := arg_sl (m := 5) (k := 4) (by kernel_rfl) (hval 0 _ v0 rfl rfl) h0
  obtain ⟨oa1, n1, c1, l1, rfl, e1, m1, g1, I1, s1⟩ := arg_sl (m := 5) (k := 4) (by kernel_rfl) (hval 1 _ v1 rfl rfl) h1
  refine (law_calls (l_halves _ _ _ _ _ _ _ _ e0 e1 _ ⟨W, []⟩ [] s0 s1)).mono fun e W' ⟨he, hb⟩ => ⟨.bool true, he, ?_⟩
  exact law_post rfl ⟨⟨by kernel_rfl, of_decide_eq_true (by kernel_rfl)⟩, ⟨by kernel_rfl, of_decide_eq_true (by kernel_rfl)⟩, trivial⟩ rfl hW' ⟨rfl, rfl, rfl⟩ hb
theorem halves_holds : Rows.DyeHalvesSaid :=
  OpenClaim.holds_of_wide 17 Try.f17 rfl rfl rfl rfl rfl rfl rfl ⟨rfl, rfl, rfl, rfl, rfl⟩ rfl rfl rfl rfl rfl (by kernel_rfl) Try.func17 (by kernel_rfl)
    (of_decide_eq_true (by kernel_rfl)) (by unfold Func.isWrapper; first | (rw [if_pos (by decide +kernel)]; kernel_rfl) | (rw [if_neg (by decide +kernel)]; exact ⟨rfl, rfl⟩))
    (fun os started H enc _ => halves_holds_lifted os started H enc)
#print axioms halves_holds
end Go.Proofs.Ytphobgibcpmgdaa
