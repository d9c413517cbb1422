/- How far blends are apart: plain facts, and the reference's Apart. -/
import Derived.Test.YtphobgibcpmgdaaMD52
namespace Go.Proofs.Ytphobgibcpmgdaa
open Go.RowKit

theorem sum_wS {N : Nat} {lz : List Int} (h : ∀ i, i < N → sdB (lz.getD (i * 4) 0) (lz.getD (i * 4 + 1) 0) (lz.getD (i * 4 + 2) 0) = true) : ∀ i, i ≤ N → sumTo (wS lz i) 240 = tW lz i
  | 0, _ => sumTo_zero 240 fun k _ => rfl
  | i + 1, hi => by
    obtain ⟨κ, h0, h1, h2, h3⟩ := s_all (h i (by omega))
    rw [Ord.add h1 h2 h3]
    have e : addW (wS lz i) κ (wgt lz i) = fun k => wS lz i k + (fun k => if k = κ then wgt lz i else 0) k := rfl
    rw [e, sumTo_add, sum_wS h i (by omega), sumTo_at, if_pos h0]
    rfl
theorem sumTo_mulR (F : Nat → Int) (c : Int) : ∀ n, sumTo (fun i => F i * c) n = sumTo F n * c
  | 0 => by simp [sumTo]
  | n + 1 => by rw [sumTo_succ, sumTo_succ, sumTo_mulR F c n, Int.add_mul]
theorem sumTo_mon {F G : Nat → Int} : ∀ n, (∀ i, i < n → F i ≤ G i) → sumTo F n ≤ sumTo G n
  | 0, _ => Int.le_refl _
  | n + 1, h => by
    have := sumTo_mon n fun i hi => h i (by omega)
    have := h n (by omega)
    rw [sumTo_succ, sumTo_succ]; omega
theorem sumTo_eq0 {F : Nat → Int} : ∀ n, (∀ i, i < n → 0 ≤ F i) → sumTo F n = 0 → ∀ i, i < n → F i = 0
  | n + 1, h, hs, i, hi => by
    have h1 := sumTo_nonneg n fun i hi => h i (by omega)
    have h2 := h n (by omega)
    rw [sumTo_succ] at hs
    by_cases e : i = n
    · subst e; omega
    · exact sumTo_eq0 n (fun i hi => h i (by omega)) (by omega) i (by omega)
theorem dst_sym (N M : Nat) (lz wz : List Int) : dst M N wz lz = dst N M lz wz := by
  unfold dst
  refine sumTo_congr _ fun k _ => ?_
  unfold dsS ab; omega
theorem dnm_sym (N M : Nat) (lz wz : List Int) : dnm M N wz lz = dnm N M lz wz := by
  unfold dnm; rw [Int.mul_assoc, Int.mul_assoc, Int.mul_comm (tW wz M)]
theorem dgc_sym (N M : Nat) (lz wz : List Int) : dgc M N wz lz = dgc N M lz wz := by unfold dgc; rw [dst_sym, dnm_sym]
theorem dst_le {N M : Nat} {lz wz : List Int} (h1 : VB N lz) (h2 : VB M wz) : 0 ≤ dst N M lz wz ∧ dst N M lz wz ≤ dnm N M lz wz := by
  refine ⟨(ds_b h1 h2 240).1, ?_⟩
  have e1 := sum_wS h1.sd N (Nat.le_refl _)
  have e2 := sum_wS h2.sd M (Nat.le_refl _)
  have t1 := h1.tot
  have t2 := h2.tot
  have : dst N M lz wz ≤ sumTo (fun k => wS lz N k * tW wz M + wS wz M k * tW lz N) 240 := sumTo_mon 240 fun k _ => by
    have a1 : 0 ≤ wS lz N k * tW wz M := Int.mul_nonneg (h1.wS k).1 (by omega)
    have a2 : 0 ≤ wS wz M k * tW lz N := Int.mul_nonneg (h2.wS k).1 (by omega)
    unfold dsS ab; omega
  rw [sumTo_add (fun k => wS lz N k * tW wz M) (fun k => wS wz M k * tW lz N), sumTo_mulR, sumTo_mulR, e1, e2, Int.mul_comm (tW wz M) (tW lz N)] at this
  have e : dnm N M lz wz = tW lz N * tW wz M + tW lz N * tW wz M := by unfold dnm; rw [Int.mul_assoc]; omega
  omega
theorem dgc_p {N M : Nat} {lz wz : List Int} (h1 : VB N lz) (h2 : VB M wz) : 0 < dgc N M lz wz ∧ dgc N M lz wz ∣ dst N M lz wz ∧ dgc N M lz wz ∣ dnm N M lz wz := by
  have b := (dst_le h1 h2).1
  have t1 := h1.tot
  have t2 := h2.tot
  have hp : 0 < dnm N M lz wz := by unfold dnm; rw [Int.mul_assoc]; have := Int.mul_pos (show 0 < tW lz N by omega) (show 0 < tW wz M by omega); omega
  have hg : 0 < Nat.gcd (dst N M lz wz).toNat (dnm N M lz wz).toNat := Nat.gcd_pos_of_pos_right _ (by omega)
  refine ⟨by unfold dgc; omega, ?_, ?_⟩
  · have := Nat.gcd_dvd_left (dst N M lz wz).toNat (dnm N M lz wz).toNat
    have := Int.natCast_dvd_natCast.2 this
    unfold dgc
    rwa [Int.toNat_of_nonneg b] at this
  · have := Nat.gcd_dvd_right (dst N M lz wz).toNat (dnm N M lz wz).toNat
    have := Int.natCast_dvd_natCast.2 this
    unfold dgc
    rwa [Int.toNat_of_nonneg (by omega : 0 ≤ dnm N M lz wz)] at this
theorem num_le {N M : Nat} {lz wz : List Int} (h1 : VB N lz) (h2 : VB M wz) : 0 ≤ dst N M lz wz / dgc N M lz wz ∧ dst N M lz wz / dgc N M lz wz ≤ dnm N M lz wz / dgc N M lz wz := by
  obtain ⟨g, _, _⟩ := dgc_p h1 h2
  obtain ⟨a, b⟩ := dst_le h1 h2
  exact ⟨Int.ediv_nonneg a (by omega), Int.ediv_le_ediv g b⟩
theorem num_0 {N M : Nat} {lz wz : List Int} (h1 : VB N lz) (h2 : VB M wz) : dst N M lz wz / dgc N M lz wz = 0 ↔ dst N M lz wz = 0 := by
  obtain ⟨g, ⟨x, hx⟩, _⟩ := dgc_p h1 h2
  rw [hx, Int.mul_ediv_cancel_left _ (by omega)]
  constructor
  · intro h; rw [h, Int.mul_zero]
  · intro h
    rcases Int.mul_eq_zero.1 h with h | h
    · omega
    · exact h
/-- All weights many times. -/
theorem gcs_mul {V : Nat → Int} {p : Int} (hp : 0 ≤ p) (h0 : ∀ k, 0 ≤ V k) : ∀ n, gcs (fun k => p * V k) n = p.toNat * gcs V n
  | 0 => rfl
  | n + 1 => by
    rw [gcs, gcs, gcs_mul hp h0 n]
    have : (p * V n).toNat = p.toNat * (V n).toNat := by
      have h1 := h0 n
      obtain ⟨a, rfl⟩ := Int.eq_ofNat_of_zero_le hp
      obtain ⟨b, hb⟩ := Int.eq_ofNat_of_zero_le h1
      rw [hb, ← Int.natCast_mul]; rfl
    rw [this, Nat.gcd_mul_left]
theorem nW_eq {V : Nat → Int} {n : Nat} (h0 : ∀ k, 0 ≤ V k) {k : Nat} (hk : k < 240) : V k = (gcs V 240 : Int) * nW V k := by
  obtain ⟨a, ha⟩ := gcs_dvd (W := V) hk
  have e : V k = ((gcs V 240 * a : Nat) : Int) := by have := h0 k; omega
  by_cases hg : gcs V 240 = 0
  · rw [e, hg]; simp
  · unfold nW
    rw [e, Int.natCast_mul, Int.mul_ediv_cancel_left _ (by omega)]
/-- Two lists of weights are alike up to a factor just where they are normal alike. -/
theorem nW_iff {V U : Nat → Int} (hv : ∀ k, 0 ≤ V k) (hu : ∀ k, 0 ≤ U k) (zv : ∀ k, 240 ≤ k → V k = 0) (zu : ∀ k, 240 ≤ k → U k = 0) (pv : ∃ k, k < 240 ∧ 0 < V k) (pu : ∃ k, k < 240 ∧ 0 < U k) :
    (∀ k, k < 240 → V k * sumTo U 240 = U k * sumTo V 240) ↔ nW V = nW U := by
  have gv : 0 < gcs V 240 := by obtain ⟨k, hk, h⟩ := pv; exact gcs_pos hk h
  have gu : 0 < gcs U 240 := by obtain ⟨k, hk, h⟩ := pu; exact gcs_pos hk h
  have sv : 0 < sumTo V 240 := by
    obtain ⟨k, hk, h⟩ := pv
    rcases Int.lt_or_le 0 (sumTo V 240) with h1 | h1
    · exact h1
    · have := sumTo_eq0 240 (fun i _ => hv i) (by have := sumTo_nonneg 240 (fun i (_ : i < 240) => hv i); omega) k hk
      omega
  have su : 0 < sumTo U 240 := by
    obtain ⟨k, hk, h⟩ := pu
    rcases Int.lt_or_le 0 (sumTo U 240) with h1 | h1
    · exact h1
    · have := sumTo_eq0 240 (fun i _ => hu i) (by have := sumTo_nonneg 240 (fun i (_ : i < 240) => hu i); omega) k hk
      omega
  constructor
  · intro h
    have key : ∀ k, k < 240 → (gcs V 240 * sumTo U 240 : Int) * nW V k = (gcs U 240 * sumTo V 240 : Int) * nW U k := fun k hk => by
      have e1 := nW_eq (n := 0) hv hk
      have e2 := nW_eq (n := 0) hu hk
      have := h k hk
      rw [e1, e2] at this
      rw [Int.mul_right_comm, this, Int.mul_right_comm]
    have p0 : 0 < (gcs V 240 * sumTo U 240 : Int) := Int.mul_pos (by omega) su
    have q0 : 0 < (gcs U 240 * sumTo V 240 : Int) := Int.mul_pos (by omega) sv
    generalize (gcs V 240 * sumTo U 240 : Int) = p at *
    generalize (gcs U 240 * sumTo V 240 : Int) = q at *
    have ext : ∀ {A C : Nat → Int} (n : Nat), (∀ k, k < n → A k = C k) → gcs A n = gcs C n := fun {A C} n => by
      induction n with
      | zero => intro _; rfl
      | succ n ih => intro h; rw [gcs, gcs, ih fun k hk => h k (by omega), h n (by omega)]
    have hpq : p = q := by
      have h1 := gcs_mul (V := nW V) (p := p) (by omega) (nW_0 hv) 240
      have h2 := gcs_mul (V := nW U) (p := q) (by omega) (nW_0 hu) 240
      rw [ext 240 key, h2, gcs_nW hv pv, gcs_nW hu pu] at h1
      omega
    subst hpq
    funext k
    by_cases hk : k < 240
    · exact Int.eq_of_mul_eq_mul_left (by omega) (key k hk)
    · rw [nW_z zv k (by omega), nW_z zu k (by omega)]
  · intro h k hk
    have e : ∀ k, k < 240 → V k = (gcs V 240 : Int) * nW V k := fun k hk => nW_eq (n := 0) hv hk
    have e2 : ∀ k, k < 240 → U k = (gcs U 240 : Int) * nW V k := fun k hk => by rw [h]; exact nW_eq (n := 0) hu hk
    have s1 : sumTo V 240 = sumTo (nW V) 240 * gcs V 240 := by
      rw [← sumTo_mulR]; exact sumTo_congr _ fun k hk => by rw [e k hk, Int.mul_comm]
    have s2 : sumTo U 240 = sumTo (nW V) 240 * gcs U 240 := by
      rw [← sumTo_mulR]; exact sumTo_congr _ fun k hk => by rw [e2 k hk, Int.mul_comm]
    rw [s1, s2, e k hk, e2 k hk]
    generalize (gcs V 240 : Int) = a
    generalize (gcs U 240 : Int) = b
    generalize sumTo (nW V) 240 = s
    generalize nW V k = v
    ac_rfl
theorem kp_inj {V U : Nat → Int} (hv : ∀ k, 0 ≤ V k) (hu : ∀ k, 0 ≤ U k) (zv : ∀ k, 240 ≤ k → V k = 0) (zu : ∀ k, 240 ≤ k → U k = 0) : kp V 240 = kp U 240 ↔ V = U := by
  constructor
  · intro h
    have hl : (kpr V 240).length = (kpr U 240).length := by
      have := congrArg List.length h
      rw [kp_len, kp_len] at this
      omega
    rw [← wS_kp zv hv, ← wS_kp zu hu, h, hl]
  · intro h; rw [h]
/-- Blends are not apart just where their normal forms are one. -/
theorem apart_0 {N M : Nat} {lz wz : List Int} (h1 : VB N lz) (h2 : VB M wz) : dst N M lz wz / dgc N M lz wz = 0 ↔ kp (nW (wS lz N)) 240 = kp (nW (wS wz M)) 240 := by
  have v1 : ∀ k, 0 ≤ wS lz N k := fun k => (h1.wS k).1
  have v2 : ∀ k, 0 ≤ wS wz M k := fun k => (h2.wS k).1
  have z1 : ∀ k, 240 ≤ k → wS lz N k = 0 := fun k hk => wS_out h1.sd hk N (Nat.le_refl _)
  have z2 : ∀ k, 240 ≤ k → wS wz M k = 0 := fun k hk => wS_out h2.sd hk M (Nat.le_refl _)
  rw [num_0 h1 h2, kp_inj (nW_0 v1) (nW_0 v2) (nW_z z1) (nW_z z2), ← nW_iff v1 v2 z1 z2 (vb_some h1) (vb_some h2), sum_wS h1.sd N (Nat.le_refl _), sum_wS h2.sd M (Nat.le_refl _)]
  constructor
  · intro h k hk
    have := sumTo_eq0 240 (fun i _ => (dsS_b h1 h2 i).1) h k hk
    unfold dsS ab at this
    omega
  · intro h
    exact sumTo_zero 240 fun k hk => by
      have := h k hk
      unfold dsS ab; omega
set_option maxRecDepth 100000 in
set_option maxHeartbeats 8000000 in
theorem r_Apart (N M : Nat) (lz wz : List Int) (c d : Nat) (oa ob : Option Addr) (hN : N ≤ 100) (hM : M ≤ 100) (hz : boE N M lz wz = 0) (hl : lz.length = N * 4) (hw : wz.length = M * 4) (B : Nat) (w0 : Wd) (hs : HS) (hL : Sl B w0 hs oa lz) (hW : Sl B w0 hs ob wz) :
    Fn Try.prog 57 #[.slice oa N c, .slice ob M d] B w0 hs (fun v h => v = .tuple #[ratV (dst N M lz wz / dgc N M lz wz) (dnm N M lz wz / dgc N M lz wz), iv 0] ∧ h = hs) := by
  have kb := r_both N M lz wz c d oa ob hN hM hl hw B w0
  obtain ⟨h1, h2⟩ := bo_to hz
  have k0 := r_distance N M lz wz c d oa ob h1 h2 hl hw B w0
  rw [hz] at kb
  unfold ratV at k0
  generalize dst N M lz wz / dgc N M lz wz = p at *
  generalize dnm N M lz wz / dgc N M lz wz = q at *
  refine fn_enter Try.func57 rfl Try.ntmps57 (by simp) ?_
  repeat' (first | ((with_reducible apply kF 70); refine sC 70 (kb _ (hL.sub SBt) (hW.sub SBt)) ?_) | ((with_reducible apply kF 72); refine sC 72 (k0 _ (hL.sub SBt) (hW.sub SBt)) ?_) | (with_reducible first | refine c_seq ?_ | refine c_reg ?_ | refine c_region ?_ | refine c_block ?_ | refine c_skip ?_ | refine c_exit ?_ | refine c_ret ?_ | refine s_nil ?_ | refine x_then ?_ | refine x_then_exit ?_ | refine x_then_ret ?_ | refine x_block ?_ | refine x_block_ret ?_ | refine x_block_same ?_ | refine x_block_other (by rfl) ?_ | refine q_nil ?_ | refine k_nil ?_) | ((with_reducible apply kP (.makeFunc _ _ _)); refine sMF ?_) | ((with_reducible apply kG); first | refine gY1 ?_ | refine gN1 ?_ | refine gU1 ?_ | (refine gD1 (fun h => ?_) (fun h => ?_) <;> (try (exfalso; omega))) | refine gB1 (fun h => ?_) (fun h => ?_)) | ((with_reducible apply kN); first | refine stP ?_ | refine stI ?_ | refine st1 ?_ | refine stW ?_) | ((with_reducible apply kP (.alloc _)); refine sA (fun b => ?_)) | ((with_reducible apply kP (.box _ _)); first | refine sBA (fun b => ?_) | refine sB (fun b => ?_)) | ((with_reducible apply kP (.buildSlice _ 1 _)); first | refine sl1A (fun b => ?_) | refine sl1 (fun b => ?_)) | ((with_reducible apply kP (.buildSlice _ 2 _)); refine sl2 (fun b => ?_)) | ((with_reducible apply kP (.buildSlice _ 3 _)); refine sl3 (fun b => ?_)) | ((with_reducible apply kP (.buildSlice _ 4 _)); refine sl4 (fun b => ?_)) | ((with_reducible apply kP (.buildSlice _ 0 _)); refine s_bs0 (scTOf rfl) (zsTOf rfl) (by decide) (fun b => ?_)) | ((with_reducible apply kP (.makeSlice _ _ _)); refine sMk (fun b => ?_)) | ((with_reducible apply kP (.call ⟨.builtin .append, _, _⟩)); refine sAp (fun oa2 c2 blk2 hrow2 => ?_)) | ((with_reducible apply kP _); refine sP ?_) | ((with_reducible apply kP _); refine sX ?_) | ((with_reducible apply kQG); first | refine qY1 ?_ | refine qN1 ?_ | refine qU1 ?_ | (refine qD1 (fun h => ?_) (fun h => ?_) <;> (try (exfalso; omega))) | refine qB1 (fun h => ?_) (fun h => ?_)) | ((with_reducible apply kQP); refine qP ?_) | ((with_reducible apply kQP); refine qX ?_) | ((with_reducible apply kC); first | refine cT ?_ | refine cF ?_ | (refine cI (fun h => ?_) (fun h => ?_) <;> (try (exfalso; omega))) | refine cB (fun h => ?_) (fun h => ?_)) | ((with_reducible apply kR); refine cQ ?_))
  all_goals first
    | exact e_ret2 rfl ⟨_, rfl, ld_whole (shTOf rfl) MDt rfl⟩ rfl ⟨rfl, rfl⟩ (.cons _ (.refl _))
    | trace_state
set_option maxRecDepth 100000 in
set_option maxHeartbeats 8000000 in
theorem r_Apart0 (N M : Nat) (lz wz : List Int) (c d : Nat) (oa ob : Option Addr) (hN : N ≤ 100) (hM : M ≤ 100) (hz : boE N M lz wz ≠ 0) (hl : lz.length = N * 4) (hw : wz.length = M * 4) (B : Nat) (w0 : Wd) (hs : HS) (hL : Sl B w0 hs oa lz) (hW : Sl B w0 hs ob wz) :
    Fn Try.prog 57 #[.slice oa N c, .slice ob M d] B w0 hs (fun v h => v = .tuple #[ratV 0 0, iv (boE N M lz wz)] ∧ h = hs) := by
  have kb := r_both N M lz wz c d oa ob hN hM hl hw B w0
  generalize boE N M lz wz = e at *
  refine fn_enter Try.func57 rfl Try.ntmps57 (by simp) ?_
  repeat' (first | ((with_reducible apply kF 70); refine sC 70 (kb _ (hL.sub SBt) (hW.sub SBt)) ?_) | (with_reducible first | refine c_seq ?_ | refine c_reg ?_ | refine c_region ?_ | refine c_block ?_ | refine c_skip ?_ | refine c_exit ?_ | refine c_ret ?_ | refine s_nil ?_ | refine x_then ?_ | refine x_then_exit ?_ | refine x_then_ret ?_ | refine x_block ?_ | refine x_block_ret ?_ | refine x_block_same ?_ | refine x_block_other (by rfl) ?_ | refine q_nil ?_ | refine k_nil ?_) | ((with_reducible apply kP (.makeFunc _ _ _)); refine sMF ?_) | ((with_reducible apply kG); first | refine gY1 ?_ | refine gN1 ?_ | refine gU1 ?_ | (refine gD1 (fun h => ?_) (fun h => ?_) <;> (try (exfalso; omega))) | refine gB1 (fun h => ?_) (fun h => ?_)) | ((with_reducible apply kN); first | refine stP ?_ | refine stI ?_ | refine st1 ?_ | refine stW ?_) | ((with_reducible apply kP (.alloc _)); refine sA (fun b => ?_)) | ((with_reducible apply kP (.box _ _)); first | refine sBA (fun b => ?_) | refine sB (fun b => ?_)) | ((with_reducible apply kP (.buildSlice _ 1 _)); first | refine sl1A (fun b => ?_) | refine sl1 (fun b => ?_)) | ((with_reducible apply kP (.buildSlice _ 2 _)); refine sl2 (fun b => ?_)) | ((with_reducible apply kP (.buildSlice _ 3 _)); refine sl3 (fun b => ?_)) | ((with_reducible apply kP (.buildSlice _ 4 _)); refine sl4 (fun b => ?_)) | ((with_reducible apply kP (.buildSlice _ 0 _)); refine s_bs0 (scTOf rfl) (zsTOf rfl) (by decide) (fun b => ?_)) | ((with_reducible apply kP (.makeSlice _ _ _)); refine sMk (fun b => ?_)) | ((with_reducible apply kP (.call ⟨.builtin .append, _, _⟩)); refine sAp (fun oa2 c2 blk2 hrow2 => ?_)) | ((with_reducible apply kP _); refine sP ?_) | ((with_reducible apply kP _); refine sX ?_) | ((with_reducible apply kQG); first | refine qY1 ?_ | refine qN1 ?_ | refine qU1 ?_ | (refine qD1 (fun h => ?_) (fun h => ?_) <;> (try (exfalso; omega))) | refine qB1 (fun h => ?_) (fun h => ?_)) | ((with_reducible apply kQP); refine qP ?_) | ((with_reducible apply kQP); refine qX ?_) | ((with_reducible apply kC); first | refine cT ?_ | refine cF ?_ | (refine cI (fun h => ?_) (fun h => ?_) <;> (try (exfalso; omega))) | refine cB (fun h => ?_) (fun h => ?_)) | ((with_reducible apply kR); refine cQ ?_))
  all_goals first
    | exact e_ret2 rfl ⟨_, rfl, ld_whole (shTOf rfl) MDt rfl⟩ rfl ⟨rfl, rfl⟩ (.cons _ (.refl _))
    | trace_state
end Go.Proofs.Ytphobgibcpmgdaa
