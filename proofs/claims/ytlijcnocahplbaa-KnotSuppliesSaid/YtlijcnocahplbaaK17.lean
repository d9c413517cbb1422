/- Zones. -/
import Derived.Test.YtlijcnocahplbaaK16
namespace Go.Proofs.Ytlijcnocahplbaa
open Go.RowKit

def zv (R H K p q : Int) (d : Bool) : Value := .agg #[iv R, iv H, iv K, iv p, iv q, .bool d]
def zB (R H K p q : Int) : Bool := decide (0 ≤ R ∧ R ≤ 200 ∧ 0 ≤ H ∧ H ≤ 1000 ∧ 1 ≤ K ∧ K ≤ 6 ∧ densB p q = true)
def zE (R H K p q : Int) : Int := if zB R H K p q = true then 0 else 1
theorem zB_to {R H K p q : Int} (h : zB R H K p q = true) : 0 ≤ R ∧ R ≤ 200 ∧ 0 ≤ H ∧ H ≤ 1000 ∧ 1 ≤ K ∧ K ≤ 6 ∧ densB p q = true := of_decide_eq_true h
theorem zE_good {R H K p q : Int} (h : 0 ≤ R ∧ R ≤ 200 ∧ 0 ≤ H ∧ H ≤ 1000 ∧ 1 ≤ K ∧ K ≤ 6 ∧ densB p q = true) : zE R H K p q = 0 := if_pos (decide_eq_true h)
theorem zE_bad {R H K p q : Int} (h : ¬ (0 ≤ R ∧ R ≤ 200 ∧ 0 ≤ H ∧ H ≤ 1000 ∧ 1 ≤ K ∧ K ≤ 6 ∧ densB p q = true)) : zE R H K p q = 1 := if_neg (fun hh => h (of_decide_eq_true hh))
set_option maxRecDepth 100000 in
set_option maxHeartbeats 8000000 in
theorem k_vz (R H K p q : Int) (d : Bool) (hp : p ≤ 9223372036854775807) (B : Nat) (w0 : World) (hs : HS) :
    Fn Try.prog 44 #[zv R H K p q d] B w0 hs (fun v hs' => v = iv (zE R H K p q) ∧ hs' = hs) := by
  refine fn_enter Try.func44 rfl Try.ntmps44 (by simp) ?_
  rcases hd : densB p q with _ | _
  all_goals
    have kd := k_dens p q hp B w0
    rw [hd] at kd
    repeat' (first | ((with_reducible apply kF 65); refine sC 65 (k_within _ _ _ B w0 _) ?_) | ((with_reducible apply kF 27); refine sC 27 (kd _) ?_) | (with_reducible first | refine c_seq ?_ | refine c_reg ?_ | refine c_region ?_ | refine c_block ?_ | refine c_skip ?_ | refine c_exit ?_ | refine c_ret ?_ | refine s_nil ?_ | refine x_then ?_ | refine x_then_exit ?_ | refine x_then_ret ?_ | refine x_block ?_ | refine x_block_ret ?_ | refine x_block_same ?_ | refine x_block_other (by rfl) ?_ | refine q_nil ?_ | refine k_nil ?_) | ((with_reducible apply kP (.makeFunc _ _ _)); refine sMF ?_) | ((with_reducible apply kG); first | refine gY1 ?_ | refine gN1 ?_ | refine gU1 ?_ | (refine gD1 (fun h => ?_) (fun h => ?_) <;> (try (exfalso; omega))) | refine gB1 (fun h => ?_) (fun h => ?_)) | ((with_reducible apply kN); first | refine stP ?_ | refine stI ?_ | refine st1 ?_ | refine stW ?_) | ((with_reducible apply kP (.alloc _)); refine sA (fun b => ?_)) | ((with_reducible apply kP (.box _ _)); first | refine sBA (fun b => ?_) | refine sB (fun b => ?_)) | ((with_reducible apply kP (.buildSlice _ 1 _)); first | refine sl1A (fun b => ?_) | refine sl1 (fun b => ?_)) | ((with_reducible apply kP (.buildSlice _ 2 _)); refine sl2 (fun b => ?_)) | ((with_reducible apply kP (.buildSlice _ 3 _)); refine sl3 (fun b => ?_)) | ((with_reducible apply kP (.buildSlice _ 4 _)); refine sl4 (fun b => ?_)) | ((with_reducible apply kP (.buildSlice _ 0 _)); refine s_bs0 (scTOf rfl) (zsTOf rfl) (by decide) (fun b => ?_)) | ((with_reducible apply kP (.makeSlice _ _ _)); refine sMk (fun b => ?_)) | ((with_reducible apply kP (.call ⟨.builtin .append, _, _⟩)); refine sAp (fun oa2 c2 blk2 hrow2 => ?_)) | ((with_reducible apply kP _); refine sP ?_) | ((with_reducible apply kP _); refine sX ?_) | ((with_reducible apply kQG); first | refine qY1 ?_ | refine qN1 ?_ | refine qU1 ?_ | (refine qD1 (fun h => ?_) (fun h => ?_) <;> (try (exfalso; omega))) | refine qB1 (fun h => ?_) (fun h => ?_)) | ((with_reducible apply kQP); refine qP ?_) | ((with_reducible apply kQP); refine qX ?_) | ((with_reducible apply kC); first | refine cT ?_ | refine cF ?_ | (refine cI (fun h => ?_) (fun h => ?_) <;> (try (exfalso; omega))) | refine cB (fun h => ?_) (fun h => ?_)) | ((with_reducible apply kR); refine cQ ?_))
  all_goals first
    | exact e_ret1 rfl rfl ⟨by rw [zE_good ⟨by omega, by omega, by omega, by omega, by omega, by omega, hd⟩]; rfl, rfl⟩ SCt
    | exact e_ret1 rfl rfl ⟨by rw [zE_bad (fun hh => by obtain ⟨a1, a2, a3, a4, a5, a6, _⟩ := hh; omega)]; rfl, rfl⟩ SCt
    | exact e_ret1 rfl rfl ⟨by rw [zE_bad (fun hh => by have := hh.2.2.2.2.2.2; rw [hd] at this; cases this)]; rfl, rfl⟩ SCt
set_option maxRecDepth 100000 in
set_option maxHeartbeats 8000000 in
theorem r_vz (R H K p q : Int) (d : Bool) (hp : p ≤ 9223372036854775807) (B : Nat) (w0 : World) (hs : HS) :
    Fn Try.prog 45 #[zv R H K p q d] B w0 hs (fun v hs' => v = iv (zE R H K p q) ∧ hs' = hs) := by
  refine fn_enter Try.func45 rfl Try.ntmps45 (by simp) ?_
  rcases hd : densB p q with _ | _
  all_goals
    have kd := r_dens p q hp B w0
    rw [hd] at kd
    repeat' (first | ((with_reducible apply kF 28); refine sC 28 (kd _) ?_) | (with_reducible first | refine c_seq ?_ | refine c_reg ?_ | refine c_region ?_ | refine c_block ?_ | refine c_skip ?_ | refine c_exit ?_ | refine c_ret ?_ | refine s_nil ?_ | refine x_then ?_ | refine x_then_exit ?_ | refine x_then_ret ?_ | refine x_block ?_ | refine x_block_ret ?_ | refine x_block_same ?_ | refine x_block_other (by rfl) ?_ | refine q_nil ?_ | refine k_nil ?_) | ((with_reducible apply kP (.makeFunc _ _ _)); refine sMF ?_) | ((with_reducible apply kG); first | refine gY1 ?_ | refine gN1 ?_ | refine gU1 ?_ | (refine gD1 (fun h => ?_) (fun h => ?_) <;> (try (exfalso; omega))) | refine gB1 (fun h => ?_) (fun h => ?_)) | ((with_reducible apply kN); first | refine stP ?_ | refine stI ?_ | refine st1 ?_ | refine stW ?_) | ((with_reducible apply kP (.alloc _)); refine sA (fun b => ?_)) | ((with_reducible apply kP (.box _ _)); first | refine sBA (fun b => ?_) | refine sB (fun b => ?_)) | ((with_reducible apply kP (.buildSlice _ 1 _)); first | refine sl1A (fun b => ?_) | refine sl1 (fun b => ?_)) | ((with_reducible apply kP (.buildSlice _ 2 _)); refine sl2 (fun b => ?_)) | ((with_reducible apply kP (.buildSlice _ 3 _)); refine sl3 (fun b => ?_)) | ((with_reducible apply kP (.buildSlice _ 4 _)); refine sl4 (fun b => ?_)) | ((with_reducible apply kP (.buildSlice _ 0 _)); refine s_bs0 (scTOf rfl) (zsTOf rfl) (by decide) (fun b => ?_)) | ((with_reducible apply kP (.makeSlice _ _ _)); refine sMk (fun b => ?_)) | ((with_reducible apply kP (.call ⟨.builtin .append, _, _⟩)); refine sAp (fun oa2 c2 blk2 hrow2 => ?_)) | ((with_reducible apply kP _); refine sP ?_) | ((with_reducible apply kP _); refine sX ?_) | ((with_reducible apply kQG); first | refine qY1 ?_ | refine qN1 ?_ | refine qU1 ?_ | (refine qD1 (fun h => ?_) (fun h => ?_) <;> (try (exfalso; omega))) | refine qB1 (fun h => ?_) (fun h => ?_)) | ((with_reducible apply kQP); refine qP ?_) | ((with_reducible apply kQP); refine qX ?_) | ((with_reducible apply kC); first | refine cT ?_ | refine cF ?_ | (refine cI (fun h => ?_) (fun h => ?_) <;> (try (exfalso; omega))) | refine cB (fun h => ?_) (fun h => ?_)) | ((with_reducible apply kR); refine cQ ?_))
  all_goals first
    | exact e_ret1 rfl rfl ⟨by rw [zE_good ⟨by omega, by omega, by omega, by omega, by omega, by omega, hd⟩]; rfl, rfl⟩ SCt
    | exact e_ret1 rfl rfl ⟨by rw [zE_bad (fun hh => by obtain ⟨a1, a2, a3, a4, a5, a6, _⟩ := hh; omega)]; rfl, rfl⟩ SCt
    | exact e_ret1 rfl rfl ⟨by rw [zE_bad (fun hh => by have := hh.2.2.2.2.2.2; rw [hd] at this; cases this)]; rfl, rfl⟩ SCt
/-- Hairs and knots of the first holes. -/
def zh (R p q : Int) (k : Nat) : Int := R * (bef p q 0 1 k - bef p q 0 1 0)
def kn (R K p q : Int) (k : Nat) : Int := sumTo (fun i => (hr p q 0 1 i + K - 1) / K * R) k
def sv (R H K p q : Int) (d : Bool) (n m : Int) : Value := .agg #[iv R, iv H, iv K, iv p, iv q, .bool d, iv n, iv m]
theorem phas_01 : phasB 0 1 = true := by unfold phasB; exact decide_eq_true ⟨by omega, by omega, by omega, by omega, by simp [gz]⟩
theorem flat8 {a b c d e f g h : Value} (h1 : a.oneCell' = true) (h2 : b.oneCell' = true) (h3 : c.oneCell' = true) (h4 : d.oneCell' = true) (h5 : e.oneCell' = true) (h6 : f.oneCell' = true) (h7 : g.oneCell' = true) (h8 : h.oneCell' = true) : Flat [a, b, c, d, e, f, g, h] := flat_cons h1 (flat_cons h2 (flat_cons h3 (flat_cons h4 (flat_cons h5 (flat3 h6 h7 h8)))))
theorem hr_small {p q s t : Int} (h1 : densB p q = true) (h2 : phasB s t = true) (k : Nat) : 0 ≤ hr p q s t k ∧ hr p q s t k ≤ 6 := by
  obtain ⟨a1, a2, a3, a4⟩ := dens_to h1
  obtain ⟨b1, b2, b3, b4⟩ := phas_to h2
  have hW : 0 < q * t := Int.mul_pos (by omega) (by omega)
  obtain ⟨e1, _⟩ := hr_eq (p := p) (s := s) (k := k) hW
  have m1 := Int.emod_nonneg (num p q s t k) (show q * t ≠ 0 by omega)
  have m2 := Int.emod_lt_of_pos (num p q s t k) hW
  have m3 := Int.mul_nonneg a3 (show 0 ≤ t by omega)
  have m4 := Int.mul_le_mul_of_nonneg_right a4 (show 0 ≤ t by omega)
  rw [Int.mul_assoc] at m4
  rw [e1]
  refine ⟨Int.ediv_nonneg (by omega) (by omega), ?_⟩
  have : (num p q s t k % (q * t) + p * t) / (q * t) < 7 := (Int.ediv_lt_iff_lt_mul hW).2 (by omega)
  omega
theorem kq_to {n K : Int} (h0 : 0 ≤ n) (h1 : n ≤ 6) (h2 : 1 ≤ K) (h3 : K ≤ 6) : 0 ≤ (n + K - 1) / K ∧ (n + K - 1) / K ≤ 11 := by
  refine ⟨Int.ediv_nonneg (by omega) (by omega), ?_⟩
  have := Int.ediv_le_self (a := n + K - 1) K (by omega)
  omega
theorem zh_to {R p q : Int} (h1 : densB p q = true) (hR : 0 ≤ R) (hR2 : R ≤ 200) : ∀ k : Nat, k ≤ 1000 → 0 ≤ zh R p q k ∧ zh R p q k ≤ k * 1200
  | 0, _ => by unfold zh; simp
  | k + 1, hk => by
    have ih := zh_to h1 hR hR2 k (by omega)
    have h := hr_small h1 phas_01 k
    have e : zh R p q (k + 1) = zh R p q k + hr p q 0 1 k * R := by
      unfold zh hr
      rw [show ((k + 1 : Nat) : Int) = (k : Int) + 1 by omega, Int.mul_comm (_ - _) R, ← Int.mul_add]; congr 1; omega
    have m := mul_to h.1 h.2 hR hR2
    omega
theorem zh_succ (R p q : Int) (k : Nat) : zh R p q (k + 1) = zh R p q k + hr p q 0 1 k * R := by
  unfold zh hr
  rw [show ((k + 1 : Nat) : Int) = (k : Int) + 1 by omega, Int.mul_comm (_ - _) R, ← Int.mul_add]; congr 1; omega
theorem kn_to {R K p q : Int} (h1 : densB p q = true) (hR : 0 ≤ R) (hR2 : R ≤ 200) (h2 : 1 ≤ K) (h3 : K ≤ 6) : ∀ k : Nat, 0 ≤ kn R K p q k ∧ kn R K p q k ≤ k * 2200
  | 0 => by unfold kn; simp [sumTo]
  | k + 1 => by
    have ih := kn_to h1 hR hR2 h2 h3 k
    have h := hr_small h1 phas_01 k
    have g := kq_to h.1 h.2 h2 h3
    have m := mul_to g.1 g.2 hR hR2
    have e : kn R K p q (k + 1) = kn R K p q k + (hr p q 0 1 k + K - 1) / K * R := rfl
    omega
set_option maxRecDepth 100000 in
set_option maxHeartbeats 8000000 in
theorem k_add (R H K p q : Int) (d : Bool) (hz : zB R H K p q = true) (B : Nat) (w0 : World) (hs : HS) :
    Fn Try.prog 72 #[zv R H K p q d] B w0 hs (fun v hs' => v = sv R H K p q d (zh R p q H.toNat) (kn R K p q H.toNat) ∧ hs' = hs) := by
  obtain ⟨z1, z2, z3, z4, z5, z6, z7⟩ := zB_to hz
  obtain ⟨n, rfl⟩ := Int.eq_ofNat_of_zero_le z3
  rw [Int.toNat_natCast]
  have hlr := tab_length n (Ytlijcnocahplbaa.hr p q 0 1)
  refine fn_enter Try.func72 rfl Try.ntmps72 (by simp) ?_
  repeat' (first | ((with_reducible apply kF 61); refine sN 61 (k_row p q 0 1 n z7 phas_01 (by omega) B w0 _) ?_; rintro u blk ⟨oa, c, rfl, hrow⟩; have hS := Sl.row (B := B) (w0 := w0) hrow) | ((with_reducible apply kN); refine stW (vs := [iv R, iv n, iv K, iv p, iv q, .bool d, iv 0, iv 0]) ?_ (hf := flat8 rfl rfl rfl rfl rfl rfl rfl rfl)) | ((with_reducible apply kRg 6); refine cD [1, 1, 1, 1, 1, 1, 1, 1, 1, 1, 1, 1, 1, 1, 1, 4] ?_) | (with_reducible first | refine c_seq ?_ | refine c_reg ?_ | refine c_region ?_ | refine c_block ?_ | refine c_skip ?_ | refine c_exit ?_ | refine c_ret ?_ | refine s_nil ?_ | refine x_then ?_ | refine x_then_exit ?_ | refine x_then_ret ?_ | refine x_block ?_ | refine x_block_ret ?_ | refine x_block_same ?_ | refine x_block_other (by rfl) ?_ | refine q_nil ?_ | refine k_nil ?_) | ((with_reducible apply kP (.makeFunc _ _ _)); refine sMF ?_) | ((with_reducible apply kG); first | refine gY1 ?_ | refine gN1 ?_ | refine gU1 ?_ | (refine gD1 (fun h => ?_) (fun h => ?_) <;> (try (exfalso; omega))) | refine gB1 (fun h => ?_) (fun h => ?_)) | ((with_reducible apply kN); first | refine stP ?_ | refine stI ?_ | refine st1 ?_ | refine stW ?_) | ((with_reducible apply kP (.alloc _)); refine sA (fun b => ?_)) | ((with_reducible apply kP (.box _ _)); first | refine sBA (fun b => ?_) | refine sB (fun b => ?_)) | ((with_reducible apply kP (.buildSlice _ 1 _)); first | refine sl1A (fun b => ?_) | refine sl1 (fun b => ?_)) | ((with_reducible apply kP (.buildSlice _ 2 _)); refine sl2 (fun b => ?_)) | ((with_reducible apply kP (.buildSlice _ 3 _)); refine sl3 (fun b => ?_)) | ((with_reducible apply kP (.buildSlice _ 4 _)); refine sl4 (fun b => ?_)) | ((with_reducible apply kP (.buildSlice _ 0 _)); refine s_bs0 (scTOf rfl) (zsTOf rfl) (by decide) (fun b => ?_)) | ((with_reducible apply kP (.makeSlice _ _ _)); refine sMk (fun b => ?_)) | ((with_reducible apply kP (.call ⟨.builtin .append, _, _⟩)); refine sAp (fun oa2 c2 blk2 hrow2 => ?_)) | ((with_reducible apply kP _); refine sP ?_) | ((with_reducible apply kP _); refine sX ?_) | ((with_reducible apply kQG); first | refine qY1 ?_ | refine qN1 ?_ | refine qU1 ?_ | (refine qD1 (fun h => ?_) (fun h => ?_) <;> (try (exfalso; omega))) | refine qB1 (fun h => ?_) (fun h => ?_)) | ((with_reducible apply kQP); refine qP ?_) | ((with_reducible apply kQP); refine qX ?_) | ((with_reducible apply kC); first | refine cT ?_ | refine cF ?_ | (refine cI (fun h => ?_) (fun h => ?_) <;> (try (exfalso; omega))) | refine cB (fun h => ?_) (fun h => ?_)) | ((with_reducible apply kR); refine cQ ?_) | ((with_reducible apply kDG); first | refine dY1 ?_ | refine dNo1 ?_ | refine dU1 ?_ | (refine dD1 (fun h => ?_) (fun h => ?_) <;> (try (exfalso; omega))) | refine dB1 (fun h => ?_) (fun h => ?_)) | ((with_reducible apply kDN); first | refine dtI ?_ | refine dt1 ?_ | refine dtW ?_) | ((with_reducible apply kDP (.alloc _)); refine dA (fun b => ?_)) | ((with_reducible apply kDP (.box _ _)); first | refine dBA (fun b => ?_) | refine dB (fun b => ?_)) | ((with_reducible apply kDP (.buildSlice _ 1 _)); first | refine dl1A (fun b => ?_) | refine dl1 (fun b => ?_)) | ((with_reducible apply kDP (.call ⟨.builtin .append, _, _⟩)); first | refine dAp3 (fun oa2 c2 blk2 hrow2 => ?_) (hS := SCt) | refine dAp4 (fun oa2 c2 blk2 hrow2 => ?_)) | ((with_reducible apply kDP _); refine dP ?_) | ((with_reducible apply kDP _); refine dX ?_))
  rw [hlr]
  rename_i bz b2
  have zh0 : zh R p q 0 = 0 := by unfold zh; simp
  refine c_loop (fun k : Nat => [(1, .pointer (some ⟨bz, 0, none⟩)), (2, .pointer (some ⟨b2, 0, none⟩)), (3, .pointer (some ⟨b, 0, none⟩)), (13, .slice oa n c), (14, iv n), (15, iv k)])
    (fun k => blk ++ (b, [iv R, iv n, iv K, iv p, iv q, .bool d, iv (zh R p q k), iv (kn R K p q k)]) :: (b2, [.int .i64 0, .int .i64 0, .int .i64 0, .int .i64 0, .int .i64 0, .bool false, .int .i64 0, .int .i64 0]) :: (bz, [iv R, iv n, iv K, iv p, iv q, .bool d]) :: hs) (fun k => k ≤ n) (fun k => n - k) 0 (by omega) (by repeat' first | trivial | rfl | apply And.intro) (by rw [zh0]; exact .refl _) ?_
  intro k hk
  by_cases hk' : k < n
  · have g1 := hS.any (show k < _ by rw [hlr]; exact hk')
    have e1 : (tab n (Ytlijcnocahplbaa.hr p q 0 1)).getD k 0 = Ytlijcnocahplbaa.hr p q 0 1 k := tab_getD _ hk'
    have b1 := hr_small z7 phas_01 k
    have b2' := zh_to z7 z1 z2 k (by omega)
    have b3 := kn_to (K := K) z7 z1 z2 z5 z6 k
    have b4 := kq_to b1.1 b1.2 z5 z6
    have b5 := mul_to b4.1 b4.2 z1 z2
    have b6 := mul_to b1.1 b1.2 z1 z2
    have b7 := zh_succ R p q k
    have b8 : kn R K p q (k + 1) = kn R K p q k + (Ytlijcnocahplbaa.hr p q 0 1 k + K - 1) / K * R := rfl
    rw [← e1] at b1 b4 b5 b6 b7 b8
    repeat' (first | ((with_reducible apply kDN); refine dt1 ?_ (hl := by simp)) | ((with_reducible apply kRg 6); refine cD [1, 1, 1, 1, 1, 1, 1, 1, 1, 1, 1, 1, 1, 1, 1, 4] ?_) | (with_reducible first | refine c_seq ?_ | refine c_reg ?_ | refine c_region ?_ | refine c_block ?_ | refine c_skip ?_ | refine c_exit ?_ | refine c_ret ?_ | refine s_nil ?_ | refine x_then ?_ | refine x_then_exit ?_ | refine x_then_ret ?_ | refine x_block ?_ | refine x_block_ret ?_ | refine x_block_same ?_ | refine x_block_other (by rfl) ?_ | refine q_nil ?_ | refine k_nil ?_) | ((with_reducible apply kP (.makeFunc _ _ _)); refine sMF ?_) | ((with_reducible apply kG); first | refine gY1 ?_ | refine gN1 ?_ | refine gU1 ?_ | (refine gD1 (fun h => ?_) (fun h => ?_) <;> (try (exfalso; omega))) | refine gB1 (fun h => ?_) (fun h => ?_)) | ((with_reducible apply kN); first | refine stP ?_ | refine stI ?_ | refine st1 ?_ | refine stW ?_) | ((with_reducible apply kP (.alloc _)); refine sA (fun b => ?_)) | ((with_reducible apply kP (.box _ _)); first | refine sBA (fun b => ?_) | refine sB (fun b => ?_)) | ((with_reducible apply kP (.buildSlice _ 1 _)); first | refine sl1A (fun b => ?_) | refine sl1 (fun b => ?_)) | ((with_reducible apply kP (.buildSlice _ 2 _)); refine sl2 (fun b => ?_)) | ((with_reducible apply kP (.buildSlice _ 3 _)); refine sl3 (fun b => ?_)) | ((with_reducible apply kP (.buildSlice _ 4 _)); refine sl4 (fun b => ?_)) | ((with_reducible apply kP (.buildSlice _ 0 _)); refine s_bs0 (scTOf rfl) (zsTOf rfl) (by decide) (fun b => ?_)) | ((with_reducible apply kP (.makeSlice _ _ _)); refine sMk (fun b => ?_)) | ((with_reducible apply kP (.call ⟨.builtin .append, _, _⟩)); refine sAp (fun oa2 c2 blk2 hrow2 => ?_)) | ((with_reducible apply kP _); refine sP ?_) | ((with_reducible apply kP _); refine sX ?_) | ((with_reducible apply kQG); first | refine qY1 ?_ | refine qN1 ?_ | refine qU1 ?_ | (refine qD1 (fun h => ?_) (fun h => ?_) <;> (try (exfalso; omega))) | refine qB1 (fun h => ?_) (fun h => ?_)) | ((with_reducible apply kQP); refine qP ?_) | ((with_reducible apply kQP); refine qX ?_) | ((with_reducible apply kC); first | refine cT ?_ | refine cF ?_ | (refine cI (fun h => ?_) (fun h => ?_) <;> (try (exfalso; omega))) | refine cB (fun h => ?_) (fun h => ?_)) | ((with_reducible apply kR); refine cQ ?_) | ((with_reducible apply kDG); first | refine dY1 ?_ | refine dNo1 ?_ | refine dU1 ?_ | (refine dD1 (fun h => ?_) (fun h => ?_) <;> (try (exfalso; omega))) | refine dB1 (fun h => ?_) (fun h => ?_)) | ((with_reducible apply kDN); first | refine dtI ?_ | refine dt1 ?_ | refine dtW ?_) | ((with_reducible apply kDP (.alloc _)); refine dA (fun b => ?_)) | ((with_reducible apply kDP (.box _ _)); first | refine dBA (fun b => ?_) | refine dB (fun b => ?_)) | ((with_reducible apply kDP (.buildSlice _ 1 _)); first | refine dl1A (fun b => ?_) | refine dl1 (fun b => ?_)) | ((with_reducible apply kDP (.call ⟨.builtin .append, _, _⟩)); first | refine dAp3 (fun oa2 c2 blk2 hrow2 => ?_) (hS := SCt) | refine dAp4 (fun oa2 c2 blk2 hrow2 => ?_)) | ((with_reducible apply kDP _); refine dP ?_) | ((with_reducible apply kDP _); refine dX ?_))
    refine r_end (k + 1) (by omega) (by omega) ⟨rfl, rfl, rfl, rfl, rfl, rfl, trivial⟩ ?_
    rw [b7, b8]
    exact .refl _
  · obtain rfl : k = n := by omega
    repeat' (first | ((with_reducible apply kN); refine stW ?_ (hf := flat8 rfl rfl rfl rfl rfl rfl rfl rfl)) | ((with_reducible apply kRg 6); refine cD [1, 1, 1, 1, 1, 1, 1, 1, 1, 1, 1, 1, 1, 1, 1, 4] ?_) | (with_reducible first | refine c_seq ?_ | refine c_reg ?_ | refine c_region ?_ | refine c_block ?_ | refine c_skip ?_ | refine c_exit ?_ | refine c_ret ?_ | refine s_nil ?_ | refine x_then ?_ | refine x_then_exit ?_ | refine x_then_ret ?_ | refine x_block ?_ | refine x_block_ret ?_ | refine x_block_same ?_ | refine x_block_other (by rfl) ?_ | refine q_nil ?_ | refine k_nil ?_) | ((with_reducible apply kP (.makeFunc _ _ _)); refine sMF ?_) | ((with_reducible apply kG); first | refine gY1 ?_ | refine gN1 ?_ | refine gU1 ?_ | (refine gD1 (fun h => ?_) (fun h => ?_) <;> (try (exfalso; omega))) | refine gB1 (fun h => ?_) (fun h => ?_)) | ((with_reducible apply kN); first | refine stP ?_ | refine stI ?_ | refine st1 ?_ | refine stW ?_) | ((with_reducible apply kP (.alloc _)); refine sA (fun b => ?_)) | ((with_reducible apply kP (.box _ _)); first | refine sBA (fun b => ?_) | refine sB (fun b => ?_)) | ((with_reducible apply kP (.buildSlice _ 1 _)); first | refine sl1A (fun b => ?_) | refine sl1 (fun b => ?_)) | ((with_reducible apply kP (.buildSlice _ 2 _)); refine sl2 (fun b => ?_)) | ((with_reducible apply kP (.buildSlice _ 3 _)); refine sl3 (fun b => ?_)) | ((with_reducible apply kP (.buildSlice _ 4 _)); refine sl4 (fun b => ?_)) | ((with_reducible apply kP (.buildSlice _ 0 _)); refine s_bs0 (scTOf rfl) (zsTOf rfl) (by decide) (fun b => ?_)) | ((with_reducible apply kP (.makeSlice _ _ _)); refine sMk (fun b => ?_)) | ((with_reducible apply kP (.call ⟨.builtin .append, _, _⟩)); refine sAp (fun oa2 c2 blk2 hrow2 => ?_)) | ((with_reducible apply kP _); refine sP ?_) | ((with_reducible apply kP _); refine sX ?_) | ((with_reducible apply kQG); first | refine qY1 ?_ | refine qN1 ?_ | refine qU1 ?_ | (refine qD1 (fun h => ?_) (fun h => ?_) <;> (try (exfalso; omega))) | refine qB1 (fun h => ?_) (fun h => ?_)) | ((with_reducible apply kQP); refine qP ?_) | ((with_reducible apply kQP); refine qX ?_) | ((with_reducible apply kC); first | refine cT ?_ | refine cF ?_ | (refine cI (fun h => ?_) (fun h => ?_) <;> (try (exfalso; omega))) | refine cB (fun h => ?_) (fun h => ?_)) | ((with_reducible apply kR); refine cQ ?_) | ((with_reducible apply kDG); first | refine dY1 ?_ | refine dNo1 ?_ | refine dU1 ?_ | (refine dD1 (fun h => ?_) (fun h => ?_) <;> (try (exfalso; omega))) | refine dB1 (fun h => ?_) (fun h => ?_)) | ((with_reducible apply kDN); first | refine dtI ?_ | refine dt1 ?_ | refine dtW ?_) | ((with_reducible apply kDP (.alloc _)); refine dA (fun b => ?_)) | ((with_reducible apply kDP (.box _ _)); first | refine dBA (fun b => ?_) | refine dB (fun b => ?_)) | ((with_reducible apply kDP (.buildSlice _ 1 _)); first | refine dl1A (fun b => ?_) | refine dl1 (fun b => ?_)) | ((with_reducible apply kDP (.call ⟨.builtin .append, _, _⟩)); first | refine dAp3 (fun oa2 c2 blk2 hrow2 => ?_) (hS := SCt) | refine dAp4 (fun oa2 c2 blk2 hrow2 => ?_)) | ((with_reducible apply kDP _); refine dP ?_) | ((with_reducible apply kDP _); refine dX ?_))
    exact e_ret1 rfl ⟨_, rfl, ld_whole (shTOf rfl) MDt rfl⟩ ⟨rfl, rfl⟩ SCt
end Go.Proofs.Ytlijcnocahplbaa
