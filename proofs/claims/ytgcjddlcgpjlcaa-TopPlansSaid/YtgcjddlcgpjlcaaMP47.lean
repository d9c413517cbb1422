/- TopPlans: the walk. -/
import Derived.Test.YtgcjddlcgpjlcaaMP44
namespace Go.Proofs.Ytgcjddlcgpjlcaa
open Go.RowKit

theorem cp_none {N K M : Nat} {s z P : List Int} (h : CP N K s z M P) : pfR N K s z = .tuple #[iv 0, iv 0, .bool false, iv 0] := by
  unfold pfR
  rw [if_pos h.vj]
  cases hp : pfO N K s z with
  | none => rfl
  | some q =>
    obtain ⟨h1, h2, h3⟩ := pf_some hp
    have := cp_spr h h1 h2
    omega
theorem pf_bad {N K : Nat} {s z : List Int} (h : vjE N K s z ≠ 0) : pfR N K s z = .tuple #[iv 0, iv 0, .bool false, iv (vjE N K s z)] := by
  unfold pfR
  rw [if_neg h]
  rfl
theorem proof_to {N K : Nat} {s z : List Int} {x y : Int} (h : spE N K s z x y = 0 ∧ spR N K s z x y < 0) : vjE N K s z = 0 ∧ ∃ a b, a ≤ b ∧ b < N ∧ spV K s z a b < 0 := by
  obtain ⟨h1, h2⟩ := h
  unfold spR at h2
  split at h2
  · rename_i hh
    obtain ⟨hv, hw⟩ := hh
    unfold okW2 at hw
    exact ⟨hv, x.toNat, y.toNat, by omega, by omega, h2⟩
  · omega
theorem no_cp {N K M : Nat} {s z P : List Int} (h : ∃ a b, a ≤ b ∧ b < N ∧ spV K s z a b < 0) (hc : CP N K s z M P) : False := by
  obtain ⟨a, b, h1, h2, h3⟩ := h
  have := cp_spr hc h1 h2
  omega
def exS : List Int := [150]
def exJ : List Int := [100, 0, 0, 100, 0, 0]
theorem ex_1 : vjE 1 2 exS exJ = 0 := by decide +kernel
theorem ex_2 : pfO 1 2 exS exJ = some (0, 0) := by decide +kernel
theorem ex_v : pfR 1 2 exS exJ = .tuple #[iv 0, iv 0, .bool true, iv 0] := by
  unfold pfR
  rw [if_pos ex_1, ex_2]
  rfl
section
variable {P : Program} {n B : Nat} {w0 : Wd} {fr : FR} {hs : HS} {ty : TypeId} {K : Act → World → Prop} {ops : Array Oper} {l : List Oper} {d : Nat} {pos : String} {aft : Array Edge}
theorem s_bs2A {t : TypeId} {x y : Operand} {a b' : List Int} {z : List Value} {b : Bool} {k : Nat} (hx : opv fr x = some (.agg (ivs a).toArray)) (hy : opv fr y = some (.agg (ivs b').toArray)) (ht : sc P t = some (b, k)) (hz : zs P t = some z.toArray) (h1 : a.length = k) (h2 : b'.length = k) (hk : k ≤ 1000) (hn : d < n)
    (h : ∀ bb, Sat n B w0 (sl P ops K l) ((d, .slice (some ⟨bb, 0, none⟩) 2 2) :: fr) ((bb, ivs (a ++ b')) :: hs)) :
    Sat n B w0 (sl P ops K (⟨some d, .buildSlice t 2 #[(0, x), (1, y)], ty, pos, aft, none⟩ :: l)) fr hs :=
  s_bslice (xs := [(0, x), (1, y)]) (vs := [.agg (ivs a).toArray, .agg (ivs b').toArray]) (by simp [partv, hx, hy, enumV]) ht hz rfl ⟨by simpa [Value.cells, ivs] using h1, by simpa [Value.cells, ivs] using h2, trivial⟩ (by omega) hn (by simpa [flatV, Value.cells, ivs] using h)
end
theorem inI_s {x : Int} (h : 0 ≤ x) (h2 : x ≤ 100000) : InI x := ⟨by omega, by omega⟩
theorem pls_inI {N K M : Nat} {s z P : List Int} {g : Nat → Nat → Int} (hv : vjE N K s z = 0) (hN : N ≤ 1000) (hK : K ≤ 1000) (hE : Edf N K (sHf s) (jW z) (jR z) (jD z) g) (h : PlS K N g M P) (k : Nat) : InI (P.getD k 0) := by
  have hl := h.len
  by_cases hk : k < M * 3
  · obtain ⟨d, j, h1, h2, h3, h4, h5, h6⟩ := h.slot (k / 3) (by omega)
    have hn := hE.nn d j h1 h2
    have hW := ((vj_to hv).j j h2).1
    unfold inB at hW
    have hs0 : 0 ≤ sumTo (fun e => g e j) d := sumTo_nonneg d fun e he => (hE.nn e j (by omega) h2).1
    have hlf : lf (jW z) g d j = jW z j - sumTo (fun e => g e j) d := rfl
    unfold pD at h4
    unfold pJ at h5
    unfold pM at h6
    have hr : k % 3 = 0 ∨ k % 3 = 1 ∨ k % 3 = 2 := by omega
    rcases hr with hr | hr | hr
    · rw [show k = k / 3 * 3 by omega, h4]; exact inI_s (by omega) (by omega)
    · rw [show k = k / 3 * 3 + 1 by omega, h5]; exact inI_s (by omega) (by omega)
    · rw [show k = k / 3 * 3 + 2 by omega, h6]; exact inI_s (by omega) (by omega)
  · rw [List.getD_eq_getElem?_getD, List.getElem?_eq_none (by omega)]
    exact inI_s (by decide) (by decide)
theorem edf_lack2 {N K : Nat} {s z : List Int} {g : Nat → Nat → Int} (hv : vjE N K s z = 0) (hE : Edf N K (sHf s) (jW z) (jR z) (jD z) g) (h : ∃ j, j < K ∧ 0 < lf (jW z) g N j) : ∃ q : Nat × Nat, pfR N K s z = .tuple #[iv q.1, iv q.2, .bool true, iv 0] ∧ (∃ a b, a ≤ b ∧ b < N ∧ spV K s z a b < 0) ∧ spE N K s z q.1 q.2 = 0 ∧ spR N K s z q.1 q.2 < 0 := by
  obtain ⟨a, b, h1, h2, h3⟩ := hE.lack (vj_jb (vj_to hv)) h
  unfold pfR
  rw [if_pos hv]
  cases hp : pfO N K s z with
  | none => have := pf_none hp a b h1 h2; unfold spV at this; omega
  | some q =>
    obtain ⟨g1, g2, g3⟩ := pf_some hp
    have hw : okW2 N q.1 q.2 := ⟨by omega, by omega, by omega⟩
    refine ⟨q, rfl, ⟨q.1, q.2, g1, g2, g3⟩, ?_, ?_⟩
    · unfold spE; rw [if_pos hv, if_pos hw]
    · unfold spR; rw [if_pos ⟨hv, hw⟩]; exact g3
set_option maxRecDepth 100000 in
set_option maxHeartbeats 8000000 in
theorem l_tplans (oa ob oq : Option Addr) (n m c d M f : Nat) (s z p : List Int) (x y : Int) (hl : s.length = n * 1) (hz : z.length = m * 3) (hc : n ≤ c) (hp : p.length = M * 3) (hI : ∀ x ∈ p, InI x) (B : Nat) (w0 : Wd) (hs : HS) (hL : Sl B w0 hs oa s) (hJ : Sl B w0 hs ob z) (hQ : Sl B w0 hs oq p) : Fn Try.prog 17 #[.agg #[.slice oa n c, .slice ob m d], .slice oq M f, .agg #[iv x, iv y]] B w0 hs (fun v _ => v = .bool true) := by
  rw [Nat.mul_one] at hl
  have hpI : ∀ t, InI (p.getD t 0) := fun t => by
    rw [List.getD_eq_getElem?_getD]
    cases hpt : p[t]? with
    | none => exact ⟨by decide, by decide⟩
    | some x => exact hI x (List.mem_of_getElem? hpt)
  have ks := fun c d oa ob hc hs hL hJ => k_Proof 1 2 c d exS exJ oa ob rfl rfl (by decide) (by decide) hc B w0 hs hL hJ
  rw [ex_v] at ks
  refine fn_enter Try.func17 rfl Try.ntmps17 (by simp) ?_
  repeat' (first | (with_reducible first | refine c_seq ?_ | refine c_reg ?_ | refine c_region ?_ | refine c_block ?_ | refine c_skip ?_ | refine c_exit ?_ | refine c_ret ?_ | refine s_nil ?_ | refine x_then ?_ | refine x_then_exit ?_ | refine x_then_ret ?_ | refine x_block ?_ | refine x_block_ret ?_ | refine x_block_same ?_ | refine x_block_other (by rfl) ?_ | refine q_nil ?_ | refine k_nil ?_) | ((with_reducible apply kP (.makeFunc _ _ _)); refine sMF ?_) | ((with_reducible apply kG); first | refine gY1 ?_ | refine gN1 ?_ | refine gU1 ?_ | (refine gD1 (fun h => ?_) (fun h => ?_) <;> (try (exfalso; omega))) | refine gB1 (fun h => ?_) (fun h => ?_)) | ((with_reducible apply kN); first | refine stP ?_ | refine stI ?_ | refine st1 ?_ | refine stW ?_) | ((with_reducible apply kP (.alloc _)); refine sA (fun b => ?_)) | ((with_reducible apply kP (.box _ _)); first | refine sBA (fun b => ?_) | refine sB (fun b => ?_)) | ((with_reducible apply kP (.buildSlice _ 1 _)); first | refine sl1A (fun b => ?_) | refine sl1 (fun b => ?_)) | ((with_reducible apply kP (.buildSlice _ 2 _)); refine sl2 (fun b => ?_)) | ((with_reducible apply kP (.buildSlice _ 3 _)); refine sl3 (fun b => ?_)) | ((with_reducible apply kP (.buildSlice _ 4 _)); refine sl4 (fun b => ?_)) | ((with_reducible apply kP (.buildSlice _ 0 _)); refine s_bs0 (scTOf rfl) (zsTOf rfl) (by decide) (fun b => ?_)) | ((with_reducible apply kP (.makeSlice _ _ _)); refine sMk (fun b => ?_)) | ((with_reducible apply kP (.call ⟨.builtin .append, _, _⟩)); refine sAp (fun oa2 c2 blk2 hrow2 => ?_)) | ((with_reducible apply kP _); refine sP ?_) | ((with_reducible apply kP _); refine sX ?_) | ((with_reducible apply kQG); first | refine qY1 ?_ | refine qN1 ?_ | refine qU1 ?_ | (refine qD1 (fun h => ?_) (fun h => ?_) <;> (try (exfalso; omega))) | refine qB1 (fun h => ?_) (fun h => ?_)) | ((with_reducible apply kQP); refine qP ?_) | ((with_reducible apply kQP); refine qX ?_) | ((with_reducible apply kC); first | refine cT ?_ | refine cF ?_ | (refine cI (fun h => ?_) (fun h => ?_) <;> (try (exfalso; omega))) | refine cB (fun h => ?_) (fun h => ?_)) | ((with_reducible apply kR); refine cQ ?_))
  refine f_eq (t := 25) (u := .agg #[iv 100, iv 0, iv 0]) rfl rfl ?_
  refine f_eq (t := 26) (u := .agg #[iv 100, iv 0, iv 0]) rfl rfl ?_
  refine s_bs2A (a := [100, 0, 0]) (b' := [100, 0, 0]) rfl rfl (scTOf rfl) (zsTOf rfl) rfl rfl (by decide) (by decide) (fun b3 => ?_)
  have ks := ks 1 2 (some ⟨b, 0, none⟩) (some ⟨b3, 0, none⟩) (by decide)
  by_cases hlong : 200 < n ∨ 30 < m ∨ 300 < M
  · repeat' (first | ((with_reducible apply kF 35); refine sC 35 (ks _ (Sl.own (l := exS) MDt) (Sl.own (l := exJ) MDt)) ?_) | (with_reducible first | refine c_seq ?_ | refine c_reg ?_ | refine c_region ?_ | refine c_block ?_ | refine c_skip ?_ | refine c_exit ?_ | refine c_ret ?_ | refine s_nil ?_ | refine x_then ?_ | refine x_then_exit ?_ | refine x_then_ret ?_ | refine x_block ?_ | refine x_block_ret ?_ | refine x_block_same ?_ | refine x_block_other (by rfl) ?_ | refine q_nil ?_ | refine k_nil ?_) | ((with_reducible apply kP (.makeFunc _ _ _)); refine sMF ?_) | ((with_reducible apply kG); first | refine gY1 ?_ | refine gN1 ?_ | refine gU1 ?_ | (refine gD1 (fun h => ?_) (fun h => ?_) <;> (try (exfalso; omega))) | refine gB1 (fun h => ?_) (fun h => ?_)) | ((with_reducible apply kN); first | refine stP ?_ | refine stI ?_ | refine st1 ?_ | refine stW ?_) | ((with_reducible apply kP (.alloc _)); refine sA (fun b => ?_)) | ((with_reducible apply kP (.box _ _)); first | refine sBA (fun b => ?_) | refine sB (fun b => ?_)) | ((with_reducible apply kP (.buildSlice _ 1 _)); first | refine sl1A (fun b => ?_) | refine sl1 (fun b => ?_)) | ((with_reducible apply kP (.buildSlice _ 2 _)); refine sl2 (fun b => ?_)) | ((with_reducible apply kP (.buildSlice _ 3 _)); refine sl3 (fun b => ?_)) | ((with_reducible apply kP (.buildSlice _ 4 _)); refine sl4 (fun b => ?_)) | ((with_reducible apply kP (.buildSlice _ 0 _)); refine s_bs0 (scTOf rfl) (zsTOf rfl) (by decide) (fun b => ?_)) | ((with_reducible apply kP (.makeSlice _ _ _)); refine sMk (fun b => ?_)) | ((with_reducible apply kP (.call ⟨.builtin .append, _, _⟩)); refine sAp (fun oa2 c2 blk2 hrow2 => ?_)) | ((with_reducible apply kP _); refine sP ?_) | ((with_reducible apply kP _); refine sX ?_) | ((with_reducible apply kQG); first | refine qY1 ?_ | refine qN1 ?_ | refine qU1 ?_ | (refine qD1 (fun h => ?_) (fun h => ?_) <;> (try (exfalso; omega))) | refine qB1 (fun h => ?_) (fun h => ?_)) | ((with_reducible apply kQP); refine qP ?_) | ((with_reducible apply kQP); refine qX ?_) | ((with_reducible apply kC); first | refine cT ?_ | refine cF ?_ | (refine cI (fun h => ?_) (fun h => ?_) <;> (try (exfalso; omega))) | refine cB (fun h => ?_) (fun h => ?_)) | ((with_reducible apply kR); refine cQ ?_))
    all_goals first
      | exact e_ret1 rfl rfl rfl SCt
      | (exfalso; omega)
      | trace_state
  · have k1 := fun hs hL hJ => k_Plan n m c d s z oa ob hl hz (by omega) (by omega) B w0 hs hL hJ
    have k2 := fun hs hL hJ => k_Proof n m c d s z oa ob hl hz (by omega) (by omega) hc B w0 hs hL hJ
    have k3 := fun hs hL hJ hQ => k_CPl n m M c d f s z p oa ob oq hl hz hp hpI (by omega) (by omega) (by omega) B w0 hs hL hJ hQ
    have k4 := fun hs hL hJ => k_Spare n m c d s z x y oa ob hl hz (by omega) (by omega) hc B w0 hs hL hJ
    have k5 := fun u v hs hL hJ => k_IsProof n m c d s z u v oa ob hl hz (by omega) (by omega) hc B w0 hs hL hJ
    repeat' (first | ((with_reducible apply kF 35); refine sC 35 (ks _ (Sl.own (l := exS) MDt) (Sl.own (l := exJ) MDt)) ?_) | ((with_reducible apply kF 55); refine sR 55 (k1 _ (hL.sub SBt) (hJ.sub SBt)) ?_; rintro u h' ⟨blkP, hPl, rfl⟩) | (with_reducible first | refine c_seq ?_ | refine c_reg ?_ | refine c_region ?_ | refine c_block ?_ | refine c_skip ?_ | refine c_exit ?_ | refine c_ret ?_ | refine s_nil ?_ | refine x_then ?_ | refine x_then_exit ?_ | refine x_then_ret ?_ | refine x_block ?_ | refine x_block_ret ?_ | refine x_block_same ?_ | refine x_block_other (by rfl) ?_ | refine q_nil ?_ | refine k_nil ?_) | ((with_reducible apply kP (.makeFunc _ _ _)); refine sMF ?_) | ((with_reducible apply kG); first | refine gY1 ?_ | refine gN1 ?_ | refine gU1 ?_ | (refine gD1 (fun h => ?_) (fun h => ?_) <;> (try (exfalso; omega))) | refine gB1 (fun h => ?_) (fun h => ?_)) | ((with_reducible apply kN); first | refine stP ?_ | refine stI ?_ | refine st1 ?_ | refine stW ?_) | ((with_reducible apply kP (.alloc _)); refine sA (fun b => ?_)) | ((with_reducible apply kP (.box _ _)); first | refine sBA (fun b => ?_) | refine sB (fun b => ?_)) | ((with_reducible apply kP (.buildSlice _ 1 _)); first | refine sl1A (fun b => ?_) | refine sl1 (fun b => ?_)) | ((with_reducible apply kP (.buildSlice _ 2 _)); refine sl2 (fun b => ?_)) | ((with_reducible apply kP (.buildSlice _ 3 _)); refine sl3 (fun b => ?_)) | ((with_reducible apply kP (.buildSlice _ 4 _)); refine sl4 (fun b => ?_)) | ((with_reducible apply kP (.buildSlice _ 0 _)); refine s_bs0 (scTOf rfl) (zsTOf rfl) (by decide) (fun b => ?_)) | ((with_reducible apply kP (.makeSlice _ _ _)); refine sMk (fun b => ?_)) | ((with_reducible apply kP (.call ⟨.builtin .append, _, _⟩)); refine sAp (fun oa2 c2 blk2 hrow2 => ?_)) | ((with_reducible apply kP _); refine sP ?_) | ((with_reducible apply kP _); refine sX ?_) | ((with_reducible apply kQG); first | refine qY1 ?_ | refine qN1 ?_ | refine qU1 ?_ | (refine qD1 (fun h => ?_) (fun h => ?_) <;> (try (exfalso; omega))) | refine qB1 (fun h => ?_) (fun h => ?_)) | ((with_reducible apply kQP); refine qP ?_) | ((with_reducible apply kQP); refine qX ?_) | ((with_reducible apply kC); first | refine cT ?_ | refine cF ?_ | (refine cI (fun h => ?_) (fun h => ?_) <;> (try (exfalso; omega))) | refine cB (fun h => ?_) (fun h => ?_)) | ((with_reducible apply kR); refine cQ ?_))
    rcases hPl with ⟨hv, rfl, rfl⟩ | ⟨hv, g, hE, ⟨hj, rfl, rfl⟩ | ⟨h0, oP, cP, M', P, rfl, hrP, hP, hM⟩⟩
    · rw [pf_bad hv] at k2
      rw [cp_jobs hv] at k3
      clear k1 k4 k5 ks
      generalize vjE n m s z = e at *
      repeat' (first | ((with_reducible apply kF 35); refine sC 35 (k2 _ (hL.sub SBt) (hJ.sub SBt)) ?_) | ((with_reducible apply kF 53); refine sC 53 (k3 _ (hL.sub SBt) (hJ.sub SBt) (hQ.sub SBt)) ?_) | (with_reducible first | refine c_seq ?_ | refine c_reg ?_ | refine c_region ?_ | refine c_block ?_ | refine c_skip ?_ | refine c_exit ?_ | refine c_ret ?_ | refine s_nil ?_ | refine x_then ?_ | refine x_then_exit ?_ | refine x_then_ret ?_ | refine x_block ?_ | refine x_block_ret ?_ | refine x_block_same ?_ | refine x_block_other (by rfl) ?_ | refine q_nil ?_ | refine k_nil ?_) | ((with_reducible apply kP (.makeFunc _ _ _)); refine sMF ?_) | ((with_reducible apply kG); first | refine gY1 ?_ | refine gN1 ?_ | refine gU1 ?_ | (refine gD1 (fun h => ?_) (fun h => ?_) <;> (try (exfalso; omega))) | refine gB1 (fun h => ?_) (fun h => ?_)) | ((with_reducible apply kN); first | refine stP ?_ | refine stI ?_ | refine st1 ?_ | refine stW ?_) | ((with_reducible apply kP (.alloc _)); refine sA (fun b => ?_)) | ((with_reducible apply kP (.box _ _)); first | refine sBA (fun b => ?_) | refine sB (fun b => ?_)) | ((with_reducible apply kP (.buildSlice _ 1 _)); first | refine sl1A (fun b => ?_) | refine sl1 (fun b => ?_)) | ((with_reducible apply kP (.buildSlice _ 2 _)); refine sl2 (fun b => ?_)) | ((with_reducible apply kP (.buildSlice _ 3 _)); refine sl3 (fun b => ?_)) | ((with_reducible apply kP (.buildSlice _ 4 _)); refine sl4 (fun b => ?_)) | ((with_reducible apply kP (.buildSlice _ 0 _)); refine s_bs0 (scTOf rfl) (zsTOf rfl) (by decide) (fun b => ?_)) | ((with_reducible apply kP (.makeSlice _ _ _)); refine sMk (fun b => ?_)) | ((with_reducible apply kP (.call ⟨.builtin .append, _, _⟩)); refine sAp (fun oa2 c2 blk2 hrow2 => ?_)) | ((with_reducible apply kP _); refine sP ?_) | ((with_reducible apply kP _); refine sX ?_) | ((with_reducible apply kQG); first | refine qY1 ?_ | refine qN1 ?_ | refine qU1 ?_ | (refine qD1 (fun h => ?_) (fun h => ?_) <;> (try (exfalso; omega))) | refine qB1 (fun h => ?_) (fun h => ?_)) | ((with_reducible apply kQP); refine qP ?_) | ((with_reducible apply kQP); refine qX ?_) | ((with_reducible apply kC); first | refine cT ?_ | refine cF ?_ | (refine cI (fun h => ?_) (fun h => ?_) <;> (try (exfalso; omega))) | refine cB (fun h => ?_) (fun h => ?_)) | ((with_reducible apply kR); refine cQ ?_))
      all_goals first
        | exact e_ret1 rfl rfl rfl SCt
        | exact e_ret1 rfl rfl (congrArg Value.bool (decide_eq_true rfl)) SCt
        | exact absurd rfl ‹¬ _ = _›
        | (exfalso; omega)
        | trace_state
    · obtain ⟨q, hq, hab, he1, he2⟩ := edf_lack2 hv hE hj
      have hcp : cpE n m s z M p ≠ 0 := fun h => no_cp hab (cp_to h)
      have k6 := fun hs hL hJ => k5 q.1 q.2 hs hL hJ
      rw [decide_eq_true ⟨he1, he2⟩, he1] at k6
      rw [hq] at k2
      clear k1 k5 ks he1 he2
      generalize cpE n m s z M p = e at *
      generalize spE n m s z x y = e4 at *
      generalize spR n m s z x y = r4 at *
      repeat' (first | ((with_reducible apply kF 35); refine sC 35 (k2 _ (hL.sub SBt) (hJ.sub SBt)) ?_) | ((with_reducible apply kF 53); refine sC 53 (k3 _ (hL.sub SBt) (hJ.sub SBt) (hQ.sub SBt)) ?_) | ((with_reducible apply kF 31); refine sC 31 (k4 _ (hL.sub SBt) (hJ.sub SBt)) ?_) | ((with_reducible apply kF 33); refine sC 33 (k6 _ (hL.sub SBt) (hJ.sub SBt)) ?_) | (with_reducible first | refine c_seq ?_ | refine c_reg ?_ | refine c_region ?_ | refine c_block ?_ | refine c_skip ?_ | refine c_exit ?_ | refine c_ret ?_ | refine s_nil ?_ | refine x_then ?_ | refine x_then_exit ?_ | refine x_then_ret ?_ | refine x_block ?_ | refine x_block_ret ?_ | refine x_block_same ?_ | refine x_block_other (by rfl) ?_ | refine q_nil ?_ | refine k_nil ?_) | ((with_reducible apply kP (.makeFunc _ _ _)); refine sMF ?_) | ((with_reducible apply kG); first | refine gY1 ?_ | refine gN1 ?_ | refine gU1 ?_ | (refine gD1 (fun h => ?_) (fun h => ?_) <;> (try (exfalso; omega))) | refine gB1 (fun h => ?_) (fun h => ?_)) | ((with_reducible apply kN); first | refine stP ?_ | refine stI ?_ | refine st1 ?_ | refine stW ?_) | ((with_reducible apply kP (.alloc _)); refine sA (fun b => ?_)) | ((with_reducible apply kP (.box _ _)); first | refine sBA (fun b => ?_) | refine sB (fun b => ?_)) | ((with_reducible apply kP (.buildSlice _ 1 _)); first | refine sl1A (fun b => ?_) | refine sl1 (fun b => ?_)) | ((with_reducible apply kP (.buildSlice _ 2 _)); refine sl2 (fun b => ?_)) | ((with_reducible apply kP (.buildSlice _ 3 _)); refine sl3 (fun b => ?_)) | ((with_reducible apply kP (.buildSlice _ 4 _)); refine sl4 (fun b => ?_)) | ((with_reducible apply kP (.buildSlice _ 0 _)); refine s_bs0 (scTOf rfl) (zsTOf rfl) (by decide) (fun b => ?_)) | ((with_reducible apply kP (.makeSlice _ _ _)); refine sMk (fun b => ?_)) | ((with_reducible apply kP (.call ⟨.builtin .append, _, _⟩)); refine sAp (fun oa2 c2 blk2 hrow2 => ?_)) | ((with_reducible apply kP _); refine sP ?_) | ((with_reducible apply kP _); refine sX ?_) | ((with_reducible apply kQG); first | refine qY1 ?_ | refine qN1 ?_ | refine qU1 ?_ | (refine qD1 (fun h => ?_) (fun h => ?_) <;> (try (exfalso; omega))) | refine qB1 (fun h => ?_) (fun h => ?_)) | ((with_reducible apply kQP); refine qP ?_) | ((with_reducible apply kQP); refine qX ?_) | ((with_reducible apply kC); first | refine cT ?_ | refine cF ?_ | (refine cI (fun h => ?_) (fun h => ?_) <;> (try (exfalso; omega))) | refine cB (fun h => ?_) (fun h => ?_)) | ((with_reducible apply kR); refine cQ ?_))
      all_goals first
        | exact e_ret1 rfl rfl rfl SCt
        | exact absurd rfl ‹¬ _ = _›
        | (exfalso; omega)
        | trace_state
    · have hCP := pls_cp hv hE hP h0
      have hPl := hP.len
      have hno : ¬ (spE n m s z x y = 0 ∧ spR n m s z x y < 0) := fun h => no_cp (proof_to h).2 hCP
      have hPI := pls_inI hv (by omega) (by omega) hE hP
      have k7 := fun hs hL hJ hQ => k_CPl n m M' c d cP s z P oa ob oP hl hz hPl hPI (by omega) (by omega) (by omega) B w0 hs hL hJ hQ
      rw [hCP.eq] at k7
      rw [cp_none hCP] at k2
      have hSP := Sl.rowK (B := B) (w0 := w0) hrP
      clear k1 k5 ks
      generalize cpE n m s z M p = e at *
      generalize spE n m s z x y = e4 at *
      generalize spR n m s z x y = r4 at *
      repeat' (first | ((with_reducible apply kF 35); refine sC 35 (k2 _ (hL.sub SBt) (hJ.sub SBt)) ?_) | ((with_reducible apply kF 53); refine sC 53 (k3 _ (hL.sub SBt) (hJ.sub SBt) (hQ.sub SBt)) ?_) | ((with_reducible apply kF 53); refine sC 53 (k7 _ (hL.sub SBt) (hJ.sub SBt) (hSP.sub (List.sublist_append_left _ _))) ?_) | ((with_reducible apply kF 31); refine sC 31 (k4 _ (hL.sub SBt) (hJ.sub SBt)) ?_) | (with_reducible first | refine c_seq ?_ | refine c_reg ?_ | refine c_region ?_ | refine c_block ?_ | refine c_skip ?_ | refine c_exit ?_ | refine c_ret ?_ | refine s_nil ?_ | refine x_then ?_ | refine x_then_exit ?_ | refine x_then_ret ?_ | refine x_block ?_ | refine x_block_ret ?_ | refine x_block_same ?_ | refine x_block_other (by rfl) ?_ | refine q_nil ?_ | refine k_nil ?_) | ((with_reducible apply kP (.makeFunc _ _ _)); refine sMF ?_) | ((with_reducible apply kG); first | refine gY1 ?_ | refine gN1 ?_ | refine gU1 ?_ | (refine gD1 (fun h => ?_) (fun h => ?_) <;> (try (exfalso; omega))) | refine gB1 (fun h => ?_) (fun h => ?_)) | ((with_reducible apply kN); first | refine stP ?_ | refine stI ?_ | refine st1 ?_ | refine stW ?_) | ((with_reducible apply kP (.alloc _)); refine sA (fun b => ?_)) | ((with_reducible apply kP (.box _ _)); first | refine sBA (fun b => ?_) | refine sB (fun b => ?_)) | ((with_reducible apply kP (.buildSlice _ 1 _)); first | refine sl1A (fun b => ?_) | refine sl1 (fun b => ?_)) | ((with_reducible apply kP (.buildSlice _ 2 _)); refine sl2 (fun b => ?_)) | ((with_reducible apply kP (.buildSlice _ 3 _)); refine sl3 (fun b => ?_)) | ((with_reducible apply kP (.buildSlice _ 4 _)); refine sl4 (fun b => ?_)) | ((with_reducible apply kP (.buildSlice _ 0 _)); refine s_bs0 (scTOf rfl) (zsTOf rfl) (by decide) (fun b => ?_)) | ((with_reducible apply kP (.makeSlice _ _ _)); refine sMk (fun b => ?_)) | ((with_reducible apply kP (.call ⟨.builtin .append, _, _⟩)); refine sAp (fun oa2 c2 blk2 hrow2 => ?_)) | ((with_reducible apply kP _); refine sP ?_) | ((with_reducible apply kP _); refine sX ?_) | ((with_reducible apply kQG); first | refine qY1 ?_ | refine qN1 ?_ | refine qU1 ?_ | (refine qD1 (fun h => ?_) (fun h => ?_) <;> (try (exfalso; omega))) | refine qB1 (fun h => ?_) (fun h => ?_)) | ((with_reducible apply kQP); refine qP ?_) | ((with_reducible apply kQP); refine qX ?_) | ((with_reducible apply kC); first | refine cT ?_ | refine cF ?_ | (refine cI (fun h => ?_) (fun h => ?_) <;> (try (exfalso; omega))) | refine cB (fun h => ?_) (fun h => ?_)) | ((with_reducible apply kR); refine cQ ?_))
      all_goals first
        | exact e_ret1 rfl rfl rfl SCt
        | exact absurd rfl ‹¬ _ = _›
        | (exfalso; omega)
        | trace_state
end Go.Proofs.Ytgcjddlcgpjlcaa
