/- CapWears: the largest of a slice, Wears of both, the law's walk. -/
import Derived.Test.YtnbickholedckaaMC48
import Derived.Test.YtnbickholedckaaMC43
import Derived.Test.YtnbickholedckaaMC35
namespace Go.Proofs.Ytnbickholedckaa
open Go.RowKit
/-- The largest of the first numbers, and nothing below zero. -/
def mx0 (l : List Int) : Nat → Int
  | 0 => 0
  | k + 1 => max (mx0 l k) (l.getD k 0)
attribute [local irreducible] OpF Ld CellAt Sl Sv pcA usP
set_option maxRecDepth 100000 in
set_option maxHeartbeats 8000000 in
theorem k_max (oa : Option Addr) (c : Nat) (l : List Int) (hl : l.length ≤ 1000) (h0 : 0 < l.length) (hp : 0 ≤ l.getD 0 0) (B : Nat) (w0 : Wd) (hs : HS) (h1 : Sl B w0 hs oa l) :
    Fn Try.prog 83 #[.slice oa l.length c] B w0 hs (fun v h => v = iv (mx0 l l.length) ∧ h = hs) := by
  have g0 := h1.any h0
  have e1 : l.getD 0 0 = mx0 l 1 := by show l.getD 0 0 = max 0 (l.getD 0 0); omega
  refine fn_enter Try.func83 rfl Try.ntmps83 (by simp) ?_
  repeat' (first | (with_reducible first | refine c_seq ?_ | refine c_reg ?_ | refine c_region ?_ | refine c_block ?_ | refine c_skip ?_ | refine c_exit ?_ | refine c_ret ?_ | refine s_nil ?_ | refine x_then ?_ | refine x_then_exit ?_ | refine x_then_ret ?_ | refine x_block ?_ | refine x_block_ret ?_ | refine x_block_same ?_ | refine x_block_other (by first | rfl | decide) ?_ | refine q_nil ?_ | refine k_nil ?_) | ((with_reducible apply kP _); refine sP ?_) | ((with_reducible apply kP _); refine sX ?_) | ((with_reducible apply kC); first | refine cT ?_ | refine cF ?_ | (refine cI (fun h => ?_) (fun h => ?_) <;> (try (exfalso; omega))) | refine cB (fun h => ?_) (fun h => ?_)))
  all_goals try (exfalso; omega)
  rw [e1]
  refine c_loop (fun k : Nat => [(0, .slice oa l.length c), (3, iv (mx0 l k)), (4, iv k)]) (fun _ => hs) (fun k => 1 ≤ k ∧ k ≤ l.length) (fun k => l.length - k) 1 ⟨Nat.le_refl _, by omega⟩ (by repeat' first | trivial | rfl | apply And.intro) (.refl _) ?_
  rintro k ⟨hk1, hk⟩
  by_cases hk' : k < l.length
  · have g1 := h1.any hk'
    repeat' (first | (with_reducible first | refine c_seq ?_ | refine c_reg ?_ | refine c_region ?_ | refine c_block ?_ | refine c_skip ?_ | refine c_exit ?_ | refine c_ret ?_ | refine s_nil ?_ | refine x_then ?_ | refine x_then_exit ?_ | refine x_then_ret ?_ | refine x_block ?_ | refine x_block_ret ?_ | refine x_block_same ?_ | refine x_block_other (by first | rfl | decide) ?_ | refine q_nil ?_ | refine k_nil ?_) | ((with_reducible apply kP _); refine sP ?_) | ((with_reducible apply kP _); refine sX ?_) | ((with_reducible apply kC); first | refine cT ?_ | refine cF ?_ | (refine cI (fun h => ?_) (fun h => ?_) <;> (try (exfalso; omega))) | refine cB (fun h => ?_) (fun h => ?_)))
    exact r_end (k + 1) ⟨by omega, hk'⟩ (by omega) (by repeat' first | trivial | rfl | apply And.intro) (.refl _)
  · obtain rfl : l.length = k := by omega
    repeat' (first | (with_reducible first | refine c_seq ?_ | refine c_reg ?_ | refine c_region ?_ | refine c_block ?_ | refine c_skip ?_ | refine c_exit ?_ | refine c_ret ?_ | refine s_nil ?_ | refine x_then ?_ | refine x_then_exit ?_ | refine x_then_ret ?_ | refine x_block ?_ | refine x_block_ret ?_ | refine x_block_same ?_ | refine x_block_other (by first | rfl | decide) ?_ | refine q_nil ?_ | refine k_nil ?_) | ((with_reducible apply kP _); refine sP ?_) | ((with_reducible apply kP _); refine sX ?_) | ((with_reducible apply kC); first | refine cT ?_ | refine cF ?_ | (refine cI (fun h => ?_) (fun h => ?_) <;> (try (exfalso; omega))) | refine cB (fun h => ?_) (fun h => ?_)))
    exact e_ret1 (hs' := hs) rfl rfl ⟨rfl, rfl⟩ SCt
/-- Whether the cap sits on the head. -/
def wrE (ps : List Pc) (sm : List Int) (m : Nat) (e R F E W K N : Int) : Int := if vdC ps sm m e ≠ 0 then vdC ps sm m e else hdE R F E W K N
def wrB (ps : List Pc) (sm : List Int) (m : Nat) (e R F E W K N : Int) : Bool := decide (vdC ps sm m e = 0 ∧ hdE R F E W K N = 0 ∧ paC ps sm m = 1 ∧ haC ps sm m = 0 ∧ 0 < (hrC ps sm m).length ∧ R ≤ mx0 (hrC ps sm m) (hrC ps sm m).length ∧ mx0 (hrC ps sm m) (hrC ps sm m).length ≤ R + 5)
theorem asum_nn {F : Nat → Int} : ∀ {l : List Nat}, (∀ x ∈ l, 0 ≤ F x) → 0 ≤ asum F l
  | [], _ => by simp [asum]
  | x :: l, h => by
    have h1 := h x (.head _)
    have h2 := asum_nn (l := l) fun y hy => h y (.tail _ hy)
    simp only [asum] at *
    first | omega | (simp at *; omega)
theorem hr_nn {ps : List Pc} {sm : List Int} {m : Nat} {e : Int} (V : VdC ps sm m e) (i : Nat) : 0 ≤ (hrC ps sm m).getD i 0 := by
  by_cases hi : i < (lpsC ps sm m).length
  · have h1 : (lpsC ps sm m)[i]? = some (lpsC ps sm m)[i] := List.getElem?_eq_getElem hi
    rw [List.getD_eq_getElem?_getD, hr_at h1]
    exact asum_nn fun x hx => by have := (lnF_in V.ok ((V.lp h1).1 x hx)).1; omega
  · rw [List.getD_eq_getElem?_getD, List.getElem?_eq_none (by rw [hrC_len]; omega)]
    exact Int.le_refl _
set_option maxRecDepth 100000 in
set_option maxHeartbeats 8000000 in
theorem k_Wears (ps : List Pc) (oP oS : Option Addr) (cP m cS : Nat) (sm : List Int) (e R F E W K N : Int) (hn : ps.length ≤ 100) (hsm : sm.length = m * 4) (hm : m ≤ 100) (B : Nat) (w0 : Wd) (hs : HS) (hC : CapM B w0 hs oP oS ps sm) :
    Fn Try.prog 45 #[.agg #[.slice oP ps.length cP, .slice oS m cS, iv e], .agg #[iv R, iv F, iv E, iv W, iv K, iv N]] B w0 hs (fun v h => v = .tuple #[.bool (wrB ps sm m e R F E W K N), iv (wrE ps sm m e R F E W K N)] ∧ h = hs) := by
  have kv := fun hs' (h : hs.Sublist hs') => k_Validate ps oP oS cP m cS sm e hn hsm hm B w0 hs' (hC.sub h)
  have kh := fun hs => k_VHead R F E W K N B w0 hs
  by_cases hv : vdC ps sm m e = 0
  · have V := vdC_0 hv
    have hv' : vdE ps.length (sdF ps) (anF ps) m sm e = 0 := hv
    rw [hv'] at kv
    by_cases hh : hdE R F E W K N = 0
    · rw [hh] at kh
      have k1 := fun hs' (h : hs.Sublist hs') => k_Parts ps oP oS cP m cS sm e hn hsm hm B w0 hs' (hC.sub h)
      have k2 := fun hs' (h : hs.Sublist hs') => k_Handles ps oP oS cP m cS sm e hn hsm hm B w0 hs' (hC.sub h)
      have k3 := fun hs' (h : hs.Sublist hs') => (k_Hairline ps oP oS cP m cS sm e hn hsm hm B w0 hs' (hC.sub h)).mono (R' := fun v h => ∃ oa c blk, RowOk oa c 1 (ivs (hrC ps sm m)) blk ∧ v = .tuple #[.slice oa (hrC ps sm m).length c, iv 0] ∧ h = blk ++ hs') (by
        rintro v h (⟨h0, _⟩ | ⟨_, h1⟩)
        · exact absurd hv h0
        · exact h1)
      rw [if_pos hv, hv] at k1 k2
      have hp8 := paC_in V
      have hR : 1 ≤ R ∧ R ≤ 200 := by
        by_cases h6 : ∀ i, i < 6 → hdO [R, F, E, W, K, N] i
        · exact (hd6 h6).1
        · rw [hdE_1 h6] at hh; exact absurd hh (by decide)
      have hwE : wrE ps sm m e R F E W K N = 0 := by unfold wrE; rw [if_neg (fun h => h hv)]; exact hh
      have hwB : wrB ps sm m e R F E W K N = decide (paC ps sm m = 1 ∧ haC ps sm m = 0 ∧ 0 < (hrC ps sm m).length ∧ R ≤ mx0 (hrC ps sm m) (hrC ps sm m).length ∧ mx0 (hrC ps sm m) (hrC ps sm m).length ≤ R + 5) := by
        unfold wrB; simp only [hv, hh, true_and]
      rw [hwE, hwB]
      have hl : (hrC ps sm m).length ≤ 48 := by rw [hrC_len]; exact V.lpn
      have h00 := hr_nn V 0
      generalize paC ps sm m = pa at *
      generalize haC ps sm m = ha at *
      generalize hrC ps sm m = hr at *
      have kx := fun oa c hs' (h0 : 0 < hr.length) (h1 : Sl B w0 hs' oa hr) => k_max oa c hr (by omega) h0 h00 B w0 hs' h1
      have kw := fun x lo hi hs => k_within x lo hi B w0 hs
      refine fn_enter Try.func45 rfl Try.ntmps45 (by simp) ?_
      repeat' (first | ((with_reducible apply kP (.box 25 _)); refine sBA (fun b3 => ?_)) | ((with_reducible apply kP (.box 50 _)); refine sBA (fun b4 => ?_)) | ((with_reducible apply kP (.load 50 _)); refine sP ?_ (o_load rfl (ld_own (shTOf rfl) MMt rfl rfl))) | ((with_reducible apply kDP (.load 50 _)); refine dP ?_ (hX := rfl) (hv := o_load rfl (ld_own (shTOf rfl) MMt rfl rfl))) | ((with_reducible apply kQO (.load 50 _)); refine qP ?_ (o_load rfl (ld_own (shTOf rfl) MMt rfl rfl))) | ((with_reducible apply kF 18); refine sC 18 (kv _ SBt) ?_) | ((with_reducible apply kF 32); refine sC 32 (kh _) ?_) | ((with_reducible apply kF 71); refine sC 71 (k1 _ SBt) ?_) | ((with_reducible apply kF 72); refine sC 72 (k2 _ SBt) ?_) | ((with_reducible apply kF 26); refine sR 26 (k3 _ SBt) ?_; rintro v7 h7 ⟨oa5, c5, k5, hr5, rfl, rfl⟩) | ((with_reducible apply kF 83); refine sC 83 (kx oa5 c5 _ (by omega) ((Sl.row hr5).sub SBt)) ?_) | ((with_reducible apply kDF 83); refine dC 83 (fun F => kx oa5 c5 _ (by omega) ((Sl.row hr5).sub (sbA SBt))) ?_) | ((with_reducible apply kF 53); refine sC 53 (kw _ _ _ _) ?_) | ((with_reducible apply kDF 53); refine dC 53 (fun F => kw _ _ _ _) ?_) | ((with_reducible apply kRg 10); refine cD [1, 1, 1, 1, 1, 1, 1, 1, 1, 1, 1, 1, 1, 3, 0, 0, 0, 0, 0, 4, 1, 1, 1] ?_) | (with_reducible first | refine c_seq ?_ | refine c_reg ?_ | refine c_region ?_ | refine c_block ?_ | refine c_skip ?_ | refine c_exit ?_ | refine c_ret ?_ | refine s_nil ?_ | refine x_then ?_ | refine x_then_exit ?_ | refine x_then_ret ?_ | refine x_block ?_ | refine x_block_ret ?_ | refine x_block_same ?_ | refine x_block_other (by first | rfl | decide) ?_ | refine q_nil ?_ | refine k_nil ?_) | ((with_reducible apply kP (.box _ _)); first | refine sBA (fun b => ?_) | refine sB (fun b => ?_)) | ((with_reducible apply kP _); refine sP ?_) | ((with_reducible apply kP _); refine sX ?_) | ((with_reducible apply kC); first | refine cT ?_ | refine cF ?_ | (refine cI (fun h => ?_) (fun h => ?_) <;> (try (exfalso; omega))) | refine cB (fun h => ?_) (fun h => ?_)) | ((with_reducible apply kDG); first | refine dY1 ?_ | refine dNo1 ?_ | refine dU1 ?_ | (refine dD1 (fun h => ?_) (fun h => ?_) <;> (try (exfalso; omega))) | refine dB1 (fun h => ?_) (fun h => ?_)) | ((with_reducible apply kDP _); refine dP ?_) | ((with_reducible apply kDP _); refine dX ?_))
      · rw [decide_eq_decide.2 (show (pa = 1 ∧ ha = 0 ∧ 0 < hr.length ∧ R ≤ mx0 hr hr.length ∧ mx0 hr hr.length ≤ R + 5) ↔ (R ≤ mx0 hr hr.length ∧ mx0 hr hr.length ≤ R + 5) by omega)]
        exact e_ret2 (hs' := hs) rfl rfl rfl ⟨rfl, rfl⟩ SCt
      all_goals
        rw [decide_eq_false (show ¬ (pa = 1 ∧ ha = 0 ∧ 0 < hr.length ∧ R ≤ mx0 hr hr.length ∧ mx0 hr hr.length ≤ R + 5) by omega)]
        exact e_ret2 (hs' := hs) rfl rfl rfl ⟨rfl, rfl⟩ SCt
    · have hwE : wrE ps sm m e R F E W K N = hdE R F E W K N := by unfold wrE; rw [if_neg (fun h => h hv)]
      have hwB : wrB ps sm m e R F E W K N = false := by unfold wrB; exact decide_eq_false fun h => hh h.2.1
      rw [hwE, hwB]
      generalize hdE R F E W K N = z at *
      refine fn_enter Try.func45 rfl Try.ntmps45 (by simp) ?_
      repeat' (first | ((with_reducible apply kP (.box 25 _)); refine sBA (fun b3 => ?_)) | ((with_reducible apply kP (.box 50 _)); refine sBA (fun b4 => ?_)) | ((with_reducible apply kP (.load 50 _)); refine sP ?_ (o_load rfl (ld_own (shTOf rfl) MMt rfl rfl))) | ((with_reducible apply kDP (.load 50 _)); refine dP ?_ (hX := rfl) (hv := o_load rfl (ld_own (shTOf rfl) MMt rfl rfl))) | ((with_reducible apply kQO (.load 50 _)); refine qP ?_ (o_load rfl (ld_own (shTOf rfl) MMt rfl rfl))) | ((with_reducible apply kF 18); refine sC 18 (kv _ SBt) ?_) | ((with_reducible apply kF 32); refine sC 32 (kh _) ?_) | ((with_reducible apply kRg 10); refine cD [1, 1, 1, 1, 1, 1, 1, 1, 1, 1, 1, 1, 1, 3, 0, 0, 0, 0, 0, 4, 1, 1, 1] ?_) | (with_reducible first | refine c_seq ?_ | refine c_reg ?_ | refine c_region ?_ | refine c_block ?_ | refine c_skip ?_ | refine c_exit ?_ | refine c_ret ?_ | refine s_nil ?_ | refine x_then ?_ | refine x_then_exit ?_ | refine x_then_ret ?_ | refine x_block ?_ | refine x_block_ret ?_ | refine x_block_same ?_ | refine x_block_other (by first | rfl | decide) ?_ | refine q_nil ?_ | refine k_nil ?_) | ((with_reducible apply kP (.box _ _)); first | refine sBA (fun b => ?_) | refine sB (fun b => ?_)) | ((with_reducible apply kP _); refine sP ?_) | ((with_reducible apply kP _); refine sX ?_) | ((with_reducible apply kC); first | refine cT ?_ | refine cF ?_ | (refine cI (fun h => ?_) (fun h => ?_) <;> (try (exfalso; omega))) | refine cB (fun h => ?_) (fun h => ?_)) | ((with_reducible apply kDG); first | refine dY1 ?_ | refine dNo1 ?_ | refine dU1 ?_ | (refine dD1 (fun h => ?_) (fun h => ?_) <;> (try (exfalso; omega))) | refine dB1 (fun h => ?_) (fun h => ?_)) | ((with_reducible apply kDP _); refine dP ?_) | ((with_reducible apply kDP _); refine dX ?_))
      exact e_ret2 (hs' := hs) rfl rfl rfl ⟨rfl, rfl⟩ SCt
  · have hwE : wrE ps sm m e R F E W K N = vdC ps sm m e := by unfold wrE; rw [if_pos hv]
    have hwB : wrB ps sm m e R F E W K N = false := by unfold wrB; exact decide_eq_false fun h => hv h.1
    have hv' : vdE ps.length (sdF ps) (anF ps) m sm e ≠ 0 := hv
    have hv2 : vdC ps sm m e = vdE ps.length (sdF ps) (anF ps) m sm e := rfl
    rw [hwE, hwB, hv2]
    generalize vdE ps.length (sdF ps) (anF ps) m sm e = z at *
    refine fn_enter Try.func45 rfl Try.ntmps45 (by simp) ?_
    repeat' (first | ((with_reducible apply kP (.box 25 _)); refine sBA (fun b3 => ?_)) | ((with_reducible apply kP (.box 50 _)); refine sBA (fun b4 => ?_)) | ((with_reducible apply kF 18); refine sC 18 (kv _ SBt) ?_) | ((with_reducible apply kRg 10); refine cD [1, 1, 1, 1, 1, 1, 1, 1, 1, 1, 1, 1, 1, 3, 0, 0, 0, 0, 0, 4, 1, 1, 1] ?_) | (with_reducible first | refine c_seq ?_ | refine c_reg ?_ | refine c_region ?_ | refine c_block ?_ | refine c_skip ?_ | refine c_exit ?_ | refine c_ret ?_ | refine s_nil ?_ | refine x_then ?_ | refine x_then_exit ?_ | refine x_then_ret ?_ | refine x_block ?_ | refine x_block_ret ?_ | refine x_block_same ?_ | refine x_block_other (by first | rfl | decide) ?_ | refine q_nil ?_ | refine k_nil ?_) | ((with_reducible apply kP (.box _ _)); first | refine sBA (fun b => ?_) | refine sB (fun b => ?_)) | ((with_reducible apply kP _); refine sP ?_) | ((with_reducible apply kP _); refine sX ?_) | ((with_reducible apply kC); first | refine cT ?_ | refine cF ?_ | (refine cI (fun h => ?_) (fun h => ?_) <;> (try (exfalso; omega))) | refine cB (fun h => ?_) (fun h => ?_)) | ((with_reducible apply kDG); first | refine dY1 ?_ | refine dNo1 ?_ | refine dU1 ?_ | (refine dD1 (fun h => ?_) (fun h => ?_) <;> (try (exfalso; omega))) | refine dB1 (fun h => ?_) (fun h => ?_)) | ((with_reducible apply kDP _); refine dP ?_) | ((with_reducible apply kDP _); refine dX ?_))
    exact e_ret2 (hs' := hs) rfl rfl rfl ⟨rfl, rfl⟩ SCt
set_option maxRecDepth 100000 in
set_option maxHeartbeats 8000000 in
theorem r_Wears (ps : List Pc) (oP oS : Option Addr) (cP m cS : Nat) (sm : List Int) (e R F E W K N : Int) (hn : ps.length ≤ 100) (hsm : sm.length = m * 4) (hm : m ≤ 100) (B : Nat) (w0 : Wd) (hs : HS) (hC : CapM B w0 hs oP oS ps sm) :
    Fn Try.prog 46 #[.agg #[.slice oP ps.length cP, .slice oS m cS, iv e], .agg #[iv R, iv F, iv E, iv W, iv K, iv N]] B w0 hs (fun v h => v = .tuple #[.bool (wrB ps sm m e R F E W K N), iv (wrE ps sm m e R F E W K N)] ∧ h = hs) := by
  have kv := fun hs' (h : hs.Sublist hs') => r_Validate ps oP oS cP m cS sm e hn hsm hm B w0 hs' (hC.sub h)
  have kh := fun hs => r_VHead R F E W K N B w0 hs
  by_cases hv : vdC ps sm m e = 0
  · have V := vdC_0 hv
    have hv' : vdE ps.length (sdF ps) (anF ps) m sm e = 0 := hv
    rw [hv'] at kv
    by_cases hh : hdE R F E W K N = 0
    · rw [hh] at kh
      have ks := fun hs' (h : hs.Sublist hs') => r_open ps oP oS cP m cS sm e V.n8 V.n1 hsm hm V.ok V.se B w0 hs' (hC.sub h)
      have k1 := fun t hs' h => r_partsC V t B w0 hs' h
      have k2 := fun hs' (h : hs.Sublist hs') => r_handles ps oP oS cP m cS sm e V hsm hm B w0 hs' (hC.sub h)
      have k3 := fun hs' (h : hs.Sublist hs') => r_hairline ps oP oS cP m cS sm e V hsm hm B w0 hs' (hC.sub h)
      have hp8 := paC_in V
      have hn8 := V.n8
      have hR : 1 ≤ R ∧ R ≤ 200 := by
        by_cases h6 : ∀ i, i < 6 → hdO [R, F, E, W, K, N] i
        · exact (hd6 h6).1
        · rw [hdE_1 h6] at hh; exact absurd hh (by decide)
      have hwE : wrE ps sm m e R F E W K N = 0 := by unfold wrE; rw [if_neg (fun h => h hv)]; exact hh
      have hwB : wrB ps sm m e R F E W K N = decide (paC ps sm m = 1 ∧ haC ps sm m = 0 ∧ 0 < (hrC ps sm m).length ∧ R ≤ mx0 (hrC ps sm m) (hrC ps sm m).length ∧ mx0 (hrC ps sm m) (hrC ps sm m).length ≤ R + 5) := by
        unfold wrB; simp only [hv, hh, true_and]
      rw [hwE, hwB]
      have hl : (hrC ps sm m).length ≤ 48 := by rw [hrC_len]; exact V.lpn
      generalize paC ps sm m = pa at *
      generalize haC ps sm m = ha at *
      generalize hrC ps sm m = hr at *
      have kw := fun x lo hi hs => r_within x lo hi B w0 hs
      refine fn_enter Try.func46 rfl Try.ntmps46 (by simp) ?_
      repeat' (first | ((with_reducible apply kP (.box 25 _)); refine sBA (fun b3 => ?_)) | ((with_reducible apply kP (.box 50 _)); refine sBA (fun b4 => ?_)) | ((with_reducible apply kP (.load 50 _)); refine sP ?_ (o_load rfl (ld_own (shTOf rfl) MMt rfl rfl))) | ((with_reducible apply kDP (.load 50 _)); refine dP ?_ (hX := rfl) (hv := o_load rfl (ld_own (shTOf rfl) MMt rfl rfl))) | ((with_reducible apply kQO (.load 50 _)); refine qP ?_ (o_load rfl (ld_own (shTOf rfl) MMt rfl rfl))) | ((with_reducible apply kF 19); refine sC 19 (kv _ SBt) ?_) | ((with_reducible apply kF 33); refine sC 33 (kh _) ?_) | ((with_reducible apply kF 68); refine sR 68 (k3 _ SBt) ?_; rintro v7 h7 ⟨k5, ⟨oa5, c5, hr5, rfl⟩, rfl⟩) | ((with_reducible apply kRg 13); refine cD [1, 3, 0, 0, 0, 4, 1, 1, 1, 4, 1, 1, 1, 1, 1, 1, 1, 1, 1, 1, 1, 1, 1, 1, 4, 1, 1, 1] ?_) | (with_reducible first | refine c_seq ?_ | refine c_reg ?_ | refine c_region ?_ | refine c_block ?_ | refine c_skip ?_ | refine c_exit ?_ | refine c_ret ?_ | refine s_nil ?_ | refine x_then ?_ | refine x_then_exit ?_ | refine x_then_ret ?_ | refine x_block ?_ | refine x_block_ret ?_ | refine x_block_same ?_ | refine x_block_other (by first | rfl | decide) ?_ | refine q_nil ?_ | refine k_nil ?_) | ((with_reducible apply kP (.box _ _)); first | refine sBA (fun b => ?_) | refine sB (fun b => ?_)) | ((with_reducible apply kP _); refine sP ?_) | ((with_reducible apply kP _); refine sX ?_) | ((with_reducible apply kC); first | refine cT ?_ | refine cF ?_ | (refine cI (fun h => ?_) (fun h => ?_) <;> (try (exfalso; omega))) | refine cB (fun h => ?_) (fun h => ?_)) | ((with_reducible apply kDG); first | refine dY1 ?_ | refine dNo1 ?_ | refine dU1 ?_ | (refine dD1 (fun h => ?_) (fun h => ?_) <;> (try (exfalso; omega))) | refine dB1 (fun h => ?_) (fun h => ?_)) | ((with_reducible apply kDP _); refine dP ?_) | ((with_reducible apply kDP _); refine dX ?_))
      refine c_loop (fun k : Nat => [(2, .pointer (some ⟨b3, 0, none⟩)), (3, .pointer (some ⟨b4, 0, none⟩)), (8, iv (mx0 hr k)), (9, .slice oa5 hr.length c5), (10, iv k)]) (fun _ => k5 ++ ((b4, ivs [R, F, E, W, K, N]) :: (b3, [.slice oP ps.length cP, .slice oS m cS, iv e]) :: hs)) (fun k => k ≤ hr.length) (fun k => hr.length - k) 0 (Nat.zero_le _) (by repeat' first | trivial | rfl | apply And.intro) (.refl _) ?_
      intro k hk
      by_cases hk' : k < hr.length
      · have hSL : Sl B w0 (k5 ++ ((b4, ivs [R, F, E, W, K, N]) :: (b3, [.slice oP ps.length cP, .slice oS m cS, iv e]) :: hs)) oa5 hr := (Sl.row hr5).sub (List.sublist_append_left k5 _)
        have g1 := hSL.any hk'
        repeat' (first | ((with_reducible apply kRg 13); refine cD [1, 3, 0, 0, 0, 4, 1, 1, 1, 4, 1, 1, 1, 1, 1, 1, 1, 1, 1, 1, 1, 1, 1, 1, 4, 1, 1, 1] ?_) | (with_reducible first | refine c_seq ?_ | refine c_reg ?_ | refine c_region ?_ | refine c_block ?_ | refine c_skip ?_ | refine c_exit ?_ | refine c_ret ?_ | refine s_nil ?_ | refine x_then ?_ | refine x_then_exit ?_ | refine x_then_ret ?_ | refine x_block ?_ | refine x_block_ret ?_ | refine x_block_same ?_ | refine x_block_other (by first | rfl | decide) ?_ | refine q_nil ?_ | refine k_nil ?_) | ((with_reducible apply kP (.box _ _)); first | refine sBA (fun b => ?_) | refine sB (fun b => ?_)) | ((with_reducible apply kP _); refine sP ?_) | ((with_reducible apply kP _); refine sX ?_) | ((with_reducible apply kC); first | refine cT ?_ | refine cF ?_ | (refine cI (fun h => ?_) (fun h => ?_) <;> (try (exfalso; omega))) | refine cB (fun h => ?_) (fun h => ?_)) | ((with_reducible apply kDG); first | refine dY1 ?_ | refine dNo1 ?_ | refine dU1 ?_ | (refine dD1 (fun h => ?_) (fun h => ?_) <;> (try (exfalso; omega))) | refine dB1 (fun h => ?_) (fun h => ?_)) | ((with_reducible apply kDP _); refine dP ?_) | ((with_reducible apply kDP _); refine dX ?_))
        exact r_end (k + 1) hk' (by omega) (by repeat' first | trivial | rfl | apply And.intro) (.refl _)
      · obtain rfl : hr.length = k := by omega
        repeat' (first | ((with_reducible apply kDF 63); (first | refine dN3 63 (fun F => ks _ (sbA SBt)) ?_ | refine dN4 63 (fun F => ks _ (sbA SBt)) ?_); rintro v7 blk7 ⟨t, k1', k2', k3', k4', k5', rfl, hR', rfl⟩; unfold Nt.cells) | ((with_reducible apply kDF 73); refine dC 73 (fun F => k1 t _ (hR'.at0.sub (sbA SBt))) ?_) | ((with_reducible apply kDF 75); refine dC 75 (fun F => k2 _ (sbA SBt)) ?_) | ((with_reducible apply kDF 58); refine dC 58 (fun F => kw _ _ _ _) ?_) | ((with_reducible apply kRg 13); refine cD [1, 3, 0, 0, 0, 4, 1, 1, 1, 4, 1, 1, 1, 1, 1, 1, 1, 1, 1, 1, 1, 1, 1, 1, 4, 1, 1, 1] ?_) | (with_reducible first | refine c_seq ?_ | refine c_reg ?_ | refine c_region ?_ | refine c_block ?_ | refine c_skip ?_ | refine c_exit ?_ | refine c_ret ?_ | refine s_nil ?_ | refine x_then ?_ | refine x_then_exit ?_ | refine x_then_ret ?_ | refine x_block ?_ | refine x_block_ret ?_ | refine x_block_same ?_ | refine x_block_other (by first | rfl | decide) ?_ | refine q_nil ?_ | refine k_nil ?_) | ((with_reducible apply kP (.box _ _)); first | refine sBA (fun b => ?_) | refine sB (fun b => ?_)) | ((with_reducible apply kP _); refine sP ?_) | ((with_reducible apply kP _); refine sX ?_) | ((with_reducible apply kC); first | refine cT ?_ | refine cF ?_ | (refine cI (fun h => ?_) (fun h => ?_) <;> (try (exfalso; omega))) | refine cB (fun h => ?_) (fun h => ?_)) | ((with_reducible apply kDG); first | refine dY1 ?_ | refine dNo1 ?_ | refine dU1 ?_ | (refine dD1 (fun h => ?_) (fun h => ?_) <;> (try (exfalso; omega))) | refine dB1 (fun h => ?_) (fun h => ?_)) | ((with_reducible apply kDP _); refine dP ?_) | ((with_reducible apply kDP _); refine dX ?_))
        · rw [decide_eq_decide.2 (show (pa = 1 ∧ ha = 0 ∧ 0 < hr.length ∧ R ≤ mx0 hr hr.length ∧ mx0 hr hr.length ≤ R + 5) ↔ (R ≤ mx0 hr hr.length ∧ mx0 hr hr.length ≤ R + 5) by omega)]
          exact e_ret2 (hs' := hs) rfl rfl rfl ⟨rfl, rfl⟩ SCt
        all_goals
          rw [decide_eq_false (show ¬ (pa = 1 ∧ ha = 0 ∧ 0 < hr.length ∧ R ≤ mx0 hr hr.length ∧ mx0 hr hr.length ≤ R + 5) by omega)]
          exact e_ret2 (hs' := hs) rfl rfl rfl ⟨rfl, rfl⟩ SCt
    · have hwE : wrE ps sm m e R F E W K N = hdE R F E W K N := by unfold wrE; rw [if_neg (fun h => h hv)]
      have hwB : wrB ps sm m e R F E W K N = false := by unfold wrB; exact decide_eq_false fun h => hh h.2.1
      rw [hwE, hwB]
      generalize hdE R F E W K N = z at *
      refine fn_enter Try.func46 rfl Try.ntmps46 (by simp) ?_
      repeat' (first | ((with_reducible apply kP (.box 25 _)); refine sBA (fun b3 => ?_)) | ((with_reducible apply kP (.box 50 _)); refine sBA (fun b4 => ?_)) | ((with_reducible apply kP (.load 50 _)); refine sP ?_ (o_load rfl (ld_own (shTOf rfl) MMt rfl rfl))) | ((with_reducible apply kDP (.load 50 _)); refine dP ?_ (hX := rfl) (hv := o_load rfl (ld_own (shTOf rfl) MMt rfl rfl))) | ((with_reducible apply kQO (.load 50 _)); refine qP ?_ (o_load rfl (ld_own (shTOf rfl) MMt rfl rfl))) | ((with_reducible apply kF 19); refine sC 19 (kv _ SBt) ?_) | ((with_reducible apply kF 33); refine sC 33 (kh _) ?_) | ((with_reducible apply kRg 13); refine cD [1, 3, 0, 0, 0, 4, 1, 1, 1, 4, 1, 1, 1, 1, 1, 1, 1, 1, 1, 1, 1, 1, 1, 1, 4, 1, 1, 1] ?_) | (with_reducible first | refine c_seq ?_ | refine c_reg ?_ | refine c_region ?_ | refine c_block ?_ | refine c_skip ?_ | refine c_exit ?_ | refine c_ret ?_ | refine s_nil ?_ | refine x_then ?_ | refine x_then_exit ?_ | refine x_then_ret ?_ | refine x_block ?_ | refine x_block_ret ?_ | refine x_block_same ?_ | refine x_block_other (by first | rfl | decide) ?_ | refine q_nil ?_ | refine k_nil ?_) | ((with_reducible apply kP (.box _ _)); first | refine sBA (fun b => ?_) | refine sB (fun b => ?_)) | ((with_reducible apply kP _); refine sP ?_) | ((with_reducible apply kP _); refine sX ?_) | ((with_reducible apply kC); first | refine cT ?_ | refine cF ?_ | (refine cI (fun h => ?_) (fun h => ?_) <;> (try (exfalso; omega))) | refine cB (fun h => ?_) (fun h => ?_)) | ((with_reducible apply kDG); first | refine dY1 ?_ | refine dNo1 ?_ | refine dU1 ?_ | (refine dD1 (fun h => ?_) (fun h => ?_) <;> (try (exfalso; omega))) | refine dB1 (fun h => ?_) (fun h => ?_)) | ((with_reducible apply kDP _); refine dP ?_) | ((with_reducible apply kDP _); refine dX ?_))
      exact e_ret2 (hs' := hs) rfl rfl rfl ⟨rfl, rfl⟩ SCt
  · have hwE : wrE ps sm m e R F E W K N = vdC ps sm m e := by unfold wrE; rw [if_pos hv]
    have hwB : wrB ps sm m e R F E W K N = false := by unfold wrB; exact decide_eq_false fun h => hv h.1
    have hv' : vdE ps.length (sdF ps) (anF ps) m sm e ≠ 0 := hv
    have hv2 : vdC ps sm m e = vdE ps.length (sdF ps) (anF ps) m sm e := rfl
    rw [hwE, hwB, hv2]
    generalize vdE ps.length (sdF ps) (anF ps) m sm e = z at *
    refine fn_enter Try.func46 rfl Try.ntmps46 (by simp) ?_
    repeat' (first | ((with_reducible apply kP (.box 25 _)); refine sBA (fun b3 => ?_)) | ((with_reducible apply kP (.box 50 _)); refine sBA (fun b4 => ?_)) | ((with_reducible apply kF 19); refine sC 19 (kv _ SBt) ?_) | ((with_reducible apply kRg 13); refine cD [1, 3, 0, 0, 0, 4, 1, 1, 1, 4, 1, 1, 1, 1, 1, 1, 1, 1, 1, 1, 1, 1, 1, 1, 4, 1, 1, 1] ?_) | (with_reducible first | refine c_seq ?_ | refine c_reg ?_ | refine c_region ?_ | refine c_block ?_ | refine c_skip ?_ | refine c_exit ?_ | refine c_ret ?_ | refine s_nil ?_ | refine x_then ?_ | refine x_then_exit ?_ | refine x_then_ret ?_ | refine x_block ?_ | refine x_block_ret ?_ | refine x_block_same ?_ | refine x_block_other (by first | rfl | decide) ?_ | refine q_nil ?_ | refine k_nil ?_) | ((with_reducible apply kP (.box _ _)); first | refine sBA (fun b => ?_) | refine sB (fun b => ?_)) | ((with_reducible apply kP _); refine sP ?_) | ((with_reducible apply kP _); refine sX ?_) | ((with_reducible apply kC); first | refine cT ?_ | refine cF ?_ | (refine cI (fun h => ?_) (fun h => ?_) <;> (try (exfalso; omega))) | refine cB (fun h => ?_) (fun h => ?_)) | ((with_reducible apply kDG); first | refine dY1 ?_ | refine dNo1 ?_ | refine dU1 ?_ | (refine dD1 (fun h => ?_) (fun h => ?_) <;> (try (exfalso; omega))) | refine dB1 (fun h => ?_) (fun h => ?_)) | ((with_reducible apply kDP _); refine dP ?_) | ((with_reducible apply kDP _); refine dX ?_))
    exact e_ret2 (hs' := hs) rfl rfl rfl ⟨rfl, rfl⟩ SCt
end Go.Proofs.Ytnbickholedckaa
