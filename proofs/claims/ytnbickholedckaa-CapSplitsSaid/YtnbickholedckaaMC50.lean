/- Copies in memory; Sew of the program and of the reference. -/
import Derived.Test.YtnbickholedckaaMC49
import Derived.Test.YtnbickholedckaaMB7
import Derived.Test.YtnbickholedckaaMB6
import Derived.Test.YtnbickholedckaaMB3
namespace Go.Proofs.Ytnbickholedckaa
open Go.RowKit
attribute [local irreducible] OpF Ld CellAt Sl Sv pcA usP
theorem r_CopyC (ps : List Pc) (oP oS : Option Addr) (cP m cS : Nat) (sm : List Int) (e : Int) (hn : ps.length ≤ 100) (hl : ∀ i, i < ps.length → (pcA ps i).sd.length ≤ 100 ∧ (pcA ps i).an.length ≤ 100) (hsm : sm.length = m * 4) (hm : m ≤ 100) (B : Nat) (w0 : Wd) (hs : HS) (hC : CapM B w0 hs oP oS ps sm) :
    Fn Try.prog 17 #[.agg #[.slice oP ps.length cP, .slice oS m cS, iv e]] B w0 hs (fun v h => ∃ blk, CpR ps sm m e v blk ∧ h = blk ++ hs) :=
  (r_Copy ps oP oS cP m cS sm e hn hl hsm hm B w0 hs hC).mono (by
    rintro v h ⟨oP', cP', oS', cS', rs, bo, ko, g1, g2, g3, g4, g5, g6, rfl⟩
    exact ⟨_, ⟨oP', cP', oS', cS', rs, bo, ko, g1, g2, g3, g4, g5, g6, rfl⟩, rfl⟩)
/-- The same pieces, elsewhere. -/
structure SmP (qs ps : List Pc) : Prop where
  len : qs.length = ps.length
  sd : sdF qs = sdF ps
  an : anF qs = anF ps
theorem smP {rs : List Rp} {ps : List Pc} (h : rs.length = ps.length) (g : ∀ i, i < ps.length → (pcA (rpP rs) i).sd = (pcA ps i).sd ∧ (pcA (rpP rs) i).an = (pcA ps i).an) : SmP (rpP rs) ps := by
  have hlen : (rpP rs).length = ps.length := by rw [rpP, List.length_map]; exact h
  refine ⟨hlen, funext fun i => ?_, funext fun i => ?_⟩
  · by_cases h : i < ps.length
    · exact (g i h).1
    · unfold sdF; rw [pcA_ge (by omega), pcA_ge (by omega)]
  · by_cases h : i < ps.length
    · exact (g i h).2
    · unfold anF; rw [pcA_ge (by omega), pcA_ge (by omega)]
theorem SmP.at {qs ps : List Pc} (h : SmP qs ps) (i : Nat) : (pcA qs i).sd = (pcA ps i).sd ∧ (pcA qs i).an = (pcA ps i).an := ⟨congrFun h.sd i, congrFun h.an i⟩
theorem SmP.vd {qs ps : List Pc} (h : SmP qs ps) (sm : List Int) (m : Nat) (e : Int) : vdC qs sm m e = vdC ps sm m e := by unfold vdC; rw [h.len, h.sd, h.an]
theorem CpR.m {ps : List Pc} {sm : List Int} {m : Nat} {e : Int} {u : Value} {blk : HS} {B : Nat} {w0 : Wd} (h : CpR ps sm m e u blk) : ∃ qs oP cP oS cS, u = .agg #[.slice oP qs.length cP, .slice oS m cS, iv e] ∧ SmP qs ps ∧ ∀ F, CapM B w0 (blk ++ F) oP oS qs sm := by
  obtain ⟨oP', cP', oS', cS', rs, bo, ko, g1, g2, g3, g4, g5, g6, rfl⟩ := h
  have hs := smP g4 g5
  exact ⟨rpP rs, oP', cP', oS', cS', by rw [g1, hs.len], hs, fun F => capC g2 g3 g6⟩
def zcap : Value := .agg #[.slice none 0 0, .slice none 0 0, iv 0]
def swV (ps : List Pc) (sm : List Int) (m : Nat) (e : Int) (s : List Int) : Int := if vdC ps sm m e ≠ 0 then vdC ps sm m e else vdC ps (sm ++ s) (m + 1) e
/-- A cap, or an error. -/
def CeR (E : Int) (ps : List Pc) (sm : List Int) (m : Nat) (e : Int) (hs : HS) (v : Value) (h : HS) : Prop := (E ≠ 0 ∧ v = .tuple #[zcap, iv E] ∧ h = hs) ∨ (E = 0 ∧ ∃ u blk, CpR ps sm m e u blk ∧ v = .tuple #[u, iv 0] ∧ h = blk ++ hs)
theorem vdC_ok {ps : List Pc} {sm : List Int} {m : Nat} {e : Int} (V : VdC ps sm m e) : ∀ i, i < ps.length → (pcA ps i).sd.length ≤ 100 ∧ (pcA ps i).an.length ≤ 100 := fun i hi => by
  have h1 := (V.ok i hi).1
  have h2 := (V.ok i hi).2.1
  unfold sdF at h1 h2
  unfold anF at h2
  omega
set_option maxRecDepth 100000 in
set_option maxHeartbeats 8000000 in
theorem k_Sew (ps : List Pc) (oP oS : Option Addr) (cP m cS : Nat) (sm : List Int) (e A I D J : Int) (hn : ps.length ≤ 100) (hsm : sm.length = m * 4) (hm : m < 100) (B : Nat) (w0 : Wd) (hs : HS) (hC : CapM B w0 hs oP oS ps sm) :
    Fn Try.prog 34 #[.agg #[.slice oP ps.length cP, .slice oS m cS, iv e], .agg #[iv A, iv I, iv D, iv J]] B w0 hs (CeR (swV ps sm m e [A, I, D, J]) ps (sm ++ [A, I, D, J]) (m + 1) e hs) := by
  have kv := fun hs' (h : hs.Sublist hs') => k_Validate ps oP oS cP m cS sm e hn hsm (by omega) B w0 hs' (hC.sub h)
  unfold CeR swV
  by_cases hv : vdC ps sm m e = 0
  · have V := vdC_0 hv
    rw [if_neg (fun h => h hv)]
    have hv' : vdE ps.length (sdF ps) (anF ps) m sm e = 0 := hv
    rw [hv'] at kv
    have kc := fun hs' (h : hs.Sublist hs') => k_copyCap ps oP oS cP m cS sm e (by omega) V.n1 (vdC_ok V) hsm (by omega) B w0 hs' (hC.sub h)
    refine fn_enter Try.func34 rfl Try.ntmps34 (by simp) ?_
    repeat' (first | ((with_reducible apply kP (.box 25 _)); refine sBA (fun b2 => ?_)) | ((with_reducible apply kP (.box 56 _)); refine sBA (fun b3 => ?_)) | ((with_reducible apply kP (.alloc 25)); refine sA (fun b4 => ?_)) | ((with_reducible apply kF 18); refine sC 18 (kv _ SBt) ?_) | ((with_reducible apply kF 69); refine sR 69 (kc _ SBt) ?_; rintro v7 h7 ⟨blk7, ⟨oP', cP', oS', cS', rs, bo, ko, rfl, g2, g3, g4, g5, g6, rfl⟩, rfl⟩; rw [List.append_assoc, List.append_assoc]) | ((with_reducible apply kN); first | refine stC ?_ | refine stW ?_ (hf := flat_cons rfl (flat_cons rfl (flat1 rfl)))) | ((with_reducible apply kP (.call ⟨.builtin .append, _, _⟩)); refine sAp (fun oa5 c5 ko5 hr5 => ?_) (hr := g6) (hk := by rw [ivs_length]; exact hsm) (hf := flat_cons rfl (flat_cons rfl (flat_cons rfl (flat1 rfl))))) | (with_reducible first | refine c_seq ?_ | refine c_reg ?_ | refine c_region ?_ | refine c_block ?_ | refine c_skip ?_ | refine c_exit ?_ | refine c_ret ?_ | refine s_nil ?_ | refine x_then ?_ | refine x_then_exit ?_ | refine x_then_ret ?_ | refine x_block ?_ | refine x_block_ret ?_ | refine x_block_same ?_ | refine x_block_other (by first | rfl | decide) ?_ | refine q_nil ?_ | refine k_nil ?_) | ((with_reducible apply kN); first | refine stP ?_ | refine stI ?_ | refine st1 ?_ | refine stW ?_) | ((with_reducible apply kP (.alloc _)); refine sA (fun b => ?_)) | ((with_reducible apply kP (.box _ _)); first | refine sBA (fun b => ?_) | refine sB (fun b => ?_)) | ((with_reducible apply kP (.buildSlice _ 1 _)); first | refine sl1A (fun b => ?_) | refine sl1 (fun b => ?_)) | ((with_reducible apply kP (.call ⟨.builtin .append, _, _⟩)); refine sAp (fun oa2 c2 blk2 hrow2 => ?_)) | ((with_reducible apply kP _); refine sP ?_) | ((with_reducible apply kP _); refine sX ?_) | ((with_reducible apply kC); first | refine cT ?_ | refine cF ?_ | (refine cI (fun h => ?_) (fun h => ?_) <;> (try (exfalso; omega))) | refine cB (fun h => ?_) (fun h => ?_)))
    rename_i b5
    have hP := smP g4 g5
    have hr6 : RowOk oa5 c5 4 (ivs (sm ++ [A, I, D, J])) ko5 := by
      have e : ivs (sm ++ [A, I, D, J]) = ivs sm ++ [iv A, iv I, iv D, iv J] := by simp [ivs]
      rw [e]; exact hr5
    have hsm' : (sm ++ [A, I, D, J]).length = (m + 1) * 4 := by simp; omega
    have hD0 := capC (B := B) (w0 := w0) (hs := []) g2 g3 hr6
    rw [List.append_nil] at hD0
    have kw : ∀ hs', (ko5 ++ (bo ++ rpb rs)).Sublist hs' → Fn Try.prog 18 #[.agg #[.slice oP' ps.length cP', .slice oa5 (m + 1) c5, iv e]] B w0 hs' (fun v h => v = iv (vdC ps (sm ++ [A, I, D, J]) (m + 1) e) ∧ h = hs') := fun hs' h => by
      have := k_Validate (rpP rs) oP' oa5 cP' (m + 1) c5 (sm ++ [A, I, D, J]) e (by rw [hP.len]; omega) hsm' (by omega) B w0 hs' (hD0.sub h)
      rw [hP.len, hP.sd, hP.an] at this
      exact this
    have hsub : ∀ {x y : Nat × List Value} {F : HS}, (ko5 ++ (bo ++ rpb rs)).Sublist (ko5 ++ (x :: y :: (bo ++ (rpb rs ++ F)))) := fun {x y F} => .append (.refl _) (.cons _ (.cons _ (by rw [← List.append_assoc]; exact List.sublist_append_left _ _)))
    by_cases hw : vdC ps (sm ++ [A, I, D, J]) (m + 1) e = 0
    · rw [hw] at kw
      repeat' (first | ((with_reducible apply kF 18); refine sC 18 (kw _ hsub) ?_) | ((with_reducible apply kN); refine stW ?_ (hf := flat_cons rfl (flat_cons rfl (flat1 rfl)))) | (with_reducible first | refine c_seq ?_ | refine c_reg ?_ | refine c_region ?_ | refine c_block ?_ | refine c_skip ?_ | refine c_exit ?_ | refine c_ret ?_ | refine s_nil ?_ | refine x_then ?_ | refine x_then_exit ?_ | refine x_then_ret ?_ | refine x_block ?_ | refine x_block_ret ?_ | refine x_block_same ?_ | refine x_block_other (by first | rfl | decide) ?_ | refine q_nil ?_ | refine k_nil ?_) | ((with_reducible apply kN); first | refine stP ?_ | refine stI ?_ | refine st1 ?_ | refine stW ?_) | ((with_reducible apply kP (.alloc _)); refine sA (fun b => ?_)) | ((with_reducible apply kP (.box _ _)); first | refine sBA (fun b => ?_) | refine sB (fun b => ?_)) | ((with_reducible apply kP (.buildSlice _ 1 _)); first | refine sl1A (fun b => ?_) | refine sl1 (fun b => ?_)) | ((with_reducible apply kP (.call ⟨.builtin .append, _, _⟩)); refine sAp (fun oa2 c2 blk2 hrow2 => ?_)) | ((with_reducible apply kP _); refine sP ?_) | ((with_reducible apply kP _); refine sX ?_) | ((with_reducible apply kC); first | refine cT ?_ | refine cF ?_ | (refine cI (fun h => ?_) (fun h => ?_) <;> (try (exfalso; omega))) | refine cB (fun h => ?_) (fun h => ?_)))
      refine e_ret2 (hs' := (ko5 ++ (bo ++ rpb rs)) ++ hs) rfl ⟨_, rfl, ld_whole (shTOf rfl) MDt rfl⟩ rfl (.inr ⟨hw, _, _, ⟨oP', cP', oa5, c5, rs, bo, ko5, rfl, g2, g3, g4, g5, hr6, rfl⟩, rfl, rfl⟩) ?_
      rw [List.append_assoc, List.append_assoc]
      exact .append (.refl _) (.cons _ (.cons _ (.append (.refl _) (.append (.refl _) (.cons _ (.cons _ (.cons _ (.refl _))))))))
    · generalize vdC ps (sm ++ [A, I, D, J]) (m + 1) e = z at *
      repeat' (first | ((with_reducible apply kF 18); refine sC 18 (kw _ hsub) ?_) | ((with_reducible apply kN); refine stW ?_ (hf := flat_cons rfl (flat_cons rfl (flat1 rfl)))) | (with_reducible first | refine c_seq ?_ | refine c_reg ?_ | refine c_region ?_ | refine c_block ?_ | refine c_skip ?_ | refine c_exit ?_ | refine c_ret ?_ | refine s_nil ?_ | refine x_then ?_ | refine x_then_exit ?_ | refine x_then_ret ?_ | refine x_block ?_ | refine x_block_ret ?_ | refine x_block_same ?_ | refine x_block_other (by first | rfl | decide) ?_ | refine q_nil ?_ | refine k_nil ?_) | ((with_reducible apply kN); first | refine stP ?_ | refine stI ?_ | refine st1 ?_ | refine stW ?_) | ((with_reducible apply kP (.alloc _)); refine sA (fun b => ?_)) | ((with_reducible apply kP (.box _ _)); first | refine sBA (fun b => ?_) | refine sB (fun b => ?_)) | ((with_reducible apply kP (.buildSlice _ 1 _)); first | refine sl1A (fun b => ?_) | refine sl1 (fun b => ?_)) | ((with_reducible apply kP (.call ⟨.builtin .append, _, _⟩)); refine sAp (fun oa2 c2 blk2 hrow2 => ?_)) | ((with_reducible apply kP _); refine sP ?_) | ((with_reducible apply kP _); refine sX ?_) | ((with_reducible apply kC); first | refine cT ?_ | refine cF ?_ | (refine cI (fun h => ?_) (fun h => ?_) <;> (try (exfalso; omega))) | refine cB (fun h => ?_) (fun h => ?_)))
      exact e_ret2 (hs' := hs) rfl ⟨_, rfl, ld_whole (shTOf rfl) MDt rfl⟩ rfl (.inl ⟨hw, rfl, rfl⟩) (sbA (.cons _ (.cons _ (sbA (sbA (.cons _ (.cons _ (.cons _ (.refl _)))))))))
  · rw [if_pos hv]
    have hv' : vdE ps.length (sdF ps) (anF ps) m sm e ≠ 0 := hv
    have hv2 : vdC ps sm m e = vdE ps.length (sdF ps) (anF ps) m sm e := rfl
    rw [hv2]
    generalize vdE ps.length (sdF ps) (anF ps) m sm e = z at *
    refine fn_enter Try.func34 rfl Try.ntmps34 (by simp) ?_
    repeat' (first | ((with_reducible apply kP (.box 25 _)); refine sBA (fun b2 => ?_)) | ((with_reducible apply kP (.box 56 _)); refine sBA (fun b3 => ?_)) | ((with_reducible apply kP (.alloc 25)); refine sA (fun b4 => ?_)) | ((with_reducible apply kF 18); refine sC 18 (kv _ SBt) ?_) | ((with_reducible apply kN); refine stW ?_ (hf := flat_cons rfl (flat_cons rfl (flat1 rfl)))) | (with_reducible first | refine c_seq ?_ | refine c_reg ?_ | refine c_region ?_ | refine c_block ?_ | refine c_skip ?_ | refine c_exit ?_ | refine c_ret ?_ | refine s_nil ?_ | refine x_then ?_ | refine x_then_exit ?_ | refine x_then_ret ?_ | refine x_block ?_ | refine x_block_ret ?_ | refine x_block_same ?_ | refine x_block_other (by first | rfl | decide) ?_ | refine q_nil ?_ | refine k_nil ?_) | ((with_reducible apply kN); first | refine stP ?_ | refine stI ?_ | refine st1 ?_ | refine stW ?_) | ((with_reducible apply kP (.alloc _)); refine sA (fun b => ?_)) | ((with_reducible apply kP (.box _ _)); first | refine sBA (fun b => ?_) | refine sB (fun b => ?_)) | ((with_reducible apply kP (.buildSlice _ 1 _)); first | refine sl1A (fun b => ?_) | refine sl1 (fun b => ?_)) | ((with_reducible apply kP (.call ⟨.builtin .append, _, _⟩)); refine sAp (fun oa2 c2 blk2 hrow2 => ?_)) | ((with_reducible apply kP _); refine sP ?_) | ((with_reducible apply kP _); refine sX ?_) | ((with_reducible apply kC); first | refine cT ?_ | refine cF ?_ | (refine cI (fun h => ?_) (fun h => ?_) <;> (try (exfalso; omega))) | refine cB (fun h => ?_) (fun h => ?_)))
    exact e_ret2 (hs' := hs) rfl ⟨_, rfl, ld_whole (shTOf rfl) MDt rfl⟩ rfl (.inl ⟨hv', rfl, rfl⟩) SCt
set_option maxRecDepth 100000 in
set_option maxHeartbeats 8000000 in
theorem r_Sew (ps : List Pc) (oP oS : Option Addr) (cP m cS : Nat) (sm : List Int) (e A I D J : Int) (hn : ps.length ≤ 100) (hsm : sm.length = m * 4) (hm : m < 100) (B : Nat) (w0 : Wd) (hs : HS) (hC : CapM B w0 hs oP oS ps sm) :
    Fn Try.prog 35 #[.agg #[.slice oP ps.length cP, .slice oS m cS, iv e], .agg #[iv A, iv I, iv D, iv J]] B w0 hs (CeR (swV ps sm m e [A, I, D, J]) ps (sm ++ [A, I, D, J]) (m + 1) e hs) := by
  have kv := fun hs' (h : hs.Sublist hs') => r_Validate ps oP oS cP m cS sm e hn hsm (by omega) B w0 hs' (hC.sub h)
  unfold CeR swV
  by_cases hv : vdC ps sm m e = 0
  · have V := vdC_0 hv
    rw [if_neg (fun h => h hv)]
    have hv' : vdE ps.length (sdF ps) (anF ps) m sm e = 0 := hv
    rw [hv'] at kv
    have kc := fun hs' (h : hs.Sublist hs') => r_CopyC ps oP oS cP m cS sm e (by omega) (vdC_ok V) hsm (by omega) B w0 hs' (hC.sub h)
    refine fn_enter Try.func35 rfl Try.ntmps35 (by simp) ?_
    repeat' (first | ((with_reducible apply kP (.box 25 _)); refine sBA (fun b2 => ?_)) | ((with_reducible apply kP (.box 56 _)); refine sBA (fun b3 => ?_)) | ((with_reducible apply kP (.alloc 25)); refine sA (fun b4 => ?_)) | ((with_reducible apply kF 19); refine sC 19 (kv _ SBt) ?_) | ((with_reducible apply kF 17); refine sR 17 (kc _ SBt) ?_; rintro v7 h7 ⟨blk7, ⟨oP', cP', oS', cS', rs, bo, ko, rfl, g2, g3, g4, g5, g6, rfl⟩, rfl⟩; rw [List.append_assoc, List.append_assoc]) | ((with_reducible apply kN); first | refine stC ?_ | refine stW ?_ (hf := flat_cons rfl (flat_cons rfl (flat1 rfl)))) | ((with_reducible apply kP (.call ⟨.builtin .append, _, _⟩)); refine sAp (fun oa5 c5 ko5 hr5 => ?_) (hr := g6) (hk := by rw [ivs_length]; exact hsm) (hf := flat_cons rfl (flat_cons rfl (flat_cons rfl (flat1 rfl))))) | (with_reducible first | refine c_seq ?_ | refine c_reg ?_ | refine c_region ?_ | refine c_block ?_ | refine c_skip ?_ | refine c_exit ?_ | refine c_ret ?_ | refine s_nil ?_ | refine x_then ?_ | refine x_then_exit ?_ | refine x_then_ret ?_ | refine x_block ?_ | refine x_block_ret ?_ | refine x_block_same ?_ | refine x_block_other (by first | rfl | decide) ?_ | refine q_nil ?_ | refine k_nil ?_) | ((with_reducible apply kN); first | refine stP ?_ | refine stI ?_ | refine st1 ?_ | refine stW ?_) | ((with_reducible apply kP (.alloc _)); refine sA (fun b => ?_)) | ((with_reducible apply kP (.box _ _)); first | refine sBA (fun b => ?_) | refine sB (fun b => ?_)) | ((with_reducible apply kP (.buildSlice _ 1 _)); first | refine sl1A (fun b => ?_) | refine sl1 (fun b => ?_)) | ((with_reducible apply kP (.call ⟨.builtin .append, _, _⟩)); refine sAp (fun oa2 c2 blk2 hrow2 => ?_)) | ((with_reducible apply kP _); refine sP ?_) | ((with_reducible apply kP _); refine sX ?_) | ((with_reducible apply kC); first | refine cT ?_ | refine cF ?_ | (refine cI (fun h => ?_) (fun h => ?_) <;> (try (exfalso; omega))) | refine cB (fun h => ?_) (fun h => ?_)))
    rename_i b5
    have hP := smP g4 g5
    have hr6 : RowOk oa5 c5 4 (ivs (sm ++ [A, I, D, J])) ko5 := by
      have e : ivs (sm ++ [A, I, D, J]) = ivs sm ++ [iv A, iv I, iv D, iv J] := by simp [ivs]
      rw [e]; exact hr5
    have hsm' : (sm ++ [A, I, D, J]).length = (m + 1) * 4 := by simp; omega
    have hD0 := capC (B := B) (w0 := w0) (hs := []) g2 g3 hr6
    rw [List.append_nil] at hD0
    have kw : ∀ hs', (ko5 ++ (bo ++ rpb rs)).Sublist hs' → Fn Try.prog 19 #[.agg #[.slice oP' ps.length cP', .slice oa5 (m + 1) c5, iv e]] B w0 hs' (fun v h => v = iv (vdC ps (sm ++ [A, I, D, J]) (m + 1) e) ∧ h = hs') := fun hs' h => by
      have := r_Validate (rpP rs) oP' oa5 cP' (m + 1) c5 (sm ++ [A, I, D, J]) e (by rw [hP.len]; omega) hsm' (by omega) B w0 hs' (hD0.sub h)
      rw [hP.len, hP.sd, hP.an] at this
      exact this
    have hsub : ∀ {x y : Nat × List Value} {F : HS}, (ko5 ++ (bo ++ rpb rs)).Sublist (ko5 ++ (x :: y :: (bo ++ (rpb rs ++ F)))) := fun {x y F} => .append (.refl _) (.cons _ (.cons _ (by rw [← List.append_assoc]; exact List.sublist_append_left _ _)))
    by_cases hw : vdC ps (sm ++ [A, I, D, J]) (m + 1) e = 0
    · rw [hw] at kw
      repeat' (first | ((with_reducible apply kF 19); refine sC 19 (kw _ hsub) ?_) | ((with_reducible apply kN); refine stW ?_ (hf := flat_cons rfl (flat_cons rfl (flat1 rfl)))) | (with_reducible first | refine c_seq ?_ | refine c_reg ?_ | refine c_region ?_ | refine c_block ?_ | refine c_skip ?_ | refine c_exit ?_ | refine c_ret ?_ | refine s_nil ?_ | refine x_then ?_ | refine x_then_exit ?_ | refine x_then_ret ?_ | refine x_block ?_ | refine x_block_ret ?_ | refine x_block_same ?_ | refine x_block_other (by first | rfl | decide) ?_ | refine q_nil ?_ | refine k_nil ?_) | ((with_reducible apply kN); first | refine stP ?_ | refine stI ?_ | refine st1 ?_ | refine stW ?_) | ((with_reducible apply kP (.alloc _)); refine sA (fun b => ?_)) | ((with_reducible apply kP (.box _ _)); first | refine sBA (fun b => ?_) | refine sB (fun b => ?_)) | ((with_reducible apply kP (.buildSlice _ 1 _)); first | refine sl1A (fun b => ?_) | refine sl1 (fun b => ?_)) | ((with_reducible apply kP (.call ⟨.builtin .append, _, _⟩)); refine sAp (fun oa2 c2 blk2 hrow2 => ?_)) | ((with_reducible apply kP _); refine sP ?_) | ((with_reducible apply kP _); refine sX ?_) | ((with_reducible apply kC); first | refine cT ?_ | refine cF ?_ | (refine cI (fun h => ?_) (fun h => ?_) <;> (try (exfalso; omega))) | refine cB (fun h => ?_) (fun h => ?_)))
      refine e_ret2 (hs' := (ko5 ++ (bo ++ rpb rs)) ++ hs) rfl ⟨_, rfl, ld_whole (shTOf rfl) MDt rfl⟩ rfl (.inr ⟨hw, _, _, ⟨oP', cP', oa5, c5, rs, bo, ko5, rfl, g2, g3, g4, g5, hr6, rfl⟩, rfl, rfl⟩) ?_
      rw [List.append_assoc, List.append_assoc]
      exact .append (.refl _) (.cons _ (.cons _ (.append (.refl _) (.append (.refl _) (.cons _ (.cons _ (.cons _ (.refl _))))))))
    · generalize vdC ps (sm ++ [A, I, D, J]) (m + 1) e = z at *
      repeat' (first | ((with_reducible apply kF 19); refine sC 19 (kw _ hsub) ?_) | ((with_reducible apply kN); refine stW ?_ (hf := flat_cons rfl (flat_cons rfl (flat1 rfl)))) | (with_reducible first | refine c_seq ?_ | refine c_reg ?_ | refine c_region ?_ | refine c_block ?_ | refine c_skip ?_ | refine c_exit ?_ | refine c_ret ?_ | refine s_nil ?_ | refine x_then ?_ | refine x_then_exit ?_ | refine x_then_ret ?_ | refine x_block ?_ | refine x_block_ret ?_ | refine x_block_same ?_ | refine x_block_other (by first | rfl | decide) ?_ | refine q_nil ?_ | refine k_nil ?_) | ((with_reducible apply kN); first | refine stP ?_ | refine stI ?_ | refine st1 ?_ | refine stW ?_) | ((with_reducible apply kP (.alloc _)); refine sA (fun b => ?_)) | ((with_reducible apply kP (.box _ _)); first | refine sBA (fun b => ?_) | refine sB (fun b => ?_)) | ((with_reducible apply kP (.buildSlice _ 1 _)); first | refine sl1A (fun b => ?_) | refine sl1 (fun b => ?_)) | ((with_reducible apply kP (.call ⟨.builtin .append, _, _⟩)); refine sAp (fun oa2 c2 blk2 hrow2 => ?_)) | ((with_reducible apply kP _); refine sP ?_) | ((with_reducible apply kP _); refine sX ?_) | ((with_reducible apply kC); first | refine cT ?_ | refine cF ?_ | (refine cI (fun h => ?_) (fun h => ?_) <;> (try (exfalso; omega))) | refine cB (fun h => ?_) (fun h => ?_)))
      exact e_ret2 (hs' := hs) rfl ⟨_, rfl, ld_whole (shTOf rfl) MDt rfl⟩ rfl (.inl ⟨hw, rfl, rfl⟩) (sbA (.cons _ (.cons _ (sbA (sbA (.cons _ (.cons _ (.cons _ (.refl _)))))))))
  · rw [if_pos hv]
    have hv' : vdE ps.length (sdF ps) (anF ps) m sm e ≠ 0 := hv
    have hv2 : vdC ps sm m e = vdE ps.length (sdF ps) (anF ps) m sm e := rfl
    rw [hv2]
    generalize vdE ps.length (sdF ps) (anF ps) m sm e = z at *
    refine fn_enter Try.func35 rfl Try.ntmps35 (by simp) ?_
    repeat' (first | ((with_reducible apply kP (.box 25 _)); refine sBA (fun b2 => ?_)) | ((with_reducible apply kP (.box 56 _)); refine sBA (fun b3 => ?_)) | ((with_reducible apply kP (.alloc 25)); refine sA (fun b4 => ?_)) | ((with_reducible apply kF 19); refine sC 19 (kv _ SBt) ?_) | ((with_reducible apply kN); refine stW ?_ (hf := flat_cons rfl (flat_cons rfl (flat1 rfl)))) | (with_reducible first | refine c_seq ?_ | refine c_reg ?_ | refine c_region ?_ | refine c_block ?_ | refine c_skip ?_ | refine c_exit ?_ | refine c_ret ?_ | refine s_nil ?_ | refine x_then ?_ | refine x_then_exit ?_ | refine x_then_ret ?_ | refine x_block ?_ | refine x_block_ret ?_ | refine x_block_same ?_ | refine x_block_other (by first | rfl | decide) ?_ | refine q_nil ?_ | refine k_nil ?_) | ((with_reducible apply kN); first | refine stP ?_ | refine stI ?_ | refine st1 ?_ | refine stW ?_) | ((with_reducible apply kP (.alloc _)); refine sA (fun b => ?_)) | ((with_reducible apply kP (.box _ _)); first | refine sBA (fun b => ?_) | refine sB (fun b => ?_)) | ((with_reducible apply kP (.buildSlice _ 1 _)); first | refine sl1A (fun b => ?_) | refine sl1 (fun b => ?_)) | ((with_reducible apply kP (.call ⟨.builtin .append, _, _⟩)); refine sAp (fun oa2 c2 blk2 hrow2 => ?_)) | ((with_reducible apply kP _); refine sP ?_) | ((with_reducible apply kP _); refine sX ?_) | ((with_reducible apply kC); first | refine cT ?_ | refine cF ?_ | (refine cI (fun h => ?_) (fun h => ?_) <;> (try (exfalso; omega))) | refine cB (fun h => ?_) (fun h => ?_)))
    exact e_ret2 (hs' := hs) rfl ⟨_, rfl, ld_whole (shTOf rfl) MDt rfl⟩ rfl (.inl ⟨hv', rfl, rfl⟩) SCt
end Go.Proofs.Ytnbickholedckaa
