/- Unsew of the program and of the reference. -/
import Derived.Test.YtnbickholedckaaMC51
namespace Go.Proofs.Ytnbickholedckaa
open Go.RowKit
def unV (ps : List Pc) (sm : List Int) (m : Nat) (e x : Int) : Int := if vdC ps sm m e ≠ 0 then vdC ps sm m e else if ¬ (0 ≤ x ∧ x < (m : Int)) then 5 else 0
/-- The seams but one, of the first i. -/
def rmT (sm : List Int) (x i : Nat) : List Int := sm.take (min i x * 4) ++ (sm.drop ((x + 1) * 4)).take ((i - (x + 1)) * 4)
theorem rmT_0 (sm : List Int) (x : Nat) : rmT sm x 0 = [] := by unfold rmT; simp
theorem rmT_all {sm : List Int} {m x : Nat} (h : sm.length = m * 4) (hx : x < m) : rmT sm x m = rmS sm x := by
  unfold rmT rmS
  rw [Nat.min_eq_right (by omega), List.take_of_length_le (l := sm.drop ((x + 1) * 4)) (by rw [List.length_drop]; omega)]
theorem rmT_at {sm : List Int} {m x i : Nat} (h : sm.length = m * 4) (hi : i < m) : rmT sm x (i + 1) = if i = x then rmT sm x i else rmT sm x i ++ [sm.getD (i * 4) 0, sm.getD (i * 4 + 1) 0, sm.getD (i * 4 + 2) 0, sm.getD (i * 4 + 3) 0] := by
  have key : ∀ (l : List Int) (j : Nat), j * 4 + 3 < l.length → l.take ((j + 1) * 4) = l.take (j * 4) ++ [l.getD (j * 4) 0, l.getD (j * 4 + 1) 0, l.getD (j * 4 + 2) 0, l.getD (j * 4 + 3) 0] := fun l j hj => by
    have g : ∀ k, k < l.length → l.take (k + 1) = l.take k ++ [l.getD k 0] := fun k hk => by
      rw [List.take_succ_eq_append_getElem hk, List.getD_eq_getElem?_getD, List.getElem?_eq_getElem hk]; rfl
    rw [show (j + 1) * 4 = j * 4 + 1 + 1 + 1 + 1 by omega, g _ (by omega), g _ (by omega), g _ (by omega), g _ (by omega)]
    simp
  unfold rmT
  split
  · rename_i e
    subst e
    rw [Nat.min_eq_right (by omega), Nat.min_self, show i + 1 - (i + 1) = i - (i + 1) by omega]
  · rename_i e
    by_cases h1 : i < x
    · rw [Nat.min_eq_left (by omega), Nat.min_eq_left (by omega), show i + 1 - (x + 1) = 0 by omega, show i - (x + 1) = 0 by omega, key _ _ (by omega)]
      simp
    · rw [Nat.min_eq_right (by omega), Nat.min_eq_right (by omega), show i + 1 - (x + 1) = (i - (x + 1)) + 1 by omega, key _ _ (by rw [List.length_drop]; omega), ← List.append_assoc]
      congr 1
      have gd : ∀ k, (sm.drop ((x + 1) * 4)).getD ((i - (x + 1)) * 4 + k) 0 = sm.getD (i * 4 + k) 0 := fun k => by
        rw [List.getD_eq_getElem?_getD, List.getD_eq_getElem?_getD, List.getElem?_drop]
        congr 2
        omega
      have g0 := gd 0
      simp only [Nat.add_zero] at g0
      rw [g0, gd 1, gd 2, gd 3]
def rmN (x i : Nat) : Nat := if i ≤ x then i else i - 1
theorem rmT_len {sm : List Int} {m x i : Nat} (h : sm.length = m * 4) (hi : i ≤ m) (hx : x < m) : (rmT sm x i).length = rmN x i * 4 := by
  unfold rmT rmN
  rw [List.length_append, List.length_take, List.length_take, List.length_drop]
  split <;> omega
attribute [local irreducible] OpF Ld CellAt Sl Sv pcA usP
set_option maxRecDepth 100000 in
set_option maxHeartbeats 8000000 in
theorem k_Unsew (ps : List Pc) (oP oS : Option Addr) (cP m cS : Nat) (sm : List Int) (e x : Int) (hn : ps.length ≤ 100) (hsm : sm.length = m * 4) (hm : m ≤ 100) (B : Nat) (w0 : Wd) (hs : HS) (hC : CapM B w0 hs oP oS ps sm) :
    Fn Try.prog 36 #[.agg #[.slice oP ps.length cP, .slice oS m cS, iv e], iv x] B w0 hs (CeR (unV ps sm m e x) ps (rmS sm x.toNat) (m - 1) e hs) := by
  have kv := fun hs' (h : hs.Sublist hs') => k_Validate ps oP oS cP m cS sm e hn hsm (by omega) B w0 hs' (hC.sub h)
  unfold CeR unV
  by_cases hv : vdC ps sm m e = 0
  · have V := vdC_0 hv
    rw [if_neg (fun h => h hv)]
    have hv' : vdE ps.length (sdF ps) (anF ps) m sm e = 0 := hv
    rw [hv'] at kv
    by_cases hx : 0 ≤ x ∧ x < (m : Int)
    · rw [if_neg (fun h => h hx)]
      have kc := fun hs' (h : hs.Sublist hs') => k_copyCap ps oP oS cP m cS sm e (by omega) V.n1 (vdC_ok V) hsm (by omega) B w0 hs' (hC.sub h)
      obtain ⟨x, rfl⟩ : ∃ y : Nat, x = (y : Int) := ⟨x.toNat, by omega⟩
      have hxm : x < m := by omega
      rw [show ((x : Nat) : Int).toNat = x by omega]
      refine fn_enter Try.func36 rfl Try.ntmps36 (by simp) ?_
      repeat' (first | ((with_reducible apply kP (.box 25 _)); refine sBA (fun b2 => ?_)) | ((with_reducible apply kP (.alloc 25)); refine sA (fun b4 => ?_)) | ((with_reducible apply kF 18); refine sC 18 (kv _ SBt) ?_) | ((with_reducible apply kF 69); refine sR 69 (kc _ SBt) ?_; rintro v7 h7 ⟨blk7, ⟨oP', cP', oS', cS', rs, bo, ko, rfl, g2, g3, g4, g5, g6, rfl⟩, rfl⟩; rw [List.append_assoc, List.append_assoc]) | ((with_reducible apply kN); refine stW ?_ (hf := flat_cons rfl (flat_cons rfl (flat1 rfl)))) | (with_reducible first | refine c_seq ?_ | refine c_reg ?_ | refine c_region ?_ | refine c_block ?_ | refine c_skip ?_ | refine c_exit ?_ | refine c_ret ?_ | refine s_nil ?_ | refine x_then ?_ | refine x_then_exit ?_ | refine x_then_ret ?_ | refine x_block ?_ | refine x_block_ret ?_ | refine x_block_same ?_ | refine x_block_other (by first | rfl | decide) ?_ | refine q_nil ?_ | refine k_nil ?_) | ((with_reducible apply kG); first | refine gY1 ?_ | refine gN1 ?_ | refine gU1 ?_ | (refine gD1 (fun h => ?_) (fun h => ?_) <;> (try (exfalso; omega))) | refine gB1 (fun h => ?_) (fun h => ?_)) | ((with_reducible apply kN); first | refine stP ?_ | refine stI ?_ | refine st1 ?_ | refine stW ?_) | ((with_reducible apply kP (.alloc _)); refine sA (fun b => ?_)) | ((with_reducible apply kP (.box _ _)); first | refine sBA (fun b => ?_) | refine sB (fun b => ?_)) | ((with_reducible apply kP _); refine sP ?_) | ((with_reducible apply kP _); refine sX ?_) | ((with_reducible apply kC); first | refine cT ?_ | refine cF ?_ | (refine cI (fun h => ?_) (fun h => ?_) <;> (try (exfalso; omega))) | refine cB (fun h => ?_) (fun h => ?_)))
      all_goals try (exfalso; omega)
      rcases g6 with ⟨_, _, h3, _⟩ | ⟨bs, z, rfl, rfl, hz, hcS⟩
      · exfalso
        have h0 : sm.length = 0 := by
          have := congrArg List.length h3
          rw [ivs_length] at this
          simpa using this
        omega
      have hc : m ≤ cS' := by
        rw [List.length_append, ivs_length] at hz
        omega
      have kd := fun hs' => k_Delete bs m cS' x sm z hsm hxm hm hc hz hcS B w0 hs'
      have hrr : RowOk (some ⟨bs, 0, none⟩) cS' 4 (ivs (rmS sm x)) [(bs, ivs (rmS sm x) ++ ([iv 0, iv 0, iv 0, iv 0] ++ z))] := .inr ⟨bs, _, rfl, rfl, by
        rw [List.length_append, ivs_length] at hz
        rw [List.length_append, ivs_length, rmS_len hsm hxm, List.length_append]
        simp only [List.length_cons, List.length_nil]
        omega, hcS⟩
      repeat' (first | ((with_reducible apply kF 70); refine s_mut1 (goTOf rfl) rfl (Take.tail Take.head) (kd _) (by first | decide | exact ltd rfl) ?_) | ((with_reducible apply kN); first | refine stC ?_ | refine stW ?_ (hf := flat_cons rfl (flat_cons rfl (flat1 rfl)))) | (with_reducible first | refine c_seq ?_ | refine c_reg ?_ | refine c_region ?_ | refine c_block ?_ | refine c_skip ?_ | refine c_exit ?_ | refine c_ret ?_ | refine s_nil ?_ | refine x_then ?_ | refine x_then_exit ?_ | refine x_then_ret ?_ | refine x_block ?_ | refine x_block_ret ?_ | refine x_block_same ?_ | refine x_block_other (by first | rfl | decide) ?_ | refine q_nil ?_ | refine k_nil ?_) | ((with_reducible apply kG); first | refine gY1 ?_ | refine gN1 ?_ | refine gU1 ?_ | (refine gD1 (fun h => ?_) (fun h => ?_) <;> (try (exfalso; omega))) | refine gB1 (fun h => ?_) (fun h => ?_)) | ((with_reducible apply kN); first | refine stP ?_ | refine stI ?_ | refine st1 ?_ | refine stW ?_) | ((with_reducible apply kP (.alloc _)); refine sA (fun b => ?_)) | ((with_reducible apply kP (.box _ _)); first | refine sBA (fun b => ?_) | refine sB (fun b => ?_)) | ((with_reducible apply kP _); refine sP ?_) | ((with_reducible apply kP _); refine sX ?_) | ((with_reducible apply kC); first | refine cT ?_ | refine cF ?_ | (refine cI (fun h => ?_) (fun h => ?_) <;> (try (exfalso; omega))) | refine cB (fun h => ?_) (fun h => ?_)))
      refine e_ret2 (hs' := ([(bs, ivs (rmS sm x) ++ ([iv 0, iv 0, iv 0, iv 0] ++ z))] ++ (bo ++ rpb rs)) ++ hs) rfl ⟨_, rfl, ld_whole (shTOf rfl) MDt rfl⟩ rfl (.inr ⟨rfl, _, _, ⟨oP', cP', some ⟨bs, 0, none⟩, cS', rs, bo, _, rfl, g2, g3, g4, g5, hrr, rfl⟩, rfl, rfl⟩) ?_
      rw [List.append_assoc, List.append_assoc]
      exact .append (.refl _) (.cons _ (.append (.refl _) (.append (.refl _) (.cons _ (.cons _ (.refl _))))))
    · rw [if_pos hx]
      refine fn_enter Try.func36 rfl Try.ntmps36 (by simp) ?_
      repeat' (first | ((with_reducible apply kP (.box 25 _)); refine sBA (fun b2 => ?_)) | ((with_reducible apply kP (.alloc 25)); refine sA (fun b4 => ?_)) | ((with_reducible apply kF 18); refine sC 18 (kv _ SBt) ?_) | ((with_reducible apply kN); refine stW ?_ (hf := flat_cons rfl (flat_cons rfl (flat1 rfl)))) | (with_reducible first | refine c_seq ?_ | refine c_reg ?_ | refine c_region ?_ | refine c_block ?_ | refine c_skip ?_ | refine c_exit ?_ | refine c_ret ?_ | refine s_nil ?_ | refine x_then ?_ | refine x_then_exit ?_ | refine x_then_ret ?_ | refine x_block ?_ | refine x_block_ret ?_ | refine x_block_same ?_ | refine x_block_other (by first | rfl | decide) ?_ | refine q_nil ?_ | refine k_nil ?_) | ((with_reducible apply kG); first | refine gY1 ?_ | refine gN1 ?_ | refine gU1 ?_ | (refine gD1 (fun h => ?_) (fun h => ?_) <;> (try (exfalso; omega))) | refine gB1 (fun h => ?_) (fun h => ?_)) | ((with_reducible apply kN); first | refine stP ?_ | refine stI ?_ | refine st1 ?_ | refine stW ?_) | ((with_reducible apply kP (.alloc _)); refine sA (fun b => ?_)) | ((with_reducible apply kP (.box _ _)); first | refine sBA (fun b => ?_) | refine sB (fun b => ?_)) | ((with_reducible apply kP _); refine sP ?_) | ((with_reducible apply kP _); refine sX ?_) | ((with_reducible apply kC); first | refine cT ?_ | refine cF ?_ | (refine cI (fun h => ?_) (fun h => ?_) <;> (try (exfalso; omega))) | refine cB (fun h => ?_) (fun h => ?_)))
      all_goals first
        | exact e_ret2 (hs' := hs) rfl ⟨_, rfl, ld_whole (shTOf rfl) MDt rfl⟩ rfl (.inl ⟨by decide, rfl, rfl⟩) SCt
        | (exfalso; omega)
        | trace_state
  · rw [if_pos hv]
    have hv' : vdE ps.length (sdF ps) (anF ps) m sm e ≠ 0 := hv
    have hv2 : vdC ps sm m e = vdE ps.length (sdF ps) (anF ps) m sm e := rfl
    rw [hv2]
    generalize vdE ps.length (sdF ps) (anF ps) m sm e = z at *
    refine fn_enter Try.func36 rfl Try.ntmps36 (by simp) ?_
    repeat' (first | ((with_reducible apply kP (.box 25 _)); refine sBA (fun b2 => ?_)) | ((with_reducible apply kP (.alloc 25)); refine sA (fun b4 => ?_)) | ((with_reducible apply kF 18); refine sC 18 (kv _ SBt) ?_) | ((with_reducible apply kN); refine stW ?_ (hf := flat_cons rfl (flat_cons rfl (flat1 rfl)))) | (with_reducible first | refine c_seq ?_ | refine c_reg ?_ | refine c_region ?_ | refine c_block ?_ | refine c_skip ?_ | refine c_exit ?_ | refine c_ret ?_ | refine s_nil ?_ | refine x_then ?_ | refine x_then_exit ?_ | refine x_then_ret ?_ | refine x_block ?_ | refine x_block_ret ?_ | refine x_block_same ?_ | refine x_block_other (by first | rfl | decide) ?_ | refine q_nil ?_ | refine k_nil ?_) | ((with_reducible apply kG); first | refine gY1 ?_ | refine gN1 ?_ | refine gU1 ?_ | (refine gD1 (fun h => ?_) (fun h => ?_) <;> (try (exfalso; omega))) | refine gB1 (fun h => ?_) (fun h => ?_)) | ((with_reducible apply kN); first | refine stP ?_ | refine stI ?_ | refine st1 ?_ | refine stW ?_) | ((with_reducible apply kP (.alloc _)); refine sA (fun b => ?_)) | ((with_reducible apply kP (.box _ _)); first | refine sBA (fun b => ?_) | refine sB (fun b => ?_)) | ((with_reducible apply kP _); refine sP ?_) | ((with_reducible apply kP _); refine sX ?_) | ((with_reducible apply kC); first | refine cT ?_ | refine cF ?_ | (refine cI (fun h => ?_) (fun h => ?_) <;> (try (exfalso; omega))) | refine cB (fun h => ?_) (fun h => ?_)))
    exact e_ret2 (hs' := hs) rfl ⟨_, rfl, ld_whole (shTOf rfl) MDt rfl⟩ rfl (.inl ⟨hv', rfl, rfl⟩) SCt
structure UnI where
  i : Nat
  oa : Option Addr
  c : Nat
  k6 : HS
set_option maxRecDepth 100000 in
set_option maxHeartbeats 8000000 in
theorem r_Unsew (ps : List Pc) (oP oS : Option Addr) (cP m cS : Nat) (sm : List Int) (e x : Int) (hn : ps.length ≤ 100) (hsm : sm.length = m * 4) (hm : m ≤ 100) (B : Nat) (w0 : Wd) (hs : HS) (hC : CapM B w0 hs oP oS ps sm) :
    Fn Try.prog 37 #[.agg #[.slice oP ps.length cP, .slice oS m cS, iv e], iv x] B w0 hs (CeR (unV ps sm m e x) ps (rmS sm x.toNat) (m - 1) e hs) := by
  have kv := fun hs' (h : hs.Sublist hs') => r_Validate ps oP oS cP m cS sm e hn hsm (by omega) B w0 hs' (hC.sub h)
  have kw := fun hs => r_within x 0 ((m : Int) - 1) B w0 hs
  unfold CeR unV
  by_cases hv : vdC ps sm m e = 0
  · have V := vdC_0 hv
    rw [if_neg (fun h => h hv)]
    have hv' : vdE ps.length (sdF ps) (anF ps) m sm e = 0 := hv
    rw [hv'] at kv
    by_cases hx : 0 ≤ x ∧ x < (m : Int)
    · rw [if_neg (fun h => h hx)]
      rw [decide_eq_true (show 0 ≤ x ∧ x ≤ (m : Int) - 1 by omega)] at kw
      have kc := fun hs' (h : hs.Sublist hs') => r_CopyC ps oP oS cP m cS sm e (by omega) (vdC_ok V) hsm (by omega) B w0 hs' (hC.sub h)
      obtain ⟨x, rfl⟩ : ∃ y : Nat, x = (y : Int) := ⟨x.toNat, by omega⟩
      have hxm : x < m := by omega
      rw [show ((x : Nat) : Int).toNat = x by omega]
      refine fn_enter Try.func37 rfl Try.ntmps37 (by simp) ?_
      repeat' (first | ((with_reducible apply kP (.box 25 _)); refine sBA (fun b2 => ?_)) | ((with_reducible apply kP (.alloc 25)); refine sA (fun b4 => ?_)) | ((with_reducible apply kF 19); refine sC 19 (kv _ SBt) ?_) | ((with_reducible apply kF 58); refine sC 58 (kw _) ?_) | ((with_reducible apply kF 17); refine sR 17 (kc _ SBt) ?_; rintro v7 h7 ⟨blk7, ⟨oP', cP', oS', cS', rs, bo, ko, rfl, g2, g3, g4, g5, g6, rfl⟩, rfl⟩; rw [List.append_assoc, List.append_assoc]) | ((with_reducible apply kN); first | refine stC ?_ | refine stW ?_ (hf := flat_cons rfl (flat_cons rfl (flat1 rfl)))) | ((with_reducible apply kRg 12); refine cD [1, 1, 1, 1, 1, 1, 1, 2, 4, 1, 4] ?_) | (with_reducible first | refine c_seq ?_ | refine c_reg ?_ | refine c_region ?_ | refine c_block ?_ | refine c_skip ?_ | refine c_exit ?_ | refine c_ret ?_ | refine s_nil ?_ | refine x_then ?_ | refine x_then_exit ?_ | refine x_then_ret ?_ | refine x_block ?_ | refine x_block_ret ?_ | refine x_block_same ?_ | refine x_block_other (by first | rfl | decide) ?_ | refine q_nil ?_ | refine k_nil ?_) | ((with_reducible apply kN); first | refine stP ?_ | refine stI ?_ | refine st1 ?_ | refine stW ?_) | ((with_reducible apply kP (.alloc _)); refine sA (fun b => ?_)) | ((with_reducible apply kP (.box _ _)); first | refine sBA (fun b => ?_) | refine sB (fun b => ?_)) | ((with_reducible apply kP _); refine sP ?_) | ((with_reducible apply kP _); refine sX ?_) | ((with_reducible apply kC); first | refine cT ?_ | refine cF ?_ | (refine cI (fun h => ?_) (fun h => ?_) <;> (try (exfalso; omega))) | refine cB (fun h => ?_) (fun h => ?_)) | ((with_reducible apply kDN); first | refine dtI ?_ | refine dt1 ?_ | refine dtW ?_) | ((with_reducible apply kDP (.buildSlice _ 1 _)); first | refine dl1A (fun b => ?_) | refine dl1 (fun b => ?_)) | ((with_reducible apply kDP (.call ⟨.builtin .append, _, _⟩)); first | refine dAp3 (fun oa2 c2 blk2 hrow2 => ?_) (hS := SCt) | refine dAp4 (fun oa2 c2 blk2 hrow2 => ?_)) | ((with_reducible apply kDP _); refine dP ?_) | ((with_reducible apply kDP _); refine dX ?_))
      all_goals try (exfalso; omega)
      rename_i b5
      have hsl := hC.sms
      refine c_loop (fun t : UnI => [(1, iv x), (2, .pointer (some ⟨b2, 0, none⟩)), (4, .pointer (some ⟨b5, 0, none⟩)), (7, .pointer (some ⟨b4, 0, none⟩)), (8, iv t.i)])
        (fun t => t.k6 ++ ((b4, [.slice oP' ps.length cP', .slice t.oa (rmN x t.i) t.c, iv e]) :: (bo ++ (rpb rs ++ ((b5, [.slice none 0 0, .slice none 0 0, iv 0]) :: (b2, [.slice oP ps.length cP, .slice oS m cS, iv e]) :: hs)))))
        (fun t => t.i ≤ m ∧ RowOk t.oa t.c 4 (ivs (rmT sm x t.i)) t.k6) (fun t => m - t.i) ⟨0, none, 0, []⟩ ⟨Nat.zero_le _, by rw [rmT_0]; exact RowOk.nil⟩ (by repeat' first | trivial | rfl | apply And.intro) ?_ ?_
      · dsimp only
        rw [show rmN x 0 = 0 by simp [rmN], List.nil_append]
        exact .cons_cons _ (List.sublist_append_right ko _)
      rintro ⟨i, oa4, c4, k6⟩ ⟨hi, hr4⟩
      dsimp only at hi hr4 ⊢
      have hl4 : (ivs (rmT sm x i)).length = rmN x i * 4 := by rw [ivs_length]; exact rmT_len hsm hi hxm
      by_cases hi' : i < m
      · have h4 := rmT_at (x := x) hsm hi'
        have iS := hsl.any (i := 0) (by omega)
        by_cases hix : i = x
        · rw [if_pos hix] at h4
          have hn4 : rmN x (i + 1) = rmN x i := by unfold rmN; rw [if_neg (by omega), if_pos (by omega)]; omega
          repeat' (first | ((with_reducible apply kRg 12); refine cD [1, 1, 1, 1, 1, 1, 1, 2, 4, 1, 4] ?_) | (with_reducible first | refine c_seq ?_ | refine c_reg ?_ | refine c_region ?_ | refine c_block ?_ | refine c_skip ?_ | refine c_exit ?_ | refine c_ret ?_ | refine s_nil ?_ | refine x_then ?_ | refine x_then_exit ?_ | refine x_then_ret ?_ | refine x_block ?_ | refine x_block_ret ?_ | refine x_block_same ?_ | refine x_block_other (by first | rfl | decide) ?_ | refine q_nil ?_ | refine k_nil ?_) | ((with_reducible apply kN); first | refine stP ?_ | refine stI ?_ | refine st1 ?_ | refine stW ?_) | ((with_reducible apply kP (.alloc _)); refine sA (fun b => ?_)) | ((with_reducible apply kP (.box _ _)); first | refine sBA (fun b => ?_) | refine sB (fun b => ?_)) | ((with_reducible apply kP _); refine sP ?_) | ((with_reducible apply kP _); refine sX ?_) | ((with_reducible apply kC); first | refine cT ?_ | refine cF ?_ | (refine cI (fun h => ?_) (fun h => ?_) <;> (try (exfalso; omega))) | refine cB (fun h => ?_) (fun h => ?_)) | ((with_reducible apply kDN); first | refine dtI ?_ | refine dt1 ?_ | refine dtW ?_) | ((with_reducible apply kDP (.buildSlice _ 1 _)); first | refine dl1A (fun b => ?_) | refine dl1 (fun b => ?_)) | ((with_reducible apply kDP (.call ⟨.builtin .append, _, _⟩)); first | refine dAp3 (fun oa2 c2 blk2 hrow2 => ?_) (hS := SCt) | refine dAp4 (fun oa2 c2 blk2 hrow2 => ?_)) | ((with_reducible apply kDP _); refine dP ?_) | ((with_reducible apply kDP _); refine dX ?_))
          all_goals first
            | exact r_end (⟨i + 1, oa4, c4, k6⟩ : UnI) ⟨hi', by dsimp only; rw [h4]; exact hr4⟩ (by dsimp only; omega) ⟨rfl, rfl, rfl, rfl, rfl, trivial⟩ (by dsimp only; rw [hn4]; exact .refl _)
            | (exfalso; omega)
            | trace_state
        · rw [if_neg hix] at h4
          have hn4 : rmN x (i + 1) = rmN x i + 1 := by unfold rmN; split <;> split <;> omega
          have hn5 : rmN x i ≤ 100 := by unfold rmN; split <;> omega
          repeat' (first | ((with_reducible apply kP (.load 56 _)); refine sP ?_ (o_load rfl (ld_4S (shTOf rfl) hsl SBt (by omega)))) | ((with_reducible apply kDP (.load 56 _)); refine dP ?_ (hX := rfl) (hv := o_load rfl (ld_4S (shTOf rfl) hsl SBt (by omega)))) | ((with_reducible apply kQO (.load 56 _)); refine qP ?_ (o_load rfl (ld_4S (shTOf rfl) hsl SBt (by omega)))) | ((with_reducible apply kDN); refine dtC ?_) | ((with_reducible apply kDP (.call ⟨.builtin .append, _, _⟩)); refine dAp4 (fun oa7 c7 k7 hr7 => ?_) (hr := hr4) (hk := hl4) (hf := flat_cons rfl (flat_cons rfl (flat_cons rfl (flat1 rfl))))) | ((with_reducible apply kRg 12); refine cD [1, 1, 1, 1, 1, 1, 1, 2, 4, 1, 4] ?_) | (with_reducible first | refine c_seq ?_ | refine c_reg ?_ | refine c_region ?_ | refine c_block ?_ | refine c_skip ?_ | refine c_exit ?_ | refine c_ret ?_ | refine s_nil ?_ | refine x_then ?_ | refine x_then_exit ?_ | refine x_then_ret ?_ | refine x_block ?_ | refine x_block_ret ?_ | refine x_block_same ?_ | refine x_block_other (by first | rfl | decide) ?_ | refine q_nil ?_ | refine k_nil ?_) | ((with_reducible apply kN); first | refine stP ?_ | refine stI ?_ | refine st1 ?_ | refine stW ?_) | ((with_reducible apply kP (.alloc _)); refine sA (fun b => ?_)) | ((with_reducible apply kP (.box _ _)); first | refine sBA (fun b => ?_) | refine sB (fun b => ?_)) | ((with_reducible apply kP _); refine sP ?_) | ((with_reducible apply kP _); refine sX ?_) | ((with_reducible apply kC); first | refine cT ?_ | refine cF ?_ | (refine cI (fun h => ?_) (fun h => ?_) <;> (try (exfalso; omega))) | refine cB (fun h => ?_) (fun h => ?_)) | ((with_reducible apply kDN); first | refine dtI ?_ | refine dt1 ?_ | refine dtW ?_) | ((with_reducible apply kDP (.buildSlice _ 1 _)); first | refine dl1A (fun b => ?_) | refine dl1 (fun b => ?_)) | ((with_reducible apply kDP (.call ⟨.builtin .append, _, _⟩)); first | refine dAp3 (fun oa2 c2 blk2 hrow2 => ?_) (hS := SCt) | refine dAp4 (fun oa2 c2 blk2 hrow2 => ?_)) | ((with_reducible apply kDP _); refine dP ?_) | ((with_reducible apply kDP _); refine dX ?_))
          all_goals try (exfalso; omega)
          have hr7' : RowOk oa7 c7 4 (ivs (rmT sm x (i + 1))) k7 := by
            have e : ivs (rmT sm x (i + 1)) = ivs (rmT sm x i) ++ [iv (sm.getD (i * 4) 0), iv (sm.getD (i * 4 + 1) 0), iv (sm.getD (i * 4 + 2) 0), iv (sm.getD (i * 4 + 3) 0)] := by rw [h4]; simp [ivs]
            rw [e]; exact hr7
          first
            | exact r_end (⟨i + 1, oa7, c7, k7⟩ : UnI) ⟨hi', hr7'⟩ (by dsimp only; omega) (by repeat' first | trivial | rfl | apply And.intro) (by dsimp only; rw [hn4]; exact .append (.refl _) (.append (.refl _) (.append (.refl _) (.refl _))))
            | exact r_end (⟨i + 1, oa7, c7, k7⟩ : UnI) ⟨hi', hr7'⟩ (by dsimp only; omega) (by repeat' first | trivial | rfl | apply And.intro) (by dsimp only; rw [hn4]; exact .append (.refl _) (.cons _ (.refl _)))
            | trace_state
      · obtain rfl : m = i := by omega
        have hrN : rmN x m = m - 1 := by unfold rmN; rw [if_neg (by omega)]
        rw [rmT_all hsm hxm] at hr4
        rw [hrN]
        repeat' (first | ((with_reducible apply kN); first | refine stC ?_ | refine stW ?_ (hf := flat_cons rfl (flat_cons rfl (flat1 rfl)))) | ((with_reducible apply kRg 12); refine cD [1, 1, 1, 1, 1, 1, 1, 2, 4, 1, 4] ?_) | (with_reducible first | refine c_seq ?_ | refine c_reg ?_ | refine c_region ?_ | refine c_block ?_ | refine c_skip ?_ | refine c_exit ?_ | refine c_ret ?_ | refine s_nil ?_ | refine x_then ?_ | refine x_then_exit ?_ | refine x_then_ret ?_ | refine x_block ?_ | refine x_block_ret ?_ | refine x_block_same ?_ | refine x_block_other (by first | rfl | decide) ?_ | refine q_nil ?_ | refine k_nil ?_) | ((with_reducible apply kN); first | refine stP ?_ | refine stI ?_ | refine st1 ?_ | refine stW ?_) | ((with_reducible apply kP (.alloc _)); refine sA (fun b => ?_)) | ((with_reducible apply kP (.box _ _)); first | refine sBA (fun b => ?_) | refine sB (fun b => ?_)) | ((with_reducible apply kP _); refine sP ?_) | ((with_reducible apply kP _); refine sX ?_) | ((with_reducible apply kC); first | refine cT ?_ | refine cF ?_ | (refine cI (fun h => ?_) (fun h => ?_) <;> (try (exfalso; omega))) | refine cB (fun h => ?_) (fun h => ?_)) | ((with_reducible apply kDN); first | refine dtI ?_ | refine dt1 ?_ | refine dtW ?_) | ((with_reducible apply kDP (.buildSlice _ 1 _)); first | refine dl1A (fun b => ?_) | refine dl1 (fun b => ?_)) | ((with_reducible apply kDP (.call ⟨.builtin .append, _, _⟩)); first | refine dAp3 (fun oa2 c2 blk2 hrow2 => ?_) (hS := SCt) | refine dAp4 (fun oa2 c2 blk2 hrow2 => ?_)) | ((with_reducible apply kDP _); refine dP ?_) | ((with_reducible apply kDP _); refine dX ?_))
        refine e_ret2 (hs' := (k6 ++ (bo ++ rpb rs)) ++ hs) rfl ⟨_, rfl, ld_whole (shTOf rfl) MDt rfl⟩ rfl (.inr ⟨rfl, _, _, ⟨oP', cP', oa4, c4, rs, bo, k6, rfl, g2, g3, g4, g5, hr4, rfl⟩, rfl, rfl⟩) ?_
        rw [List.append_assoc, List.append_assoc]
        exact .append (.refl _) (.cons _ (.append (.refl _) (.append (.refl _) (.cons _ (.cons _ (.refl _))))))
    · rw [if_pos hx]
      rw [decide_eq_false (show ¬ (0 ≤ x ∧ x ≤ (m : Int) - 1) by omega)] at kw
      refine fn_enter Try.func37 rfl Try.ntmps37 (by simp) ?_
      repeat' (first | ((with_reducible apply kP (.box 25 _)); refine sBA (fun b2 => ?_)) | ((with_reducible apply kP (.alloc 25)); refine sA (fun b4 => ?_)) | ((with_reducible apply kF 19); refine sC 19 (kv _ SBt) ?_) | ((with_reducible apply kF 58); refine sC 58 (kw _) ?_) | ((with_reducible apply kN); refine stW ?_ (hf := flat_cons rfl (flat_cons rfl (flat1 rfl)))) | ((with_reducible apply kRg 12); refine cD [1, 1, 1, 1, 1, 1, 1, 2, 4, 1, 4] ?_) | (with_reducible first | refine c_seq ?_ | refine c_reg ?_ | refine c_region ?_ | refine c_block ?_ | refine c_skip ?_ | refine c_exit ?_ | refine c_ret ?_ | refine s_nil ?_ | refine x_then ?_ | refine x_then_exit ?_ | refine x_then_ret ?_ | refine x_block ?_ | refine x_block_ret ?_ | refine x_block_same ?_ | refine x_block_other (by first | rfl | decide) ?_ | refine q_nil ?_ | refine k_nil ?_) | ((with_reducible apply kN); first | refine stP ?_ | refine stI ?_ | refine st1 ?_ | refine stW ?_) | ((with_reducible apply kP (.alloc _)); refine sA (fun b => ?_)) | ((with_reducible apply kP (.box _ _)); first | refine sBA (fun b => ?_) | refine sB (fun b => ?_)) | ((with_reducible apply kP _); refine sP ?_) | ((with_reducible apply kP _); refine sX ?_) | ((with_reducible apply kC); first | refine cT ?_ | refine cF ?_ | (refine cI (fun h => ?_) (fun h => ?_) <;> (try (exfalso; omega))) | refine cB (fun h => ?_) (fun h => ?_)) | ((with_reducible apply kDN); first | refine dtI ?_ | refine dt1 ?_ | refine dtW ?_) | ((with_reducible apply kDP (.buildSlice _ 1 _)); first | refine dl1A (fun b => ?_) | refine dl1 (fun b => ?_)) | ((with_reducible apply kDP (.call ⟨.builtin .append, _, _⟩)); first | refine dAp3 (fun oa2 c2 blk2 hrow2 => ?_) (hS := SCt) | refine dAp4 (fun oa2 c2 blk2 hrow2 => ?_)) | ((with_reducible apply kDP _); refine dP ?_) | ((with_reducible apply kDP _); refine dX ?_))
      all_goals first
        | exact e_ret2 (hs' := hs) rfl ⟨_, rfl, ld_whole (shTOf rfl) MDt rfl⟩ rfl (.inl ⟨by decide, rfl, rfl⟩) SCt
        | (exfalso; omega)
        | trace_state
  · rw [if_pos hv]
    have hv' : vdE ps.length (sdF ps) (anF ps) m sm e ≠ 0 := hv
    have hv2 : vdC ps sm m e = vdE ps.length (sdF ps) (anF ps) m sm e := rfl
    rw [hv2]
    generalize vdE ps.length (sdF ps) (anF ps) m sm e = z at *
    refine fn_enter Try.func37 rfl Try.ntmps37 (by simp) ?_
    repeat' (first | ((with_reducible apply kP (.box 25 _)); refine sBA (fun b2 => ?_)) | ((with_reducible apply kP (.alloc 25)); refine sA (fun b4 => ?_)) | ((with_reducible apply kF 19); refine sC 19 (kv _ SBt) ?_) | ((with_reducible apply kN); refine stW ?_ (hf := flat_cons rfl (flat_cons rfl (flat1 rfl)))) | ((with_reducible apply kRg 12); refine cD [1, 1, 1, 1, 1, 1, 1, 2, 4, 1, 4] ?_) | (with_reducible first | refine c_seq ?_ | refine c_reg ?_ | refine c_region ?_ | refine c_block ?_ | refine c_skip ?_ | refine c_exit ?_ | refine c_ret ?_ | refine s_nil ?_ | refine x_then ?_ | refine x_then_exit ?_ | refine x_then_ret ?_ | refine x_block ?_ | refine x_block_ret ?_ | refine x_block_same ?_ | refine x_block_other (by first | rfl | decide) ?_ | refine q_nil ?_ | refine k_nil ?_) | ((with_reducible apply kN); first | refine stP ?_ | refine stI ?_ | refine st1 ?_ | refine stW ?_) | ((with_reducible apply kP (.alloc _)); refine sA (fun b => ?_)) | ((with_reducible apply kP (.box _ _)); first | refine sBA (fun b => ?_) | refine sB (fun b => ?_)) | ((with_reducible apply kP _); refine sP ?_) | ((with_reducible apply kP _); refine sX ?_) | ((with_reducible apply kC); first | refine cT ?_ | refine cF ?_ | (refine cI (fun h => ?_) (fun h => ?_) <;> (try (exfalso; omega))) | refine cB (fun h => ?_) (fun h => ?_)) | ((with_reducible apply kDN); first | refine dtI ?_ | refine dt1 ?_ | refine dtW ?_) | ((with_reducible apply kDP (.buildSlice _ 1 _)); first | refine dl1A (fun b => ?_) | refine dl1 (fun b => ?_)) | ((with_reducible apply kDP (.call ⟨.builtin .append, _, _⟩)); first | refine dAp3 (fun oa2 c2 blk2 hrow2 => ?_) (hS := SCt) | refine dAp4 (fun oa2 c2 blk2 hrow2 => ?_)) | ((with_reducible apply kDP _); refine dP ?_) | ((with_reducible apply kDP _); refine dX ?_))
    exact e_ret2 (hs' := hs) rfl ⟨_, rfl, ld_whole (shTOf rfl) MDt rfl⟩ rfl (.inl ⟨hv', rfl, rfl⟩) SCt
end Go.Proofs.Ytnbickholedckaa
