/- Texts of this claim, put together; the parts that it needs. -/
import Derived.Test.YtnbickholedckaaGreatDoorQ11
namespace Go.Proofs.YtnbickholedckaaGreatDoor
open Go.RowKit
theorem pcsv_flat (ps : List Pc) : Flat (pcsv ps) := by
  induction ps with
  | nil => exact flat0
  | cons p ps ih =>
    unfold pcsv pcv
    exact flat_cons rfl (flat_cons rfl ih)
theorem set_mid {A B z : List Value} {x y v : Value} : (A ++ (x :: y :: B) ++ z).set A.length v = A ++ (v :: y :: B) ++ z := by
  rw [List.append_assoc, List.set_append_right _ _ (Nat.le_refl _), Nat.sub_self]
  simp
theorem set_mid1 {A B z : List Value} {x y v : Value} : (A ++ (x :: y :: B) ++ z).set (A.length + 1) v = A ++ (x :: v :: B) ++ z := by
  rw [List.append_assoc, List.set_append_right _ _ (by omega), show A.length + 1 - A.length = 1 by omega]
  simp
theorem Sv.some_of {B : Nat} {w0 : Wd} {hs : HS} {l : List Value} (h : Sv B w0 hs none l) : l = [] := by
  cases l with
  | nil => rfl
  | cons v l => have := (h 0 (by simp)).1; simp at this
attribute [local irreducible] OpF Ld CellAt Sl Sv pcA
set_option maxRecDepth 100000 in
set_option maxHeartbeats 8000000 in
theorem k_cloneI (oa : Option Addr) (c : Nat) (l : List Int) (hl : l.length ≤ 100) (B : Nat) (w0 : Wd) (hs : HS) (hL : Sl B w0 hs oa l) :
    Fn Tryz.prog 62 #[.slice oa l.length c] B w0 hs (fun v h => ∃ blk, (∃ oa' c', v = .slice oa' l.length c' ∧ RowOk oa' c' 1 (ivs l) blk) ∧ h = blk ++ hs) := by
  cases oa with
  | none =>
    have h0 : l = [] := by
      have := Sv.some_of hL.sv
      simpa [ivs] using this
    subst h0
    refine fn_enter Tryz.func62 rfl Tryz.ntmps62 (by simp) ?_
    repeat' (first | ((with_reducible apply kP (.binOp .eql _ _ _ _)); refine sP ?_ (o_eqlN (scTOf rfl) rfl rfl)) | ((with_reducible apply kDP (.binOp .eql _ _ _ _)); refine dP ?_ (hX := rfl) (hv := o_eqlN (scTOf rfl) rfl rfl)) | ((with_reducible apply kQO (.binOp .eql _ _ _ _)); refine qP ?_ (o_eqlN (scTOf rfl) rfl rfl)) | (with_reducible first | refine c_seq ?_ | refine c_reg ?_ | refine c_region ?_ | refine c_block ?_ | refine c_skip ?_ | refine c_exit ?_ | refine c_ret ?_ | refine s_nil ?_ | refine x_then ?_ | refine x_then_exit ?_ | refine x_then_ret ?_ | refine x_block ?_ | refine x_block_ret ?_ | refine x_block_same ?_ | refine x_block_other (by first | rfl | decide) ?_ | refine q_nil ?_ | refine k_nil ?_) | ((with_reducible apply kP (.buildSlice _ 0 _)); refine s_bs0 (scTOf rfl) (zsTOf rfl) (by decide) (fun b => ?_)) | ((with_reducible apply kP (.call ⟨.builtin .append, _, _⟩)); refine sAp (fun oa2 c2 blk2 hrow2 => ?_)) | ((with_reducible apply kP _); refine sP ?_) | ((with_reducible apply kP _); refine sX ?_) | ((with_reducible apply kC); first | refine cT ?_ | refine cF ?_ | (refine cI (fun h => ?_) (fun h => ?_) <;> (try (exfalso; omega))) | refine cB (fun h => ?_) (fun h => ?_)))
    exact e_ret1 (hs' := hs) rfl rfl ⟨[], ⟨none, 0, rfl, RowOk.nil⟩, rfl⟩ SCt
  | some a =>
    refine fn_enter Tryz.func62 rfl Tryz.ntmps62 (by simp) ?_
    repeat' (first | ((with_reducible apply kP (.binOp .eql _ _ _ _)); refine sP ?_ (o_eqlN (scTOf rfl) rfl rfl)) | ((with_reducible apply kDP (.binOp .eql _ _ _ _)); refine dP ?_ (hX := rfl) (hv := o_eqlN (scTOf rfl) rfl rfl)) | ((with_reducible apply kQO (.binOp .eql _ _ _ _)); refine qP ?_ (o_eqlN (scTOf rfl) rfl rfl)) | ((with_reducible apply kP (.call ⟨.builtin .append, _, _⟩)); refine s_appZ (apTOf rfl) rfl rfl (by with_reducible ((repeat (first | exact Take.head | exact Take.one | exact Take.nil | apply Take.tail | apply Take.app)); done)) (RowOk.new (n := 0) (xs := []) rfl (by decide)) (Sl.sv (hL.sub (.cons _ (.refl _)))) (by first | rfl | (rw [ivs_length]; omega) | (simp only [ivs_length, List.length_take]; omega)) (flat_iv _) (by first | assumption | omega) (by decide) (by decide) (fun oa2 c2 blk2 hrow2 => ?_)) | (with_reducible first | refine c_seq ?_ | refine c_reg ?_ | refine c_region ?_ | refine c_block ?_ | refine c_skip ?_ | refine c_exit ?_ | refine c_ret ?_ | refine s_nil ?_ | refine x_then ?_ | refine x_then_exit ?_ | refine x_then_ret ?_ | refine x_block ?_ | refine x_block_ret ?_ | refine x_block_same ?_ | refine x_block_other (by first | rfl | decide) ?_ | refine q_nil ?_ | refine k_nil ?_) | ((with_reducible apply kP (.buildSlice _ 0 _)); refine s_bs0 (scTOf rfl) (zsTOf rfl) (by decide) (fun b => ?_)) | ((with_reducible apply kP (.call ⟨.builtin .append, _, _⟩)); refine sAp (fun oa2 c2 blk2 hrow2 => ?_)) | ((with_reducible apply kP _); refine sP ?_) | ((with_reducible apply kP _); refine sX ?_) | ((with_reducible apply kC); first | refine cT ?_ | refine cF ?_ | (refine cI (fun h => ?_) (fun h => ?_) <;> (try (exfalso; omega))) | refine cB (fun h => ?_) (fun h => ?_)))
    exact e_ret1 rfl rfl ⟨blk2, ⟨oa2, c2, rfl, hrow2⟩, rfl⟩ SCt
set_option maxRecDepth 100000 in
set_option maxHeartbeats 8000000 in
theorem k_cloneS (oa : Option Addr) (c m : Nat) (l : List Int) (hl : l.length = m * 4) (hm : m ≤ 10000) (B : Nat) (w0 : Wd) (hs : HS) (hL : Sl B w0 hs oa l) :
    Fn Tryz.prog 61 #[.slice oa m c] B w0 hs (fun v h => ∃ blk, (∃ oa' c', v = .slice oa' m c' ∧ RowOk oa' c' 4 (ivs l) blk) ∧ h = blk ++ hs) := by
  have hlk : (ivs l).length = m * 4 := by rw [ivs_length]; exact hl
  cases oa with
  | none =>
    have h0 : l = [] := by
      have := Sv.some_of hL.sv
      simpa [ivs] using this
    subst h0
    obtain rfl : m = 0 := by simp at hl; omega
    refine fn_enter Tryz.func61 rfl Tryz.ntmps61 (by simp) ?_
    repeat' (first | ((with_reducible apply kP (.binOp .eql _ _ _ _)); refine sP ?_ (o_eqlN (scTOf rfl) rfl rfl)) | ((with_reducible apply kDP (.binOp .eql _ _ _ _)); refine dP ?_ (hX := rfl) (hv := o_eqlN (scTOf rfl) rfl rfl)) | ((with_reducible apply kQO (.binOp .eql _ _ _ _)); refine qP ?_ (o_eqlN (scTOf rfl) rfl rfl)) | (with_reducible first | refine c_seq ?_ | refine c_reg ?_ | refine c_region ?_ | refine c_block ?_ | refine c_skip ?_ | refine c_exit ?_ | refine c_ret ?_ | refine s_nil ?_ | refine x_then ?_ | refine x_then_exit ?_ | refine x_then_ret ?_ | refine x_block ?_ | refine x_block_ret ?_ | refine x_block_same ?_ | refine x_block_other (by first | rfl | decide) ?_ | refine q_nil ?_ | refine k_nil ?_) | ((with_reducible apply kP (.buildSlice _ 0 _)); refine s_bs0 (scTOf rfl) (zsTOf rfl) (by decide) (fun b => ?_)) | ((with_reducible apply kP (.call ⟨.builtin .append, _, _⟩)); refine sAp (fun oa2 c2 blk2 hrow2 => ?_)) | ((with_reducible apply kP _); refine sP ?_) | ((with_reducible apply kP _); refine sX ?_) | ((with_reducible apply kC); first | refine cT ?_ | refine cF ?_ | (refine cI (fun h => ?_) (fun h => ?_) <;> (try (exfalso; omega))) | refine cB (fun h => ?_) (fun h => ?_)))
    exact e_ret1 (hs' := hs) rfl rfl ⟨[], ⟨none, 0, rfl, RowOk.nil⟩, rfl⟩ SCt
  | some a =>
    refine fn_enter Tryz.func61 rfl Tryz.ntmps61 (by simp) ?_
    repeat' (first | ((with_reducible apply kP (.binOp .eql _ _ _ _)); refine sP ?_ (o_eqlN (scTOf rfl) rfl rfl)) | ((with_reducible apply kDP (.binOp .eql _ _ _ _)); refine dP ?_ (hX := rfl) (hv := o_eqlN (scTOf rfl) rfl rfl)) | ((with_reducible apply kQO (.binOp .eql _ _ _ _)); refine qP ?_ (o_eqlN (scTOf rfl) rfl rfl)) | ((with_reducible apply kP (.call ⟨.builtin .append, _, _⟩)); refine s_appZ (apTOf rfl) rfl rfl Take.one (RowOk.new (n := 0) (xs := []) rfl (by decide)) (Sl.sv (hL.sub (.cons _ (.refl _)))) hlk (flat_iv _) (by omega) (by decide) (by first | decide | exact ltd rfl) (fun oa2 c2 blk2 hrow2 => ?_)) | (with_reducible first | refine c_seq ?_ | refine c_reg ?_ | refine c_region ?_ | refine c_block ?_ | refine c_skip ?_ | refine c_exit ?_ | refine c_ret ?_ | refine s_nil ?_ | refine x_then ?_ | refine x_then_exit ?_ | refine x_then_ret ?_ | refine x_block ?_ | refine x_block_ret ?_ | refine x_block_same ?_ | refine x_block_other (by first | rfl | decide) ?_ | refine q_nil ?_ | refine k_nil ?_) | ((with_reducible apply kP (.buildSlice _ 0 _)); refine s_bs0 (scTOf rfl) (zsTOf rfl) (by decide) (fun b => ?_)) | ((with_reducible apply kP (.call ⟨.builtin .append, _, _⟩)); refine sAp (fun oa2 c2 blk2 hrow2 => ?_)) | ((with_reducible apply kP _); refine sP ?_) | ((with_reducible apply kP _); refine sX ?_) | ((with_reducible apply kC); first | refine cT ?_ | refine cF ?_ | (refine cI (fun h => ?_) (fun h => ?_) <;> (try (exfalso; omega))) | refine cB (fun h => ?_) (fun h => ?_)))
    exact e_ret1 rfl rfl ⟨blk2, ⟨oa2, c2, rfl, hrow2⟩, rfl⟩ SCt
set_option maxRecDepth 100000 in
set_option maxHeartbeats 8000000 in
theorem k_cloneP (oa : Option Addr) (c : Nat) (ps : List Pc) (hl : ps.length ≤ 10000) (B : Nat) (w0 : Wd) (hs : HS) (hL : Sv B w0 hs oa (pcsv ps)) :
    Fn Tryz.prog 60 #[.slice oa ps.length c] B w0 hs (fun v h => ∃ blk, (∃ oa' c', v = .slice oa' ps.length c' ∧ RowOk oa' c' 2 (pcsv ps) blk) ∧ h = blk ++ hs) := by
  have hlk : (pcsv ps).length = ps.length * 2 := by rw [pcsv_len]; omega
  cases oa with
  | none =>
    have h0 : pcsv ps = [] := Sv.some_of hL
    obtain rfl : ps = [] := by
      rw [h0] at hlk
      cases ps with
      | nil => rfl
      | cons p ps => simp at hlk
    refine fn_enter Tryz.func60 rfl Tryz.ntmps60 (by simp) ?_
    repeat' (first | ((with_reducible apply kP (.binOp .eql _ _ _ _)); refine sP ?_ (o_eqlN (scTOf rfl) rfl rfl)) | ((with_reducible apply kDP (.binOp .eql _ _ _ _)); refine dP ?_ (hX := rfl) (hv := o_eqlN (scTOf rfl) rfl rfl)) | ((with_reducible apply kQO (.binOp .eql _ _ _ _)); refine qP ?_ (o_eqlN (scTOf rfl) rfl rfl)) | (with_reducible first | refine c_seq ?_ | refine c_reg ?_ | refine c_region ?_ | refine c_block ?_ | refine c_skip ?_ | refine c_exit ?_ | refine c_ret ?_ | refine s_nil ?_ | refine x_then ?_ | refine x_then_exit ?_ | refine x_then_ret ?_ | refine x_block ?_ | refine x_block_ret ?_ | refine x_block_same ?_ | refine x_block_other (by first | rfl | decide) ?_ | refine q_nil ?_ | refine k_nil ?_) | ((with_reducible apply kP (.buildSlice _ 0 _)); refine s_bs0 (scTOf rfl) (zsTOf rfl) (by decide) (fun b => ?_)) | ((with_reducible apply kP (.call ⟨.builtin .append, _, _⟩)); refine sAp (fun oa2 c2 blk2 hrow2 => ?_)) | ((with_reducible apply kP _); refine sP ?_) | ((with_reducible apply kP _); refine sX ?_) | ((with_reducible apply kC); first | refine cT ?_ | refine cF ?_ | (refine cI (fun h => ?_) (fun h => ?_) <;> (try (exfalso; omega))) | refine cB (fun h => ?_) (fun h => ?_)))
    exact e_ret1 (hs' := hs) rfl rfl ⟨[], ⟨none, 0, rfl, RowOk.nil⟩, rfl⟩ SCt
  | some a =>
    refine fn_enter Tryz.func60 rfl Tryz.ntmps60 (by simp) ?_
    repeat' (first | ((with_reducible apply kP (.binOp .eql _ _ _ _)); refine sP ?_ (o_eqlN (scTOf rfl) rfl rfl)) | ((with_reducible apply kDP (.binOp .eql _ _ _ _)); refine dP ?_ (hX := rfl) (hv := o_eqlN (scTOf rfl) rfl rfl)) | ((with_reducible apply kQO (.binOp .eql _ _ _ _)); refine qP ?_ (o_eqlN (scTOf rfl) rfl rfl)) | ((with_reducible apply kP (.call ⟨.builtin .append, _, _⟩)); refine s_appZ (apTOf rfl) rfl rfl Take.one (RowOk.new (n := 0) (xs := []) rfl (by decide)) (hL.sub (.cons _ (.refl _))) hlk (pcsv_flat _) (by omega) (by decide) (by first | decide | exact ltd rfl) (fun oa2 c2 blk2 hrow2 => ?_)) | (with_reducible first | refine c_seq ?_ | refine c_reg ?_ | refine c_region ?_ | refine c_block ?_ | refine c_skip ?_ | refine c_exit ?_ | refine c_ret ?_ | refine s_nil ?_ | refine x_then ?_ | refine x_then_exit ?_ | refine x_then_ret ?_ | refine x_block ?_ | refine x_block_ret ?_ | refine x_block_same ?_ | refine x_block_other (by first | rfl | decide) ?_ | refine q_nil ?_ | refine k_nil ?_) | ((with_reducible apply kP (.buildSlice _ 0 _)); refine s_bs0 (scTOf rfl) (zsTOf rfl) (by decide) (fun b => ?_)) | ((with_reducible apply kP (.call ⟨.builtin .append, _, _⟩)); refine sAp (fun oa2 c2 blk2 hrow2 => ?_)) | ((with_reducible apply kP _); refine sP ?_) | ((with_reducible apply kP _); refine sX ?_) | ((with_reducible apply kC); first | refine cT ?_ | refine cF ?_ | (refine cI (fun h => ?_) (fun h => ?_) <;> (try (exfalso; omega))) | refine cB (fun h => ?_) (fun h => ?_)))
    exact e_ret1 rfl rfl ⟨blk2, ⟨oa2, c2, rfl, hrow2⟩, rfl⟩ SCt
/-- A copy of a cap in memory of its own. -/
def CpR (ps : List Pc) (sm : List Int) (m : Nat) (e : Int) (u : Value) (blk : HS) : Prop :=
  ∃ oP' cP' oS' cS' rs bo ko, u = .agg #[.slice oP' ps.length cP', .slice oS' m cS', iv e] ∧ RowOk oP' cP' 2 (pcsv (rpP rs)) bo ∧ (∀ r ∈ rs, RpOk r) ∧ rs.length = ps.length ∧ (∀ i, i < ps.length → (pcA (rpP rs) i).sd = (pcA ps i).sd ∧ (pcA (rpP rs) i).an = (pcA ps i).an) ∧ RowOk oS' cS' 4 (ivs sm) ko ∧ blk = ko ++ (bo ++ rpb rs)
structure CcI where
  i : Nat
  rs : List Rp
set_option maxRecDepth 100000 in
set_option maxHeartbeats 8000000 in
theorem k_copyCap (ps : List Pc) (oP oS : Option Addr) (cP m cS : Nat) (sm : List Int) (e : Int) (hn : ps.length ≤ 10000) (hn1 : 1 ≤ ps.length) (hl : ∀ i, i < ps.length → (pcA ps i).sd.length ≤ 100 ∧ (pcA ps i).an.length ≤ 100) (hsm : sm.length = m * 4) (hm : m ≤ 10000) (B : Nat) (w0 : Wd) (hs : HS) (hC : CapM B w0 hs oP oS ps sm) :
    Fn Tryz.prog 42 #[.agg #[.slice oP ps.length cP, .slice oS m cS, iv e]] B w0 hs (fun v h => ∃ blk, CpR ps sm m e v blk ∧ h = blk ++ hs) := by
  have kp := fun hs' (h : hs.Sublist hs') => k_cloneP oP cP ps hn B w0 hs' (hC.pcs.sub h)
  have kq := fun hs' (h : hs.Sublist hs') => k_cloneS oS cS m sm hsm hm B w0 hs' (hC.sms.sub h)
  refine fn_enter Tryz.func42 rfl Tryz.ntmps42 (by simp) ?_
  repeat' (first | ((with_reducible apply kP (.box 25 _)); refine sBA (fun b1 => ?_)) | ((with_reducible apply kP (.alloc 25)); refine sA (fun b2 => ?_)) | ((with_reducible apply kDF 60); (first | refine dN3 60 (fun F => kp _ (sbA SBt)) ?_ | refine dN4 60 (fun F => kp _ (sbA SBt)) ?_); rintro u1 bo ⟨oP', cP', rfl, hrP⟩) | ((with_reducible apply kDF 61); (first | refine dN3 61 (fun F => kq _ (sbA SBt)) ?_ | refine dN4 61 (fun F => kq _ (sbA SBt)) ?_); rintro u2 ko ⟨oS', cS', rfl, hrS⟩) | ((with_reducible apply kDN); refine dtC ?_) | ((with_reducible apply kRg 1); refine cD [1, 1, 3, 0, 0, 3, 0, 4, 1, 4] ?_) | ((with_reducible apply kRg 5); refine cD [0, 0, 0, 1, 1, 1, 1, 1, 1, 3, 1, 1, 4] ?_) | ((with_reducible apply kRg 6); refine cD [0, 0, 0, 1, 1, 1, 1, 1, 1, 3, 1, 1, 4] ?_) | (with_reducible first | refine c_seq ?_ | refine c_reg ?_ | refine c_region ?_ | refine c_block ?_ | refine c_skip ?_ | refine c_exit ?_ | refine c_ret ?_ | refine s_nil ?_ | refine x_then ?_ | refine x_then_exit ?_ | refine x_then_ret ?_ | refine x_block ?_ | refine x_block_ret ?_ | refine x_block_same ?_ | refine x_block_other (by first | rfl | decide) ?_ | refine q_nil ?_ | refine k_nil ?_) | ((with_reducible apply kN); first | refine stP ?_ | refine stI ?_ | refine st1 ?_ | refine stW ?_) | ((with_reducible apply kP (.alloc _)); refine sA (fun b => ?_)) | ((with_reducible apply kP (.box _ _)); first | refine sBA (fun b => ?_) | refine sB (fun b => ?_)) | ((with_reducible apply kP _); refine sP ?_) | ((with_reducible apply kP _); refine sX ?_) | ((with_reducible apply kC); first | refine cT ?_ | refine cF ?_ | (refine cI (fun h => ?_) (fun h => ?_) <;> (try (exfalso; omega))) | refine cB (fun h => ?_) (fun h => ?_)) | ((with_reducible apply kDN); first | refine dtI ?_ | refine dt1 ?_ | refine dtW ?_) | ((with_reducible apply kDP _); refine dP ?_) | ((with_reducible apply kDP _); refine dX ?_))
  rcases hrP with ⟨_, _, h3, _⟩ | ⟨bP, z, rfl, rfl, hz, hcP⟩
  · exfalso
    have := congrArg List.length h3
    rw [pcsv_len] at this
    simp at this; omega
  refine c_loop (fun t : CcI => [(1, .pointer (some ⟨b1, 0, none⟩)), (2, .pointer (some ⟨b2, 0, none⟩)), (14, iv ps.length), (15, iv t.i)])
    (fun t => rpb t.rs ++ (ko ++ ((bP, (pcsv (rpP t.rs) ++ pcsv (ps.drop t.i)) ++ z) :: (b2, [.slice none 0 0, .slice none 0 0, iv 0]) :: (b1, [.slice (some ⟨bP, 0, none⟩) ps.length cP', .slice oS' m cS', iv e]) :: hs)))
    (fun t => t.i ≤ ps.length ∧ t.rs.length = t.i ∧ (∀ r ∈ t.rs, RpOk r) ∧ ∀ j, j < t.i → (pcA (rpP t.rs) j).sd = (pcA ps j).sd ∧ (pcA (rpP t.rs) j).an = (pcA ps j).an)
    (fun t => ps.length - t.i) ⟨0, []⟩ ⟨Nat.zero_le _, rfl, fun r hr => (by cases hr), fun j hj => absurd hj (Nat.not_lt_zero _)⟩ (by repeat' first | trivial | rfl | apply And.intro) (.refl _) ?_
  rintro ⟨i, rs⟩ ⟨hi, hrl, hrr, hre⟩
  dsimp only at hi hrl hrr hre ⊢
  have hAl : (pcsv (rpP rs)).length = i * 2 := by rw [pcsv_len, rpP, List.length_map]; omega
  by_cases hi' : i < ps.length
  · have hdr : ps.drop i = pcA ps i :: ps.drop (i + 1) := by
      rw [List.drop_eq_getElem_cons hi']
      congr 1
      unfold pcA
      rw [List.getD_eq_getElem?_getD, List.getElem?_eq_getElem hi']; rfl
    rw [hdr]
    have hS1 := hC.sds i hi'
    have hS2 := hC.ans i hi'
    have hll := hl i hi'
    have hlr : (rpP rs).length = i := by rw [rpP, List.length_map]; exact hrl
    have hsd : ∀ j, j < i + 1 → ∀ q : Pc, q.sd = (pcA ps i).sd → q.an = (pcA ps i).an → (pcA (rpP rs ++ [q]) j).sd = (pcA ps j).sd ∧ (pcA (rpP rs ++ [q]) j).an = (pcA ps j).an := fun j hj q q1 q2 => by
      by_cases e : j = i
      · subst e
        have := pcA_eq (rpP rs) q
        rw [hlr] at this
        rw [this]
        exact ⟨q1, q2⟩
      · rw [pcA_lt (by omega)]
        exact hre j (by omega)
    have hpv : ∀ q : Pc, pcsv (rpP rs) ++ (.slice q.oa q.sd.length q.ca :: .slice q.ob q.an.length q.cb :: pcsv (ps.drop (i + 1))) = pcsv (rpP rs ++ [q]) ++ pcsv (ps.drop (i + 1)) := fun q => by
      rw [pcsv_app, List.append_assoc]; rfl
    have hp0 : pcsv (pcA ps i :: ps.drop (i + 1)) = .slice (pcA ps i).oa (pcA ps i).sd.length (pcA ps i).ca :: .slice (pcA ps i).ob (pcA ps i).an.length (pcA ps i).cb :: pcsv (ps.drop (i + 1)) := rfl
    rw [hp0]
    generalize pcA ps i = p at *
    have k1 := fun hs' (h : hs.Sublist hs') => k_cloneI p.oa p.ca p.sd hll.1 B w0 hs' (hS1.sub h)
    have k2 := fun hs' (h : hs.Sublist hs') => k_cloneI p.ob p.cb p.an hll.2 B w0 hs' (hS2.sub h)
    generalize hA : pcsv (rpP rs) = A at *
    generalize hBB : pcsv (ps.drop (i + 1)) = BB at *
    generalize hx : Value.slice p.oa p.sd.length p.ca = x at *
    generalize hy : Value.slice p.ob p.an.length p.cb = y at *
    have g0 : (A ++ (x :: y :: BB) ++ z)[i * 2]? = some x := by
      rw [List.append_assoc, List.getElem?_append_right (by omega), hAl]; simp
    have g1 : ∀ v, ((A ++ (x :: y :: BB) ++ z).set (i * 2) v)[i * 2 + 1]? = some y := fun v => by
      rw [← hAl, set_mid, List.append_assoc, List.getElem?_append_right (by omega)]; simp
    have l0 : i * 2 < (A ++ (x :: y :: BB) ++ z).length := by simp; omega
    have l1 : ∀ v, i * 2 + 1 < ((A ++ (x :: y :: BB) ++ z).set (i * 2) v).length := fun v => by simp; omega
    have gg : ∀ v w, ((A ++ (x :: y :: BB) ++ z).set (i * 2) v).set (i * 2 + 1) w = A ++ (v :: w :: BB) ++ z := fun v w => by
      rw [← hAl, set_mid, set_mid1]
    subst hx hy
    repeat' (first | ((with_reducible apply kP (.load 27 (.tmp 25))); refine sP ?_ (o_load rfl (ld_one (shTOf rfl) (own MMt g0)))) | ((with_reducible apply kDP (.load 27 (.tmp 25))); refine dP ?_ (hX := rfl) (hv := o_load rfl (ld_one (shTOf rfl) (own MMt g0)))) | ((with_reducible apply kQO (.load 27 (.tmp 25))); refine qP ?_ (o_load rfl (ld_one (shTOf rfl) (own MMt g0)))) | ((with_reducible apply kP (.load 27 (.tmp 37))); refine sP ?_ (o_load rfl (ld_one (shTOf rfl) (own MMt (g1 _))))) | ((with_reducible apply kDP (.load 27 (.tmp 37))); refine dP ?_ (hX := rfl) (hv := o_load rfl (ld_one (shTOf rfl) (own MMt (g1 _))))) | ((with_reducible apply kQO (.load 27 (.tmp 37))); refine qP ?_ (o_load rfl (ld_one (shTOf rfl) (own MMt (g1 _))))) | ((with_reducible apply kDF 62); (first | refine dN3 62 (fun F => k1 _ (sbA SBt)) ?_ | refine dN4 62 (fun F => k1 _ (sbA SBt)) ?_); rintro u3 q1 ⟨oA, cA, rfl, hrA⟩) | ((with_reducible apply kDF 62); (first | refine dN3 62 (fun F => k2 _ (sbA SBt)) ?_ | refine dN4 62 (fun F => k2 _ (sbA SBt)) ?_); rintro u4 q2 ⟨oB, cB, rfl, hrB⟩) | ((with_reducible apply kDN); refine dt1 ?_ (hl := l0)) | ((with_reducible apply kDN); refine dt1 ?_ (hl := l1 _)) | ((with_reducible apply kRg 1); refine cD [1, 1, 3, 0, 0, 3, 0, 4, 1, 4] ?_) | ((with_reducible apply kRg 5); refine cD [0, 0, 0, 1, 1, 1, 1, 1, 1, 3, 1, 1, 4] ?_) | ((with_reducible apply kRg 6); refine cD [0, 0, 0, 1, 1, 1, 1, 1, 1, 3, 1, 1, 4] ?_) | (with_reducible first | refine c_seq ?_ | refine c_reg ?_ | refine c_region ?_ | refine c_block ?_ | refine c_skip ?_ | refine c_exit ?_ | refine c_ret ?_ | refine s_nil ?_ | refine x_then ?_ | refine x_then_exit ?_ | refine x_then_ret ?_ | refine x_block ?_ | refine x_block_ret ?_ | refine x_block_same ?_ | refine x_block_other (by first | rfl | decide) ?_ | refine q_nil ?_ | refine k_nil ?_) | ((with_reducible apply kN); first | refine stP ?_ | refine stI ?_ | refine st1 ?_ | refine stW ?_) | ((with_reducible apply kP (.alloc _)); refine sA (fun b => ?_)) | ((with_reducible apply kP (.box _ _)); first | refine sBA (fun b => ?_) | refine sB (fun b => ?_)) | ((with_reducible apply kP _); refine sP ?_) | ((with_reducible apply kP _); refine sX ?_) | ((with_reducible apply kC); first | refine cT ?_ | refine cF ?_ | (refine cI (fun h => ?_) (fun h => ?_) <;> (try (exfalso; omega))) | refine cB (fun h => ?_) (fun h => ?_)) | ((with_reducible apply kDN); first | refine dtI ?_ | refine dt1 ?_ | refine dtW ?_) | ((with_reducible apply kDP _); refine dP ?_) | ((with_reducible apply kDP _); refine dX ?_))
    have hpq := hpv ⟨oA, cA, p.sd, oB, cB, p.an⟩
    dsimp only at hpq
    have hrp : rpP (rs ++ [(⟨⟨oA, cA, p.sd, oB, cB, p.an⟩, q2 ++ q1⟩ : Rp)]) = rpP rs ++ [⟨oA, cA, p.sd, oB, cB, p.an⟩] := by simp [rpP]
    rw [gg, hpq, ← hrp, ← hBB]
    refine r_end (⟨i + 1, rs ++ [(⟨⟨oA, cA, p.sd, oB, cB, p.an⟩, q2 ++ q1⟩ : Rp)]⟩ : CcI) ⟨hi', by simp [hrl], fun r hr => ?_, fun j hj => ?_⟩ (by dsimp only; omega) (by repeat' first | trivial | rfl | apply And.intro) (by dsimp only; rw [rpb_snoc, List.append_assoc, List.append_assoc]; exact .refl _)
    · rcases List.mem_append.1 hr with hr | hr
      · exact hrr r hr
      · rw [List.mem_singleton] at hr; subst hr; exact ⟨q1, q2, hrA, hrB, rfl⟩
    · dsimp only at hj ⊢
      rw [hrp]
      exact hsd j hj _ rfl rfl
  · obtain rfl : ps.length = i := by omega
    have hzz : ((pcsv (rpP rs) ++ pcsv (ps.drop ps.length)) ++ z) = pcsv (rpP rs) ++ z := by rw [List.drop_length]; simp [pcsv]
    rw [hzz]
    refine sat_take (blk := [(bP, pcsv (rpP rs) ++ z)]) (by repeat (first | exact Take.head | exact Take.one | apply Take.tail | apply Take.app)) ?_
    refine sat_take (blk := ko) (by repeat (first | exact Take.head | exact Take.one | apply Take.tail | apply Take.app)) ?_
    repeat' (first | ((with_reducible apply kN); refine stW ?_ (hf := flat_cons rfl (flat_cons rfl (flat1 rfl)))) | ((with_reducible apply kRg 1); refine cD [1, 1, 3, 0, 0, 3, 0, 4, 1, 4] ?_) | ((with_reducible apply kRg 5); refine cD [0, 0, 0, 1, 1, 1, 1, 1, 1, 3, 1, 1, 4] ?_) | ((with_reducible apply kRg 6); refine cD [0, 0, 0, 1, 1, 1, 1, 1, 1, 3, 1, 1, 4] ?_) | (with_reducible first | refine c_seq ?_ | refine c_reg ?_ | refine c_region ?_ | refine c_block ?_ | refine c_skip ?_ | refine c_exit ?_ | refine c_ret ?_ | refine s_nil ?_ | refine x_then ?_ | refine x_then_exit ?_ | refine x_then_ret ?_ | refine x_block ?_ | refine x_block_ret ?_ | refine x_block_same ?_ | refine x_block_other (by first | rfl | decide) ?_ | refine q_nil ?_ | refine k_nil ?_) | ((with_reducible apply kN); first | refine stP ?_ | refine stI ?_ | refine st1 ?_ | refine stW ?_) | ((with_reducible apply kP (.alloc _)); refine sA (fun b => ?_)) | ((with_reducible apply kP (.box _ _)); first | refine sBA (fun b => ?_) | refine sB (fun b => ?_)) | ((with_reducible apply kP _); refine sP ?_) | ((with_reducible apply kP _); refine sX ?_) | ((with_reducible apply kC); first | refine cT ?_ | refine cF ?_ | (refine cI (fun h => ?_) (fun h => ?_) <;> (try (exfalso; omega))) | refine cB (fun h => ?_) (fun h => ?_)) | ((with_reducible apply kDN); first | refine dtI ?_ | refine dt1 ?_ | refine dtW ?_) | ((with_reducible apply kDP _); refine dP ?_) | ((with_reducible apply kDP _); refine dX ?_))
    have hlz : (pcsv (rpP rs) ++ z).length = cP' * 2 := by
      rw [List.length_append, pcsv_len] at hz
      rw [List.length_append, hAl]
      omega
    refine e_ret1 (hs' := (ko ++ ([(bP, pcsv (rpP rs) ++ z)] ++ rpb rs)) ++ hs) rfl ⟨_, rfl, ld_whole (shTOf rfl) MDt rfl⟩ ⟨_, ⟨some ⟨bP, 0, none⟩, cP', oS', cS', rs, _, ko, rfl, .inr ⟨bP, z, rfl, rfl, hlz, hcP⟩, hrr, hrl, hre, hrS, rfl⟩, rfl⟩ ?_
    rw [List.append_assoc, List.append_assoc]
    exact .append (.refl _) (.append (.refl _) (.append (.refl _) (.cons _ (.cons _ (.refl _)))))
end Go.Proofs.YtnbickholedckaaGreatDoor
namespace Go.Proofs.YtnbickholedckaaGreatDoor
open Go.RowKit
attribute [local irreducible] OpF Ld CellAt Sl Sv pcA usP
/-- The same pieces, elsewhere. -/
structure SmP (qs ps : List Pc) : Prop where
  len : qs.length = ps.length
  sd : sdF qs = sdF ps
  an : anF qs = anF ps
theorem smP {rs : List Rp} {ps : List Pc} (h : rs.length = ps.length) (g : ∀ i, i < ps.length → (pcA (rpP rs) i).sd = (pcA ps i).sd ∧ (pcA (rpP rs) i).an = (pcA ps i).an) : SmP (rpP rs) ps := by
  have hlen : (rpP rs).length = ps.length := by rw [rpP, List.length_map]; exact h
  refine ⟨hlen, funext fun i => ?_, funext fun i => ?_⟩
  · by_cases h : i < ps.length
    · exact (g i h).1
    · unfold sdF; rw [pcA_ge (by omega), pcA_ge (by omega)]
  · by_cases h : i < ps.length
    · exact (g i h).2
    · unfold anF; rw [pcA_ge (by omega), pcA_ge (by omega)]
theorem SmP.at {qs ps : List Pc} (h : SmP qs ps) (i : Nat) : (pcA qs i).sd = (pcA ps i).sd ∧ (pcA qs i).an = (pcA ps i).an := ⟨congrFun h.sd i, congrFun h.an i⟩
theorem SmP.vd {qs ps : List Pc} (h : SmP qs ps) (sm : List Int) (m : Nat) (e : Int) : vdC qs sm m e = vdC ps sm m e := by unfold vdC; rw [h.len, h.sd, h.an]
theorem CpR.m {ps : List Pc} {sm : List Int} {m : Nat} {e : Int} {u : Value} {blk : HS} {B : Nat} {w0 : Wd} (h : CpR ps sm m e u blk) : ∃ qs oP cP oS cS, u = .agg #[.slice oP qs.length cP, .slice oS m cS, iv e] ∧ SmP qs ps ∧ ∀ F, CapM B w0 (blk ++ F) oP oS qs sm := by
  obtain ⟨oP', cP', oS', cS', rs, bo, ko, g1, g2, g3, g4, g5, g6, rfl⟩ := h
  have hs := smP g4 g5
  exact ⟨rpP rs, oP', cP', oS', cS', by rw [g1, hs.len], hs, fun F => capC g2 g3 g6⟩
def zcap : Value := .agg #[.slice none 0 0, .slice none 0 0, iv 0]
def swV (ps : List Pc) (sm : List Int) (m : Nat) (e : Int) (s : List Int) : Int := if vdC ps sm m e ≠ 0 then vdC ps sm m e else vdC ps (sm ++ s) (m + 1) e
/-- A cap, or an error. -/
def CeR (E : Int) (ps : List Pc) (sm : List Int) (m : Nat) (e : Int) (hs : HS) (v : Value) (h : HS) : Prop := (E ≠ 0 ∧ v = .tuple #[zcap, iv E] ∧ h = hs) ∨ (E = 0 ∧ ∃ u blk, CpR ps sm m e u blk ∧ v = .tuple #[u, iv 0] ∧ h = blk ++ hs)
theorem vdC_ok {ps : List Pc} {sm : List Int} {m : Nat} {e : Int} (V : VdC ps sm m e) : ∀ i, i < ps.length → (pcA ps i).sd.length ≤ 100 ∧ (pcA ps i).an.length ≤ 100 := fun i hi => by
  have h1 := (V.ok i hi).1
  have h2 := (V.ok i hi).2.1
  unfold sdF at h1 h2
  unfold anF at h2
  omega
set_option maxRecDepth 100000 in
set_option maxHeartbeats 8000000 in
theorem k_Sew (ps : List Pc) (oP oS : Option Addr) (cP m cS : Nat) (sm : List Int) (e A I D J : Int) (hn : ps.length ≤ 10000) (hsm : sm.length = m * 4) (hm : m < 100) (B : Nat) (w0 : Wd) (hs : HS) (hC : CapM B w0 hs oP oS ps sm) :
    Fn Tryz.prog 24 #[.agg #[.slice oP ps.length cP, .slice oS m cS, iv e], .agg #[iv A, iv I, iv D, iv J]] B w0 hs (CeR (swV ps sm m e [A, I, D, J]) ps (sm ++ [A, I, D, J]) (m + 1) e hs) := by
  have kv := fun hs' (h : hs.Sublist hs') => k_Validate ps oP oS cP m cS sm e hn hsm (by omega) B w0 hs' (hC.sub h)
  unfold CeR swV
  by_cases hv : vdC ps sm m e = 0
  · have V := vdC_0 hv
    rw [if_neg (fun h => h hv)]
    have hv' : vdE ps.length (sdF ps) (anF ps) m sm e = 0 := hv
    rw [hv'] at kv
    have kc := fun hs' (h : hs.Sublist hs') => k_copyCap ps oP oS cP m cS sm e (by omega) V.n1 (vdC_ok V) hsm (by omega) B w0 hs' (hC.sub h)
    refine fn_enter Tryz.func24 rfl Tryz.ntmps24 (by simp) ?_
    repeat' (first | ((with_reducible apply kP (.box 25 _)); refine sBA (fun b2 => ?_)) | ((with_reducible apply kP (.box 39 _)); refine sBA (fun b3 => ?_)) | ((with_reducible apply kP (.alloc 25)); refine sA (fun b4 => ?_)) | ((with_reducible apply kF 6); refine sC 6 (kv _ SBt) ?_) | ((with_reducible apply kF 42); refine sR 42 (kc _ SBt) ?_; rintro v7 h7 ⟨blk7, ⟨oP', cP', oS', cS', rs, bo, ko, rfl, g2, g3, g4, g5, g6, rfl⟩, rfl⟩; rw [List.append_assoc, List.append_assoc]) | ((with_reducible apply kN); first | refine stC ?_ | refine stW ?_ (hf := flat_cons rfl (flat_cons rfl (flat1 rfl)))) | ((with_reducible apply kP (.call ⟨.builtin .append, _, _⟩)); refine sAp (fun oa5 c5 ko5 hr5 => ?_) (hr := g6) (hk := by rw [ivs_length]; exact hsm) (hf := flat_cons rfl (flat_cons rfl (flat_cons rfl (flat1 rfl))))) | (with_reducible first | refine c_seq ?_ | refine c_reg ?_ | refine c_region ?_ | refine c_block ?_ | refine c_skip ?_ | refine c_exit ?_ | refine c_ret ?_ | refine s_nil ?_ | refine x_then ?_ | refine x_then_exit ?_ | refine x_then_ret ?_ | refine x_block ?_ | refine x_block_ret ?_ | refine x_block_same ?_ | refine x_block_other (by first | rfl | decide) ?_ | refine q_nil ?_ | refine k_nil ?_) | ((with_reducible apply kN); first | refine stP ?_ | refine stI ?_ | refine st1 ?_ | refine stW ?_) | ((with_reducible apply kP (.alloc _)); refine sA (fun b => ?_)) | ((with_reducible apply kP (.box _ _)); first | refine sBA (fun b => ?_) | refine sB (fun b => ?_)) | ((with_reducible apply kP (.buildSlice _ 1 _)); first | refine sl1A (fun b => ?_) | refine sl1 (fun b => ?_)) | ((with_reducible apply kP (.call ⟨.builtin .append, _, _⟩)); refine sAp (fun oa2 c2 blk2 hrow2 => ?_)) | ((with_reducible apply kP _); refine sP ?_) | ((with_reducible apply kP _); refine sX ?_) | ((with_reducible apply kC); first | refine cT ?_ | refine cF ?_ | (refine cI (fun h => ?_) (fun h => ?_) <;> (try (exfalso; omega))) | refine cB (fun h => ?_) (fun h => ?_)))
    rename_i b5
    have hP := smP g4 g5
    have hr6 : RowOk oa5 c5 4 (ivs (sm ++ [A, I, D, J])) ko5 := by
      have e : ivs (sm ++ [A, I, D, J]) = ivs sm ++ [iv A, iv I, iv D, iv J] := by simp [ivs]
      rw [e]; exact hr5
    have hsm' : (sm ++ [A, I, D, J]).length = (m + 1) * 4 := by simp; omega
    have hD0 := capC (B := B) (w0 := w0) (hs := []) g2 g3 hr6
    rw [List.append_nil] at hD0
    have kw : ∀ hs', (ko5 ++ (bo ++ rpb rs)).Sublist hs' → Fn Tryz.prog 6 #[.agg #[.slice oP' ps.length cP', .slice oa5 (m + 1) c5, iv e]] B w0 hs' (fun v h => v = iv (vdC ps (sm ++ [A, I, D, J]) (m + 1) e) ∧ h = hs') := fun hs' h => by
      have := k_Validate (rpP rs) oP' oa5 cP' (m + 1) c5 (sm ++ [A, I, D, J]) e (by rw [hP.len]; omega) hsm' (by omega) B w0 hs' (hD0.sub h)
      rw [hP.len, hP.sd, hP.an] at this
      exact this
    have hsub : ∀ {x y : Nat × List Value} {F : HS}, (ko5 ++ (bo ++ rpb rs)).Sublist (ko5 ++ (x :: y :: (bo ++ (rpb rs ++ F)))) := fun {x y F} => .append (.refl _) (.cons _ (.cons _ (by rw [← List.append_assoc]; exact List.sublist_append_left _ _)))
    by_cases hw : vdC ps (sm ++ [A, I, D, J]) (m + 1) e = 0
    · rw [hw] at kw
      repeat' (first | ((with_reducible apply kF 6); refine sC 6 (kw _ hsub) ?_) | ((with_reducible apply kN); refine stW ?_ (hf := flat_cons rfl (flat_cons rfl (flat1 rfl)))) | (with_reducible first | refine c_seq ?_ | refine c_reg ?_ | refine c_region ?_ | refine c_block ?_ | refine c_skip ?_ | refine c_exit ?_ | refine c_ret ?_ | refine s_nil ?_ | refine x_then ?_ | refine x_then_exit ?_ | refine x_then_ret ?_ | refine x_block ?_ | refine x_block_ret ?_ | refine x_block_same ?_ | refine x_block_other (by first | rfl | decide) ?_ | refine q_nil ?_ | refine k_nil ?_) | ((with_reducible apply kN); first | refine stP ?_ | refine stI ?_ | refine st1 ?_ | refine stW ?_) | ((with_reducible apply kP (.alloc _)); refine sA (fun b => ?_)) | ((with_reducible apply kP (.box _ _)); first | refine sBA (fun b => ?_) | refine sB (fun b => ?_)) | ((with_reducible apply kP (.buildSlice _ 1 _)); first | refine sl1A (fun b => ?_) | refine sl1 (fun b => ?_)) | ((with_reducible apply kP (.call ⟨.builtin .append, _, _⟩)); refine sAp (fun oa2 c2 blk2 hrow2 => ?_)) | ((with_reducible apply kP _); refine sP ?_) | ((with_reducible apply kP _); refine sX ?_) | ((with_reducible apply kC); first | refine cT ?_ | refine cF ?_ | (refine cI (fun h => ?_) (fun h => ?_) <;> (try (exfalso; omega))) | refine cB (fun h => ?_) (fun h => ?_)))
      refine e_ret2 (hs' := (ko5 ++ (bo ++ rpb rs)) ++ hs) rfl ⟨_, rfl, ld_whole (shTOf rfl) MDt rfl⟩ rfl (.inr ⟨hw, _, _, ⟨oP', cP', oa5, c5, rs, bo, ko5, rfl, g2, g3, g4, g5, hr6, rfl⟩, rfl, rfl⟩) ?_
      rw [List.append_assoc, List.append_assoc]
      exact .append (.refl _) (.cons _ (.cons _ (.append (.refl _) (.append (.refl _) (.cons _ (.cons _ (.cons _ (.refl _))))))))
    · generalize vdC ps (sm ++ [A, I, D, J]) (m + 1) e = z at *
      repeat' (first | ((with_reducible apply kF 6); refine sC 6 (kw _ hsub) ?_) | ((with_reducible apply kN); refine stW ?_ (hf := flat_cons rfl (flat_cons rfl (flat1 rfl)))) | (with_reducible first | refine c_seq ?_ | refine c_reg ?_ | refine c_region ?_ | refine c_block ?_ | refine c_skip ?_ | refine c_exit ?_ | refine c_ret ?_ | refine s_nil ?_ | refine x_then ?_ | refine x_then_exit ?_ | refine x_then_ret ?_ | refine x_block ?_ | refine x_block_ret ?_ | refine x_block_same ?_ | refine x_block_other (by first | rfl | decide) ?_ | refine q_nil ?_ | refine k_nil ?_) | ((with_reducible apply kN); first | refine stP ?_ | refine stI ?_ | refine st1 ?_ | refine stW ?_) | ((with_reducible apply kP (.alloc _)); refine sA (fun b => ?_)) | ((with_reducible apply kP (.box _ _)); first | refine sBA (fun b => ?_) | refine sB (fun b => ?_)) | ((with_reducible apply kP (.buildSlice _ 1 _)); first | refine sl1A (fun b => ?_) | refine sl1 (fun b => ?_)) | ((with_reducible apply kP (.call ⟨.builtin .append, _, _⟩)); refine sAp (fun oa2 c2 blk2 hrow2 => ?_)) | ((with_reducible apply kP _); refine sP ?_) | ((with_reducible apply kP _); refine sX ?_) | ((with_reducible apply kC); first | refine cT ?_ | refine cF ?_ | (refine cI (fun h => ?_) (fun h => ?_) <;> (try (exfalso; omega))) | refine cB (fun h => ?_) (fun h => ?_)))
      exact e_ret2 (hs' := hs) rfl ⟨_, rfl, ld_whole (shTOf rfl) MDt rfl⟩ rfl (.inl ⟨hw, rfl, rfl⟩) (sbA (.cons _ (.cons _ (sbA (sbA (.cons _ (.cons _ (.cons _ (.refl _)))))))))
  · rw [if_pos hv]
    have hv' : vdE ps.length (sdF ps) (anF ps) m sm e ≠ 0 := hv
    have hv2 : vdC ps sm m e = vdE ps.length (sdF ps) (anF ps) m sm e := rfl
    rw [hv2]
    generalize vdE ps.length (sdF ps) (anF ps) m sm e = z at *
    refine fn_enter Tryz.func24 rfl Tryz.ntmps24 (by simp) ?_
    repeat' (first | ((with_reducible apply kP (.box 25 _)); refine sBA (fun b2 => ?_)) | ((with_reducible apply kP (.box 39 _)); refine sBA (fun b3 => ?_)) | ((with_reducible apply kP (.alloc 25)); refine sA (fun b4 => ?_)) | ((with_reducible apply kF 6); refine sC 6 (kv _ SBt) ?_) | ((with_reducible apply kN); refine stW ?_ (hf := flat_cons rfl (flat_cons rfl (flat1 rfl)))) | (with_reducible first | refine c_seq ?_ | refine c_reg ?_ | refine c_region ?_ | refine c_block ?_ | refine c_skip ?_ | refine c_exit ?_ | refine c_ret ?_ | refine s_nil ?_ | refine x_then ?_ | refine x_then_exit ?_ | refine x_then_ret ?_ | refine x_block ?_ | refine x_block_ret ?_ | refine x_block_same ?_ | refine x_block_other (by first | rfl | decide) ?_ | refine q_nil ?_ | refine k_nil ?_) | ((with_reducible apply kN); first | refine stP ?_ | refine stI ?_ | refine st1 ?_ | refine stW ?_) | ((with_reducible apply kP (.alloc _)); refine sA (fun b => ?_)) | ((with_reducible apply kP (.box _ _)); first | refine sBA (fun b => ?_) | refine sB (fun b => ?_)) | ((with_reducible apply kP (.buildSlice _ 1 _)); first | refine sl1A (fun b => ?_) | refine sl1 (fun b => ?_)) | ((with_reducible apply kP (.call ⟨.builtin .append, _, _⟩)); refine sAp (fun oa2 c2 blk2 hrow2 => ?_)) | ((with_reducible apply kP _); refine sP ?_) | ((with_reducible apply kP _); refine sX ?_) | ((with_reducible apply kC); first | refine cT ?_ | refine cF ?_ | (refine cI (fun h => ?_) (fun h => ?_) <;> (try (exfalso; omega))) | refine cB (fun h => ?_) (fun h => ?_)))
    exact e_ret2 (hs' := hs) rfl ⟨_, rfl, ld_whole (shTOf rfl) MDt rfl⟩ rfl (.inl ⟨hv', rfl, rfl⟩) SCt
end Go.Proofs.YtnbickholedckaaGreatDoor
namespace Go.Proofs.YtnbickholedckaaGreatDoor
open Go.RowKit
section
variable {P : Program} {n : NN} {B : Nat} {w0 : Wd} {fr : FR} {hs hs' S S' : HS} {ty : TypeId} {K : Act → World → Prop} {ops : Array Oper} {l : List Oper} {d f : Nat} {fl : List Nat} {pos : String} {aft : Array Edge}
theorem o_sliceLHM {t : TypeId} {x lo hi mx : Operand} {b : Bool} {k len cap j j2 j3 : Nat} {i i2 i3 : Int} {oa : Option Addr} (ht : sc P t = some (b, k)) (hx : opv fr x = some (.slice oa len cap)) (hl : opv fr lo = some (.int .i64 i)) (hh : opv fr hi = some (.int .i64 i2)) (hm : opv fr mx = some (.int .i64 i3)) (hj : i = (j : Int)) (hj2 : i2 = (j2 : Int)) (hj3 : i3 = (j3 : Int)) (h1 : j ≤ j2) (h2 : j2 ≤ j3) (h3 : j3 ≤ cap) :
    OpF P n B w0 (.slice t x (some lo) (some hi) (some mx)) ty fr hs (.slice (subA oa j3 j k) (j2 - j) (j3 - j)) := fun a w ha _ => by
  have hb : (Instr.sliceBounds true len cap (some (.int .i64 i)) (some (.int .i64 i2)) (some (.int .i64 i3))).run P w = .ok (j, j2, j3) w := by
    simp [Instr.sliceBounds, run_slb _ hj h1, run_slb _ hj2 h2, run_slb _ hj3 h3]
  simp [ex, execOp, ha.opv hx, ha.opv hl, ha.opv hh, ha.opv hm, run_slc ht w hb]
/-- Cells appended where there is room: the block is turned in place. -/
theorem run_appIn {t t' : TypeId} {size bytes k m c c' b : Nat} {ad : Addr} {cs news : List Value} {w : World} (hap : ap P t = some (size, bytes)) (hw : Hp B w0 w hs) (hm : ∀ j u, news[j]? = some u → w.cell? (ad.add j) = some u) (hl : news.length = m * size) (hf : Flat news) (hroom : k + m ≤ c) (hfit : k * size + news.length ≤ cs.length) (hu : Upd b cs (setAll cs (k * size) news) hs hs') :
    ∃ w2, (Builtin.append_ #[t, t] t' #[.slice (some ⟨b, 0, none⟩) k c, .slice (some ad) m c']).run P w = .ok (.slice (some ⟨b, 0, none⟩) (k + m) c) w2 ∧ Hp B w0 w2 hs' := by
  unfold ap at hap
  split at hap
  · rename_i e hue
    split at hap
    · rename_i i hi
      split at hap
      · rename_i z hz
        split at hap
        · simp only [Option.some.injEq, Prod.mk.injEq] at hap
          obtain ⟨hs1, hs2⟩ := hap
          subst hs1 hs2
          obtain ⟨w2, h1, h2⟩ := run_storeCells_own (P := P) b news (k * i.size) cs _ _ w hw hf hfit hu (k * i.size) (Nat.le_refl _)
          have hff := run_firstCells_some (P := P) w i.size m ad m c' news hl hm
          refine ⟨w2, ?_, h2⟩
          simp only [Nat.sub_self] at h1
          simp [Builtin.append_, run_underlying hue, sizeOf, typeInfo, hi, Builtin.lenOf, hroom, hff, add_own, h1]
        · cases hap
      · cases hap
    · cases hap
  · cases hap
theorem k_appIn {t : TypeId} {size bytes k m c c' b o q : Nat} {cs news : List Value} {x y : Operand} (hfl : effF f = true) (hap : ap P t = some (size, bytes)) (hx : opv fr x = some (.slice (some ⟨b, 0, none⟩) k c)) (hy : opv fr y = some (.slice (some ⟨b, o, none⟩) m c')) (hmem : (b, cs) ∈ hs) (hm : ∀ j u, news[j]? = some u → cs[o + j]? = some u) (hl : news.length = m * size) (hf : Flat news) (hq : k + m = q) (hroom : q ≤ c) (hfit : k * size + news.length ≤ cs.length) (hu : Upd b cs (setAll cs (k * size) news) hs hs') (hS : Kp f S hs' S') (hn : d < n.n)
    (h : Rk P n B w0 ops K fl l S' ((d, .slice (some ⟨b, 0, none⟩) q c) :: fr) hs') :
    Rk P n B w0 ops K (f :: fl) (⟨some d, .call ⟨.builtin .append, #[x, y], #[t, t]⟩, ty, pos, aft, none⟩ :: l) S fr hs := by
  subst hq
  refine k_eff (R := fun u h => u = .slice (some ⟨b, 0, none⟩) (k + m) c ∧ h = hs') hfl rfl (fun a ha F w hw => ?_) ?_
  · obtain ⟨w2, h1, h2⟩ := run_appIn (P := P) (t' := ty) (c' := c') (ad := ⟨b, o, none⟩) hap hw (fun j u hj => by rw [add_own, hw.cell (List.mem_append_right F hmem)]; exact hm j u hj) hl hf hroom hfit (hu.app F)
    have : (execOp a.eval ⟨some d, .call ⟨.builtin .append, #[x, y], #[t, t]⟩, ty, pos, aft, none⟩).run P w = .ok (.value (.slice (some ⟨b, 0, none⟩) (k + m) c)) w2 := by
      simp only [execOp, resolve, invoke, builtin, Sem.run_bind, Sem.run_pure, Result.andThen_ok, List.map_toArray, List.map_cons, List.map_nil, ha.opv hx, ha.opv hy, h1]
    rw [this]
    exact ⟨hs', ⟨rfl, rfl⟩, h2⟩
  · rintro a ha u h' ⟨rfl, rfl⟩
    unfold Rk at h
    exact ⟨S', hS, h _ (ha.put hn _)⟩
theorem zeroCells1 (z : Array Value) : Builtin.zeroCells z 1 = z := by
  unfold Builtin.zeroCells
  apply Array.ext
  · simp
  · intro i h1 h2
    simp at h1 ⊢
    rw [Nat.mod_eq_of_lt h2, getElem!_pos z i h2]
theorem s_clear1 {t : TypeId} {x : Operand} {b o c' : Nat} {cs z : List Value} (hz : zs P t = some z.toArray) (hx : opv fr x = some (.slice (some ⟨b, o, none⟩) 1 c')) (hf : Flat z) (hfit : o + z.length ≤ cs.length) (hu : Upd b cs (setAll cs o z) hs hs') (h : Sat n B w0 (sl P ops K l) fr hs') :
    Sat n B w0 (sl P ops K (⟨none, .call ⟨.builtin .clear, #[x], #[t]⟩, ty, pos, aft, none⟩ :: l)) fr hs := sat_mk fun a w ha hw => by
  obtain ⟨w2, h1, h2⟩ := run_storeCells_own (P := P) b z o cs hs hs' w hw hf hfit hu o (Nat.le_refl _)
  have h4 := sat_el h _ _ ha h2
  unfold sl
  rw [if_pos (by simp [Region.wanted])]
  unfold Oper.wp
  unfold zs at hz
  split at hz
  · rename_i e hue
    unfold zc at hz
    cases hi : P.info? e with
    | none => simp [hi] at hz
    | some i =>
      simp only [hi, Option.map_eq_some_iff] at hz
      obtain ⟨zv, hzv, hzz⟩ := hz
      have key : (execOp a.eval ⟨none, .call ⟨.builtin .clear, #[x], #[t]⟩, ty, pos, aft, none⟩).run P w = .ok (.value (.tuple #[])) w2 := by
        simp only [Nat.sub_self] at h1
        simp [execOp, resolve, invoke, builtin, ha.opv hx, Builtin.clear_, run_underlying hue, zeroValue, typeInfo, hi, hzv, hzz, zeroCells1, h1]
      rw [key]
      exact h4
  · cases hz
end
def rmS (sm : List Int) (x : Nat) : List Int := sm.take (x * 4) ++ sm.drop ((x + 1) * 4)
theorem rmS_len {sm : List Int} {m x : Nat} (h : sm.length = m * 4) (hx : x < m) : (rmS sm x).length = (m - 1) * 4 := by
  unfold rmS
  rw [List.length_append, List.length_take, List.length_drop]; omega
theorem ivs_append (a b : List Int) : ivs (a ++ b) = ivs a ++ ivs b := by simp [ivs]
theorem ivs_take (l : List Int) (k : Nat) : ivs (l.take k) = (ivs l).take k := by simp [ivs, List.map_take]
theorem ivs_drop (l : List Int) (k : Nat) : ivs (l.drop k) = (ivs l).drop k := by simp [ivs, List.map_drop]
theorem subA_own {b c lo k : Nat} : subA (some ⟨b, 0, none⟩) c lo k = some ⟨b, if c = lo then 0 else lo * k, none⟩ := by
  unfold subA
  split
  · rfl
  · show some (Addr.add _ _) = _
    rw [add_own, Nat.zero_add]
theorem del_cells {sm : List Int} {m x : Nat} {z : List Value} (h : sm.length = m * 4) (hx : x < m) :
    setAll (setAll (ivs sm ++ z) (x * 4) (ivs (sm.drop ((x + 1) * 4)))) ((m - 1) * 4) [iv 0, iv 0, iv 0, iv 0] = ivs (rmS sm x) ++ ([iv 0, iv 0, iv 0, iv 0] ++ z) := by
  have hn : (ivs (sm.drop ((x + 1) * 4))).length = (m - (x + 1)) * 4 := by rw [ivs_length, List.length_drop]; omega
  have hl : (ivs sm ++ z).length = m * 4 + z.length := by rw [List.length_append, ivs_length, h]
  have ht : (ivs sm ++ z).take (x * 4) = ivs (sm.take (x * 4)) := by
    rw [List.take_append_of_le_length (by rw [ivs_length]; omega), ivs_take]
  have hd : (ivs sm ++ z).drop (x * 4 + (ivs (sm.drop ((x + 1) * 4))).length) = (ivs sm ++ z).drop ((m - 1) * 4) := by rw [hn]; congr 1; omega
  have e1 : setAll (ivs sm ++ z) (x * 4) (ivs (sm.drop ((x + 1) * 4))) = ivs (rmS sm x) ++ (ivs sm ++ z).drop ((m - 1) * 4) := by
    rw [setAll_take _ _ _ (by rw [hn, hl]; omega), ht, hd]
    unfold rmS
    rw [ivs_append]
  have hA : (ivs (rmS sm x)).length = (m - 1) * 4 := by rw [ivs_length]; exact rmS_len h hx
  have hD : ((ivs sm ++ z).drop ((m - 1) * 4)).drop 4 = z := by
    rw [List.drop_drop, show (m - 1) * 4 + 4 = (ivs sm).length by rw [ivs_length]; omega, List.drop_left]
  rw [e1, setAll_take _ _ _ (by simp only [List.length_append, List.length_drop, List.length_cons, List.length_nil] at hA hl ⊢; omega)]
  have hA2 : (m - 1) * 4 + [iv 0, iv 0, iv 0, iv 0].length = (ivs (rmS sm x)).length + 4 := by rw [hA]; rfl
  rw [hA2, ← List.drop_drop, List.drop_left, hD, ← hA, List.take_left, List.append_assoc]
attribute [local irreducible] OpF Ld CellAt Sl Sv pcA usP
theorem zs23 : zs Tryz.prog 23 = some [iv 0, iv 0, iv 0, iv 0].toArray := by kernel_rfl
set_option maxRecDepth 100000 in
set_option maxHeartbeats 8000000 in
theorem k_Delete (b m c x : Nat) (sm : List Int) (z : List Value) (hsm : sm.length = m * 4) (hx : x < m) (hm : m ≤ 10000) (hc : m ≤ c) (hl : (ivs sm ++ z).length = c * 4) (hcm : c ≤ maxLen) (B : Nat) (w0 : Wd) (hs : HS) :
    Fn Tryz.prog 43 #[.slice (some ⟨b, 0, none⟩) m c, iv x, iv ((x : Int) + 1)] B w0 ((b, ivs sm ++ z) :: hs) (fun v h => v = .slice (some ⟨b, 0, none⟩) (m - 1) c ∧ h = (b, ivs (rmS sm x) ++ ([iv 0, iv 0, iv 0, iv 0] ++ z)) :: hs) := by
  have hj : (x : Int) + 1 = ((x + 1 : Nat) : Int) := by omega
  have hdc := del_cells (z := z) hsm hx
  have hn : (ivs (sm.drop ((x + 1) * 4))).length = (m - (x + 1)) * 4 := by rw [ivs_length, List.length_drop]; omega
  have hlen : (ivs sm ++ z).length = m * 4 + z.length := by rw [List.length_append, ivs_length, hsm]
  have hnw : ∀ j u, (ivs (sm.drop ((x + 1) * 4)))[j]? = some u → (ivs sm ++ z)[(if c = x + 1 then 0 else (x + 1) * 4) + j]? = some u := fun j u hj => by
    have hjl := (List.getElem?_eq_some_iff.1 hj).1
    rw [if_neg (by omega), List.getElem?_append_left (by rw [ivs_length]; omega)]
    rw [ivs_drop, List.getElem?_drop] at hj
    exact hj
  have hk : x + (m - (x + 1)) = m - 1 := by omega
  have hfit : x * 4 + (ivs (sm.drop ((x + 1) * 4))).length ≤ (ivs sm ++ z).length := by rw [hn, hlen]; omega
  have hfit2 : (m - 1) * 4 + [iv 0, iv 0, iv 0, iv 0].length ≤ (setAll (ivs sm ++ z) (x * 4) (ivs (sm.drop ((x + 1) * 4)))).length := by
    rw [setAll_length, hlen]; simp only [List.length_cons, List.length_nil]; omega
  have hsl := fun (fr : FR) (hs : HS) (n : NN) (h1 : get fr 27 = some (.slice (some ⟨b, 0, none⟩) (m - 1) c)) (h2 : get fr 29 = some (iv ((m - 1 : Nat) : Int))) (h3 : get fr 30 = some (iv m)) => o_sliceLH (P := Tryz.prog) (n := n) (B := B) (w0 := w0) (fr := fr) (hs := hs) (ty := 23) (t := 23) (b := true) (k := 4) (x := .tmp 27) (lo := .tmp 29) (hi := .tmp 30) (scTOf rfl) h1 h2 h3 rfl rfl (by omega) hc
  rw [subA_own, if_neg (show ¬ c = m - 1 by omega), show m - (m - 1) = 1 by omega] at hsl
  refine fn_enter Tryz.func43 rfl Tryz.ntmps43 (by simp) ?_
  repeat' (first | ((with_reducible apply kP (.slice 23 (.tmp 8) _ _ _)); refine sP ?_ (o_sliceLHM (scTOf rfl) rfl rfl rfl rfl rfl hj rfl (by omega) (by omega) hc)) | ((with_reducible apply kDP (.slice 23 (.tmp 8) _ _ _)); refine dP ?_ (hX := rfl) (hv := o_sliceLHM (scTOf rfl) rfl rfl rfl rfl rfl hj rfl (by omega) (by omega) hc)) | ((with_reducible apply kQO (.slice 23 (.tmp 8) _ _ _)); refine qP ?_ (o_sliceLHM (scTOf rfl) rfl rfl rfl rfl rfl hj rfl (by omega) (by omega) hc)) | ((with_reducible apply kP (.slice 23 (.tmp 20) _ _ _)); refine sP ?_ (subA_zero _ _ _ ▸ o_sliceH (scTOf rfl) rfl rfl rfl (by omega))) | ((with_reducible apply kDP (.slice 23 (.tmp 20) _ _ _)); refine dP ?_ (hX := rfl) (hv := subA_zero _ _ _ ▸ o_sliceH (scTOf rfl) rfl rfl rfl (by omega))) | ((with_reducible apply kQO (.slice 23 (.tmp 20) _ _ _)); refine qP ?_ (subA_zero _ _ _ ▸ o_sliceH (scTOf rfl) rfl rfl rfl (by omega))) | ((with_reducible apply kP (.slice 23 (.tmp 23) _ _ _)); refine sP ?_ (subA_own ▸ o_sliceL (scTOf rfl) rfl rfl hj (by omega))) | ((with_reducible apply kDP (.slice 23 (.tmp 23) _ _ _)); refine dP ?_ (hX := rfl) (hv := subA_own ▸ o_sliceL (scTOf rfl) rfl rfl hj (by omega))) | ((with_reducible apply kQO (.slice 23 (.tmp 23) _ _ _)); refine qP ?_ (subA_own ▸ o_sliceL (scTOf rfl) rfl rfl hj (by omega))) | ((with_reducible apply kP (.slice 23 (.tmp 27) _ _ _)); refine sP ?_ (hsl _ _ _ rfl rfl rfl)) | ((with_reducible apply kDP (.slice 23 (.tmp 27) _ _ _)); refine dP ?_ (hX := rfl) (hv := hsl _ _ _ rfl rfl rfl)) | ((with_reducible apply kQO (.slice 23 (.tmp 27) _ _ _)); refine qP ?_ (hsl _ _ _ rfl rfl rfl)) | ((with_reducible apply kN); refine s_clear1 zs23 rfl (flat_cons rfl (flat3 rfl rfl rfl)) hfit2 (.head _) ?_) | ((with_reducible apply kDP (.call ⟨.builtin .append, _, _⟩)); refine k_appIn rfl (apTOf rfl) rfl rfl (by exact MMt) hnw hn (flat_iv _) hk (by omega) hfit (.head _) kp4 (by first | decide | exact ltd rfl) ?_) | ((with_reducible apply kRg 5); refine cD [1, 1, 1, 1, 1, 1, 4, 1] ?_) | (with_reducible first | refine c_seq ?_ | refine c_reg ?_ | refine c_region ?_ | refine c_block ?_ | refine c_skip ?_ | refine c_exit ?_ | refine c_ret ?_ | refine s_nil ?_ | refine x_then ?_ | refine x_then_exit ?_ | refine x_then_ret ?_ | refine x_block ?_ | refine x_block_ret ?_ | refine x_block_same ?_ | refine x_block_other (by first | rfl | decide) ?_ | refine q_nil ?_ | refine k_nil ?_) | ((with_reducible apply kP _); refine sP ?_) | ((with_reducible apply kP _); refine sX ?_) | ((with_reducible apply kC); first | refine cT ?_ | refine cF ?_ | (refine cI (fun h => ?_) (fun h => ?_) <;> (try (exfalso; omega))) | refine cB (fun h => ?_) (fun h => ?_)) | ((with_reducible apply kDP (.call ⟨.builtin .append, _, _⟩)); first | refine dAp3 (fun oa2 c2 blk2 hrow2 => ?_) (hS := SCt) | refine dAp4 (fun oa2 c2 blk2 hrow2 => ?_)) | ((with_reducible apply kDP _); refine dP ?_) | ((with_reducible apply kDP _); refine dX ?_))
  rw [hdc]
  exact e_ret1 rfl rfl ⟨rfl, rfl⟩ (.refl _)
end Go.Proofs.YtnbickholedckaaGreatDoor
namespace Go.Proofs.YtnbickholedckaaGreatDoor
open Go.RowKit
def unV (ps : List Pc) (sm : List Int) (m : Nat) (e x : Int) : Int := if vdC ps sm m e ≠ 0 then vdC ps sm m e else if ¬ (0 ≤ x ∧ x < (m : Int)) then 5 else 0
attribute [local irreducible] OpF Ld CellAt Sl Sv pcA usP
set_option maxRecDepth 100000 in
set_option maxHeartbeats 8000000 in
theorem k_Unsew (ps : List Pc) (oP oS : Option Addr) (cP m cS : Nat) (sm : List Int) (e x : Int) (hn : ps.length ≤ 10000) (hsm : sm.length = m * 4) (hm : m ≤ 10000) (B : Nat) (w0 : Wd) (hs : HS) (hC : CapM B w0 hs oP oS ps sm) :
    Fn Tryz.prog 25 #[.agg #[.slice oP ps.length cP, .slice oS m cS, iv e], iv x] B w0 hs (CeR (unV ps sm m e x) ps (rmS sm x.toNat) (m - 1) e hs) := by
  have kv := fun hs' (h : hs.Sublist hs') => k_Validate ps oP oS cP m cS sm e hn hsm (by omega) B w0 hs' (hC.sub h)
  unfold CeR unV
  by_cases hv : vdC ps sm m e = 0
  · have V := vdC_0 hv
    rw [if_neg (fun h => h hv)]
    have hv' : vdE ps.length (sdF ps) (anF ps) m sm e = 0 := hv
    rw [hv'] at kv
    by_cases hx : 0 ≤ x ∧ x < (m : Int)
    · rw [if_neg (fun h => h hx)]
      have kc := fun hs' (h : hs.Sublist hs') => k_copyCap ps oP oS cP m cS sm e (by omega) V.n1 (vdC_ok V) hsm (by omega) B w0 hs' (hC.sub h)
      obtain ⟨x, rfl⟩ : ∃ y : Nat, x = (y : Int) := ⟨x.toNat, by omega⟩
      have hxm : x < m := by omega
      rw [show ((x : Nat) : Int).toNat = x by omega]
      refine fn_enter Tryz.func25 rfl Tryz.ntmps25 (by simp) ?_
      repeat' (first | ((with_reducible apply kP (.box 25 _)); refine sBA (fun b2 => ?_)) | ((with_reducible apply kP (.alloc 25)); refine sA (fun b4 => ?_)) | ((with_reducible apply kF 6); refine sC 6 (kv _ SBt) ?_) | ((with_reducible apply kF 42); refine sR 42 (kc _ SBt) ?_; rintro v7 h7 ⟨blk7, ⟨oP', cP', oS', cS', rs, bo, ko, rfl, g2, g3, g4, g5, g6, rfl⟩, rfl⟩; rw [List.append_assoc, List.append_assoc]) | ((with_reducible apply kN); refine stW ?_ (hf := flat_cons rfl (flat_cons rfl (flat1 rfl)))) | (with_reducible first | refine c_seq ?_ | refine c_reg ?_ | refine c_region ?_ | refine c_block ?_ | refine c_skip ?_ | refine c_exit ?_ | refine c_ret ?_ | refine s_nil ?_ | refine x_then ?_ | refine x_then_exit ?_ | refine x_then_ret ?_ | refine x_block ?_ | refine x_block_ret ?_ | refine x_block_same ?_ | refine x_block_other (by first | rfl | decide) ?_ | refine q_nil ?_ | refine k_nil ?_) | ((with_reducible apply kG); first | refine gY1 ?_ | refine gN1 ?_ | refine gU1 ?_ | (refine gD1 (fun h => ?_) (fun h => ?_) <;> (try (exfalso; omega))) | refine gB1 (fun h => ?_) (fun h => ?_)) | ((with_reducible apply kN); first | refine stP ?_ | refine stI ?_ | refine st1 ?_ | refine stW ?_) | ((with_reducible apply kP (.alloc _)); refine sA (fun b => ?_)) | ((with_reducible apply kP (.box _ _)); first | refine sBA (fun b => ?_) | refine sB (fun b => ?_)) | ((with_reducible apply kP _); refine sP ?_) | ((with_reducible apply kP _); refine sX ?_) | ((with_reducible apply kC); first | refine cT ?_ | refine cF ?_ | (refine cI (fun h => ?_) (fun h => ?_) <;> (try (exfalso; omega))) | refine cB (fun h => ?_) (fun h => ?_)))
      all_goals try (exfalso; omega)
      rcases g6 with ⟨_, _, h3, _⟩ | ⟨bs, z, rfl, rfl, hz, hcS⟩
      · exfalso
        have h0 : sm.length = 0 := by
          have := congrArg List.length h3
          rw [ivs_length] at this
          simpa using this
        omega
      have hc : m ≤ cS' := by
        rw [List.length_append, ivs_length] at hz
        omega
      have kd := fun hs' => k_Delete bs m cS' x sm z hsm hxm hm hc hz hcS B w0 hs'
      have hrr : RowOk (some ⟨bs, 0, none⟩) cS' 4 (ivs (rmS sm x)) [(bs, ivs (rmS sm x) ++ ([iv 0, iv 0, iv 0, iv 0] ++ z))] := .inr ⟨bs, _, rfl, rfl, by
        rw [List.length_append, ivs_length] at hz
        rw [List.length_append, ivs_length, rmS_len hsm hxm, List.length_append]
        simp only [List.length_cons, List.length_nil]
        omega, hcS⟩
      repeat' (first | ((with_reducible apply kF 43); refine s_mut1 (goTOf rfl) rfl (Take.tail Take.head) (kd _) (by first | decide | exact ltd rfl) ?_) | ((with_reducible apply kN); first | refine stC ?_ | refine stW ?_ (hf := flat_cons rfl (flat_cons rfl (flat1 rfl)))) | (with_reducible first | refine c_seq ?_ | refine c_reg ?_ | refine c_region ?_ | refine c_block ?_ | refine c_skip ?_ | refine c_exit ?_ | refine c_ret ?_ | refine s_nil ?_ | refine x_then ?_ | refine x_then_exit ?_ | refine x_then_ret ?_ | refine x_block ?_ | refine x_block_ret ?_ | refine x_block_same ?_ | refine x_block_other (by first | rfl | decide) ?_ | refine q_nil ?_ | refine k_nil ?_) | ((with_reducible apply kG); first | refine gY1 ?_ | refine gN1 ?_ | refine gU1 ?_ | (refine gD1 (fun h => ?_) (fun h => ?_) <;> (try (exfalso; omega))) | refine gB1 (fun h => ?_) (fun h => ?_)) | ((with_reducible apply kN); first | refine stP ?_ | refine stI ?_ | refine st1 ?_ | refine stW ?_) | ((with_reducible apply kP (.alloc _)); refine sA (fun b => ?_)) | ((with_reducible apply kP (.box _ _)); first | refine sBA (fun b => ?_) | refine sB (fun b => ?_)) | ((with_reducible apply kP _); refine sP ?_) | ((with_reducible apply kP _); refine sX ?_) | ((with_reducible apply kC); first | refine cT ?_ | refine cF ?_ | (refine cI (fun h => ?_) (fun h => ?_) <;> (try (exfalso; omega))) | refine cB (fun h => ?_) (fun h => ?_)))
      refine e_ret2 (hs' := ([(bs, ivs (rmS sm x) ++ ([iv 0, iv 0, iv 0, iv 0] ++ z))] ++ (bo ++ rpb rs)) ++ hs) rfl ⟨_, rfl, ld_whole (shTOf rfl) MDt rfl⟩ rfl (.inr ⟨rfl, _, _, ⟨oP', cP', some ⟨bs, 0, none⟩, cS', rs, bo, _, rfl, g2, g3, g4, g5, hrr, rfl⟩, rfl, rfl⟩) ?_
      rw [List.append_assoc, List.append_assoc]
      exact .append (.refl _) (.cons _ (.append (.refl _) (.append (.refl _) (.cons _ (.cons _ (.refl _))))))
    · rw [if_pos hx]
      refine fn_enter Tryz.func25 rfl Tryz.ntmps25 (by simp) ?_
      repeat' (first | ((with_reducible apply kP (.box 25 _)); refine sBA (fun b2 => ?_)) | ((with_reducible apply kP (.alloc 25)); refine sA (fun b4 => ?_)) | ((with_reducible apply kF 6); refine sC 6 (kv _ SBt) ?_) | ((with_reducible apply kN); refine stW ?_ (hf := flat_cons rfl (flat_cons rfl (flat1 rfl)))) | (with_reducible first | refine c_seq ?_ | refine c_reg ?_ | refine c_region ?_ | refine c_block ?_ | refine c_skip ?_ | refine c_exit ?_ | refine c_ret ?_ | refine s_nil ?_ | refine x_then ?_ | refine x_then_exit ?_ | refine x_then_ret ?_ | refine x_block ?_ | refine x_block_ret ?_ | refine x_block_same ?_ | refine x_block_other (by first | rfl | decide) ?_ | refine q_nil ?_ | refine k_nil ?_) | ((with_reducible apply kG); first | refine gY1 ?_ | refine gN1 ?_ | refine gU1 ?_ | (refine gD1 (fun h => ?_) (fun h => ?_) <;> (try (exfalso; omega))) | refine gB1 (fun h => ?_) (fun h => ?_)) | ((with_reducible apply kN); first | refine stP ?_ | refine stI ?_ | refine st1 ?_ | refine stW ?_) | ((with_reducible apply kP (.alloc _)); refine sA (fun b => ?_)) | ((with_reducible apply kP (.box _ _)); first | refine sBA (fun b => ?_) | refine sB (fun b => ?_)) | ((with_reducible apply kP _); refine sP ?_) | ((with_reducible apply kP _); refine sX ?_) | ((with_reducible apply kC); first | refine cT ?_ | refine cF ?_ | (refine cI (fun h => ?_) (fun h => ?_) <;> (try (exfalso; omega))) | refine cB (fun h => ?_) (fun h => ?_)))
      all_goals first
        | exact e_ret2 (hs' := hs) rfl ⟨_, rfl, ld_whole (shTOf rfl) MDt rfl⟩ rfl (.inl ⟨by decide, rfl, rfl⟩) SCt
        | (exfalso; omega)
        | trace_state
  · rw [if_pos hv]
    have hv' : vdE ps.length (sdF ps) (anF ps) m sm e ≠ 0 := hv
    have hv2 : vdC ps sm m e = vdE ps.length (sdF ps) (anF ps) m sm e := rfl
    rw [hv2]
    generalize vdE ps.length (sdF ps) (anF ps) m sm e = z at *
    refine fn_enter Tryz.func25 rfl Tryz.ntmps25 (by simp) ?_
    repeat' (first | ((with_reducible apply kP (.box 25 _)); refine sBA (fun b2 => ?_)) | ((with_reducible apply kP (.alloc 25)); refine sA (fun b4 => ?_)) | ((with_reducible apply kF 6); refine sC 6 (kv _ SBt) ?_) | ((with_reducible apply kN); refine stW ?_ (hf := flat_cons rfl (flat_cons rfl (flat1 rfl)))) | (with_reducible first | refine c_seq ?_ | refine c_reg ?_ | refine c_region ?_ | refine c_block ?_ | refine c_skip ?_ | refine c_exit ?_ | refine c_ret ?_ | refine s_nil ?_ | refine x_then ?_ | refine x_then_exit ?_ | refine x_then_ret ?_ | refine x_block ?_ | refine x_block_ret ?_ | refine x_block_same ?_ | refine x_block_other (by first | rfl | decide) ?_ | refine q_nil ?_ | refine k_nil ?_) | ((with_reducible apply kG); first | refine gY1 ?_ | refine gN1 ?_ | refine gU1 ?_ | (refine gD1 (fun h => ?_) (fun h => ?_) <;> (try (exfalso; omega))) | refine gB1 (fun h => ?_) (fun h => ?_)) | ((with_reducible apply kN); first | refine stP ?_ | refine stI ?_ | refine st1 ?_ | refine stW ?_) | ((with_reducible apply kP (.alloc _)); refine sA (fun b => ?_)) | ((with_reducible apply kP (.box _ _)); first | refine sBA (fun b => ?_) | refine sB (fun b => ?_)) | ((with_reducible apply kP _); refine sP ?_) | ((with_reducible apply kP _); refine sX ?_) | ((with_reducible apply kC); first | refine cT ?_ | refine cF ?_ | (refine cI (fun h => ?_) (fun h => ?_) <;> (try (exfalso; omega))) | refine cB (fun h => ?_) (fun h => ?_)))
    exact e_ret2 (hs' := hs) rfl ⟨_, rfl, ld_whole (shTOf rfl) MDt rfl⟩ rfl (.inl ⟨hv', rfl, rfl⟩) SCt
end Go.Proofs.YtnbickholedckaaGreatDoor
namespace Go.Proofs.YtnbickholedckaaGreatDoor
open Go.RowKit
theorem getD_set {l : List Int} {r j : Nat} {v : Int} (h : r < l.length) : (l.set r v).getD j 0 = if j = r then v else l.getD j 0 := by
  rw [List.getD_eq_getElem?_getD, List.getD_eq_getElem?_getD, List.getElem?_set]
  by_cases e : r = j
  · subst e; rw [if_pos rfl, if_pos rfl, if_pos h]; rfl
  · rw [if_neg e, if_neg (fun h => e h.symm)]
theorem vdC_of {ps : List Pc} {sm : List Int} {m : Nat} {e : Int} (V : VdC ps sm m e) : vdC ps sm m e = 0 := by
  unfold vdC vdE
  have h1 : 1 ≤ ps.length ∧ ps.length ≤ 8 := ⟨V.n1, V.n8⟩
  rw [if_neg (by simp only [h1, and_self, not_true_eq_false, not_false_eq_true]), if_neg (by simp only [V.e0, V.ok, and_self, not_true_eq_false, or_self, not_false_eq_true])]
  exact fstE_iff.2 V.se
/-- The angles of a half, from a corner on: the first is given. -/
def hvF (g : List Int) (i : Nat) (c : Int) (u : Nat) : Int := if u = 0 then c else g.getD ((i + u) % g.length) 0
def hvL (g : List Int) (i s : Nat) (w : Int) : Int := 180 * ((s : Int) + 1 - 2) - sumTo (hvF g i w) s
theorem sum_bd {F : Nat → Int} : ∀ {n : Nat}, (∀ u, u < n → -3000 ≤ F u ∧ F u ≤ 3000) → -3000 * (n : Int) ≤ sumTo F n ∧ sumTo F n ≤ 3000 * (n : Int)
  | 0, _ => by simp [sumTo]
  | n + 1, h => by
    have h1 := sum_bd (n := n) fun u hu => h u (by omega)
    have h2 := h n (by omega)
    rw [sumTo_succ]
    omega
end Go.Proofs.YtnbickholedckaaGreatDoor
namespace Go.Proofs.YtnbickholedckaaGreatDoor
open Go.RowKit
def anS (l : List Pt) : Int := (l.map (·.an)).foldr (· + ·) 0
theorem anS_app : ∀ l l' : List Pt, anS (l ++ l') = anS l + anS l'
  | [], l' => by simp [anS]
  | x :: l, l' => by
    have := anS_app l l'
    simp only [anS, List.cons_append, List.map_cons, List.foldr_cons] at this ⊢
    omega
theorem anS_take {l : List Pt} {j : Nat} {p : Pt} (h : l[j]? = some p) : anS (l.take (j + 1)) = anS (l.take j) + p.an := by
  rw [take_snoc h, anS_app]; simp [anS]
theorem ptsL_anS {n : Nat} {nx mu : Nat → Nat} {ag : Nat → Int} : ∀ i, anS (ptsL n nx mu ag i) = sumTo (fun j => if ptF n nx mu j = true then (ptO n nx mu ag j).an else 0) i
  | 0 => rfl
  | i + 1 => by
    rw [sumTo_succ, ← ptsL_anS i]
    cases h : ptF n nx mu i with
    | true => rw [ptsL_yes h, anS_app]; simp [anS]
    | false => rw [ptsL_no h]; simp
theorem anS_all {n : Nat} {nx mu : Nat → Nat} {ag : Nat → Int} : anS (ptsL n nx mu ag n) = sumTo ag n := by
  rw [ptsL_anS, ← cls_all (ptE n nx mu) n ag]
  refine sumTo_congr n fun j _ => ?_
  unfold ptF ptO
  simp only [decide_eq_true_eq]
  by_cases hj : rpE (ptE n nx mu) j = j
  · rw [if_pos hj, if_pos hj]
    unfold clsL
    rw [asum_filter]
    simp only [decide_eq_true_eq]
  · rw [if_neg hj, if_neg hj]
/-- What the angles of the first pieces add up to. -/
def wtT (ps : List Pc) : Nat → Int
  | 0 => 0
  | q + 1 => wtT ps q + 180 * (((pcA ps q).sd.length : Int) - 2)
theorem wtT_fs (ps : List Pc) : ∀ q, wtT ps q = 180 * (fsN (sdF ps) q : Int) - 360 * (q : Int)
  | 0 => rfl
  | q + 1 => by
    have e1 : fsN (sdF ps) (q + 1) = fsN (sdF ps) q + (pcA ps q).sd.length := rfl
    rw [wtT, wtT_fs ps q, e1]
    omega
theorem VdC.wt {ps : List Pc} {sm : List Int} {m : Nat} {e : Int} (V : VdC ps sm m e) : anS (ptsC ps sm m) = wtT ps ps.length := by
  unfold ptsC
  rw [anS_all, wtT_fs]
  exact ang_sum V.ok ps.length (Nat.le_refl _)
theorem wtT_in {ps : List Pc} {sm : List Int} {m : Nat} {e : Int} (V : VdC ps sm m e) (q : Nat) (hq : q ≤ ps.length) : -360 * (q : Int) ≤ wtT ps q ∧ wtT ps q ≤ 8640 := by
  have h1 := fs_le6 V.ok hq
  have h2 := V.n8
  rw [wtT_fs]
  omega
theorem VdC.m24 {ps : List Pc} {sm : List Int} {m : Nat} {e : Int} (V : VdC ps sm m e) : m ≤ 24 := by
  have h1 := V.okS.free
  rw [smL_len] at h1
  have := V.n48
  omega
theorem rm_get {sm : List Int} {m x : Nat} (h : sm.length = m * 4) (hx : x < m) (t c : Nat) (hc : c < 4) : (rmS sm x).getD (t * 4 + c) 0 = sm.getD ((if t < x then t else t + 1) * 4 + c) 0 := by
  unfold rmS
  have hl : (sm.take (x * 4)).length = x * 4 := by rw [List.length_take]; omega
  rw [List.getD_eq_getElem?_getD, List.getD_eq_getElem?_getD]
  by_cases ht : t < x
  · rw [if_pos ht, List.getElem?_append_left (by omega), List.getElem?_take_of_lt (by omega)]
  · rw [if_neg ht, List.getElem?_append_right (by omega), hl, List.getElem?_drop]
    congr 2
    omega
theorem rm_smA {sm : List Int} {m x : Nat} (h : sm.length = m * 4) (hx : x < m) (t : Nat) : smA (rmS sm x) t = smA sm (if t < x then t else t + 1) := by
  unfold smA
  exact rm_get h hx t 0 (by decide)
theorem rm_smI {sm : List Int} {m x : Nat} (h : sm.length = m * 4) (hx : x < m) (t : Nat) : smI (rmS sm x) t = smI sm (if t < x then t else t + 1) := by
  unfold smI
  exact rm_get h hx t 1 (by decide)
theorem rm_smB {sm : List Int} {m x : Nat} (h : sm.length = m * 4) (hx : x < m) (t : Nat) : smB (rmS sm x) t = smB sm (if t < x then t else t + 1) := by
  unfold smB
  exact rm_get h hx t 2 (by decide)
theorem rm_smJ {sm : List Int} {m x : Nat} (h : sm.length = m * 4) (hx : x < m) (t : Nat) : smJ (rmS sm x) t = smJ sm (if t < x then t else t + 1) := by
  unfold smJ
  exact rm_get h hx t 3 (by decide)
theorem rm_se {n : Nat} {sd : Nat → List Int} {sm : List Int} {m x : Nat} {e : Int} (h : sm.length = m * 4) (hx : x < m) (hse : ∀ t, t < m → seE n sd sm e t = 0) (t : Nat) (ht : t < m - 1) : seE n sd (rmS sm x) e t = 0 := by
  have hr : (if t < x then t else t + 1) < m := by split <;> omega
  obtain ⟨g1, g2, g3⟩ := seE_z (hse _ hr)
  rw [← rm_smA h hx, ← rm_smI h hx, ← rm_smB h hx, ← rm_smJ h hx] at g1 g2 g3
  have hus : ∀ p q, usD (rmS sm x) t p q → usD sm (if t < x then t else t + 1) p q := fun p q hu => by
    obtain ⟨u, hu, hp⟩ := usD_iff.1 hu
    refine usD_iff.2 ⟨if u < x then u else u + 1, by split <;> split <;> omega, ?_⟩
    unfold usP at hp ⊢
    rw [rm_smA h hx, rm_smI h hx, rm_smB h hx, rm_smJ h hx] at hp
    exact hp
  refine seE_0 g1 (fun hh => g2 ?_) g3
  rcases hh with hh | hh | hh
  · exact .inl hh
  · exact .inr (.inl (hus _ _ hh))
  · exact .inr (.inr (hus _ _ hh))
theorem VdC.rm {ps : List Pc} {sm : List Int} {m x : Nat} {e : Int} (V : VdC ps sm m e) (h : sm.length = m * 4) (hx : x < m) : VdC ps (rmS sm x) (m - 1) e :=
  ⟨V.n1, V.n8, V.e0, V.ok, fun t ht => rm_se h hx V.se t ht⟩
end Go.Proofs.YtnbickholedckaaGreatDoor
namespace Go.Proofs.YtnbickholedckaaGreatDoor
open Go.RowKit
def lnF (ps : List Pc) (x : Nat) : Int := (pcA ps (pcG (sdF ps) ps.length x)).sd.getD (x - fsN (sdF ps) (pcG (sdF ps) ps.length x)) 0
def natL (n : Nat) (F : Nat → Nat) : List Int := tab n fun x => ((F x : Nat) : Int)
theorem natL_at {n : Nat} {F : Nat → Nat} {x : Nat} (h : x < n) : (natL n F).getD x 0 = (F x : Int) := tab_getD _ h
theorem natL_len (n : Nat) (F : Nat → Nat) : (natL n F).length = n := tab_length _ _
section
variable {n : NN} {B : Nat} {w0 : Wd} {fr : FR} {hs hs' : HS} {ty : TypeId} {K : Act → World → Prop} {ops : Array Oper} {l : List Oper} {d : Nat} {pos : String} {aft : Array Edge}
/-- A number of an own row that has room is turned. -/
theorem stZ {t : TypeId} {x y : Operand} {b o : Nat} {m : List Int} {z : List Value} {u : Int} (h : Sat n B w0 (sl Tryz.prog ops K l) fr hs') (hx : opv fr x = some (.pointer (some ⟨b, o, none⟩))) (hl : o < m.length) (hy : opv fr y = some (iv u) := by rfl) (ht : getT shT t = some (false, 1) := by rfl)
    (hu : Upd b (ivs m ++ z) (ivs (m.set o u) ++ z) hs hs' := by with_reducible first | exact uu0 | exact uu1 | exact uu2 | exact uu3 | exact uu4 | exact uu5 | exact uu6 | exact uu7 | exact uu8 | ((repeat (first | exact uu0 | apply Upd.tail | apply Upd.app)); done)) :
    Sat n B w0 (sl Tryz.prog ops K (⟨none, .store t x y, ty, pos, aft, none⟩ :: l)) fr hs := by
  refine s_store1 hx hy rfl rfl (shTOf ht) (cs := ivs m ++ z) ?_ (by rw [List.length_append, ivs_length]; omega) h
  rw [List.set_append_left _ _ (by rw [ivs_length]; omega), ivs_set]
  exact hu
end
attribute [local irreducible] OpF Ld CellAt Sl Sv pcA usP
instance : Inhabited Pr := ⟨⟨none, 0, ⟨[], false, 0, 0⟩, []⟩⟩
def prA (rs : List Pr) (i : Nat) : Pr := rs.getD i default
theorem prv_at : ∀ (rs : List Pr) (i : Nat), i < rs.length → (prv rs)[i * 4]? = some (.slice (prA rs i).oa (prA rs i).p.cs.length (prA rs i).c) ∧ (prv rs)[i * 4 + 1]? = some (.bool (prA rs i).p.inn) ∧ (prv rs)[i * 4 + 2]? = some (iv (prA rs i).p.an) ∧ (prv rs)[i * 4 + 3]? = some (iv (prA rs i).p.df)
  | [], i, h => by simp at h
  | r :: rs, 0, _ => by simp [prv, prA]
  | r :: rs, i + 1, h => by
    have := prv_at rs i (by simpa using h)
    have e : prA (r :: rs) (i + 1) = prA rs i := by simp [prA]
    rw [e]
    simp only [prv, List.flatMap_cons, List.cons_append, List.nil_append]
    rw [show (i + 1) * 4 = i * 4 + 1 + 1 + 1 + 1 by omega, show i * 4 + 1 + 1 + 1 + 1 + 1 = (i * 4 + 1) + 1 + 1 + 1 + 1 by omega, show i * 4 + 1 + 1 + 1 + 1 + 2 = (i * 4 + 2) + 1 + 1 + 1 + 1 by omega, show i * 4 + 1 + 1 + 1 + 1 + 3 = (i * 4 + 3) + 1 + 1 + 1 + 1 by omega]
    simpa [prv] using this
/-- Points in memory. -/
structure PrM (B : Nat) (w0 : Wd) (hs : HS) (oa : Option Addr) (rs : List Pr) : Prop where
  pv : Sv B w0 hs oa (prv rs)
  cs : ∀ i, i < rs.length → Sl B w0 hs (prA rs i).oa (nats (prA rs i).p.cs)
theorem PrM.sub {B : Nat} {w0 : Wd} {hs hs' : HS} {oa : Option Addr} {rs : List Pr} (h : PrM B w0 hs oa rs) (hsub : hs.Sublist hs') : PrM B w0 hs' oa rs := ⟨h.pv.sub hsub, fun i hi => (h.cs i hi).sub hsub⟩
theorem prb_go : ∀ (rs : List Pr) (acc : HS), rs.foldl (fun acc r => r.blk ++ acc) acc = prb rs ++ acc
  | [], acc => rfl
  | r :: rs, acc => by
    unfold prb
    simp only [List.foldl_cons]
    rw [prb_go rs (r.blk ++ acc), prb_go rs (r.blk ++ []), List.append_nil, List.append_assoc]
theorem prb_mem : ∀ {rs : List Pr} {r : Pr}, r ∈ rs → r.blk.Sublist (prb rs)
  | q :: rs, r, h => by
    have e : prb (q :: rs) = prb rs ++ q.blk := by show rs.foldl _ (q.blk ++ []) = _; rw [prb_go, List.append_nil]
    rw [e]
    rcases List.mem_cons.1 h with rfl | h
    · exact List.sublist_append_right _ _
    · exact (prb_mem h).trans (List.sublist_append_left _ _)
theorem prA_mem {rs : List Pr} {i : Nat} (hi : i < rs.length) : prA rs i ∈ rs := by
  unfold prA
  rw [List.getD_eq_getElem?_getD, List.getElem?_eq_getElem hi]
  exact List.getElem_mem hi
/-- What was handed over lies in memory. -/
theorem PrR.m {B : Nat} {w0 : Wd} {hs : HS} {pts : List Pt} {v : Value} {blk : HS} (h : PrR pts v blk) : ∃ oa c rs, v = .slice oa rs.length c ∧ rs.map (·.p) = pts ∧ PrM B w0 (blk ++ hs) oa rs := by
  obtain ⟨oa, c, rs, bo, rfl, h1, h2, h3, rfl⟩ := h
  refine ⟨oa, c, rs, rfl, h3, (Sv.rowC h1).sub ((List.sublist_append_left _ _).trans (List.sublist_append_left _ _)), fun i hi => ?_⟩
  have hm := prA_mem hi
  exact (Sl.row (h2 _ hm)).sub (((prb_mem hm).trans (List.sublist_append_right _ _)).trans (List.sublist_append_left _ _))
theorem PrM.nil {B : Nat} {w0 : Wd} {hs : HS} {oa : Option Addr} : PrM B w0 hs oa [] := ⟨by unfold Sv; exact fun i hi => absurd hi (Nat.not_lt_zero _), fun i hi => absurd hi (Nat.not_lt_zero _)⟩
theorem PrM.c {B : Nat} {w0 : Wd} {hs hs' : HS} {oa : Option Addr} {rs : List Pr} (h : PrM B w0 hs oa rs) (hsub : hs.Sublist hs') {i : Nat} (hi : i < rs.length) :
    CellAt B w0 hs' (ea oa (i * 4)) (.slice (prA rs i).oa (prA rs i).p.cs.length (prA rs i).c) ∧ CellAt B w0 hs' (ea oa (i * 4 + 1)) (.bool (prA rs i).p.inn) ∧ CellAt B w0 hs' (ea oa (i * 4 + 2)) (iv (prA rs i).p.an) ∧ CellAt B w0 hs' (ea oa (i * 4 + 3)) (iv (prA rs i).p.df) := by
  obtain ⟨h0, h1, h2, h3⟩ := prv_at rs i hi
  have hl := prv_len rs
  have hp := h.pv
  unfold Sv at hp
  unfold CellAt
  refine ⟨fun w hw => ?_, fun w hw => ?_, fun w hw => ?_, fun w hw => ?_⟩
  · rw [(hp (i * 4) (by omega)).2 w (hw.sub hsub)]; exact h0
  · rw [(hp (i * 4 + 1) (by omega)).2 w (hw.sub hsub)]; exact h1
  · rw [(hp (i * 4 + 2) (by omega)).2 w (hw.sub hsub)]; exact h2
  · rw [(hp (i * 4 + 3) (by omega)).2 w (hw.sub hsub)]; exact h3
theorem PrM.isS {B : Nat} {w0 : Wd} {hs : HS} {oa : Option Addr} {rs : List Pr} (h : PrM B w0 hs oa rs) {i : Nat} (hi : i < rs.length) : oa.isSome = true := by
  have hp := h.pv
  have hl := prv_len rs
  unfold Sv at hp
  exact (hp (i * 4) (by omega)).1
/-- What a cap that is not long says. -/
theorem lgC_no {ps : List Pc} {m : Nat} (h : ¬ lgC ps m) : ps.length ≤ 30 ∧ m ≤ 60 ∧ ∀ i, i < ps.length → (pcA ps i).sd.length ≤ 30 ∧ (pcA ps i).an.length ≤ 30 := by
  refine ⟨?_, ?_, fun i hi => ?_⟩
  · by_cases h1 : 30 < (ps.length : Int)
    · exact absurd (.inl h1) h
    · omega
  · by_cases h1 : 60 < (m : Int)
    · exact absurd (.inr (.inl h1)) h
    · omega
  · have h1 : ¬ lgP (pcA ps i) := fun h1 => h (.inr (.inr ⟨i, hi, h1⟩))
    unfold lgP at h1
    omega
theorem ptsC_in {ps : List Pc} {sm : List Int} {m : Nat} {e : Int} (V : VdC ps sm m e) : (ptsC ps sm m).length ≤ 48 ∧ ∀ p ∈ ptsC ps sm m, p.cs.length ≤ 48 := by
  have h2 := V.n48
  constructor
  · unfold ptsC
    rw [ptsL_len]
    unfold ccE
    have := cnN_le (fun i => decide (rpE (ptE (nC ps) (nxC ps) (muC ps sm m)) i = i)) (nC ps)
    omega
  · intro p hp
    unfold ptsC ptsL at hp
    obtain ⟨i, _, rfl⟩ := List.mem_map.1 hp
    have := List.length_filter_le (fun y => decide (rpE (ptE (nC ps) (nxC ps) (muC ps sm m)) y = rpE (ptE (nC ps) (nxC ps) (muC ps sm m)) i)) (List.range (nC ps))
    rw [List.length_range] at this
    show (clsL _ _ _ _).length ≤ 48
    unfold clsL
    omega
theorem VdC.lpn {ps : List Pc} {sm : List Int} {m : Nat} {e : Int} (V : VdC ps sm m e) : (lpsC ps sm m).length ≤ 48 := by
  have h2 := V.n48
  unfold lpsC
  rw [lpsL_len]
  unfold lpN
  have := cnN_le (fstB (nC ps) (nxC ps) (muC ps sm m)) (nC ps)
  omega
end Go.Proofs.YtnbickholedckaaGreatDoor
namespace Go.Proofs.YtnbickholedckaaGreatDoor
open Go.RowKit
theorem rlR_len {P : Nat} {pc : Nat → Nat} (S : List (Nat × Nat)) : (cpt (srtI (natL P (rlR pc S)))).length = ccE P (cmpE pc S) := by
  refine rlR_cc ?_ (fun z => ?_)
  · exact (cpt_ord (srtI_ord _)).imp (fun {a b} h e => by omega)
  · rw [cpt_mem, srtI_mem]
    unfold natL tab
    simp only [List.mem_map, List.mem_range]
    exact ⟨fun ⟨x, h1, h2⟩ => ⟨x, h1, h2.symm⟩, fun ⟨x, h1, h2⟩ => ⟨x, h1, h2.symm⟩⟩
theorem natL_set {P : Nat} {F : Nat → Nat} {i v : Nat} : (natL P F).set i (v : Int) = natL P (fun x => if x = i then v else F x) := by
  unfold natL
  rw [tab_set]
  refine tab_ext fun x _ => ?_
  by_cases h : x = i <;> simp [h]
theorem natL_cong {P : Nat} {F G : Nat → Nat} (h : ∀ x, x < P → F x = G x) : natL P F = natL P G := tab_ext fun x hx => by rw [h x hx]
theorem paC_in {ps : List Pc} {sm : List Int} {m : Nat} {e : Int} (V : VdC ps sm m e) : paC ps sm m ≤ 8 := by
  have h1 := V.n8
  have h2 := cnN_le (fun i => decide (rpE (cmpE (pcG (sdF ps) ps.length) (smL (sdF ps) sm m)) i = i)) ps.length
  unfold paC ccE
  omega
theorem euC_in {ps : List Pc} {sm : List Int} {m : Nat} {e : Int} (V : VdC ps sm m e) {K : Nat} (_ : m ≤ K) : -100 ≤ euC ps sm m ∧ euC ps sm m ≤ 200 := by
  have h0 := V.okS.free
  rw [smL_len] at h0
  have h1 := (ptsC_in V).1
  have h2 := V.n48
  have h3 := V.n8
  unfold euC
  omega
attribute [local irreducible] OpF Ld CellAt Sl Sv pcA usP
set_option maxRecDepth 100000 in
set_option maxHeartbeats 8000000 in
theorem k_Parts (ps : List Pc) (oP oS : Option Addr) (cP m cS : Nat) (sm : List Int) (e : Int) (hn : ps.length ≤ 10000) (hsm : sm.length = m * 4) (hm : m ≤ 10000) (B : Nat) (w0 : Wd) (hs : HS) (hC : CapM B w0 hs oP oS ps sm) :
    Fn Tryz.prog 13 #[.agg #[.slice oP ps.length cP, .slice oS m cS, iv e]] B w0 hs (fun v h => v = .tuple #[iv (if vdC ps sm m e = 0 then (paC ps sm m : Int) else 0), iv (vdC ps sm m e)] ∧ h = hs) := by
  have kv := fun hs' (h : hs.Sublist hs') => k_Validate ps oP oS cP m cS sm e hn hsm hm B w0 hs' (hC.sub h)
  by_cases hv : vdC ps sm m e = 0
  · have V := vdC_0 hv
    have hv' : vdE ps.length (sdF ps) (anF ps) m sm e = 0 := hv
    rw [hv'] at kv
    rw [if_pos hv, hv]
    have hP := V.n8
    have hP1 := V.n1
    have hse := V.se
    have e0 : ivs (List.replicate ps.length 0) = ivs (natL ps.length fun x => if x < 0 then x else 0) := by
      congr 1
      unfold natL tab
      exact List.ext_getElem (by simp) fun i h1 h2 => by simp
    have hlen := rlR_len (P := ps.length) (pc := pcG (sdF ps) ps.length) (smL (sdF ps) sm m)
    unfold paC
    rw [← hlen]
    have hcl := cpt_le (srtI (natL ps.length (rlR (pcG (sdF ps) ps.length) (smL (sdF ps) sm m))))
    rw [srtI_len, natL_len] at hcl
    refine fn_enter Tryz.func13 rfl Tryz.ntmps13 (by simp) ?_
    repeat' (first | ((with_reducible apply kP (.box 25 _)); refine sBA (fun b1 => ?_)) | ((with_reducible apply kF 6); refine sC 6 (kv _ SBt) ?_) | ((with_reducible apply kP (.makeSlice 27 _ _)); refine sMk (fun b5 => ?_)) | (with_reducible first | refine c_seq ?_ | refine c_reg ?_ | refine c_region ?_ | refine c_block ?_ | refine c_skip ?_ | refine c_exit ?_ | refine c_ret ?_ | refine s_nil ?_ | refine x_then ?_ | refine x_then_exit ?_ | refine x_then_ret ?_ | refine x_block ?_ | refine x_block_ret ?_ | refine x_block_same ?_ | refine x_block_other (by first | rfl | decide) ?_ | refine q_nil ?_ | refine k_nil ?_) | ((with_reducible apply kN); first | refine stP ?_ | refine stI ?_ | refine st1 ?_ | refine stW ?_) | ((with_reducible apply kP (.alloc _)); refine sA (fun b => ?_)) | ((with_reducible apply kP (.box _ _)); first | refine sBA (fun b => ?_) | refine sB (fun b => ?_)) | ((with_reducible apply kP (.makeSlice _ _ _)); refine sMk (fun b => ?_)) | ((with_reducible apply kP _); refine sP ?_) | ((with_reducible apply kP _); refine sX ?_) | ((with_reducible apply kQP); refine qP ?_) | ((with_reducible apply kQP); refine qX ?_) | ((with_reducible apply kC); first | refine cT ?_ | refine cF ?_ | (refine cI (fun h => ?_) (fun h => ?_) <;> (try (exfalso; omega))) | refine cB (fun h => ?_) (fun h => ?_)) | ((with_reducible apply kR); refine cQ ?_))
    rw [e0]
    refine c_loop (fun i : Nat => [(1, .pointer (some ⟨b1, 0, none⟩)), (5, .slice (some ⟨b5, 0, none⟩) ps.length ps.length), (22, iv ps.length), (23, iv i)]) (fun i => (b5, ivs (natL ps.length fun x => if x < i then x else 0)) :: (b1, [.slice oP ps.length cP, .slice oS m cS, iv e]) :: hs) (fun i => i ≤ ps.length) (fun i => ps.length - i) 0 (Nat.zero_le _) (by repeat' first | trivial | rfl | apply And.intro) (.refl _) ?_
    intro i hi
    by_cases hi' : i < ps.length
    · have hl : i < (natL ps.length fun x => if x < i then x else 0).length := by rw [natL_len]; exact hi'
      have hst : (natL ps.length fun x => if x < i then x else 0).set i ((i : Nat) : Int) = natL ps.length fun x => if x < i + 1 then x else 0 := by
        rw [natL_set]
        refine natL_cong fun x _ => ?_
        by_cases h1 : x = i
        · rw [if_pos h1, if_pos (by omega)]; exact h1.symm
        · rw [if_neg h1]
          by_cases h2 : x < i
          · rw [if_pos h2, if_pos (by omega)]
          · rw [if_neg h2, if_neg (by omega)]
      repeat' (first | ((with_reducible apply kN); refine stI ?_ (hl := hl)) | (with_reducible first | refine c_seq ?_ | refine c_reg ?_ | refine c_region ?_ | refine c_block ?_ | refine c_skip ?_ | refine c_exit ?_ | refine c_ret ?_ | refine s_nil ?_ | refine x_then ?_ | refine x_then_exit ?_ | refine x_then_ret ?_ | refine x_block ?_ | refine x_block_ret ?_ | refine x_block_same ?_ | refine x_block_other (by first | rfl | decide) ?_ | refine q_nil ?_ | refine k_nil ?_) | ((with_reducible apply kN); first | refine stP ?_ | refine stI ?_ | refine st1 ?_ | refine stW ?_) | ((with_reducible apply kP (.alloc _)); refine sA (fun b => ?_)) | ((with_reducible apply kP (.box _ _)); first | refine sBA (fun b => ?_) | refine sB (fun b => ?_)) | ((with_reducible apply kP (.makeSlice _ _ _)); refine sMk (fun b => ?_)) | ((with_reducible apply kP _); refine sP ?_) | ((with_reducible apply kP _); refine sX ?_) | ((with_reducible apply kQP); refine qP ?_) | ((with_reducible apply kQP); refine qX ?_) | ((with_reducible apply kC); first | refine cT ?_ | refine cF ?_ | (refine cI (fun h => ?_) (fun h => ?_) <;> (try (exfalso; omega))) | refine cB (fun h => ?_) (fun h => ?_)) | ((with_reducible apply kR); refine cQ ?_))
      rw [hst]
      exact r_end (i + 1) hi' (by omega) (by repeat' first | trivial | rfl | apply And.intro) SCt
    · obtain rfl : ps.length = i := by omega
      have e1 : natL ps.length (fun x => if x < ps.length then x else 0) = natL ps.length (rlR (pcG (sdF ps) ps.length) (smL (sdF ps) sm 0)) := natL_cong fun x hx => by rw [if_pos hx]; rfl
      rw [e1]
      repeat' (first | (with_reducible first | refine c_seq ?_ | refine c_reg ?_ | refine c_region ?_ | refine c_block ?_ | refine c_skip ?_ | refine c_exit ?_ | refine c_ret ?_ | refine s_nil ?_ | refine x_then ?_ | refine x_then_exit ?_ | refine x_then_ret ?_ | refine x_block ?_ | refine x_block_ret ?_ | refine x_block_same ?_ | refine x_block_other (by first | rfl | decide) ?_ | refine q_nil ?_ | refine k_nil ?_) | ((with_reducible apply kN); first | refine stP ?_ | refine stI ?_ | refine st1 ?_ | refine stW ?_) | ((with_reducible apply kP (.alloc _)); refine sA (fun b => ?_)) | ((with_reducible apply kP (.box _ _)); first | refine sBA (fun b => ?_) | refine sB (fun b => ?_)) | ((with_reducible apply kP (.makeSlice _ _ _)); refine sMk (fun b => ?_)) | ((with_reducible apply kP _); refine sP ?_) | ((with_reducible apply kP _); refine sX ?_) | ((with_reducible apply kQP); refine qP ?_) | ((with_reducible apply kQP); refine qX ?_) | ((with_reducible apply kC); first | refine cT ?_ | refine cF ?_ | (refine cI (fun h => ?_) (fun h => ?_) <;> (try (exfalso; omega))) | refine cB (fun h => ?_) (fun h => ?_)) | ((with_reducible apply kR); refine cQ ?_))
      have hsl := hC.sms
      refine c_loop (fun t : Nat => [(1, .pointer (some ⟨b1, 0, none⟩)), (5, .slice (some ⟨b5, 0, none⟩) ps.length ps.length), (32, .slice oS m cS), (33, iv m), (34, iv t)]) (fun t => (b5, ivs (natL ps.length (rlR (pcG (sdF ps) ps.length) (smL (sdF ps) sm t)))) :: (b1, [.slice oP ps.length cP, .slice oS m cS, iv e]) :: hs) (fun t => t ≤ m) (fun t => m - t) 0 (Nat.zero_le _) (by repeat' first | trivial | rfl | apply And.intro) (.refl _) ?_
      intro t ht
      by_cases ht' : t < m
      · obtain ⟨⟨hA, hB⟩, _, _⟩ := seE_z (hse t ht')
        have hoS : oS.isSome = true := hsl.any (i := t * 4) (by omega)
        have hld := fun hs' (h : hs.Sublist hs') => ld_seam (P := Tryz.prog) (t := 39) (shTOf rfl) hsl h (i := t) (by omega)
        have pA := (adS_lt hA).2.1
        have pB := (adS_lt hB).2.1
        obtain ⟨⟨A0, A1⟩, _⟩ := hA
        obtain ⟨⟨B0, B1⟩, _⟩ := hB
        have hnx : rlR (pcG (sdF ps) ps.length) (smL (sdF ps) sm (t + 1)) = rlS (rlR (pcG (sdF ps) ps.length) (smL (sdF ps) sm t)) (smA sm t).toNat (smB sm t).toNat := by
          rw [smL_succ, rlR_snoc]
          simp only [pA, pB]
        generalize hG : rlR (pcG (sdF ps) ps.length) (smL (sdF ps) sm t) = G at *
        have lA : (smA sm t).toNat < ps.length := by omega
        have lB : (smB sm t).toNat < ps.length := by omega
        have g0 : ∀ (F : Nat → Nat) x, x < ps.length → (ivs (natL ps.length F))[x]? = some (iv (F x : Int)) := fun F x hx => by
          rw [ivs_get (by rw [natL_len]; exact hx), natL_at hx]
        have gA := g0 G _ lA
        have gB := g0 G _ lB
        have uA : smA sm t = ((smA sm t).toNat : Int) := by omega
        have uB : smB sm t = ((smB sm t).toNat : Int) := by omega
        repeat' (first | ((with_reducible apply kP (.load 39 _)); refine sP ?_ (o_load rfl (hld _ SBt))) | ((with_reducible apply kDP (.load 39 _)); refine dP ?_ (hX := rfl) (hv := o_load rfl (hld _ SBt))) | ((with_reducible apply kQO (.load 39 _)); refine qP ?_ (o_load rfl (hld _ SBt))) | ((with_reducible apply kP (.alloc 39)); refine sA (fun b8 => ?_)) | ((with_reducible apply kN); refine stW ?_ (hf := flat_cons rfl (flat3 rfl rfl rfl))) | ((with_reducible apply kP (.indexAddr 27 (.tmp 38) _)); refine sP ?_ (o_indexB (scTOf rfl) rfl rfl uA (aa0 _) lA)) | ((with_reducible apply kDP (.indexAddr 27 (.tmp 38) _)); refine dP ?_ (hX := rfl) (hv := o_indexB (scTOf rfl) rfl rfl uA (aa0 _) lA)) | ((with_reducible apply kQO (.indexAddr 27 (.tmp 38) _)); refine qP ?_ (o_indexB (scTOf rfl) rfl rfl uA (aa0 _) lA)) | ((with_reducible apply kP (.indexAddr 27 (.tmp 43) _)); refine sP ?_ (o_indexB (scTOf rfl) rfl rfl uB (aa0 _) lB)) | ((with_reducible apply kDP (.indexAddr 27 (.tmp 43) _)); refine dP ?_ (hX := rfl) (hv := o_indexB (scTOf rfl) rfl rfl uB (aa0 _) lB)) | ((with_reducible apply kQO (.indexAddr 27 (.tmp 43) _)); refine qP ?_ (o_indexB (scTOf rfl) rfl rfl uB (aa0 _) lB)) | ((with_reducible apply kP (.load 3 (.tmp 41))); refine sP ?_ (o_load rfl (ld_one (shTOf rfl) (own MMt gA)))) | ((with_reducible apply kDP (.load 3 (.tmp 41))); refine dP ?_ (hX := rfl) (hv := o_load rfl (ld_one (shTOf rfl) (own MMt gA)))) | ((with_reducible apply kQO (.load 3 (.tmp 41))); refine qP ?_ (o_load rfl (ld_one (shTOf rfl) (own MMt gA)))) | ((with_reducible apply kP (.load 3 (.tmp 46))); refine sP ?_ (o_load rfl (ld_one (shTOf rfl) (own MMt gB)))) | ((with_reducible apply kDP (.load 3 (.tmp 46))); refine dP ?_ (hX := rfl) (hv := o_load rfl (ld_one (shTOf rfl) (own MMt gB)))) | ((with_reducible apply kQO (.load 3 (.tmp 46))); refine qP ?_ (o_load rfl (ld_one (shTOf rfl) (own MMt gB)))) | (with_reducible first | refine c_seq ?_ | refine c_reg ?_ | refine c_region ?_ | refine c_block ?_ | refine c_skip ?_ | refine c_exit ?_ | refine c_ret ?_ | refine s_nil ?_ | refine x_then ?_ | refine x_then_exit ?_ | refine x_then_ret ?_ | refine x_block ?_ | refine x_block_ret ?_ | refine x_block_same ?_ | refine x_block_other (by first | rfl | decide) ?_ | refine q_nil ?_ | refine k_nil ?_) | ((with_reducible apply kN); first | refine stP ?_ | refine stI ?_ | refine st1 ?_ | refine stW ?_) | ((with_reducible apply kP (.alloc _)); refine sA (fun b => ?_)) | ((with_reducible apply kP (.box _ _)); first | refine sBA (fun b => ?_) | refine sB (fun b => ?_)) | ((with_reducible apply kP (.makeSlice _ _ _)); refine sMk (fun b => ?_)) | ((with_reducible apply kP _); refine sP ?_) | ((with_reducible apply kP _); refine sX ?_) | ((with_reducible apply kQP); refine qP ?_) | ((with_reducible apply kQP); refine qX ?_) | ((with_reducible apply kC); first | refine cT ?_ | refine cF ?_ | (refine cI (fun h => ?_) (fun h => ?_) <;> (try (exfalso; omega))) | refine cB (fun h => ?_) (fun h => ?_)) | ((with_reducible apply kR); refine cQ ?_))
        have e2 : natL ps.length G = natL ps.length (fun x => if x < 0 then rlS G (smA sm t).toNat (smB sm t).toNat x else G x) := natL_cong fun x _ => rfl
        rw [e2]
        refine c_loop (fun i : Nat => [(1, .pointer (some ⟨b1, 0, none⟩)), (5, .slice (some ⟨b5, 0, none⟩) ps.length ps.length), (32, .slice oS m cS), (33, iv m), (34, iv t), (9, iv (G (smA sm t).toNat : Nat)), (10, iv (G (smB sm t).toNat : Nat)), (49, iv ps.length), (50, iv i)]) (fun i => (b5, ivs (natL ps.length (fun x => if x < i then rlS G (smA sm t).toNat (smB sm t).toNat x else G x))) :: (b1, [.slice oP ps.length cP, .slice oS m cS, iv e]) :: hs) (fun i => i ≤ ps.length) (fun i => ps.length - i) 0 (Nat.zero_le _) (by repeat' first | trivial | rfl | apply And.intro) (.cons _ (.refl _)) ?_
        intro i hi
        by_cases hi' : i < ps.length
        · have gi := g0 (fun x => if x < i then rlS G (smA sm t).toNat (smB sm t).toNat x else G x) i hi'
          rw [if_neg (Nat.lt_irrefl i)] at gi
          have hl : i < (natL ps.length (fun x => if x < i then rlS G (smA sm t).toNat (smB sm t).toNat x else G x)).length := by rw [natL_len]; exact hi'
          by_cases he : G i = G (smA sm t).toNat
          · have hst : (natL ps.length (fun x => if x < i then rlS G (smA sm t).toNat (smB sm t).toNat x else G x)).set i ((G (smB sm t).toNat : Nat) : Int) = natL ps.length (fun x => if x < i + 1 then rlS G (smA sm t).toNat (smB sm t).toNat x else G x) := by
              rw [natL_set]
              refine natL_cong fun x _ => ?_
              by_cases h1 : x = i
              · rw [if_pos h1, if_pos (by omega), h1]; unfold rlS; rw [if_pos he]
              · rw [if_neg h1]
                by_cases h2 : x < i
                · rw [if_pos h2, if_pos (by omega)]
                · rw [if_neg h2, if_neg (by omega)]
            repeat' (first | ((with_reducible apply kP (.load 3 (.tmp 55))); refine sP ?_ (o_load rfl (ld_one (shTOf rfl) (own MMt gi)))) | ((with_reducible apply kDP (.load 3 (.tmp 55))); refine dP ?_ (hX := rfl) (hv := o_load rfl (ld_one (shTOf rfl) (own MMt gi)))) | ((with_reducible apply kQO (.load 3 (.tmp 55))); refine qP ?_ (o_load rfl (ld_one (shTOf rfl) (own MMt gi)))) | ((with_reducible apply kN); refine stI ?_ (hl := hl)) | (with_reducible first | refine c_seq ?_ | refine c_reg ?_ | refine c_region ?_ | refine c_block ?_ | refine c_skip ?_ | refine c_exit ?_ | refine c_ret ?_ | refine s_nil ?_ | refine x_then ?_ | refine x_then_exit ?_ | refine x_then_ret ?_ | refine x_block ?_ | refine x_block_ret ?_ | refine x_block_same ?_ | refine x_block_other (by first | rfl | decide) ?_ | refine q_nil ?_ | refine k_nil ?_) | ((with_reducible apply kN); first | refine stP ?_ | refine stI ?_ | refine st1 ?_ | refine stW ?_) | ((with_reducible apply kP (.alloc _)); refine sA (fun b => ?_)) | ((with_reducible apply kP (.box _ _)); first | refine sBA (fun b => ?_) | refine sB (fun b => ?_)) | ((with_reducible apply kP (.makeSlice _ _ _)); refine sMk (fun b => ?_)) | ((with_reducible apply kP _); refine sP ?_) | ((with_reducible apply kP _); refine sX ?_) | ((with_reducible apply kQP); refine qP ?_) | ((with_reducible apply kQP); refine qX ?_) | ((with_reducible apply kC); first | refine cT ?_ | refine cF ?_ | (refine cI (fun h => ?_) (fun h => ?_) <;> (try (exfalso; omega))) | refine cB (fun h => ?_) (fun h => ?_)) | ((with_reducible apply kR); refine cQ ?_))
            all_goals first
              | (rw [hst]; exact r_end (i + 1) hi' (by omega) (by repeat' first | trivial | rfl | apply And.intro) SCt)
              | (exfalso; omega)
              | trace_state
          · have hst : natL ps.length (fun x => if x < i then rlS G (smA sm t).toNat (smB sm t).toNat x else G x) = natL ps.length (fun x => if x < i + 1 then rlS G (smA sm t).toNat (smB sm t).toNat x else G x) := natL_cong fun x _ => by
              by_cases h1 : x = i
              · rw [if_neg (by omega), if_pos (by omega), h1]; unfold rlS; rw [if_neg he]
              · by_cases h2 : x < i
                · rw [if_pos h2, if_pos (by omega)]
                · rw [if_neg h2, if_neg (by omega)]
            repeat' (first | ((with_reducible apply kP (.load 3 (.tmp 55))); refine sP ?_ (o_load rfl (ld_one (shTOf rfl) (own MMt gi)))) | ((with_reducible apply kDP (.load 3 (.tmp 55))); refine dP ?_ (hX := rfl) (hv := o_load rfl (ld_one (shTOf rfl) (own MMt gi)))) | ((with_reducible apply kQO (.load 3 (.tmp 55))); refine qP ?_ (o_load rfl (ld_one (shTOf rfl) (own MMt gi)))) | (with_reducible first | refine c_seq ?_ | refine c_reg ?_ | refine c_region ?_ | refine c_block ?_ | refine c_skip ?_ | refine c_exit ?_ | refine c_ret ?_ | refine s_nil ?_ | refine x_then ?_ | refine x_then_exit ?_ | refine x_then_ret ?_ | refine x_block ?_ | refine x_block_ret ?_ | refine x_block_same ?_ | refine x_block_other (by first | rfl | decide) ?_ | refine q_nil ?_ | refine k_nil ?_) | ((with_reducible apply kN); first | refine stP ?_ | refine stI ?_ | refine st1 ?_ | refine stW ?_) | ((with_reducible apply kP (.alloc _)); refine sA (fun b => ?_)) | ((with_reducible apply kP (.box _ _)); first | refine sBA (fun b => ?_) | refine sB (fun b => ?_)) | ((with_reducible apply kP (.makeSlice _ _ _)); refine sMk (fun b => ?_)) | ((with_reducible apply kP _); refine sP ?_) | ((with_reducible apply kP _); refine sX ?_) | ((with_reducible apply kQP); refine qP ?_) | ((with_reducible apply kQP); refine qX ?_) | ((with_reducible apply kC); first | refine cT ?_ | refine cF ?_ | (refine cI (fun h => ?_) (fun h => ?_) <;> (try (exfalso; omega))) | refine cB (fun h => ?_) (fun h => ?_)) | ((with_reducible apply kR); refine cQ ?_))
            all_goals first
              | (rw [hst]; exact r_end (i + 1) hi' (by omega) (by repeat' first | trivial | rfl | apply And.intro) SCt)
              | (exfalso; omega)
              | trace_state
        · obtain rfl : ps.length = i := by omega
          have e3 : natL ps.length (fun x => if x < ps.length then rlS G (smA sm t).toNat (smB sm t).toNat x else G x) = natL ps.length (rlR (pcG (sdF ps) ps.length) (smL (sdF ps) sm (t + 1))) := by
            rw [hnx]
            exact natL_cong fun x hx => if_pos hx
          rw [e3]
          repeat' (first | (with_reducible first | refine c_seq ?_ | refine c_reg ?_ | refine c_region ?_ | refine c_block ?_ | refine c_skip ?_ | refine c_exit ?_ | refine c_ret ?_ | refine s_nil ?_ | refine x_then ?_ | refine x_then_exit ?_ | refine x_then_ret ?_ | refine x_block ?_ | refine x_block_ret ?_ | refine x_block_same ?_ | refine x_block_other (by first | rfl | decide) ?_ | refine q_nil ?_ | refine k_nil ?_) | ((with_reducible apply kN); first | refine stP ?_ | refine stI ?_ | refine st1 ?_ | refine stW ?_) | ((with_reducible apply kP (.alloc _)); refine sA (fun b => ?_)) | ((with_reducible apply kP (.box _ _)); first | refine sBA (fun b => ?_) | refine sB (fun b => ?_)) | ((with_reducible apply kP (.makeSlice _ _ _)); refine sMk (fun b => ?_)) | ((with_reducible apply kP _); refine sP ?_) | ((with_reducible apply kP _); refine sX ?_) | ((with_reducible apply kQP); refine qP ?_) | ((with_reducible apply kQP); refine qX ?_) | ((with_reducible apply kC); first | refine cT ?_ | refine cF ?_ | (refine cI (fun h => ?_) (fun h => ?_) <;> (try (exfalso; omega))) | refine cB (fun h => ?_) (fun h => ?_)) | ((with_reducible apply kR); refine cQ ?_))
          exact r_end (t + 1) ht' (by omega) (by repeat' first | trivial | rfl | apply And.intro) SCt
      · obtain rfl : m = t := by omega
        have ks := fn_sortI (B := B) (w0 := w0) (hs := (b1, [.slice oP ps.length cP, .slice oS m cS, iv e]) :: hs) Tryz.sortI (b := b5) (c := ps.length) (z := []) (natL_len ps.length (rlR (pcG (sdF ps) ps.length) (smL (sdF ps) sm m))) (by omega)
        have kc := fn_cpt (B := B) (w0 := w0) (hs := (b1, [.slice oP ps.length cP, .slice oS m cS, iv e]) :: hs) Tryz.cptI (b := b5) (c := ps.length) (z := []) (l := srtI (natL ps.length (rlR (pcG (sdF ps) ps.length) (smL (sdF ps) sm m)))) (n := ps.length) (by rw [srtI_len, natL_len]) (by omega) (Nat.le_refl _)
        rw [← List.append_nil (ivs (natL ps.length (rlR (pcG (sdF ps) ps.length) (smL (sdF ps) sm m))))]
        repeat' (first | ((with_reducible apply kF 30); refine s_mut1 (goTOf rfl) rfl (by with_reducible ((repeat (first | exact Take.head | exact Take.one | apply Take.tail | apply Take.app)); done)) (ks) (by first | decide | exact ltd rfl) ?_) | ((with_reducible apply kF 31); refine s_mut1 (goTOf rfl) rfl Take.one kc (by first | decide | exact ltd rfl) ?_) | (with_reducible first | refine c_seq ?_ | refine c_reg ?_ | refine c_region ?_ | refine c_block ?_ | refine c_skip ?_ | refine c_exit ?_ | refine c_ret ?_ | refine s_nil ?_ | refine x_then ?_ | refine x_then_exit ?_ | refine x_then_ret ?_ | refine x_block ?_ | refine x_block_ret ?_ | refine x_block_same ?_ | refine x_block_other (by first | rfl | decide) ?_ | refine q_nil ?_ | refine k_nil ?_) | ((with_reducible apply kN); first | refine stP ?_ | refine stI ?_ | refine st1 ?_ | refine stW ?_) | ((with_reducible apply kP (.alloc _)); refine sA (fun b => ?_)) | ((with_reducible apply kP (.box _ _)); first | refine sBA (fun b => ?_) | refine sB (fun b => ?_)) | ((with_reducible apply kP (.makeSlice _ _ _)); refine sMk (fun b => ?_)) | ((with_reducible apply kP _); refine sP ?_) | ((with_reducible apply kP _); refine sX ?_) | ((with_reducible apply kQP); refine qP ?_) | ((with_reducible apply kQP); refine qX ?_) | ((with_reducible apply kC); first | refine cT ?_ | refine cF ?_ | (refine cI (fun h => ?_) (fun h => ?_) <;> (try (exfalso; omega))) | refine cB (fun h => ?_) (fun h => ?_)) | ((with_reducible apply kR); refine cQ ?_))
        exact e_ret2 (hs' := hs) rfl rfl rfl ⟨rfl, rfl⟩ (.cons _ (.cons _ (.refl _)))
  · have hv' : vdE ps.length (sdF ps) (anF ps) m sm e ≠ 0 := hv
    have hv2 : vdC ps sm m e = vdE ps.length (sdF ps) (anF ps) m sm e := rfl
    rw [if_neg hv, hv2]
    generalize vdE ps.length (sdF ps) (anF ps) m sm e = z at *
    refine fn_enter Tryz.func13 rfl Tryz.ntmps13 (by simp) ?_
    repeat' (first | ((with_reducible apply kP (.box 25 _)); refine sBA (fun b1 => ?_)) | ((with_reducible apply kF 6); refine sC 6 (kv _ SBt) ?_) | (with_reducible first | refine c_seq ?_ | refine c_reg ?_ | refine c_region ?_ | refine c_block ?_ | refine c_skip ?_ | refine c_exit ?_ | refine c_ret ?_ | refine s_nil ?_ | refine x_then ?_ | refine x_then_exit ?_ | refine x_then_ret ?_ | refine x_block ?_ | refine x_block_ret ?_ | refine x_block_same ?_ | refine x_block_other (by first | rfl | decide) ?_ | refine q_nil ?_ | refine k_nil ?_) | ((with_reducible apply kN); first | refine stP ?_ | refine stI ?_ | refine st1 ?_ | refine stW ?_) | ((with_reducible apply kP (.alloc _)); refine sA (fun b => ?_)) | ((with_reducible apply kP (.box _ _)); first | refine sBA (fun b => ?_) | refine sB (fun b => ?_)) | ((with_reducible apply kP (.makeSlice _ _ _)); refine sMk (fun b => ?_)) | ((with_reducible apply kP _); refine sP ?_) | ((with_reducible apply kP _); refine sX ?_) | ((with_reducible apply kQP); refine qP ?_) | ((with_reducible apply kQP); refine qX ?_) | ((with_reducible apply kC); first | refine cT ?_ | refine cF ?_ | (refine cI (fun h => ?_) (fun h => ?_) <;> (try (exfalso; omega))) | refine cB (fun h => ?_) (fun h => ?_)) | ((with_reducible apply kR); refine cQ ?_))
    exact e_ret2 (hs' := hs) rfl rfl rfl ⟨rfl, rfl⟩ SCt
set_option maxRecDepth 100000 in
set_option maxHeartbeats 8000000 in
theorem k_Missing (ps : List Pc) (oP oS : Option Addr) (cP m cS : Nat) (sm : List Int) (e : Int) (hn : ps.length ≤ 10000) (hsm : sm.length = m * 4) (hm : m ≤ 10000) (B : Nat) (w0 : Wd) (hs : HS) (hC : CapM B w0 hs oP oS ps sm) :
    Fn Tryz.prog 12 #[.agg #[.slice oP ps.length cP, .slice oS m cS, iv e]] B w0 hs (fun v h => v = .tuple #[iv (if vdC ps sm m e = 0 then 360 * euC ps sm m else 0), iv (vdC ps sm m e)] ∧ h = hs) := by
  have k1 := fun hs' (h : hs.Sublist hs') => k_Points ps oP oS cP m cS sm e (by omega) hsm (by omega) B w0 hs' (hC.sub h)
  by_cases hv : vdC ps sm m e = 0
  · have V := vdC_0 hv
    have k1' : ∀ hs' (h : hs.Sublist hs'), Fn Tryz.prog 10 #[.agg #[.slice oP ps.length cP, .slice oS m cS, iv e]] B w0 hs' (fun v h => ∃ blk, (∃ oa c rs, v = .tuple #[.slice oa rs.length c, iv 0] ∧ rs.map (·.p) = ptsC ps sm m ∧ ∀ F, PrM B w0 (blk ++ F) oa rs) ∧ h = blk ++ hs') := fun hs' h => (k1 hs' h).mono (by
      rintro v h' (⟨h1, _⟩ | ⟨_, x, blk, hx, rfl, rfl⟩)
      · exact absurd hv h1
      · obtain ⟨oa, c, rs, rfl, g1, g2⟩ := hx.m (B := B) (w0 := w0) (hs := [])
        rw [List.append_nil] at g2
        exact ⟨blk, ⟨oa, c, rs, rfl, g1, fun F => g2.sub (List.sublist_append_left _ _)⟩, rfl⟩)
    clear k1
    rw [if_pos hv, hv, ← V.msC]
    have hpl := (ptsC_in V).1
    have hdf : ∀ {i : Nat} {p : Pt}, (ptsC ps sm m)[i]? = some p → -20000 ≤ p.df ∧ p.df ≤ 360 := fun {i p} h => by
      have h0 := List.mem_of_getElem? h
      have hN := V.n48
      unfold ptsC ptsL at h0
      obtain ⟨j, hj, rfl⟩ := List.mem_map.1 h0
      have h2 := asum_in (ag := agF ps) (l := clsL (nC ps) (nxC ps) (muC ps sm m) j) (fun x hx => agF_in V.ok (clsL_mem.1 hx).1)
      have h3 := List.length_filter_le (fun y => decide (rpE (ptE (nC ps) (nxC ps) (muC ps sm m)) y = rpE (ptE (nC ps) (nxC ps) (muC ps sm m)) j)) (List.range (nC ps))
      rw [List.length_range] at h3
      have h4 : (clsL (nC ps) (nxC ps) (muC ps sm m) j).length ≤ 48 := Nat.le_trans h3 hN
      show -20000 ≤ (if innB _ _ _ j = true then (360 : Int) else 180) - asum _ _ ∧ (if innB _ _ _ j = true then (360 : Int) else 180) - asum _ _ ≤ 360
      split <;> omega
    have hsum : ∀ i, i ≤ (ptsC ps sm m).length → -20000 * (i : Int) ≤ dsum ((ptsC ps sm m).take i) ∧ dsum ((ptsC ps sm m).take i) ≤ 360 * (i : Int) := by
      intro i
      induction i with
      | zero => intro _; simp [dsum]
      | succ i ih =>
        intro hi
        have h1 := ih (by omega)
        have h2 : (ptsC ps sm m)[i]? = some (ptsC ps sm m)[i] := List.getElem?_eq_getElem (by omega)
        have h3 := hdf h2
        rw [dsum_take h2]; omega
    generalize ptsC ps sm m = PS at *
    refine fn_enter Tryz.func12 rfl Tryz.ntmps12 (by simp) ?_
    repeat' (first | ((with_reducible apply kP (.box 25 _)); refine sBA (fun b1 => ?_)) | ((with_reducible apply kF 10); refine sR 10 (k1' _ SBt) ?_; rintro v8 h8 ⟨blk8, ⟨o8, c8, rs, rfl, g8, m8⟩, rfl⟩) | (with_reducible first | refine c_seq ?_ | refine c_reg ?_ | refine c_region ?_ | refine c_block ?_ | refine c_skip ?_ | refine c_exit ?_ | refine c_ret ?_ | refine s_nil ?_ | refine x_then ?_ | refine x_then_exit ?_ | refine x_then_ret ?_ | refine x_block ?_ | refine x_block_ret ?_ | refine x_block_same ?_ | refine x_block_other (by first | rfl | decide) ?_ | refine q_nil ?_ | refine k_nil ?_) | ((with_reducible apply kN); first | refine stP ?_ | refine stI ?_ | refine st1 ?_ | refine stW ?_) | ((with_reducible apply kP (.alloc _)); refine sA (fun b => ?_)) | ((with_reducible apply kP (.box _ _)); first | refine sBA (fun b => ?_) | refine sB (fun b => ?_)) | ((with_reducible apply kP _); refine sP ?_) | ((with_reducible apply kP _); refine sX ?_) | ((with_reducible apply kC); first | refine cT ?_ | refine cF ?_ | (refine cI (fun h => ?_) (fun h => ?_) <;> (try (exfalso; omega))) | refine cB (fun h => ?_) (fun h => ?_)))
    have m8 := m8 ((b1, [.slice oP ps.length cP, .slice oS m cS, iv e]) :: hs)
    have hrn : rs.length = PS.length := by have := congrArg List.length g8; simpa using this
    refine c_loop (fun i : Nat => [(6, iv (dsum (PS.take i))), (17, .slice o8 rs.length c8), (18, iv rs.length), (19, iv i)]) (fun _ => blk8 ++ ((b1, [.slice oP ps.length cP, .slice oS m cS, iv e]) :: hs)) (fun i => i ≤ rs.length) (fun i => rs.length - i) 0 (Nat.zero_le _) (by repeat' first | trivial | rfl | apply And.intro) (.refl _) ?_
    intro i hi
    by_cases hi' : i < rs.length
    · have hpp : PS[i]? = some (prA rs i).p := by
        rw [← g8, List.getElem?_map, List.getElem?_eq_getElem hi']
        unfold prA
        rw [List.getD_eq_getElem?_getD, List.getElem?_eq_getElem hi']
        rfl
      have hdp := hdf hpp
      have hsi := hsum i (by omega)
      have htk := dsum_take hpp
      have i8 := m8.isS hi'
      have hc8 := fun hs' (h : (blk8 ++ (b1, [.slice oP ps.length cP, .slice oS m cS, iv e]) :: hs).Sublist hs') => m8.c h hi'
      clear hpp hdf hsum
      generalize prA rs i = r at *
      have hld : ∀ hs' (h : (blk8 ++ (b1, [.slice oP ps.length cP, .slice oS m cS, iv e]) :: hs).Sublist hs'), Ld Tryz.prog B w0 hs' 54 (ea o8 (i * 4)) (.agg #[.slice r.oa r.p.cs.length r.c, .bool r.p.inn, iv r.p.an, iv r.p.df]) := fun hs' h => by
        obtain ⟨q0, q1, q2, q3⟩ := hc8 hs' h
        exact ld_4 (shTOf rfl) (by rw [ea_ea i8]; exact q0) (by rw [ea_ea i8]; exact q1) (by rw [ea_ea i8]; exact q2) (by rw [ea_ea i8]; exact q3)
      repeat' (first | ((with_reducible apply kP (.load 54 _)); refine sP ?_ (o_load rfl (hld _ SBt))) | ((with_reducible apply kDP (.load 54 _)); refine dP ?_ (hX := rfl) (hv := o_load rfl (hld _ SBt))) | ((with_reducible apply kQO (.load 54 _)); refine qP ?_ (o_load rfl (hld _ SBt))) | ((with_reducible apply kP (.alloc 54)); refine sA (fun b6 => ?_)) | ((with_reducible apply kN); refine stW ?_ (hf := flat_cons rfl (flat_cons rfl (flat_cons rfl (flat1 rfl))))) | (with_reducible first | refine c_seq ?_ | refine c_reg ?_ | refine c_region ?_ | refine c_block ?_ | refine c_skip ?_ | refine c_exit ?_ | refine c_ret ?_ | refine s_nil ?_ | refine x_then ?_ | refine x_then_exit ?_ | refine x_then_ret ?_ | refine x_block ?_ | refine x_block_ret ?_ | refine x_block_same ?_ | refine x_block_other (by first | rfl | decide) ?_ | refine q_nil ?_ | refine k_nil ?_) | ((with_reducible apply kN); first | refine stP ?_ | refine stI ?_ | refine st1 ?_ | refine stW ?_) | ((with_reducible apply kP (.alloc _)); refine sA (fun b => ?_)) | ((with_reducible apply kP (.box _ _)); first | refine sBA (fun b => ?_) | refine sB (fun b => ?_)) | ((with_reducible apply kP _); refine sP ?_) | ((with_reducible apply kP _); refine sX ?_) | ((with_reducible apply kC); first | refine cT ?_ | refine cF ?_ | (refine cI (fun h => ?_) (fun h => ?_) <;> (try (exfalso; omega))) | refine cB (fun h => ?_) (fun h => ?_)))
      exact r_end (i + 1) hi' (by omega) (by repeat' first | trivial | rfl | apply And.intro | (rw [htk]; rfl)) SCt
    · obtain rfl : rs.length = i := by omega
      rw [hrn, List.take_length]
      repeat' (first | (with_reducible first | refine c_seq ?_ | refine c_reg ?_ | refine c_region ?_ | refine c_block ?_ | refine c_skip ?_ | refine c_exit ?_ | refine c_ret ?_ | refine s_nil ?_ | refine x_then ?_ | refine x_then_exit ?_ | refine x_then_ret ?_ | refine x_block ?_ | refine x_block_ret ?_ | refine x_block_same ?_ | refine x_block_other (by first | rfl | decide) ?_ | refine q_nil ?_ | refine k_nil ?_) | ((with_reducible apply kN); first | refine stP ?_ | refine stI ?_ | refine st1 ?_ | refine stW ?_) | ((with_reducible apply kP (.alloc _)); refine sA (fun b => ?_)) | ((with_reducible apply kP (.box _ _)); first | refine sBA (fun b => ?_) | refine sB (fun b => ?_)) | ((with_reducible apply kP _); refine sP ?_) | ((with_reducible apply kP _); refine sX ?_) | ((with_reducible apply kC); first | refine cT ?_ | refine cF ?_ | (refine cI (fun h => ?_) (fun h => ?_) <;> (try (exfalso; omega))) | refine cB (fun h => ?_) (fun h => ?_)))
      exact e_ret2 (hs' := hs) rfl rfl rfl ⟨rfl, rfl⟩ (sbA (.cons _ (.refl _)))
  · have k1' : ∀ hs' (h : hs.Sublist hs'), Fn Tryz.prog 10 #[.agg #[.slice oP ps.length cP, .slice oS m cS, iv e]] B w0 hs' (fun v h => v = .tuple #[.slice none 0 0, iv (vdC ps sm m e)] ∧ h = hs') := fun hs' h => (k1 hs' h).mono (by
      rintro v h' (⟨_, h2, h3⟩ | ⟨h1, _⟩)
      · exact ⟨h2, h3⟩
      · exact absurd h1 hv)
    clear k1
    rw [if_neg hv]
    generalize vdC ps sm m e = z at *
    refine fn_enter Tryz.func12 rfl Tryz.ntmps12 (by simp) ?_
    repeat' (first | ((with_reducible apply kP (.box 25 _)); refine sBA (fun b1 => ?_)) | ((with_reducible apply kF 10); refine sC 10 (k1' _ SBt) ?_) | (with_reducible first | refine c_seq ?_ | refine c_reg ?_ | refine c_region ?_ | refine c_block ?_ | refine c_skip ?_ | refine c_exit ?_ | refine c_ret ?_ | refine s_nil ?_ | refine x_then ?_ | refine x_then_exit ?_ | refine x_then_ret ?_ | refine x_block ?_ | refine x_block_ret ?_ | refine x_block_same ?_ | refine x_block_other (by first | rfl | decide) ?_ | refine q_nil ?_ | refine k_nil ?_) | ((with_reducible apply kN); first | refine stP ?_ | refine stI ?_ | refine st1 ?_ | refine stW ?_) | ((with_reducible apply kP (.alloc _)); refine sA (fun b => ?_)) | ((with_reducible apply kP (.box _ _)); first | refine sBA (fun b => ?_) | refine sB (fun b => ?_)) | ((with_reducible apply kP _); refine sP ?_) | ((with_reducible apply kP _); refine sX ?_) | ((with_reducible apply kC); first | refine cT ?_ | refine cF ?_ | (refine cI (fun h => ?_) (fun h => ?_) <;> (try (exfalso; omega))) | refine cB (fun h => ?_) (fun h => ?_)))
    exact e_ret2 (hs' := hs) rfl rfl rfl ⟨rfl, rfl⟩ SCt
set_option maxRecDepth 100000 in
set_option maxHeartbeats 8000000 in
theorem k_Handles (ps : List Pc) (oP oS : Option Addr) (cP m cS : Nat) (sm : List Int) (e : Int) (hn : ps.length ≤ 10000) (hsm : sm.length = m * 4) (hm : m ≤ 10000) (B : Nat) (w0 : Wd) (hs : HS) (hC : CapM B w0 hs oP oS ps sm) :
    Fn Tryz.prog 14 #[.agg #[.slice oP ps.length cP, .slice oS m cS, iv e]] B w0 hs (fun v h => v = .tuple #[iv (if vdC ps sm m e = 0 then haC ps sm m else 0), iv (vdC ps sm m e)] ∧ h = hs) := by
  have kp := fun hs' (h : hs.Sublist hs') => k_Parts ps oP oS cP m cS sm e hn hsm hm B w0 hs' (hC.sub h)
  have ke := fun hs' (h : hs.Sublist hs') => k_Euler ps oP oS cP m cS sm e hn hsm hm B w0 hs' (hC.sub h)
  by_cases hv : vdC ps sm m e = 0
  · have V := vdC_0 hv
    have ks := fun hs' (h : hs.Sublist hs') => k_sew ps oP oS cP m cS sm e V.n8 V.n1 hsm hm V.ok V.se B w0 hs' (hC.sub h)
    rw [hv, if_pos rfl] at kp ke
    rw [if_pos hv, hv]
    have hp := paC_in V
    have he := euC_in V hm
    have hl := V.lpn
    have h0 : 0 ≤ 2 * (paC ps sm m : Int) - euC ps sm m - ((lpsC ps sm m).length : Int) := by
      obtain ⟨g, hg⟩ := V.hd
      rw [V.sum hg]; omega
    unfold haC
    generalize hpa : (paC ps sm m : Int) = pa at *
    generalize euC ps sm m = eu at *
    have hpa2 : 0 ≤ pa ∧ pa ≤ 8 := by omega
    refine fn_enter Tryz.func14 rfl Tryz.ntmps14 (by simp) ?_
    repeat' (first | ((with_reducible apply kP (.box 25 _)); refine sBA (fun b1 => ?_)) | ((with_reducible apply kF 13); refine sC 13 (kp _ SBt) ?_) | ((with_reducible apply kF 11); refine sC 11 (ke _ SBt) ?_) | ((with_reducible apply kF 28); refine sR 28 (ks _ SBt) ?_; rintro v7 h7 ⟨blk7, ⟨s, k1, k2, k3, rfl, q1, q2, q3, q4, hR, rfl⟩, rfl⟩) | (with_reducible first | refine c_seq ?_ | refine c_reg ?_ | refine c_region ?_ | refine c_block ?_ | refine c_skip ?_ | refine c_exit ?_ | refine c_ret ?_ | refine s_nil ?_ | refine x_then ?_ | refine x_then_exit ?_ | refine x_then_ret ?_ | refine x_block ?_ | refine x_block_ret ?_ | refine x_block_same ?_ | refine x_block_other (by first | rfl | decide) ?_ | refine q_nil ?_ | refine k_nil ?_) | ((with_reducible apply kP (.box _ _)); first | refine sBA (fun b => ?_) | refine sB (fun b => ?_)) | ((with_reducible apply kP _); refine sP ?_) | ((with_reducible apply kP _); refine sX ?_) | ((with_reducible apply kC); first | refine cT ?_ | refine cF ?_ | (refine cI (fun h => ?_) (fun h => ?_) <;> (try (exfalso; omega))) | refine cB (fun h => ?_) (fun h => ?_)))
    subst q1 q2 q3 q4
    have hA := SewR.at (hC.sub (hs' := (b1, [.slice s.oP ps.length cP, .slice s.oS s.nS cS, iv s.e]) :: hs) (.cons _ (.refl _))) hR
    have kl : Fn Tryz.prog 32 #[.pointer (some ⟨s.b, 0, none⟩)] B w0 _ (fun v h => ∃ blk, (∃ oa c, v = .slice oa (lpsC ps sm s.nS).length c) ∧ h = blk ++ _) := (k_loops s ps _ V.n48 V.net _ _ _ hA).mono (by
      rintro v h ⟨blk, hx, rfl⟩
      obtain ⟨oa, c, rfl⟩ := LrR.v hx
      exact ⟨blk, ⟨oa, c, by rw [List.length_map]; rfl⟩, rfl⟩)
    repeat' (first | ((with_reducible apply kF 32); refine sR 32 (kl) ?_; rintro v8 h8 ⟨blk8, ⟨oa8, c8, rfl⟩, rfl⟩) | (with_reducible first | refine c_seq ?_ | refine c_reg ?_ | refine c_region ?_ | refine c_block ?_ | refine c_skip ?_ | refine c_exit ?_ | refine c_ret ?_ | refine s_nil ?_ | refine x_then ?_ | refine x_then_exit ?_ | refine x_then_ret ?_ | refine x_block ?_ | refine x_block_ret ?_ | refine x_block_same ?_ | refine x_block_other (by first | rfl | decide) ?_ | refine q_nil ?_ | refine k_nil ?_) | ((with_reducible apply kP (.box _ _)); first | refine sBA (fun b => ?_) | refine sB (fun b => ?_)) | ((with_reducible apply kP _); refine sP ?_) | ((with_reducible apply kP _); refine sX ?_) | ((with_reducible apply kC); first | refine cT ?_ | refine cF ?_ | (refine cI (fun h => ?_) (fun h => ?_) <;> (try (exfalso; omega))) | refine cB (fun h => ?_) (fun h => ?_)))
    exact e_ret2 (hs' := hs) rfl rfl rfl ⟨rfl, rfl⟩ (sbA (sbA (.cons _ (.refl _))))
  · rw [if_neg hv] at kp ⊢
    generalize vdC ps sm m e = z at *
    refine fn_enter Tryz.func14 rfl Tryz.ntmps14 (by simp) ?_
    repeat' (first | ((with_reducible apply kP (.box 25 _)); refine sBA (fun b1 => ?_)) | ((with_reducible apply kF 13); refine sC 13 (kp _ SBt) ?_) | (with_reducible first | refine c_seq ?_ | refine c_reg ?_ | refine c_region ?_ | refine c_block ?_ | refine c_skip ?_ | refine c_exit ?_ | refine c_ret ?_ | refine s_nil ?_ | refine x_then ?_ | refine x_then_exit ?_ | refine x_then_ret ?_ | refine x_block ?_ | refine x_block_ret ?_ | refine x_block_same ?_ | refine x_block_other (by first | rfl | decide) ?_ | refine q_nil ?_ | refine k_nil ?_) | ((with_reducible apply kP (.box _ _)); first | refine sBA (fun b => ?_) | refine sB (fun b => ?_)) | ((with_reducible apply kP _); refine sP ?_) | ((with_reducible apply kP _); refine sX ?_) | ((with_reducible apply kC); first | refine cT ?_ | refine cF ?_ | (refine cI (fun h => ?_) (fun h => ?_) <;> (try (exfalso; omega))) | refine cB (fun h => ?_) (fun h => ?_)))
    exact e_ret2 (hs' := hs) rfl rfl rfl ⟨rfl, rfl⟩ SCt
/-- The measures. -/
def msV (ps : List Pc) (sm : List Int) (m : Nat) (e : Int) : List Int := [if vdC ps sm m e = 0 then (paC ps sm m : Int) else 0, if vdC ps sm m e = 0 then euC ps sm m else 0, if vdC ps sm m e = 0 then 360 * euC ps sm m else 0, if vdC ps sm m e = 0 then haC ps sm m else 0, vdC ps sm m e]
end Go.Proofs.YtnbickholedckaaGreatDoor
namespace Go.Proofs.YtnbickholedckaaGreatDoor
open Go.RowKit
instance : Inhabited Lr := ⟨⟨none, 0, [], []⟩⟩
def lrA (rs : List Lr) (i : Nat) : Lr := rs.getD i default
theorem lrv_at {rs : List Lr} {i : Nat} (hi : i < rs.length) : (lrv rs)[i]? = some (.slice (lrA rs i).oa (lrA rs i).l.length (lrA rs i).c) := by
  unfold lrv lrA
  rw [List.getElem?_map, List.getElem?_eq_getElem hi, List.getD_eq_getElem?_getD, List.getElem?_eq_getElem hi]
  rfl
structure LrM (B : Nat) (w0 : Wd) (hs : HS) (oa : Option Addr) (rs : List Lr) : Prop where
  lv : Sv B w0 hs oa (lrv rs)
  ls : ∀ i, i < rs.length → Sl B w0 hs (lrA rs i).oa (lrA rs i).l
theorem LrM.sub {B : Nat} {w0 : Wd} {hs hs' : HS} {oa : Option Addr} {rs : List Lr} (h : LrM B w0 hs oa rs) (hsub : hs.Sublist hs') : LrM B w0 hs' oa rs := ⟨h.lv.sub hsub, fun i hi => (h.ls i hi).sub hsub⟩
theorem lrb_go : ∀ (rs : List Lr) (acc : HS), rs.foldl (fun acc r => r.blk ++ acc) acc = lrb rs ++ acc
  | [], acc => rfl
  | r :: rs, acc => by
    unfold lrb
    simp only [List.foldl_cons]
    rw [lrb_go rs (r.blk ++ acc), lrb_go rs (r.blk ++ []), List.append_nil, List.append_assoc]
theorem lrb_mem : ∀ {rs : List Lr} {r : Lr}, r ∈ rs → r.blk.Sublist (lrb rs)
  | q :: rs, r, h => by
    have e : lrb (q :: rs) = lrb rs ++ q.blk := by show rs.foldl _ (q.blk ++ []) = _; rw [lrb_go, List.append_nil]
    rw [e]
    rcases List.mem_cons.1 h with rfl | h
    · exact List.sublist_append_right _ _
    · exact (lrb_mem h).trans (List.sublist_append_left _ _)
theorem lrA_mem {rs : List Lr} {i : Nat} (hi : i < rs.length) : lrA rs i ∈ rs := by
  unfold lrA
  rw [List.getD_eq_getElem?_getD, List.getElem?_eq_getElem hi]
  exact List.getElem_mem hi
theorem LrR.m {B : Nat} {w0 : Wd} {hs : HS} {ls : List (List Int)} {v : Value} {blk : HS} (h : LrR ls v blk) : ∃ oa c rs, v = .slice oa rs.length c ∧ rs.map (·.l) = ls ∧ LrM B w0 (blk ++ hs) oa rs := by
  obtain ⟨oa, c, rs, bo, rfl, h1, h2, h3, rfl⟩ := h
  refine ⟨oa, c, rs, rfl, h3, (Sv.rowC h1).sub ((List.sublist_append_left _ _).trans (List.sublist_append_left _ _)), fun i hi => ?_⟩
  have hm := lrA_mem hi
  exact (Sl.row (h2 _ hm)).sub (((lrb_mem hm).trans (List.sublist_append_right _ _)).trans (List.sublist_append_left _ _))
theorem LrM.nil {B : Nat} {w0 : Wd} {hs : HS} {oa : Option Addr} : LrM B w0 hs oa [] := ⟨by unfold Sv; exact fun i hi => absurd hi (Nat.not_lt_zero _), fun i hi => absurd hi (Nat.not_lt_zero _)⟩
theorem LrM.c {B : Nat} {w0 : Wd} {hs hs' : HS} {oa : Option Addr} {rs : List Lr} (h : LrM B w0 hs oa rs) (hsub : hs.Sublist hs') {i : Nat} (hi : i < rs.length) : CellAt B w0 hs' (ea oa i) (.slice (lrA rs i).oa (lrA rs i).l.length (lrA rs i).c) := by
  have hp := h.lv
  unfold Sv at hp
  unfold CellAt
  intro w hw
  rw [(hp i (by rw [lrv_len]; exact hi)).2 w (hw.sub hsub)]
  exact lrv_at hi
theorem LrM.isS {B : Nat} {w0 : Wd} {hs : HS} {oa : Option Addr} {rs : List Lr} (h : LrM B w0 hs oa rs) {i : Nat} (hi : i < rs.length) : oa.isSome = true := by
  have hp := h.lv
  unfold Sv at hp
  exact (hp i (by rw [lrv_len]; exact hi)).1
/-- The lengths of the loops. -/
def hrC (ps : List Pc) (sm : List Int) (m : Nat) : List Int := hrL (nC ps) (nxC ps) (muC ps sm m) (lnF ps)
section
variable {ps : List Pc} {sm : List Int} {m : Nat} {e : Int}
theorem VdC.lp (V : VdC ps sm m e) {i : Nat} {l : List Nat} (h : (lpsC ps sm m)[i]? = some l) : (∀ x ∈ l, x < nC ps) ∧ l.length ≤ 48 := by
  have h0 : l ∈ lpsC ps sm m := List.mem_of_getElem? h
  have h1 : ∀ x ∈ l, x < nC ps := fun x hx => (V.net.lps_mem.1 (List.mem_flatten.2 ⟨l, h0, hx⟩)).1
  refine ⟨h1, ?_⟩
  unfold lpsC lpsL at h0
  obtain ⟨x, hx, rfl⟩ := List.mem_map.1 h0
  simp only [List.mem_filter, List.mem_range] at hx
  obtain ⟨p, hp⟩ := V.net.loop hx.1
  have h2 := V.n48
  have h3 := hp.pn
  rw [hp.list]
  unfold loopL
  rw [List.length_map, List.length_range]; omega
end
attribute [local irreducible] OpF Ld CellAt Sl Sv pcA usP
end Go.Proofs.YtnbickholedckaaGreatDoor
namespace Go.Proofs.YtnbickholedckaaGreatDoor
open Go.RowKit
attribute [local irreducible] OpF Ld CellAt Sl Sv usP
theorem SmP.ms {qs ps : List Pc} (h : SmP qs ps) (sm : List Int) (m : Nat) (e : Int) : msV qs sm m e = msV ps sm m e := by
  have e0 : agF qs = agF ps := funext fun x => by
    have hh : agF ps x = (anF ps (pcG (sdF ps) ps.length x)).getD (x - fsN (sdF ps) (pcG (sdF ps) ps.length x)) 0 := rfl
    have hg : agF qs x = (anF qs (pcG (sdF qs) qs.length x)).getD (x - fsN (sdF qs) (pcG (sdF qs) qs.length x)) 0 := rfl
    rw [hh, hg, h.len, h.sd, h.an]
  have e1 : paC qs sm m = paC ps sm m := by unfold paC; rw [h.len, h.sd]
  have e2 : nC qs = nC ps := by unfold nC; rw [h.len, h.sd]
  have e3 : nxC qs = nxC ps := by unfold nxC; rw [h.len, h.sd]
  have e4 : muC qs sm m = muC ps sm m := by unfold muC; rw [h.sd]
  have e5 : ptsC qs sm m = ptsC ps sm m := by unfold ptsC; rw [e0, e2, e3, e4]
  have e6 : lpsC qs sm m = lpsC ps sm m := by unfold lpsC; rw [e2, e3, e4]
  have e7 : euC qs sm m = euC ps sm m := by unfold euC; rw [e5, e2, h.len]
  have e8 : haC qs sm m = haC ps sm m := by unfold haC; rw [e1, e7, e6]
  unfold msV
  rw [e1, e7, e8, h.vd]
theorem SmP.hr {qs ps : List Pc} (h : SmP qs ps) (sm : List Int) (m : Nat) : hrC qs sm m = hrC ps sm m := by
  have e2 : nC qs = nC ps := by unfold nC; rw [h.len, h.sd]
  have e3 : nxC qs = nxC ps := by unfold nxC; rw [h.len, h.sd]
  have e4 : muC qs sm m = muC ps sm m := by unfold muC; rw [h.sd]
  have e9 : lnF qs = lnF ps := funext fun x => by
    have a1 : ∀ l : List Pc, lnF l x = (sdF l (pcG (sdF l) l.length x)).getD (x - fsN (sdF l) (pcG (sdF l) l.length x)) 0 := fun l => rfl
    rw [a1, a1, h.len, h.sd]
  unfold hrC; rw [e2, e3, e4, e9]
end Go.Proofs.YtnbickholedckaaGreatDoor
