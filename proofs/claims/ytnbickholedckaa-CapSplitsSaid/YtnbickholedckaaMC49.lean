/- slices.Clone, and the program's copy of a cap. -/
import Derived.Test.YtnbickholedckaaMA3
import Derived.Test.YtnbickholedckaaMB7
namespace Go.Proofs.Ytnbickholedckaa
open Go.RowKit
theorem pcsv_flat (ps : List Pc) : Flat (pcsv ps) := by
  induction ps with
  | nil => exact flat0
  | cons p ps ih =>
    unfold pcsv pcv
    exact flat_cons rfl (flat_cons rfl ih)
theorem set_mid {A B z : List Value} {x y v : Value} : (A ++ (x :: y :: B) ++ z).set A.length v = A ++ (v :: y :: B) ++ z := by
  rw [List.append_assoc, List.set_append_right _ _ (Nat.le_refl _), Nat.sub_self]
  simp
theorem set_mid1 {A B z : List Value} {x y v : Value} : (A ++ (x :: y :: B) ++ z).set (A.length + 1) v = A ++ (x :: v :: B) ++ z := by
  rw [List.append_assoc, List.set_append_right _ _ (by omega), show A.length + 1 - A.length = 1 by omega]
  simp
theorem Sv.some_of {B : Nat} {w0 : Wd} {hs : HS} {l : List Value} (h : Sv B w0 hs none l) : l = [] := by
  cases l with
  | nil => rfl
  | cons v l => have := (h 0 (by simp)).1; simp at this
attribute [local irreducible] OpF Ld CellAt Sl Sv pcA
set_option maxRecDepth 100000 in
set_option maxHeartbeats 8000000 in
theorem k_cloneI (oa : Option Addr) (c : Nat) (l : List Int) (hl : l.length ≤ 100) (B : Nat) (w0 : Wd) (hs : HS) (hL : Sl B w0 hs oa l) :
    Fn Try.prog 95 #[.slice oa l.length c] B w0 hs (fun v h => ∃ blk, (∃ oa' c', v = .slice oa' l.length c' ∧ RowOk oa' c' 1 (ivs l) blk) ∧ h = blk ++ hs) := by
  cases oa with
  | none =>
    have h0 : l = [] := by
      have := Sv.some_of hL.sv
      simpa [ivs] using this
    subst h0
    refine fn_enter Try.func95 rfl Try.ntmps95 (by simp) ?_
    repeat' (first | ((with_reducible apply kP (.binOp .eql _ _ _ _)); refine sP ?_ (o_eqlN (scTOf rfl) rfl rfl)) | ((with_reducible apply kDP (.binOp .eql _ _ _ _)); refine dP ?_ (hX := rfl) (hv := o_eqlN (scTOf rfl) rfl rfl)) | ((with_reducible apply kQO (.binOp .eql _ _ _ _)); refine qP ?_ (o_eqlN (scTOf rfl) rfl rfl)) | (with_reducible first | refine c_seq ?_ | refine c_reg ?_ | refine c_region ?_ | refine c_block ?_ | refine c_skip ?_ | refine c_exit ?_ | refine c_ret ?_ | refine s_nil ?_ | refine x_then ?_ | refine x_then_exit ?_ | refine x_then_ret ?_ | refine x_block ?_ | refine x_block_ret ?_ | refine x_block_same ?_ | refine x_block_other (by first | rfl | decide) ?_ | refine q_nil ?_ | refine k_nil ?_) | ((with_reducible apply kP (.buildSlice _ 0 _)); refine s_bs0 (scTOf rfl) (zsTOf rfl) (by decide) (fun b => ?_)) | ((with_reducible apply kP (.call ⟨.builtin .append, _, _⟩)); refine sAp (fun oa2 c2 blk2 hrow2 => ?_)) | ((with_reducible apply kP _); refine sP ?_) | ((with_reducible apply kP _); refine sX ?_) | ((with_reducible apply kC); first | refine cT ?_ | refine cF ?_ | (refine cI (fun h => ?_) (fun h => ?_) <;> (try (exfalso; omega))) | refine cB (fun h => ?_) (fun h => ?_)))
    exact e_ret1 (hs' := hs) rfl rfl ⟨[], ⟨none, 0, rfl, RowOk.nil⟩, rfl⟩ SCt
  | some a =>
    refine fn_enter Try.func95 rfl Try.ntmps95 (by simp) ?_
    repeat' (first | ((with_reducible apply kP (.binOp .eql _ _ _ _)); refine sP ?_ (o_eqlN (scTOf rfl) rfl rfl)) | ((with_reducible apply kDP (.binOp .eql _ _ _ _)); refine dP ?_ (hX := rfl) (hv := o_eqlN (scTOf rfl) rfl rfl)) | ((with_reducible apply kQO (.binOp .eql _ _ _ _)); refine qP ?_ (o_eqlN (scTOf rfl) rfl rfl)) | ((with_reducible apply kP (.call ⟨.builtin .append, _, _⟩)); refine s_appZ (apTOf rfl) rfl rfl (by with_reducible ((repeat (first | exact Take.head | exact Take.one | exact Take.nil | apply Take.tail | apply Take.app)); done)) (RowOk.new (n := 0) (xs := []) rfl (by decide)) (Sl.sv (hL.sub (.cons _ (.refl _)))) (by first | rfl | (rw [ivs_length]; omega) | (simp only [ivs_length, List.length_take]; omega)) (flat_iv _) (by first | assumption | omega) (by decide) (by decide) (fun oa2 c2 blk2 hrow2 => ?_)) | (with_reducible first | refine c_seq ?_ | refine c_reg ?_ | refine c_region ?_ | refine c_block ?_ | refine c_skip ?_ | refine c_exit ?_ | refine c_ret ?_ | refine s_nil ?_ | refine x_then ?_ | refine x_then_exit ?_ | refine x_then_ret ?_ | refine x_block ?_ | refine x_block_ret ?_ | refine x_block_same ?_ | refine x_block_other (by first | rfl | decide) ?_ | refine q_nil ?_ | refine k_nil ?_) | ((with_reducible apply kP (.buildSlice _ 0 _)); refine s_bs0 (scTOf rfl) (zsTOf rfl) (by decide) (fun b => ?_)) | ((with_reducible apply kP (.call ⟨.builtin .append, _, _⟩)); refine sAp (fun oa2 c2 blk2 hrow2 => ?_)) | ((with_reducible apply kP _); refine sP ?_) | ((with_reducible apply kP _); refine sX ?_) | ((with_reducible apply kC); first | refine cT ?_ | refine cF ?_ | (refine cI (fun h => ?_) (fun h => ?_) <;> (try (exfalso; omega))) | refine cB (fun h => ?_) (fun h => ?_)))
    exact e_ret1 rfl rfl ⟨blk2, ⟨oa2, c2, rfl, hrow2⟩, rfl⟩ SCt
set_option maxRecDepth 100000 in
set_option maxHeartbeats 8000000 in
theorem k_cloneS (oa : Option Addr) (c m : Nat) (l : List Int) (hl : l.length = m * 4) (hm : m ≤ 100) (B : Nat) (w0 : Wd) (hs : HS) (hL : Sl B w0 hs oa l) :
    Fn Try.prog 94 #[.slice oa m c] B w0 hs (fun v h => ∃ blk, (∃ oa' c', v = .slice oa' m c' ∧ RowOk oa' c' 4 (ivs l) blk) ∧ h = blk ++ hs) := by
  have hlk : (ivs l).length = m * 4 := by rw [ivs_length]; exact hl
  cases oa with
  | none =>
    have h0 : l = [] := by
      have := Sv.some_of hL.sv
      simpa [ivs] using this
    subst h0
    obtain rfl : m = 0 := by simp at hl; omega
    refine fn_enter Try.func94 rfl Try.ntmps94 (by simp) ?_
    repeat' (first | ((with_reducible apply kP (.binOp .eql _ _ _ _)); refine sP ?_ (o_eqlN (scTOf rfl) rfl rfl)) | ((with_reducible apply kDP (.binOp .eql _ _ _ _)); refine dP ?_ (hX := rfl) (hv := o_eqlN (scTOf rfl) rfl rfl)) | ((with_reducible apply kQO (.binOp .eql _ _ _ _)); refine qP ?_ (o_eqlN (scTOf rfl) rfl rfl)) | (with_reducible first | refine c_seq ?_ | refine c_reg ?_ | refine c_region ?_ | refine c_block ?_ | refine c_skip ?_ | refine c_exit ?_ | refine c_ret ?_ | refine s_nil ?_ | refine x_then ?_ | refine x_then_exit ?_ | refine x_then_ret ?_ | refine x_block ?_ | refine x_block_ret ?_ | refine x_block_same ?_ | refine x_block_other (by first | rfl | decide) ?_ | refine q_nil ?_ | refine k_nil ?_) | ((with_reducible apply kP (.buildSlice _ 0 _)); refine s_bs0 (scTOf rfl) (zsTOf rfl) (by decide) (fun b => ?_)) | ((with_reducible apply kP (.call ⟨.builtin .append, _, _⟩)); refine sAp (fun oa2 c2 blk2 hrow2 => ?_)) | ((with_reducible apply kP _); refine sP ?_) | ((with_reducible apply kP _); refine sX ?_) | ((with_reducible apply kC); first | refine cT ?_ | refine cF ?_ | (refine cI (fun h => ?_) (fun h => ?_) <;> (try (exfalso; omega))) | refine cB (fun h => ?_) (fun h => ?_)))
    exact e_ret1 (hs' := hs) rfl rfl ⟨[], ⟨none, 0, rfl, RowOk.nil⟩, rfl⟩ SCt
  | some a =>
    refine fn_enter Try.func94 rfl Try.ntmps94 (by simp) ?_
    repeat' (first | ((with_reducible apply kP (.binOp .eql _ _ _ _)); refine sP ?_ (o_eqlN (scTOf rfl) rfl rfl)) | ((with_reducible apply kDP (.binOp .eql _ _ _ _)); refine dP ?_ (hX := rfl) (hv := o_eqlN (scTOf rfl) rfl rfl)) | ((with_reducible apply kQO (.binOp .eql _ _ _ _)); refine qP ?_ (o_eqlN (scTOf rfl) rfl rfl)) | ((with_reducible apply kP (.call ⟨.builtin .append, _, _⟩)); refine s_appZ (apTOf rfl) rfl rfl Take.one (RowOk.new (n := 0) (xs := []) rfl (by decide)) (Sl.sv (hL.sub (.cons _ (.refl _)))) hlk (flat_iv _) (by omega) (by decide) (by first | decide | exact ltd rfl) (fun oa2 c2 blk2 hrow2 => ?_)) | (with_reducible first | refine c_seq ?_ | refine c_reg ?_ | refine c_region ?_ | refine c_block ?_ | refine c_skip ?_ | refine c_exit ?_ | refine c_ret ?_ | refine s_nil ?_ | refine x_then ?_ | refine x_then_exit ?_ | refine x_then_ret ?_ | refine x_block ?_ | refine x_block_ret ?_ | refine x_block_same ?_ | refine x_block_other (by first | rfl | decide) ?_ | refine q_nil ?_ | refine k_nil ?_) | ((with_reducible apply kP (.buildSlice _ 0 _)); refine s_bs0 (scTOf rfl) (zsTOf rfl) (by decide) (fun b => ?_)) | ((with_reducible apply kP (.call ⟨.builtin .append, _, _⟩)); refine sAp (fun oa2 c2 blk2 hrow2 => ?_)) | ((with_reducible apply kP _); refine sP ?_) | ((with_reducible apply kP _); refine sX ?_) | ((with_reducible apply kC); first | refine cT ?_ | refine cF ?_ | (refine cI (fun h => ?_) (fun h => ?_) <;> (try (exfalso; omega))) | refine cB (fun h => ?_) (fun h => ?_)))
    exact e_ret1 rfl rfl ⟨blk2, ⟨oa2, c2, rfl, hrow2⟩, rfl⟩ SCt
set_option maxRecDepth 100000 in
set_option maxHeartbeats 8000000 in
theorem k_cloneP (oa : Option Addr) (c : Nat) (ps : List Pc) (hl : ps.length ≤ 100) (B : Nat) (w0 : Wd) (hs : HS) (hL : Sv B w0 hs oa (pcsv ps)) :
    Fn Try.prog 93 #[.slice oa ps.length c] B w0 hs (fun v h => ∃ blk, (∃ oa' c', v = .slice oa' ps.length c' ∧ RowOk oa' c' 2 (pcsv ps) blk) ∧ h = blk ++ hs) := by
  have hlk : (pcsv ps).length = ps.length * 2 := by rw [pcsv_len]; omega
  cases oa with
  | none =>
    have h0 : pcsv ps = [] := Sv.some_of hL
    obtain rfl : ps = [] := by
      rw [h0] at hlk
      cases ps with
      | nil => rfl
      | cons p ps => simp at hlk
    refine fn_enter Try.func93 rfl Try.ntmps93 (by simp) ?_
    repeat' (first | ((with_reducible apply kP (.binOp .eql _ _ _ _)); refine sP ?_ (o_eqlN (scTOf rfl) rfl rfl)) | ((with_reducible apply kDP (.binOp .eql _ _ _ _)); refine dP ?_ (hX := rfl) (hv := o_eqlN (scTOf rfl) rfl rfl)) | ((with_reducible apply kQO (.binOp .eql _ _ _ _)); refine qP ?_ (o_eqlN (scTOf rfl) rfl rfl)) | (with_reducible first | refine c_seq ?_ | refine c_reg ?_ | refine c_region ?_ | refine c_block ?_ | refine c_skip ?_ | refine c_exit ?_ | refine c_ret ?_ | refine s_nil ?_ | refine x_then ?_ | refine x_then_exit ?_ | refine x_then_ret ?_ | refine x_block ?_ | refine x_block_ret ?_ | refine x_block_same ?_ | refine x_block_other (by first | rfl | decide) ?_ | refine q_nil ?_ | refine k_nil ?_) | ((with_reducible apply kP (.buildSlice _ 0 _)); refine s_bs0 (scTOf rfl) (zsTOf rfl) (by decide) (fun b => ?_)) | ((with_reducible apply kP (.call ⟨.builtin .append, _, _⟩)); refine sAp (fun oa2 c2 blk2 hrow2 => ?_)) | ((with_reducible apply kP _); refine sP ?_) | ((with_reducible apply kP _); refine sX ?_) | ((with_reducible apply kC); first | refine cT ?_ | refine cF ?_ | (refine cI (fun h => ?_) (fun h => ?_) <;> (try (exfalso; omega))) | refine cB (fun h => ?_) (fun h => ?_)))
    exact e_ret1 (hs' := hs) rfl rfl ⟨[], ⟨none, 0, rfl, RowOk.nil⟩, rfl⟩ SCt
  | some a =>
    refine fn_enter Try.func93 rfl Try.ntmps93 (by simp) ?_
    repeat' (first | ((with_reducible apply kP (.binOp .eql _ _ _ _)); refine sP ?_ (o_eqlN (scTOf rfl) rfl rfl)) | ((with_reducible apply kDP (.binOp .eql _ _ _ _)); refine dP ?_ (hX := rfl) (hv := o_eqlN (scTOf rfl) rfl rfl)) | ((with_reducible apply kQO (.binOp .eql _ _ _ _)); refine qP ?_ (o_eqlN (scTOf rfl) rfl rfl)) | ((with_reducible apply kP (.call ⟨.builtin .append, _, _⟩)); refine s_appZ (apTOf rfl) rfl rfl Take.one (RowOk.new (n := 0) (xs := []) rfl (by decide)) (hL.sub (.cons _ (.refl _))) hlk (pcsv_flat _) (by omega) (by decide) (by first | decide | exact ltd rfl) (fun oa2 c2 blk2 hrow2 => ?_)) | (with_reducible first | refine c_seq ?_ | refine c_reg ?_ | refine c_region ?_ | refine c_block ?_ | refine c_skip ?_ | refine c_exit ?_ | refine c_ret ?_ | refine s_nil ?_ | refine x_then ?_ | refine x_then_exit ?_ | refine x_then_ret ?_ | refine x_block ?_ | refine x_block_ret ?_ | refine x_block_same ?_ | refine x_block_other (by first | rfl | decide) ?_ | refine q_nil ?_ | refine k_nil ?_) | ((with_reducible apply kP (.buildSlice _ 0 _)); refine s_bs0 (scTOf rfl) (zsTOf rfl) (by decide) (fun b => ?_)) | ((with_reducible apply kP (.call ⟨.builtin .append, _, _⟩)); refine sAp (fun oa2 c2 blk2 hrow2 => ?_)) | ((with_reducible apply kP _); refine sP ?_) | ((with_reducible apply kP _); refine sX ?_) | ((with_reducible apply kC); first | refine cT ?_ | refine cF ?_ | (refine cI (fun h => ?_) (fun h => ?_) <;> (try (exfalso; omega))) | refine cB (fun h => ?_) (fun h => ?_)))
    exact e_ret1 rfl rfl ⟨blk2, ⟨oa2, c2, rfl, hrow2⟩, rfl⟩ SCt
/-- A copy of a cap in memory of its own. -/
def CpR (ps : List Pc) (sm : List Int) (m : Nat) (e : Int) (u : Value) (blk : HS) : Prop :=
  ∃ oP' cP' oS' cS' rs bo ko, u = .agg #[.slice oP' ps.length cP', .slice oS' m cS', iv e] ∧ RowOk oP' cP' 2 (pcsv (rpP rs)) bo ∧ (∀ r ∈ rs, RpOk r) ∧ rs.length = ps.length ∧ (∀ i, i < ps.length → (pcA (rpP rs) i).sd = (pcA ps i).sd ∧ (pcA (rpP rs) i).an = (pcA ps i).an) ∧ RowOk oS' cS' 4 (ivs sm) ko ∧ blk = ko ++ (bo ++ rpb rs)
structure CcI where
  i : Nat
  rs : List Rp
set_option maxRecDepth 100000 in
set_option maxHeartbeats 8000000 in
theorem k_copyCap (ps : List Pc) (oP oS : Option Addr) (cP m cS : Nat) (sm : List Int) (e : Int) (hn : ps.length ≤ 100) (hn1 : 1 ≤ ps.length) (hl : ∀ i, i < ps.length → (pcA ps i).sd.length ≤ 100 ∧ (pcA ps i).an.length ≤ 100) (hsm : sm.length = m * 4) (hm : m ≤ 100) (B : Nat) (w0 : Wd) (hs : HS) (hC : CapM B w0 hs oP oS ps sm) :
    Fn Try.prog 69 #[.agg #[.slice oP ps.length cP, .slice oS m cS, iv e]] B w0 hs (fun v h => ∃ blk, CpR ps sm m e v blk ∧ h = blk ++ hs) := by
  have kp := fun hs' (h : hs.Sublist hs') => k_cloneP oP cP ps hn B w0 hs' (hC.pcs.sub h)
  have kq := fun hs' (h : hs.Sublist hs') => k_cloneS oS cS m sm hsm hm B w0 hs' (hC.sms.sub h)
  refine fn_enter Try.func69 rfl Try.ntmps69 (by simp) ?_
  repeat' (first | ((with_reducible apply kP (.box 25 _)); refine sBA (fun b1 => ?_)) | ((with_reducible apply kP (.alloc 25)); refine sA (fun b2 => ?_)) | ((with_reducible apply kDF 93); (first | refine dN3 93 (fun F => kp _ (sbA SBt)) ?_ | refine dN4 93 (fun F => kp _ (sbA SBt)) ?_); rintro u1 bo ⟨oP', cP', rfl, hrP⟩) | ((with_reducible apply kDF 94); (first | refine dN3 94 (fun F => kq _ (sbA SBt)) ?_ | refine dN4 94 (fun F => kq _ (sbA SBt)) ?_); rintro u2 ko ⟨oS', cS', rfl, hrS⟩) | ((with_reducible apply kDN); refine dtC ?_) | ((with_reducible apply kRg 1); refine cD [1, 1, 3, 0, 0, 3, 0, 4, 1, 4] ?_) | ((with_reducible apply kRg 5); refine cD [0, 0, 0, 1, 1, 1, 1, 1, 1, 3, 1, 1, 4] ?_) | ((with_reducible apply kRg 6); refine cD [0, 0, 0, 1, 1, 1, 1, 1, 1, 3, 1, 1, 4] ?_) | (with_reducible first | refine c_seq ?_ | refine c_reg ?_ | refine c_region ?_ | refine c_block ?_ | refine c_skip ?_ | refine c_exit ?_ | refine c_ret ?_ | refine s_nil ?_ | refine x_then ?_ | refine x_then_exit ?_ | refine x_then_ret ?_ | refine x_block ?_ | refine x_block_ret ?_ | refine x_block_same ?_ | refine x_block_other (by first | rfl | decide) ?_ | refine q_nil ?_ | refine k_nil ?_) | ((with_reducible apply kN); first | refine stP ?_ | refine stI ?_ | refine st1 ?_ | refine stW ?_) | ((with_reducible apply kP (.alloc _)); refine sA (fun b => ?_)) | ((with_reducible apply kP (.box _ _)); first | refine sBA (fun b => ?_) | refine sB (fun b => ?_)) | ((with_reducible apply kP _); refine sP ?_) | ((with_reducible apply kP _); refine sX ?_) | ((with_reducible apply kC); first | refine cT ?_ | refine cF ?_ | (refine cI (fun h => ?_) (fun h => ?_) <;> (try (exfalso; omega))) | refine cB (fun h => ?_) (fun h => ?_)) | ((with_reducible apply kDN); first | refine dtI ?_ | refine dt1 ?_ | refine dtW ?_) | ((with_reducible apply kDP _); refine dP ?_) | ((with_reducible apply kDP _); refine dX ?_))
  rcases hrP with ⟨_, _, h3, _⟩ | ⟨bP, z, rfl, rfl, hz, hcP⟩
  · exfalso
    have := congrArg List.length h3
    rw [pcsv_len] at this
    simp at this; omega
  refine c_loop (fun t : CcI => [(1, .pointer (some ⟨b1, 0, none⟩)), (2, .pointer (some ⟨b2, 0, none⟩)), (14, iv ps.length), (15, iv t.i)])
    (fun t => rpb t.rs ++ (ko ++ ((bP, (pcsv (rpP t.rs) ++ pcsv (ps.drop t.i)) ++ z) :: (b2, [.slice none 0 0, .slice none 0 0, iv 0]) :: (b1, [.slice (some ⟨bP, 0, none⟩) ps.length cP', .slice oS' m cS', iv e]) :: hs)))
    (fun t => t.i ≤ ps.length ∧ t.rs.length = t.i ∧ (∀ r ∈ t.rs, RpOk r) ∧ ∀ j, j < t.i → (pcA (rpP t.rs) j).sd = (pcA ps j).sd ∧ (pcA (rpP t.rs) j).an = (pcA ps j).an)
    (fun t => ps.length - t.i) ⟨0, []⟩ ⟨Nat.zero_le _, rfl, fun r hr => (by cases hr), fun j hj => absurd hj (Nat.not_lt_zero _)⟩ (by repeat' first | trivial | rfl | apply And.intro) (.refl _) ?_
  rintro ⟨i, rs⟩ ⟨hi, hrl, hrr, hre⟩
  dsimp only at hi hrl hrr hre ⊢
  have hAl : (pcsv (rpP rs)).length = i * 2 := by rw [pcsv_len, rpP, List.length_map]; omega
  by_cases hi' : i < ps.length
  · have hdr : ps.drop i = pcA ps i :: ps.drop (i + 1) := by
      rw [List.drop_eq_getElem_cons hi']
      congr 1
      unfold pcA
      rw [List.getD_eq_getElem?_getD, List.getElem?_eq_getElem hi']; rfl
    rw [hdr]
    have hS1 := hC.sds i hi'
    have hS2 := hC.ans i hi'
    have hll := hl i hi'
    have hlr : (rpP rs).length = i := by rw [rpP, List.length_map]; exact hrl
    have hsd : ∀ j, j < i + 1 → ∀ q : Pc, q.sd = (pcA ps i).sd → q.an = (pcA ps i).an → (pcA (rpP rs ++ [q]) j).sd = (pcA ps j).sd ∧ (pcA (rpP rs ++ [q]) j).an = (pcA ps j).an := fun j hj q q1 q2 => by
      by_cases e : j = i
      · subst e
        have := pcA_eq (rpP rs) q
        rw [hlr] at this
        rw [this]
        exact ⟨q1, q2⟩
      · rw [pcA_lt (by omega)]
        exact hre j (by omega)
    have hpv : ∀ q : Pc, pcsv (rpP rs) ++ (.slice q.oa q.sd.length q.ca :: .slice q.ob q.an.length q.cb :: pcsv (ps.drop (i + 1))) = pcsv (rpP rs ++ [q]) ++ pcsv (ps.drop (i + 1)) := fun q => by
      rw [pcsv_app, List.append_assoc]; rfl
    have hp0 : pcsv (pcA ps i :: ps.drop (i + 1)) = .slice (pcA ps i).oa (pcA ps i).sd.length (pcA ps i).ca :: .slice (pcA ps i).ob (pcA ps i).an.length (pcA ps i).cb :: pcsv (ps.drop (i + 1)) := rfl
    rw [hp0]
    generalize pcA ps i = p at *
    have k1 := fun hs' (h : hs.Sublist hs') => k_cloneI p.oa p.ca p.sd hll.1 B w0 hs' (hS1.sub h)
    have k2 := fun hs' (h : hs.Sublist hs') => k_cloneI p.ob p.cb p.an hll.2 B w0 hs' (hS2.sub h)
    generalize hA : pcsv (rpP rs) = A at *
    generalize hBB : pcsv (ps.drop (i + 1)) = BB at *
    generalize hx : Value.slice p.oa p.sd.length p.ca = x at *
    generalize hy : Value.slice p.ob p.an.length p.cb = y at *
    have g0 : (A ++ (x :: y :: BB) ++ z)[i * 2]? = some x := by
      rw [List.append_assoc, List.getElem?_append_right (by omega), hAl]; simp
    have g1 : ∀ v, ((A ++ (x :: y :: BB) ++ z).set (i * 2) v)[i * 2 + 1]? = some y := fun v => by
      rw [← hAl, set_mid, List.append_assoc, List.getElem?_append_right (by omega)]; simp
    have l0 : i * 2 < (A ++ (x :: y :: BB) ++ z).length := by simp; omega
    have l1 : ∀ v, i * 2 + 1 < ((A ++ (x :: y :: BB) ++ z).set (i * 2) v).length := fun v => by simp; omega
    have gg : ∀ v w, ((A ++ (x :: y :: BB) ++ z).set (i * 2) v).set (i * 2 + 1) w = A ++ (v :: w :: BB) ++ z := fun v w => by
      rw [← hAl, set_mid, set_mid1]
    subst hx hy
    repeat' (first | ((with_reducible apply kP (.load 39 (.tmp 25))); refine sP ?_ (o_load rfl (ld_one (shTOf rfl) (own MMt g0)))) | ((with_reducible apply kDP (.load 39 (.tmp 25))); refine dP ?_ (hX := rfl) (hv := o_load rfl (ld_one (shTOf rfl) (own MMt g0)))) | ((with_reducible apply kQO (.load 39 (.tmp 25))); refine qP ?_ (o_load rfl (ld_one (shTOf rfl) (own MMt g0)))) | ((with_reducible apply kP (.load 39 (.tmp 37))); refine sP ?_ (o_load rfl (ld_one (shTOf rfl) (own MMt (g1 _))))) | ((with_reducible apply kDP (.load 39 (.tmp 37))); refine dP ?_ (hX := rfl) (hv := o_load rfl (ld_one (shTOf rfl) (own MMt (g1 _))))) | ((with_reducible apply kQO (.load 39 (.tmp 37))); refine qP ?_ (o_load rfl (ld_one (shTOf rfl) (own MMt (g1 _))))) | ((with_reducible apply kDF 95); (first | refine dN3 95 (fun F => k1 _ (sbA SBt)) ?_ | refine dN4 95 (fun F => k1 _ (sbA SBt)) ?_); rintro u3 q1 ⟨oA, cA, rfl, hrA⟩) | ((with_reducible apply kDF 95); (first | refine dN3 95 (fun F => k2 _ (sbA SBt)) ?_ | refine dN4 95 (fun F => k2 _ (sbA SBt)) ?_); rintro u4 q2 ⟨oB, cB, rfl, hrB⟩) | ((with_reducible apply kDN); refine dt1 ?_ (hl := l0)) | ((with_reducible apply kDN); refine dt1 ?_ (hl := l1 _)) | ((with_reducible apply kRg 1); refine cD [1, 1, 3, 0, 0, 3, 0, 4, 1, 4] ?_) | ((with_reducible apply kRg 5); refine cD [0, 0, 0, 1, 1, 1, 1, 1, 1, 3, 1, 1, 4] ?_) | ((with_reducible apply kRg 6); refine cD [0, 0, 0, 1, 1, 1, 1, 1, 1, 3, 1, 1, 4] ?_) | (with_reducible first | refine c_seq ?_ | refine c_reg ?_ | refine c_region ?_ | refine c_block ?_ | refine c_skip ?_ | refine c_exit ?_ | refine c_ret ?_ | refine s_nil ?_ | refine x_then ?_ | refine x_then_exit ?_ | refine x_then_ret ?_ | refine x_block ?_ | refine x_block_ret ?_ | refine x_block_same ?_ | refine x_block_other (by first | rfl | decide) ?_ | refine q_nil ?_ | refine k_nil ?_) | ((with_reducible apply kN); first | refine stP ?_ | refine stI ?_ | refine st1 ?_ | refine stW ?_) | ((with_reducible apply kP (.alloc _)); refine sA (fun b => ?_)) | ((with_reducible apply kP (.box _ _)); first | refine sBA (fun b => ?_) | refine sB (fun b => ?_)) | ((with_reducible apply kP _); refine sP ?_) | ((with_reducible apply kP _); refine sX ?_) | ((with_reducible apply kC); first | refine cT ?_ | refine cF ?_ | (refine cI (fun h => ?_) (fun h => ?_) <;> (try (exfalso; omega))) | refine cB (fun h => ?_) (fun h => ?_)) | ((with_reducible apply kDN); first | refine dtI ?_ | refine dt1 ?_ | refine dtW ?_) | ((with_reducible apply kDP _); refine dP ?_) | ((with_reducible apply kDP _); refine dX ?_))
    have hpq := hpv ⟨oA, cA, p.sd, oB, cB, p.an⟩
    dsimp only at hpq
    have hrp : rpP (rs ++ [(⟨⟨oA, cA, p.sd, oB, cB, p.an⟩, q2 ++ q1⟩ : Rp)]) = rpP rs ++ [⟨oA, cA, p.sd, oB, cB, p.an⟩] := by simp [rpP]
    rw [gg, hpq, ← hrp, ← hBB]
    refine r_end (⟨i + 1, rs ++ [(⟨⟨oA, cA, p.sd, oB, cB, p.an⟩, q2 ++ q1⟩ : Rp)]⟩ : CcI) ⟨hi', by simp [hrl], fun r hr => ?_, fun j hj => ?_⟩ (by dsimp only; omega) (by repeat' first | trivial | rfl | apply And.intro) (by dsimp only; rw [rpb_snoc, List.append_assoc, List.append_assoc]; exact .refl _)
    · rcases List.mem_append.1 hr with hr | hr
      · exact hrr r hr
      · rw [List.mem_singleton] at hr; subst hr; exact ⟨q1, q2, hrA, hrB, rfl⟩
    · dsimp only at hj ⊢
      rw [hrp]
      exact hsd j hj _ rfl rfl
  · obtain rfl : ps.length = i := by omega
    have hzz : ((pcsv (rpP rs) ++ pcsv (ps.drop ps.length)) ++ z) = pcsv (rpP rs) ++ z := by rw [List.drop_length]; simp [pcsv]
    rw [hzz]
    refine sat_take (blk := [(bP, pcsv (rpP rs) ++ z)]) (by repeat (first | exact Take.head | exact Take.one | apply Take.tail | apply Take.app)) ?_
    refine sat_take (blk := ko) (by repeat (first | exact Take.head | exact Take.one | apply Take.tail | apply Take.app)) ?_
    repeat' (first | ((with_reducible apply kN); refine stW ?_ (hf := flat_cons rfl (flat_cons rfl (flat1 rfl)))) | ((with_reducible apply kRg 1); refine cD [1, 1, 3, 0, 0, 3, 0, 4, 1, 4] ?_) | ((with_reducible apply kRg 5); refine cD [0, 0, 0, 1, 1, 1, 1, 1, 1, 3, 1, 1, 4] ?_) | ((with_reducible apply kRg 6); refine cD [0, 0, 0, 1, 1, 1, 1, 1, 1, 3, 1, 1, 4] ?_) | (with_reducible first | refine c_seq ?_ | refine c_reg ?_ | refine c_region ?_ | refine c_block ?_ | refine c_skip ?_ | refine c_exit ?_ | refine c_ret ?_ | refine s_nil ?_ | refine x_then ?_ | refine x_then_exit ?_ | refine x_then_ret ?_ | refine x_block ?_ | refine x_block_ret ?_ | refine x_block_same ?_ | refine x_block_other (by first | rfl | decide) ?_ | refine q_nil ?_ | refine k_nil ?_) | ((with_reducible apply kN); first | refine stP ?_ | refine stI ?_ | refine st1 ?_ | refine stW ?_) | ((with_reducible apply kP (.alloc _)); refine sA (fun b => ?_)) | ((with_reducible apply kP (.box _ _)); first | refine sBA (fun b => ?_) | refine sB (fun b => ?_)) | ((with_reducible apply kP _); refine sP ?_) | ((with_reducible apply kP _); refine sX ?_) | ((with_reducible apply kC); first | refine cT ?_ | refine cF ?_ | (refine cI (fun h => ?_) (fun h => ?_) <;> (try (exfalso; omega))) | refine cB (fun h => ?_) (fun h => ?_)) | ((with_reducible apply kDN); first | refine dtI ?_ | refine dt1 ?_ | refine dtW ?_) | ((with_reducible apply kDP _); refine dP ?_) | ((with_reducible apply kDP _); refine dX ?_))
    have hlz : (pcsv (rpP rs) ++ z).length = cP' * 2 := by
      rw [List.length_append, pcsv_len] at hz
      rw [List.length_append, hAl]
      omega
    refine e_ret1 (hs' := (ko ++ ([(bP, pcsv (rpP rs) ++ z)] ++ rpb rs)) ++ hs) rfl ⟨_, rfl, ld_whole (shTOf rfl) MDt rfl⟩ ⟨_, ⟨some ⟨bP, 0, none⟩, cP', oS', cS', rs, _, ko, rfl, .inr ⟨bP, z, rfl, rfl, hlz, hcP⟩, hrr, hrl, hre, hrS, rfl⟩, rfl⟩ ?_
    rw [List.append_assoc, List.append_assoc]
    exact .append (.refl _) (.append (.refl _) (.append (.refl _) (.cons _ (.cons _ (.refl _)))))
end Go.Proofs.Ytnbickholedckaa
