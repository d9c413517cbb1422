/- Bundles in new memory. -/
import Derived.Test.YtiopaodiaokfdaaH6
namespace Go.Proofs.Ytiopaodiaokfdaa
open Go.RowKit

def NewB (r g : List Int) (u : Value) (blk : HS) : Prop := ∃ o1 o2 c1 c2 k1 k2, u = bv o1 o2 r.length g.length c1 c2 ∧ RowOk o1 c1 1 (ivs r) k1 ∧ RowOk o2 c2 1 (ivs g) k2 ∧ blk = k2 ++ k1
def NewBE (r g : List Int) (e : Int) (u : Value) (blk : HS) : Prop := ∃ o1 o2 c1 c2 k1 k2, u = .tuple #[bv o1 o2 r.length g.length c1 c2, iv e] ∧ RowOk o1 c1 1 (ivs r) k1 ∧ RowOk o2 c2 1 (ivs g) k2 ∧ blk = k2 ++ k1
theorem NewBE.none (e : Int) : NewBE [] [] e (.tuple #[.agg #[.slice none 0 0, .slice none 0 0], iv e]) [] := ⟨_, _, _, _, _, _, rfl, RowOk.nil, RowOk.nil, rfl⟩
theorem h_trimmed' (oa : Option Addr) (c m : Nat) (l : List Int) (hm : l.length = m) (hl : m ≤ 1000000) (hc : m ≤ c) (B : Nat) (w0 : World) (hs : HS) (h1 : Sl B w0 hs oa l) :
    Fn Try.prog 89 #[.slice oa m c] B w0 hs (fun u h => ∃ blk, NewI (strip l) u blk ∧ h = blk ++ hs) := by
  subst hm; exact h_trimmed oa c l hl hc B w0 hs h1

/-! ### Is a length too many -/
theorem bigA_iff {l : List Int} : bigA l = true ↔ ∃ i, i < l.length ∧ 1000000 < l.getD i 0 := by
  simp only [bigA, List.any_eq_true, decide_eq_true_eq]
  constructor
  · rintro ⟨x, hx, h⟩
    obtain ⟨i, hi, rfl⟩ := List.mem_iff_getElem.1 hx
    exact ⟨i, hi, by simpa [List.getD, hi] using h⟩
  · rintro ⟨i, hi, h⟩
    exact ⟨l[i], List.getElem_mem hi, by simpa [List.getD, hi] using h⟩
theorem lst_zero (f : Nat → Int) : ∀ n i, lst f n < i → i ≤ n → f i = 0
  | 0, i, h1, h2 => by omega
  | n + 1, i, h1, h2 => by
    unfold lst at h1
    split at h1
    · rename_i h
      by_cases hi : i = n + 1
      · rw [hi]; exact h
      · exact lst_zero f n i h1 (by omega)
    · omega
def bigF (f : Nat → Int) : Bool := (List.range 24).any (fun i => decide (1000000 < f (i + 1)))
theorem bigF_iff {f : Nat → Int} : bigF f = true ↔ ∃ i, 1 ≤ i ∧ i ≤ 24 ∧ 1000000 < f i := by
  simp only [bigF, List.any_eq_true, List.mem_range, decide_eq_true_eq]
  constructor
  · rintro ⟨i, h1, h2⟩; exact ⟨i + 1, by omega, by omega, h2⟩
  · rintro ⟨i, h1, h2, h3⟩; exact ⟨i - 1, by omega, by rw [show i - 1 + 1 = i by omega]; exact h3⟩
theorem bigA_trm (f : Nat → Int) : bigA (trm f) = bigF f := by
  have h : bigA (trm f) = true ↔ ∃ i, 1 ≤ i ∧ i ≤ 24 ∧ 1000000 < f i := by
    rw [bigA_iff]
    have hl : (trm f).length = lst f 24 := tab_length _ _
    have hle := lst_le f 24
    constructor
    · rintro ⟨i, hi, h⟩
      unfold trm at h
      rw [tab_getD _ (by omega)] at h
      exact ⟨i + 1, by omega, by omega, h⟩
    · rintro ⟨i, h1, h2, h3⟩
      have h4 : i ≤ lst f 24 := by
        rcases Nat.lt_or_ge (lst f 24) i with h | h
        · rw [lst_zero f 24 i h h2] at h3; omega
        · exact h
      refine ⟨i - 1, by omega, ?_⟩
      unfold trm
      rw [tab_getD _ (by omega), show i - 1 + 1 = i by omega]
      exact h3
  rw [← bigF_iff] at h
  exact Bool.eq_iff_iff.2 h
theorem negA_trm {f : Nat → Int} (hf : Okf f) : negA (trm f) = false := by
  rcases hb : negA (trm f) with _ | _
  · rfl
  · simp only [negA, List.any_eq_true, decide_eq_true_eq] at hb
    obtain ⟨x, hx, h⟩ := hb
    obtain ⟨i, hi, rfl⟩ := List.mem_iff_getElem.1 hx
    have hle := lst_le f 24
    have hi2 : i < lst f 24 := by simpa [trm, tab_length] using hi
    simp only [trm, tab, List.getElem_map, List.getElem_range] at h
    have := hf (i + 1) (by omega)
    omega
theorem vErr_trm {f h : Nat → Int} (hf : Okf f) (hh : Okf h) : vErr (trm f) (trm h) = if (bigF f || bigF h) = true then 4 else 0 := by
  by_cases hb : (bigF f || bigF h) = true
  · rw [if_pos hb]
    exact vErr_big (trm_length f) (trm_length h) (negA_trm hf) (negA_trm hh) (by rw [bigA_trm, bigA_trm]; exact hb)
  · rw [if_neg hb]
    exact vErr_ok (trm_length f) (trm_length h) (negA_trm hf) (negA_trm hh) (by rw [bigA_trm, bigA_trm]; simpa using hb)
/-- What the bundle of a lock is, with the error. -/
def tieR (f h : Nat → Int) : List Int := if (bigF f || bigF h) = true then [] else trm f
def tieG (f h : Nat → Int) : List Int := if (bigF f || bigF h) = true then [] else trm h
def tieE (f h : Nat → Int) : Int := if (bigF f || bigF h) = true then 4 else 0
theorem take_tab (F : Nat → Int) (k : Nat) : tab (k + 1) F = tab k F ++ [F k] := tab_succ k F
set_option maxRecDepth 100000 in
set_option maxHeartbeats 8000000 in
theorem h_tie (f q : Nat → Int) (hf : Okf f) (hh : Okf q) (B : Nat) (w0 : World) (hs : HS) :
    Fn Try.prog 73 #[lockV f q] B w0 hs (fun u hs' => ∃ blk, NewBE (tieR f q) (tieG f q) (tieE f q) u blk ∧ hs' = blk ++ hs) := by
  have hl := lockC_length f q
  have hv := vErr_trm hf hh
  refine fn_enter Try.func73 rfl Try.ntmps73 (by simp) ?_
  repeat' (first | ((with_reducible apply kRg 5); refine cD [1, 1, 1, 2, 3, 0, 0, 0, 2, 4, 1, 1] ?_) | (with_reducible first | refine c_seq ?_ | refine c_reg ?_ | refine c_region ?_ | refine c_block ?_ | refine c_skip ?_ | refine c_exit ?_ | refine c_ret ?_ | refine s_nil ?_ | refine x_then ?_ | refine x_then_exit ?_ | refine x_then_ret ?_ | refine x_block ?_ | refine x_block_ret ?_ | refine x_block_same ?_ | refine x_block_other (by rfl) ?_ | refine q_nil ?_ | refine k_nil ?_) | ((with_reducible apply kP (.makeFunc _ _ _)); refine sMF ?_) | ((with_reducible apply kG); first | refine gY1 ?_ | refine gN1 ?_ | refine gU1 ?_ | (refine gD1 (fun h => ?_) (fun h => ?_) <;> (try (exfalso; omega))) | refine gB1 (fun h => ?_) (fun h => ?_)) | ((with_reducible apply kN); first | refine stP ?_ | refine stI ?_ | refine st1 ?_ | refine stW ?_) | ((with_reducible apply kP (.alloc _)); refine sA (fun b => ?_)) | ((with_reducible apply kP (.box _ _)); first | refine sBA (fun b => ?_) | refine sB (fun b => ?_)) | ((with_reducible apply kP (.buildSlice _ 1 _)); first | refine sl1A (fun b => ?_) | refine sl1 (fun b => ?_)) | ((with_reducible apply kP (.buildSlice _ 2 _)); refine sl2 (fun b => ?_)) | ((with_reducible apply kP (.buildSlice _ 3 _)); refine sl3 (fun b => ?_)) | ((with_reducible apply kP (.buildSlice _ 4 _)); refine sl4 (fun b => ?_)) | ((with_reducible apply kP (.buildSlice _ 0 _)); refine s_bs0 (scTOf rfl) (zsTOf rfl) (by decide) (fun b => ?_)) | ((with_reducible apply kP (.makeSlice _ _ _)); refine sMk (fun b => ?_)) | ((with_reducible apply kP (.call ⟨.builtin .append, _, _⟩)); refine sAp (fun oa2 c2 blk2 hrow2 => ?_)) | ((with_reducible apply kP _); refine sP ?_) | ((with_reducible apply kP _); refine sX ?_) | ((with_reducible apply kQG); first | refine qY1 ?_ | refine qN1 ?_ | refine qU1 ?_ | (refine qD1 (fun h => ?_) (fun h => ?_) <;> (try (exfalso; omega))) | refine qB1 (fun h => ?_) (fun h => ?_)) | ((with_reducible apply kQP); refine qP ?_) | ((with_reducible apply kQP); refine qX ?_) | ((with_reducible apply kC); first | refine cT ?_ | refine cF ?_ | (refine cI (fun h => ?_) (fun h => ?_) <;> (try (exfalso; omega))) | refine cB (fun h => ?_) (fun h => ?_)) | ((with_reducible apply kR); refine cQ ?_) | ((with_reducible apply kDG); first | refine dY1 ?_ | refine dNo1 ?_ | refine dU1 ?_ | (refine dD1 (fun h => ?_) (fun h => ?_) <;> (try (exfalso; omega))) | refine dB1 (fun h => ?_) (fun h => ?_)) | ((with_reducible apply kDN); first | refine dtI ?_ | refine dt1 ?_ | refine dtW ?_) | ((with_reducible apply kDP (.alloc _)); refine dA (fun b => ?_)) | ((with_reducible apply kDP (.box _ _)); first | refine dBA (fun b => ?_) | refine dB (fun b => ?_)) | ((with_reducible apply kDP (.buildSlice _ 1 _)); first | refine dl1A (fun b => ?_) | refine dl1 (fun b => ?_)) | ((with_reducible apply kDP (.call ⟨.builtin .append, _, _⟩)); first | refine dAp3 (fun oa2 c2 blk2 hrow2 => ?_) (hS := SCt) | refine dAp4 (fun oa2 c2 blk2 hrow2 => ?_)) | ((with_reducible apply kDP _); refine dP ?_) | ((with_reducible apply kDP _); refine dX ?_))
  rename_i b0
  refine c_loop (fun x : Nat × Option Addr × Nat × HS × Option Addr × Nat × HS => [(2, .pointer (some ⟨b, 0, none⟩)), (4, .slice x.2.1 x.1 x.2.2.1), (5, .slice x.2.2.2.2.1 x.1 x.2.2.2.2.2.1), (10, .slice (some ⟨b0, 0 + 1 * 2, none⟩) (25 - 1) (25 - 1)), (11, iv 24), (12, iv x.1)])
    (fun x => x.2.2.2.2.2.2 ++ (x.2.2.2.1 ++ (b, [.slice none 0 0, .slice none 0 0]) :: (b0, ivs (lockC f q)) :: hs))
    (fun x => x.1 ≤ 24 ∧ RowOk x.2.1 x.2.2.1 1 (ivs (tab x.1 (fun i => f (i + 1)))) x.2.2.2.1 ∧ RowOk x.2.2.2.2.1 x.2.2.2.2.2.1 1 (ivs (tab x.1 (fun i => q (i + 1)))) x.2.2.2.2.2.2) (fun x => 24 - x.1) (0, none, 0, [], none, 0, []) ⟨by simp, RowOk.nil, RowOk.nil⟩ (by repeat' first | trivial | rfl | apply And.intro) sb0 ?_
  rintro ⟨k, oa, c, k1, ob, d, k2⟩ ⟨hk, hr1, hr2⟩
  simp only at hk hr1 hr2 ⊢
  by_cases hk' : k < 24
  · have e1 := lockC_r f q (show k + 1 < 25 by omega)
    have e2 := lockC_w f q (show k + 1 < 25 by omega)
    rw [show (k + 1) * 2 = 2 + k * 2 by omega] at e1 e2
    repeat' (first | ((with_reducible apply kRg 5); refine cDS [1, 1, 1, 2, 3, 0, 0, 0, 2, 4, 1, 1] _ ?_ (.cons_cons _ (sbA (sbA sb0)))) | (with_reducible first | refine c_seq ?_ | refine c_reg ?_ | refine c_region ?_ | refine c_block ?_ | refine c_skip ?_ | refine c_exit ?_ | refine c_ret ?_ | refine s_nil ?_ | refine x_then ?_ | refine x_then_exit ?_ | refine x_then_ret ?_ | refine x_block ?_ | refine x_block_ret ?_ | refine x_block_same ?_ | refine x_block_other (by rfl) ?_ | refine q_nil ?_ | refine k_nil ?_) | ((with_reducible apply kP (.makeFunc _ _ _)); refine sMF ?_) | ((with_reducible apply kG); first | refine gY1 ?_ | refine gN1 ?_ | refine gU1 ?_ | (refine gD1 (fun h => ?_) (fun h => ?_) <;> (try (exfalso; omega))) | refine gB1 (fun h => ?_) (fun h => ?_)) | ((with_reducible apply kN); first | refine stP ?_ | refine stI ?_ | refine st1 ?_ | refine stW ?_) | ((with_reducible apply kP (.alloc _)); refine sA (fun b => ?_)) | ((with_reducible apply kP (.box _ _)); first | refine sBA (fun b => ?_) | refine sB (fun b => ?_)) | ((with_reducible apply kP (.buildSlice _ 1 _)); first | refine sl1A (fun b => ?_) | refine sl1 (fun b => ?_)) | ((with_reducible apply kP (.buildSlice _ 2 _)); refine sl2 (fun b => ?_)) | ((with_reducible apply kP (.buildSlice _ 3 _)); refine sl3 (fun b => ?_)) | ((with_reducible apply kP (.buildSlice _ 4 _)); refine sl4 (fun b => ?_)) | ((with_reducible apply kP (.buildSlice _ 0 _)); refine s_bs0 (scTOf rfl) (zsTOf rfl) (by decide) (fun b => ?_)) | ((with_reducible apply kP (.makeSlice _ _ _)); refine sMk (fun b => ?_)) | ((with_reducible apply kP (.call ⟨.builtin .append, _, _⟩)); refine sAp (fun oa2 c2 blk2 hrow2 => ?_)) | ((with_reducible apply kP _); refine sP ?_) | ((with_reducible apply kP _); refine sX ?_) | ((with_reducible apply kQG); first | refine qY1 ?_ | refine qN1 ?_ | refine qU1 ?_ | (refine qD1 (fun h => ?_) (fun h => ?_) <;> (try (exfalso; omega))) | refine qB1 (fun h => ?_) (fun h => ?_)) | ((with_reducible apply kQP); refine qP ?_) | ((with_reducible apply kQP); refine qX ?_) | ((with_reducible apply kC); first | refine cT ?_ | refine cF ?_ | (refine cI (fun h => ?_) (fun h => ?_) <;> (try (exfalso; omega))) | refine cB (fun h => ?_) (fun h => ?_)) | ((with_reducible apply kR); refine cQ ?_) | ((with_reducible apply kDG); first | refine dY1 ?_ | refine dNo1 ?_ | refine dU1 ?_ | (refine dD1 (fun h => ?_) (fun h => ?_) <;> (try (exfalso; omega))) | refine dB1 (fun h => ?_) (fun h => ?_)) | ((with_reducible apply kDN); first | refine dtI ?_ | refine dt1 ?_ | refine dtW ?_) | ((with_reducible apply kDP (.alloc _)); refine dA (fun b => ?_)) | ((with_reducible apply kDP (.box _ _)); first | refine dBA (fun b => ?_) | refine dB (fun b => ?_)) | ((with_reducible apply kDP (.buildSlice _ 1 _)); first | refine dl1A (fun b => ?_) | refine dl1 (fun b => ?_)) | ((with_reducible apply kDP (.call ⟨.builtin .append, _, _⟩)); first | refine dAp3 (fun oa2 c2 blk2 hrow2 => ?_) (hS := SCt) | refine dAp4 (fun oa2 c2 blk2 hrow2 => ?_)) | ((with_reducible apply kDP _); refine dP ?_) | ((with_reducible apply kDP _); refine dX ?_))
    rename_i oa3 c3 blk3 hrow3
    rw [show 0 + 1 * 2 + k * 2 = 2 + k * 2 by omega] at hrow2 hrow3
    rw [e1, ivs_snoc, ← tab_succ k (fun i => f (i + 1))] at hrow3
    rw [e2, ivs_snoc, ← tab_succ k (fun i => q (i + 1))] at hrow2
    exact r_end (k + 1, oa3, c3, blk3, oa2, c2, blk2) ⟨by omega, hrow3, hrow2⟩ (by simp only; omega) ⟨rfl, rfl, rfl, rfl, rfl, rfl, trivial⟩ SCt
  · obtain rfl : k = 24 := by omega
    have hS1 := Sl.row (B := B) (w0 := w0) hr1
    have hS2 := Sl.row (B := B) (w0 := w0) hr2
    have g1 := tab_length 24 (fun i => f (i + 1))
    have g2 := tab_length 24 (fun i => q (i + 1))
    have g3 := hr1.cap (k := 24) (by rw [ivs_length, g1]) (by omega)
    have g4 := hr2.cap (k := 24) (by rw [ivs_length, g2]) (by omega)
    repeat' (first | ((with_reducible apply kF 89); refine sN 89 (h_trimmed' oa c 24 _ g1 (by decide) g3 B w0 _ (hS1.sub (sbA sbL))) ?_; rw [strip_tab]; rintro u kk1 ⟨o1, cc1, rfl, hrr1⟩) | ((with_reducible apply kF 89); refine sN 89 (h_trimmed' ob d 24 _ g2 (by decide) g4 B w0 _ (hS2.sub (sbA sbL))) ?_; rw [strip_tab]; rintro u kk2 ⟨o2, cc2, rfl, hrr2⟩) | ((with_reducible apply kRg 5); refine cD [1, 1, 1, 2, 3, 0, 0, 0, 2, 4, 1, 1] ?_) | (with_reducible first | refine c_seq ?_ | refine c_reg ?_ | refine c_region ?_ | refine c_block ?_ | refine c_skip ?_ | refine c_exit ?_ | refine c_ret ?_ | refine s_nil ?_ | refine x_then ?_ | refine x_then_exit ?_ | refine x_then_ret ?_ | refine x_block ?_ | refine x_block_ret ?_ | refine x_block_same ?_ | refine x_block_other (by rfl) ?_ | refine q_nil ?_ | refine k_nil ?_) | ((with_reducible apply kP (.makeFunc _ _ _)); refine sMF ?_) | ((with_reducible apply kG); first | refine gY1 ?_ | refine gN1 ?_ | refine gU1 ?_ | (refine gD1 (fun h => ?_) (fun h => ?_) <;> (try (exfalso; omega))) | refine gB1 (fun h => ?_) (fun h => ?_)) | ((with_reducible apply kN); first | refine stP ?_ | refine stI ?_ | refine st1 ?_ | refine stW ?_) | ((with_reducible apply kP (.alloc _)); refine sA (fun b => ?_)) | ((with_reducible apply kP (.box _ _)); first | refine sBA (fun b => ?_) | refine sB (fun b => ?_)) | ((with_reducible apply kP (.buildSlice _ 1 _)); first | refine sl1A (fun b => ?_) | refine sl1 (fun b => ?_)) | ((with_reducible apply kP (.buildSlice _ 2 _)); refine sl2 (fun b => ?_)) | ((with_reducible apply kP (.buildSlice _ 3 _)); refine sl3 (fun b => ?_)) | ((with_reducible apply kP (.buildSlice _ 4 _)); refine sl4 (fun b => ?_)) | ((with_reducible apply kP (.buildSlice _ 0 _)); refine s_bs0 (scTOf rfl) (zsTOf rfl) (by decide) (fun b => ?_)) | ((with_reducible apply kP (.makeSlice _ _ _)); refine sMk (fun b => ?_)) | ((with_reducible apply kP (.call ⟨.builtin .append, _, _⟩)); refine sAp (fun oa2 c2 blk2 hrow2 => ?_)) | ((with_reducible apply kP _); refine sP ?_) | ((with_reducible apply kP _); refine sX ?_) | ((with_reducible apply kQG); first | refine qY1 ?_ | refine qN1 ?_ | refine qU1 ?_ | (refine qD1 (fun h => ?_) (fun h => ?_) <;> (try (exfalso; omega))) | refine qB1 (fun h => ?_) (fun h => ?_)) | ((with_reducible apply kQP); refine qP ?_) | ((with_reducible apply kQP); refine qX ?_) | ((with_reducible apply kC); first | refine cT ?_ | refine cF ?_ | (refine cI (fun h => ?_) (fun h => ?_) <;> (try (exfalso; omega))) | refine cB (fun h => ?_) (fun h => ?_)) | ((with_reducible apply kR); refine cQ ?_) | ((with_reducible apply kDG); first | refine dY1 ?_ | refine dNo1 ?_ | refine dU1 ?_ | (refine dD1 (fun h => ?_) (fun h => ?_) <;> (try (exfalso; omega))) | refine dB1 (fun h => ?_) (fun h => ?_)) | ((with_reducible apply kDN); first | refine dtI ?_ | refine dt1 ?_ | refine dtW ?_) | ((with_reducible apply kDP (.alloc _)); refine dA (fun b => ?_)) | ((with_reducible apply kDP (.box _ _)); first | refine dBA (fun b => ?_) | refine dB (fun b => ?_)) | ((with_reducible apply kDP (.buildSlice _ 1 _)); first | refine dl1A (fun b => ?_) | refine dl1 (fun b => ?_)) | ((with_reducible apply kDP (.call ⟨.builtin .append, _, _⟩)); first | refine dAp3 (fun oa2 c2 blk2 hrow2 => ?_) (hS := SCt) | refine dAp4 (fun oa2 c2 blk2 hrow2 => ?_)) | ((with_reducible apply kDP _); refine dP ?_) | ((with_reducible apply kDP _); refine dX ?_))
    have hV := fun B w0 hs h1 h2 => h_validate o1 o2 cc1 cc2 (trm f) (trm q) B w0 hs h1 h2
    rw [hv] at hV
    have hR1 := Sl.row (B := B) (w0 := w0) hrr1
    have hR2 := Sl.row (B := B) (w0 := w0) hrr2
    by_cases hb : (bigF f || bigF q) = true
    · rw [if_pos hb] at hV
      rw [show tieR f q = [] from if_pos hb, show tieG f q = [] from if_pos hb, show tieE f q = 4 from if_pos hb]
      repeat' (first | ((with_reducible apply kF 32); refine sC 32 (hV B w0 _ (hR1.sub (.cons _ (sbA sbL))) (hR2.sub (.cons _ sbL))) ?_) | ((with_reducible apply kRg 5); refine cD [1, 1, 1, 2, 3, 0, 0, 0, 2, 4, 1, 1] ?_) | (with_reducible first | refine c_seq ?_ | refine c_reg ?_ | refine c_region ?_ | refine c_block ?_ | refine c_skip ?_ | refine c_exit ?_ | refine c_ret ?_ | refine s_nil ?_ | refine x_then ?_ | refine x_then_exit ?_ | refine x_then_ret ?_ | refine x_block ?_ | refine x_block_ret ?_ | refine x_block_same ?_ | refine x_block_other (by rfl) ?_ | refine q_nil ?_ | refine k_nil ?_) | ((with_reducible apply kP (.makeFunc _ _ _)); refine sMF ?_) | ((with_reducible apply kG); first | refine gY1 ?_ | refine gN1 ?_ | refine gU1 ?_ | (refine gD1 (fun h => ?_) (fun h => ?_) <;> (try (exfalso; omega))) | refine gB1 (fun h => ?_) (fun h => ?_)) | ((with_reducible apply kN); first | refine stP ?_ | refine stI ?_ | refine st1 ?_ | refine stW ?_) | ((with_reducible apply kP (.alloc _)); refine sA (fun b => ?_)) | ((with_reducible apply kP (.box _ _)); first | refine sBA (fun b => ?_) | refine sB (fun b => ?_)) | ((with_reducible apply kP (.buildSlice _ 1 _)); first | refine sl1A (fun b => ?_) | refine sl1 (fun b => ?_)) | ((with_reducible apply kP (.buildSlice _ 2 _)); refine sl2 (fun b => ?_)) | ((with_reducible apply kP (.buildSlice _ 3 _)); refine sl3 (fun b => ?_)) | ((with_reducible apply kP (.buildSlice _ 4 _)); refine sl4 (fun b => ?_)) | ((with_reducible apply kP (.buildSlice _ 0 _)); refine s_bs0 (scTOf rfl) (zsTOf rfl) (by decide) (fun b => ?_)) | ((with_reducible apply kP (.makeSlice _ _ _)); refine sMk (fun b => ?_)) | ((with_reducible apply kP (.call ⟨.builtin .append, _, _⟩)); refine sAp (fun oa2 c2 blk2 hrow2 => ?_)) | ((with_reducible apply kP _); refine sP ?_) | ((with_reducible apply kP _); refine sX ?_) | ((with_reducible apply kQG); first | refine qY1 ?_ | refine qN1 ?_ | refine qU1 ?_ | (refine qD1 (fun h => ?_) (fun h => ?_) <;> (try (exfalso; omega))) | refine qB1 (fun h => ?_) (fun h => ?_)) | ((with_reducible apply kQP); refine qP ?_) | ((with_reducible apply kQP); refine qX ?_) | ((with_reducible apply kC); first | refine cT ?_ | refine cF ?_ | (refine cI (fun h => ?_) (fun h => ?_) <;> (try (exfalso; omega))) | refine cB (fun h => ?_) (fun h => ?_)) | ((with_reducible apply kR); refine cQ ?_) | ((with_reducible apply kDG); first | refine dY1 ?_ | refine dNo1 ?_ | refine dU1 ?_ | (refine dD1 (fun h => ?_) (fun h => ?_) <;> (try (exfalso; omega))) | refine dB1 (fun h => ?_) (fun h => ?_)) | ((with_reducible apply kDN); first | refine dtI ?_ | refine dt1 ?_ | refine dtW ?_) | ((with_reducible apply kDP (.alloc _)); refine dA (fun b => ?_)) | ((with_reducible apply kDP (.box _ _)); first | refine dBA (fun b => ?_) | refine dB (fun b => ?_)) | ((with_reducible apply kDP (.buildSlice _ 1 _)); first | refine dl1A (fun b => ?_) | refine dl1 (fun b => ?_)) | ((with_reducible apply kDP (.call ⟨.builtin .append, _, _⟩)); first | refine dAp3 (fun oa2 c2 blk2 hrow2 => ?_) (hS := SCt) | refine dAp4 (fun oa2 c2 blk2 hrow2 => ?_)) | ((with_reducible apply kDP _); refine dP ?_) | ((with_reducible apply kDP _); refine dX ?_))
      exact e_ret2 (hs' := hs) rfl ⟨_, rfl, ld_two (shTOf rfl) MDt rfl rfl⟩ rfl ⟨[], .none 4, rfl⟩ SCt
    · rw [if_neg hb] at hV
      rw [show tieR f q = trm f from if_neg hb, show tieG f q = trm q from if_neg hb, show tieE f q = 0 from if_neg hb]
      repeat' (first | ((with_reducible apply kF 32); refine sC 32 (hV B w0 _ (hR1.sub (.cons _ (sbA sbL))) (hR2.sub (.cons _ sbL))) ?_) | ((with_reducible apply kRg 5); refine cD [1, 1, 1, 2, 3, 0, 0, 0, 2, 4, 1, 1] ?_) | (with_reducible first | refine c_seq ?_ | refine c_reg ?_ | refine c_region ?_ | refine c_block ?_ | refine c_skip ?_ | refine c_exit ?_ | refine c_ret ?_ | refine s_nil ?_ | refine x_then ?_ | refine x_then_exit ?_ | refine x_then_ret ?_ | refine x_block ?_ | refine x_block_ret ?_ | refine x_block_same ?_ | refine x_block_other (by rfl) ?_ | refine q_nil ?_ | refine k_nil ?_) | ((with_reducible apply kP (.makeFunc _ _ _)); refine sMF ?_) | ((with_reducible apply kG); first | refine gY1 ?_ | refine gN1 ?_ | refine gU1 ?_ | (refine gD1 (fun h => ?_) (fun h => ?_) <;> (try (exfalso; omega))) | refine gB1 (fun h => ?_) (fun h => ?_)) | ((with_reducible apply kN); first | refine stP ?_ | refine stI ?_ | refine st1 ?_ | refine stW ?_) | ((with_reducible apply kP (.alloc _)); refine sA (fun b => ?_)) | ((with_reducible apply kP (.box _ _)); first | refine sBA (fun b => ?_) | refine sB (fun b => ?_)) | ((with_reducible apply kP (.buildSlice _ 1 _)); first | refine sl1A (fun b => ?_) | refine sl1 (fun b => ?_)) | ((with_reducible apply kP (.buildSlice _ 2 _)); refine sl2 (fun b => ?_)) | ((with_reducible apply kP (.buildSlice _ 3 _)); refine sl3 (fun b => ?_)) | ((with_reducible apply kP (.buildSlice _ 4 _)); refine sl4 (fun b => ?_)) | ((with_reducible apply kP (.buildSlice _ 0 _)); refine s_bs0 (scTOf rfl) (zsTOf rfl) (by decide) (fun b => ?_)) | ((with_reducible apply kP (.makeSlice _ _ _)); refine sMk (fun b => ?_)) | ((with_reducible apply kP (.call ⟨.builtin .append, _, _⟩)); refine sAp (fun oa2 c2 blk2 hrow2 => ?_)) | ((with_reducible apply kP _); refine sP ?_) | ((with_reducible apply kP _); refine sX ?_) | ((with_reducible apply kQG); first | refine qY1 ?_ | refine qN1 ?_ | refine qU1 ?_ | (refine qD1 (fun h => ?_) (fun h => ?_) <;> (try (exfalso; omega))) | refine qB1 (fun h => ?_) (fun h => ?_)) | ((with_reducible apply kQP); refine qP ?_) | ((with_reducible apply kQP); refine qX ?_) | ((with_reducible apply kC); first | refine cT ?_ | refine cF ?_ | (refine cI (fun h => ?_) (fun h => ?_) <;> (try (exfalso; omega))) | refine cB (fun h => ?_) (fun h => ?_)) | ((with_reducible apply kR); refine cQ ?_) | ((with_reducible apply kDG); first | refine dY1 ?_ | refine dNo1 ?_ | refine dU1 ?_ | (refine dD1 (fun h => ?_) (fun h => ?_) <;> (try (exfalso; omega))) | refine dB1 (fun h => ?_) (fun h => ?_)) | ((with_reducible apply kDN); first | refine dtI ?_ | refine dt1 ?_ | refine dtW ?_) | ((with_reducible apply kDP (.alloc _)); refine dA (fun b => ?_)) | ((with_reducible apply kDP (.box _ _)); first | refine dBA (fun b => ?_) | refine dB (fun b => ?_)) | ((with_reducible apply kDP (.buildSlice _ 1 _)); first | refine dl1A (fun b => ?_) | refine dl1 (fun b => ?_)) | ((with_reducible apply kDP (.call ⟨.builtin .append, _, _⟩)); first | refine dAp3 (fun oa2 c2 blk2 hrow2 => ?_) (hS := SCt) | refine dAp4 (fun oa2 c2 blk2 hrow2 => ?_)) | ((with_reducible apply kDP _); refine dP ?_) | ((with_reducible apply kDP _); refine dX ?_))
      exact e_ret2 rfl ⟨_, rfl, ld_two (shTOf rfl) MDt rfl rfl⟩ rfl ⟨kk2 ++ kk1, ⟨o1, o2, cc1, cc2, kk1, kk2, rfl, hrr1, hrr2, rfl⟩, rfl⟩ (by rw [List.append_assoc]; exact SCt)
end Go.Proofs.Ytiopaodiaokfdaa
