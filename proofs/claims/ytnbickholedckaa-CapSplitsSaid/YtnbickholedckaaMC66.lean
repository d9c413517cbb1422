/- The two halves of a piece (reference). -/
import Derived.Test.YtnbickholedckaaMC65
namespace Go.Proofs.Ytnbickholedckaa
open Go.RowKit
attribute [local irreducible] OpF Ld CellAt Sl Sv pcA usP
structure HvI where
  n : Nat
  oa : Option Addr
  ca : Nat
  ka : HS
  ob : Option Addr
  cb : Nat
  kb : HS
theorem md_step {i t k : Nat} (hk : 1 ≤ k) : (((i + t) % k : Nat) + 1 : Int) % (k : Int) = (((i + (t + 1)) % k : Nat) : Int) := by
  rw [show (((i + t) % k : Nat) : Int) + 1 = (((i + t) % k + 1 : Nat) : Int) by omega, ← Int.natCast_emod, Nat.mod_add_mod, Nat.add_assoc]
set_option maxRecDepth 100000 in
set_option maxHeartbeats 8000000 in
theorem r_halves (o1 o2 : Option Addr) (c1 c2 : Nat) (r g : List Int) (i j : Nat) (z w : Int) (hr : 1 ≤ r.length ∧ r.length ≤ 6) (hg : g.length = r.length) (hi : i < r.length) (hj : j < r.length) (hij : i ≠ j) (hb : ∀ u, u < r.length → 1 ≤ g.getD u 0 ∧ g.getD u 0 ≤ 359) (hw : 1 ≤ w ∧ w ≤ 359) (B : Nat) (w0 : Wd) (hs : HS) (h1 : Sl B w0 hs o1 r) (h2 : Sl B w0 hs o2 g) :
    Fn Try.prog 81 #[.agg #[.slice o1 r.length c1, .slice o2 g.length c2], iv i, iv j, iv z, iv w] B w0 hs (fun v hs' => ∃ s t u1 u2 b1 b2, s + t = r.length ∧ s = (j + r.length - i) % r.length ∧ 1 ≤ s ∧ 1 ≤ t ∧ NewP (ptl r i s z) (tab s (hvF g i w) ++ [hvL g i s w]) u1 b1 ∧ NewP (ptl r j t z) (tab t (hvF g j (g.getD j 0 - hvL g i s w)) ++ [g.getD i 0 - w]) u2 b2 ∧ v = .tuple #[u1, u2] ∧ hs' = (b2 ++ b1) ++ hs) := by
  obtain ⟨s, hsd⟩ : ∃ s, s = (j + r.length - i) % r.length := ⟨_, rfl⟩
  have hsl : s < r.length := by rw [hsd]; exact Nat.mod_lt _ (by omega)
  have hs1 : (i + s) % r.length = j := by rw [hsd]; exact (md_fwd hi hj).1
  have hs0 : 1 ≤ s := by
    rcases Nat.eq_zero_or_pos s with h | h
    · exfalso; rw [h, Nat.add_zero, Nat.mod_eq_of_lt hi] at hs1; exact hij hs1
    · exact h
  have hgu : ∀ u, 1 ≤ g.getD (u % g.length) 0 ∧ g.getD (u % g.length) 0 ≤ 359 := fun u => hb _ (by rw [hg]; exact Nat.mod_lt _ (by omega))
  have hFb : ∀ u, -3000 ≤ hvF g i w u ∧ hvF g i w u ≤ 3000 := fun u => by
    unfold hvF; split
    · omega
    · have := hgu (i + u); omega
  have hne : ∀ t, t < s → (i + t) % r.length ≠ j := fun t ht e => by
    have a1 := (md_back (u := t) hi (by omega) : ((i + t) % r.length + r.length - i) % r.length = t)
    have a2 := (md_back (u := s) hi (by omega) : ((i + s) % r.length + r.length - i) % r.length = s)
    rw [e, ← hs1] at a1
    omega
  refine fn_enter Try.func81 rfl Try.ntmps81 (by simp) ?_
  repeat' (first | ((with_reducible apply kP (.box 41 _)); refine sBA (fun b5 => ?_)) | ((with_reducible apply kP (.alloc 41)); refine sA (fun b8 => ?_)) | ((with_reducible apply kRg 7); refine cD [1, 1, 1, 1, 1, 1, 1, 2, 4, 1, 4] ?_) | ((with_reducible apply kRg 19); refine cD [1, 1, 1, 1, 1, 1, 1, 2, 4, 1, 4] ?_) | ((with_reducible apply kRg 25); refine cD [1, 1, 1, 1, 1, 1, 1, 1, 1, 2, 4, 1, 4] ?_) | ((with_reducible apply kRg 26); refine cD [1, 0, 3, 4] ?_) | (with_reducible first | refine c_seq ?_ | refine c_reg ?_ | refine c_region ?_ | refine c_block ?_ | refine c_skip ?_ | refine c_exit ?_ | refine c_ret ?_ | refine s_nil ?_ | refine x_then ?_ | refine x_then_exit ?_ | refine x_then_ret ?_ | refine x_block ?_ | refine x_block_ret ?_ | refine x_block_same ?_ | refine x_block_other (by first | rfl | decide) ?_ | refine q_nil ?_ | refine k_nil ?_) | ((with_reducible apply kN); first | refine stP ?_ | refine stI ?_ | refine st1 ?_ | refine stW ?_) | ((with_reducible apply kP (.alloc _)); refine sA (fun b => ?_)) | ((with_reducible apply kP (.box _ _)); first | refine sBA (fun b => ?_) | refine sB (fun b => ?_)) | ((with_reducible apply kP (.buildSlice _ 1 _)); first | refine sl1A (fun b => ?_) | refine sl1 (fun b => ?_)) | ((with_reducible apply kP (.call ⟨.builtin .append, _, _⟩)); refine sAp (fun oa2 c2 blk2 hrow2 => ?_)) | ((with_reducible apply kP _); refine sP ?_) | ((with_reducible apply kP _); refine sX ?_) | ((with_reducible apply kC); first | refine cT ?_ | refine cF ?_ | (refine cI (fun h => ?_) (fun h => ?_) <;> (try (exfalso; omega))) | refine cB (fun h => ?_) (fun h => ?_)) | ((with_reducible apply kDN); first | refine dtI ?_ | refine dt1 ?_ | refine dtW ?_) | ((with_reducible apply kDP (.buildSlice _ 1 _)); first | refine dl1A (fun b => ?_) | refine dl1 (fun b => ?_)) | ((with_reducible apply kDP (.call ⟨.builtin .append, _, _⟩)); first | refine dAp3 (fun oa2 c2 blk2 hrow2 => ?_) (hS := SCt) | refine dAp4 (fun oa2 c2 blk2 hrow2 => ?_)) | ((with_reducible apply kDP _); refine dP ?_) | ((with_reducible apply kDP _); refine dX ?_))
  rename_i b10 b11 b13
  refine f_eq (t := 16) rfl (show iv (i : Int) = iv (((i + 0) % r.length : Nat) : Int) by rw [Nat.add_zero, Nat.mod_eq_of_lt hi]) ?_
  refine c_loop (fun t : HvI => [(1, iv i), (2, iv j), (3, iv z), (4, iv w), (5, .pointer (some ⟨b5, 0, none⟩)), (10, .pointer (some ⟨b10, 0, none⟩)), (11, .pointer (some ⟨b11, 0, none⟩)), (12, iv r.length), (13, .pointer (some ⟨b13, 0, none⟩)), (14, .pointer (some ⟨b8, 0, none⟩)), (15, iv (sumTo (hvF g i w) t.n)), (16, iv ((i + t.n) % r.length : Nat))])
    (fun t => t.kb ++ (t.ka ++ ((b8, [.slice none 0 0, .slice none 0 0]) :: (b13, [.slice t.oa t.n t.ca, .slice t.ob t.n t.cb]) :: (b11, [.slice none 0 0, .slice none 0 0]) :: (b10, [.slice none 0 0, .slice none 0 0]) :: (b5, [.slice o1 r.length c1, .slice o2 g.length c2]) :: hs)))
    (fun t => t.n ≤ s ∧ RowOk t.oa t.ca 1 (ivs (tab t.n fun u => r.getD ((i + u) % r.length) 0)) t.ka ∧ RowOk t.ob t.cb 1 (ivs (tab t.n (hvF g i w))) t.kb) (fun t => s - t.n) ⟨0, none, 0, [], none, 0, []⟩ ⟨Nat.zero_le _, RowOk.nil, RowOk.nil⟩ (by repeat' first | trivial | rfl | apply And.intro) (.refl _) ?_
  rintro ⟨n, oa, ca, ka, ob, cb, kb⟩ ⟨hn, hra, hrb⟩
  dsimp only at hn hra hrb ⊢
  have hka : (ivs (tab n fun u => r.getD ((i + u) % r.length) 0)).length = n * 1 := by rw [ivs_length, tab_length, Nat.mul_one]
  have hkb : (ivs (tab n (hvF g i w))).length = n * 1 := by rw [ivs_length, tab_length, Nat.mul_one]
  have hsb := sum_bd (F := hvF g i w) (n := n) fun u _ => hFb u
  by_cases hn' : n < s
  · have hml : (i + n) % r.length < r.length := Nat.mod_lt _ (by omega)
    have hmg : (i + n) % r.length < g.length := by omega
    have g1 := h1.any hml
    have g2 := h2.any hmg
    have hnj := hne n hn'
    have hgn := hb _ hml
    have hst := md_step (i := i) (t := n) (k := r.length) (by omega)
    have hFn : hvF g i w n = if n = 0 then w else g.getD ((i + n) % r.length) 0 := by unfold hvF; rw [hg]
    have hFi : (i + n) % r.length = i ↔ n = 0 := by
      constructor
      · intro e
        have a1 := (md_back (u := n) hi (by omega) : ((i + n) % r.length + r.length - i) % r.length = n)
        rw [e, show i + r.length - i = r.length by omega, Nat.mod_self] at a1
        exact a1.symm
      · intro e; rw [e, Nat.add_zero, Nat.mod_eq_of_lt hi]
    by_cases hn0 : n = 0
    · rw [if_pos hn0] at hFn
      have hix := hFi.2 hn0
      repeat' (first | ((with_reducible apply kDP (.call ⟨.builtin .append, _, _⟩)); refine dAp4 (fun oa5 c5 k5 hr5 => ?_) (hr := hra) (hk := hka)) | ((with_reducible apply kP (.call ⟨.builtin .append, _, _⟩)); refine sAp (fun oa6 c6 k6 hr6 => ?_) (hr := hrb) (hk := hkb)) | ((with_reducible apply kDN); refine dtC ?_) | ((with_reducible apply kN); refine stC ?_) | ((with_reducible apply kRg 7); refine cD [1, 1, 1, 1, 1, 1, 1, 2, 4, 1, 4] ?_) | ((with_reducible apply kRg 19); refine cD [1, 1, 1, 1, 1, 1, 1, 2, 4, 1, 4] ?_) | ((with_reducible apply kRg 25); refine cD [1, 1, 1, 1, 1, 1, 1, 1, 1, 2, 4, 1, 4] ?_) | ((with_reducible apply kRg 26); refine cD [1, 0, 3, 4] ?_) | (with_reducible first | refine c_seq ?_ | refine c_reg ?_ | refine c_region ?_ | refine c_block ?_ | refine c_skip ?_ | refine c_exit ?_ | refine c_ret ?_ | refine s_nil ?_ | refine x_then ?_ | refine x_then_exit ?_ | refine x_then_ret ?_ | refine x_block ?_ | refine x_block_ret ?_ | refine x_block_same ?_ | refine x_block_other (by first | rfl | decide) ?_ | refine q_nil ?_ | refine k_nil ?_) | ((with_reducible apply kN); first | refine stP ?_ | refine stI ?_ | refine st1 ?_ | refine stW ?_) | ((with_reducible apply kP (.alloc _)); refine sA (fun b => ?_)) | ((with_reducible apply kP (.box _ _)); first | refine sBA (fun b => ?_) | refine sB (fun b => ?_)) | ((with_reducible apply kP (.buildSlice _ 1 _)); first | refine sl1A (fun b => ?_) | refine sl1 (fun b => ?_)) | ((with_reducible apply kP (.call ⟨.builtin .append, _, _⟩)); refine sAp (fun oa2 c2 blk2 hrow2 => ?_)) | ((with_reducible apply kP _); refine sP ?_) | ((with_reducible apply kP _); refine sX ?_) | ((with_reducible apply kC); first | refine cT ?_ | refine cF ?_ | (refine cI (fun h => ?_) (fun h => ?_) <;> (try (exfalso; omega))) | refine cB (fun h => ?_) (fun h => ?_)) | ((with_reducible apply kDN); first | refine dtI ?_ | refine dt1 ?_ | refine dtW ?_) | ((with_reducible apply kDP (.buildSlice _ 1 _)); first | refine dl1A (fun b => ?_) | refine dl1 (fun b => ?_)) | ((with_reducible apply kDP (.call ⟨.builtin .append, _, _⟩)); first | refine dAp3 (fun oa2 c2 blk2 hrow2 => ?_) (hS := SCt) | refine dAp4 (fun oa2 c2 blk2 hrow2 => ?_)) | ((with_reducible apply kDP _); refine dP ?_) | ((with_reducible apply kDP _); refine dX ?_))
      all_goals try (exfalso; omega)
      refine f_eq (t := 16) rfl (show iv ((((i + n) % r.length : Nat) + 1 : Int) % (r.length : Int)) = iv (((i + (n + 1)) % r.length : Nat) : Int) by rw [hst]) ?_
      refine f_eq (t := 15) rfl (show iv (sumTo (hvF g i w) n + w) = iv (sumTo (hvF g i w) (n + 1)) by rw [sumTo_succ, hFn]) ?_
      have hr5' : RowOk oa5 c5 1 (ivs (tab (n + 1) fun u => r.getD ((i + u) % r.length) 0)) k5 := by rw [tab_snoc]; exact hr5
      have hr6' : RowOk oa6 c6 1 (ivs (tab (n + 1) (hvF g i w))) k6 := by rw [tab_snoc, hFn]; exact hr6
      exact r_end (⟨n + 1, oa5, c5, k5, oa6, c6, k6⟩ : HvI) ⟨hn', hr5', hr6'⟩ (by dsimp only; omega) (by repeat' first | trivial | rfl | apply And.intro) (.append (.refl _) (.cons _ (.append (.refl _) (.cons _ (.refl _)))))
    · rw [if_neg hn0] at hFn
      have hix : (i + n) % r.length ≠ i := fun e => hn0 (hFi.1 e)
      repeat' (first | ((with_reducible apply kDP (.call ⟨.builtin .append, _, _⟩)); refine dAp4 (fun oa5 c5 k5 hr5 => ?_) (hr := hra) (hk := hka)) | ((with_reducible apply kP (.call ⟨.builtin .append, _, _⟩)); refine sAp (fun oa6 c6 k6 hr6 => ?_) (hr := hrb) (hk := hkb)) | ((with_reducible apply kDN); refine dtC ?_) | ((with_reducible apply kN); refine stC ?_) | ((with_reducible apply kRg 7); refine cD [1, 1, 1, 1, 1, 1, 1, 2, 4, 1, 4] ?_) | ((with_reducible apply kRg 19); refine cD [1, 1, 1, 1, 1, 1, 1, 2, 4, 1, 4] ?_) | ((with_reducible apply kRg 25); refine cD [1, 1, 1, 1, 1, 1, 1, 1, 1, 2, 4, 1, 4] ?_) | ((with_reducible apply kRg 26); refine cD [1, 0, 3, 4] ?_) | (with_reducible first | refine c_seq ?_ | refine c_reg ?_ | refine c_region ?_ | refine c_block ?_ | refine c_skip ?_ | refine c_exit ?_ | refine c_ret ?_ | refine s_nil ?_ | refine x_then ?_ | refine x_then_exit ?_ | refine x_then_ret ?_ | refine x_block ?_ | refine x_block_ret ?_ | refine x_block_same ?_ | refine x_block_other (by first | rfl | decide) ?_ | refine q_nil ?_ | refine k_nil ?_) | ((with_reducible apply kN); first | refine stP ?_ | refine stI ?_ | refine st1 ?_ | refine stW ?_) | ((with_reducible apply kP (.alloc _)); refine sA (fun b => ?_)) | ((with_reducible apply kP (.box _ _)); first | refine sBA (fun b => ?_) | refine sB (fun b => ?_)) | ((with_reducible apply kP (.buildSlice _ 1 _)); first | refine sl1A (fun b => ?_) | refine sl1 (fun b => ?_)) | ((with_reducible apply kP (.call ⟨.builtin .append, _, _⟩)); refine sAp (fun oa2 c2 blk2 hrow2 => ?_)) | ((with_reducible apply kP _); refine sP ?_) | ((with_reducible apply kP _); refine sX ?_) | ((with_reducible apply kC); first | refine cT ?_ | refine cF ?_ | (refine cI (fun h => ?_) (fun h => ?_) <;> (try (exfalso; omega))) | refine cB (fun h => ?_) (fun h => ?_)) | ((with_reducible apply kDN); first | refine dtI ?_ | refine dt1 ?_ | refine dtW ?_) | ((with_reducible apply kDP (.buildSlice _ 1 _)); first | refine dl1A (fun b => ?_) | refine dl1 (fun b => ?_)) | ((with_reducible apply kDP (.call ⟨.builtin .append, _, _⟩)); first | refine dAp3 (fun oa2 c2 blk2 hrow2 => ?_) (hS := SCt) | refine dAp4 (fun oa2 c2 blk2 hrow2 => ?_)) | ((with_reducible apply kDP _); refine dP ?_) | ((with_reducible apply kDP _); refine dX ?_))
      all_goals try (exfalso; omega)
      refine f_eq (t := 16) rfl (show iv ((((i + n) % r.length : Nat) + 1 : Int) % (r.length : Int)) = iv (((i + (n + 1)) % r.length : Nat) : Int) by rw [hst]) ?_
      refine f_eq (t := 15) rfl (show iv (sumTo (hvF g i w) n + g.getD ((i + n) % r.length) 0) = iv (sumTo (hvF g i w) (n + 1)) by rw [sumTo_succ, hFn]) ?_
      have hr5' : RowOk oa5 c5 1 (ivs (tab (n + 1) fun u => r.getD ((i + u) % r.length) 0)) k5 := by rw [tab_snoc]; exact hr5
      have hr6' : RowOk oa6 c6 1 (ivs (tab (n + 1) (hvF g i w))) k6 := by rw [tab_snoc, hFn]; exact hr6
      exact r_end (⟨n + 1, oa5, c5, k5, oa6, c6, k6⟩ : HvI) ⟨hn', hr5', hr6'⟩ (by dsimp only; omega) (by repeat' first | trivial | rfl | apply And.intro) (.append (.refl _) (.cons _ (.append (.refl _) (.cons _ (.refl _)))))
  · obtain rfl : s = n := by omega
    have hra' := hra
    repeat' (first | ((with_reducible apply kP (.call ⟨.builtin .append, _, _⟩)); refine sAp (fun oa5 c5 k5 hr5 => ?_) (hr := hra) (hk := hka)) | ((with_reducible apply kP (.call ⟨.builtin .append, _, _⟩)); refine sAp (fun oa6 c6 k6 hr6 => ?_) (hr := hrb) (hk := hkb)) | ((with_reducible apply kN); refine stC ?_) | ((with_reducible apply kRg 7); refine cD [1, 1, 1, 1, 1, 1, 1, 2, 4, 1, 4] ?_) | ((with_reducible apply kRg 19); refine cD [1, 1, 1, 1, 1, 1, 1, 2, 4, 1, 4] ?_) | ((with_reducible apply kRg 25); refine cD [1, 1, 1, 1, 1, 1, 1, 1, 1, 2, 4, 1, 4] ?_) | ((with_reducible apply kRg 26); refine cD [1, 0, 3, 4] ?_) | (with_reducible first | refine c_seq ?_ | refine c_reg ?_ | refine c_region ?_ | refine c_block ?_ | refine c_skip ?_ | refine c_exit ?_ | refine c_ret ?_ | refine s_nil ?_ | refine x_then ?_ | refine x_then_exit ?_ | refine x_then_ret ?_ | refine x_block ?_ | refine x_block_ret ?_ | refine x_block_same ?_ | refine x_block_other (by first | rfl | decide) ?_ | refine q_nil ?_ | refine k_nil ?_) | ((with_reducible apply kN); first | refine stP ?_ | refine stI ?_ | refine st1 ?_ | refine stW ?_) | ((with_reducible apply kP (.alloc _)); refine sA (fun b => ?_)) | ((with_reducible apply kP (.box _ _)); first | refine sBA (fun b => ?_) | refine sB (fun b => ?_)) | ((with_reducible apply kP (.buildSlice _ 1 _)); first | refine sl1A (fun b => ?_) | refine sl1 (fun b => ?_)) | ((with_reducible apply kP (.call ⟨.builtin .append, _, _⟩)); refine sAp (fun oa2 c2 blk2 hrow2 => ?_)) | ((with_reducible apply kP _); refine sP ?_) | ((with_reducible apply kP _); refine sX ?_) | ((with_reducible apply kC); first | refine cT ?_ | refine cF ?_ | (refine cI (fun h => ?_) (fun h => ?_) <;> (try (exfalso; omega))) | refine cB (fun h => ?_) (fun h => ?_)) | ((with_reducible apply kDN); first | refine dtI ?_ | refine dt1 ?_ | refine dtW ?_) | ((with_reducible apply kDP (.buildSlice _ 1 _)); first | refine dl1A (fun b => ?_) | refine dl1 (fun b => ?_)) | ((with_reducible apply kDP (.call ⟨.builtin .append, _, _⟩)); first | refine dAp3 (fun oa2 c2 blk2 hrow2 => ?_) (hS := SCt) | refine dAp4 (fun oa2 c2 blk2 hrow2 => ?_)) | ((with_reducible apply kDP _); refine dP ?_) | ((with_reducible apply kDP _); refine dX ?_))
    all_goals try (exfalso; omega)
    have hLe : hvL g i s w = 180 * (((s + 1 : Nat) : Int) - 2) - sumTo (hvF g i w) s := by unfold hvL; omega
    have hLb : -100000 ≤ hvL g i s w ∧ hvL g i s w ≤ 100000 := by rw [hLe]; omega
    have hrA : RowOk oa5 c5 1 (ivs (ptl r i s z)) k5 := by rw [ptl_row]; exact hr5
    have hrB : RowOk oa6 c6 1 (ivs (tab s (hvF g i w) ++ [hvL g i s w])) k6 := by rw [← ivs_snoc, hLe]; exact hr6
    obtain ⟨tt, htt⟩ : ∃ tt, s + tt = r.length := ⟨r.length - s, by omega⟩
    have ht1 : (j + tt) % r.length = i := by
      rw [← hs1, Nat.mod_add_mod, Nat.add_assoc, htt, Nat.add_mod_right, Nat.mod_eq_of_lt hi]
    have hne2 : ∀ t, t < tt → (j + t) % r.length ≠ i := fun t ht e => by
      have a1 := (md_back (u := t) hj (by omega) : ((j + t) % r.length + r.length - j) % r.length = t)
      have a2 := (md_back (u := tt) hj (by omega) : ((j + tt) % r.length + r.length - j) % r.length = tt)
      rw [e, ← ht1] at a1
      omega
    have hgj := hb j hj
    have hgi := hb i hi
    refine f_eq (t := 18) rfl (show iv (180 * (((s + 1 : Nat) : Int) - 2) - sumTo (hvF g i w) s) = iv (hvL g i s w) by rw [hLe]) ?_
    refine f_eq (t := 19) rfl (show iv (j : Int) = iv (((j + 0) % r.length : Nat) : Int) by rw [Nat.add_zero, Nat.mod_eq_of_lt hj]) ?_
    refine c_loop (fun t : HvI => [(1, iv i), (2, iv j), (3, iv z), (4, iv w), (5, .pointer (some ⟨b5, 0, none⟩)), (10, .pointer (some ⟨b10, 0, none⟩)), (11, .pointer (some ⟨b11, 0, none⟩)), (12, iv r.length), (13, .pointer (some ⟨b13, 0, none⟩)), (14, .pointer (some ⟨b8, 0, none⟩)), (18, iv (hvL g i s w)), (19, iv ((j + t.n) % r.length : Nat))])
      (fun t => t.kb ++ (t.ka ++ (k6 ++ (k5 ++ ((b8, [.slice t.oa t.n t.ca, .slice t.ob t.n t.cb]) :: (b13, [.slice oa5 (s + 1) c5, .slice oa6 (s + 1) c6]) :: (b11, [.slice none 0 0, .slice none 0 0]) :: (b10, [.slice none 0 0, .slice none 0 0]) :: (b5, [.slice o1 r.length c1, .slice o2 g.length c2]) :: hs)))))
      (fun t => t.n ≤ tt ∧ RowOk t.oa t.ca 1 (ivs (tab t.n fun u => r.getD ((j + u) % r.length) 0)) t.ka ∧ RowOk t.ob t.cb 1 (ivs (tab t.n (hvF g j (g.getD j 0 - hvL g i s w)))) t.kb) (fun t => tt - t.n) ⟨0, none, 0, [], none, 0, []⟩ ⟨Nat.zero_le _, RowOk.nil, RowOk.nil⟩ (by repeat' first | trivial | rfl | apply And.intro) (by dsimp only; rw [List.nil_append, List.nil_append]; exact .append (.refl _) (.cons _ (.append (.refl _) (.cons _ (.refl _))))) ?_
    rintro ⟨n, oc, cc, kc, od, cd, kd⟩ ⟨hn, hrc, hrd⟩
    dsimp only at hn hrc hrd ⊢
    have hkc : (ivs (tab n fun u => r.getD ((j + u) % r.length) 0)).length = n * 1 := by rw [ivs_length, tab_length, Nat.mul_one]
    have hkd : (ivs (tab n (hvF g j (g.getD j 0 - hvL g i s w)))).length = n * 1 := by rw [ivs_length, tab_length, Nat.mul_one]
    by_cases hn' : n < tt
    · have hml : (j + n) % r.length < r.length := Nat.mod_lt _ (by omega)
      have hmg : (j + n) % r.length < g.length := by omega
      have g1 := h1.any hml
      have g2 := h2.any hmg
      have hnj := hne2 n hn'
      have hgn := hb _ hml
      have hst := md_step (i := j) (t := n) (k := r.length) (by omega)
      have hFn : hvF g j (g.getD j 0 - hvL g i s w) n = if n = 0 then g.getD j 0 - hvL g i s w else g.getD ((j + n) % r.length) 0 := by unfold hvF; rw [hg]
      have hFi : (j + n) % r.length = j ↔ n = 0 := by
        constructor
        · intro e
          have a1 := (md_back (u := n) hj (by omega) : ((j + n) % r.length + r.length - j) % r.length = n)
          rw [e, show j + r.length - j = r.length by omega, Nat.mod_self] at a1
          exact a1.symm
        · intro e; rw [e, Nat.add_zero, Nat.mod_eq_of_lt hj]
      by_cases hn0 : n = 0
      · rw [if_pos hn0] at hFn
        have hix := hFi.2 hn0
        have hFn : hvF g j (g.getD j 0 - hvL g i s w) n = g.getD ((j + n) % r.length) 0 - hvL g i s w := by rw [hFn, hix]
        repeat' (first | ((with_reducible apply kDP (.call ⟨.builtin .append, _, _⟩)); refine dAp4 (fun oa7 c7 k7 hr7 => ?_) (hr := hrc) (hk := hkc)) | ((with_reducible apply kP (.call ⟨.builtin .append, _, _⟩)); refine sAp (fun oa8 c8 k8 hr8 => ?_) (hr := hrd) (hk := hkd)) | ((with_reducible apply kDN); refine dtC ?_) | ((with_reducible apply kN); refine stC ?_) | ((with_reducible apply kRg 7); refine cD [1, 1, 1, 1, 1, 1, 1, 2, 4, 1, 4] ?_) | ((with_reducible apply kRg 19); refine cD [1, 1, 1, 1, 1, 1, 1, 2, 4, 1, 4] ?_) | ((with_reducible apply kRg 25); refine cD [1, 1, 1, 1, 1, 1, 1, 1, 1, 2, 4, 1, 4] ?_) | ((with_reducible apply kRg 26); refine cD [1, 0, 3, 4] ?_) | (with_reducible first | refine c_seq ?_ | refine c_reg ?_ | refine c_region ?_ | refine c_block ?_ | refine c_skip ?_ | refine c_exit ?_ | refine c_ret ?_ | refine s_nil ?_ | refine x_then ?_ | refine x_then_exit ?_ | refine x_then_ret ?_ | refine x_block ?_ | refine x_block_ret ?_ | refine x_block_same ?_ | refine x_block_other (by first | rfl | decide) ?_ | refine q_nil ?_ | refine k_nil ?_) | ((with_reducible apply kN); first | refine stP ?_ | refine stI ?_ | refine st1 ?_ | refine stW ?_) | ((with_reducible apply kP (.alloc _)); refine sA (fun b => ?_)) | ((with_reducible apply kP (.box _ _)); first | refine sBA (fun b => ?_) | refine sB (fun b => ?_)) | ((with_reducible apply kP (.buildSlice _ 1 _)); first | refine sl1A (fun b => ?_) | refine sl1 (fun b => ?_)) | ((with_reducible apply kP (.call ⟨.builtin .append, _, _⟩)); refine sAp (fun oa2 c2 blk2 hrow2 => ?_)) | ((with_reducible apply kP _); refine sP ?_) | ((with_reducible apply kP _); refine sX ?_) | ((with_reducible apply kC); first | refine cT ?_ | refine cF ?_ | (refine cI (fun h => ?_) (fun h => ?_) <;> (try (exfalso; omega))) | refine cB (fun h => ?_) (fun h => ?_)) | ((with_reducible apply kDN); first | refine dtI ?_ | refine dt1 ?_ | refine dtW ?_) | ((with_reducible apply kDP (.buildSlice _ 1 _)); first | refine dl1A (fun b => ?_) | refine dl1 (fun b => ?_)) | ((with_reducible apply kDP (.call ⟨.builtin .append, _, _⟩)); first | refine dAp3 (fun oa2 c2 blk2 hrow2 => ?_) (hS := SCt) | refine dAp4 (fun oa2 c2 blk2 hrow2 => ?_)) | ((with_reducible apply kDP _); refine dP ?_) | ((with_reducible apply kDP _); refine dX ?_))
        all_goals try (exfalso; omega)
        refine f_eq (t := 19) rfl (show iv ((((j + n) % r.length : Nat) + 1 : Int) % (r.length : Int)) = iv (((j + (n + 1)) % r.length : Nat) : Int) by rw [hst]) ?_
        have hr7' : RowOk oa7 c7 1 (ivs (tab (n + 1) fun u => r.getD ((j + u) % r.length) 0)) k7 := by rw [tab_snoc]; exact hr7
        have hr8' : RowOk oa8 c8 1 (ivs (tab (n + 1) (hvF g j (g.getD j 0 - hvL g i s w)))) k8 := by rw [tab_snoc, hFn]; exact hr8
        exact r_end (⟨n + 1, oa7, c7, k7, oa8, c8, k8⟩ : HvI) ⟨hn', hr7', hr8'⟩ (by dsimp only; omega) (by repeat' first | trivial | rfl | apply And.intro) (.append (.refl _) (.cons _ (.append (.refl _) (.cons _ (.refl _)))))
      · rw [if_neg hn0] at hFn
        have hix : (j + n) % r.length ≠ j := fun e => hn0 (hFi.1 e)
        repeat' (first | ((with_reducible apply kDP (.call ⟨.builtin .append, _, _⟩)); refine dAp4 (fun oa7 c7 k7 hr7 => ?_) (hr := hrc) (hk := hkc)) | ((with_reducible apply kP (.call ⟨.builtin .append, _, _⟩)); refine sAp (fun oa8 c8 k8 hr8 => ?_) (hr := hrd) (hk := hkd)) | ((with_reducible apply kDN); refine dtC ?_) | ((with_reducible apply kN); refine stC ?_) | ((with_reducible apply kRg 7); refine cD [1, 1, 1, 1, 1, 1, 1, 2, 4, 1, 4] ?_) | ((with_reducible apply kRg 19); refine cD [1, 1, 1, 1, 1, 1, 1, 2, 4, 1, 4] ?_) | ((with_reducible apply kRg 25); refine cD [1, 1, 1, 1, 1, 1, 1, 1, 1, 2, 4, 1, 4] ?_) | ((with_reducible apply kRg 26); refine cD [1, 0, 3, 4] ?_) | (with_reducible first | refine c_seq ?_ | refine c_reg ?_ | refine c_region ?_ | refine c_block ?_ | refine c_skip ?_ | refine c_exit ?_ | refine c_ret ?_ | refine s_nil ?_ | refine x_then ?_ | refine x_then_exit ?_ | refine x_then_ret ?_ | refine x_block ?_ | refine x_block_ret ?_ | refine x_block_same ?_ | refine x_block_other (by first | rfl | decide) ?_ | refine q_nil ?_ | refine k_nil ?_) | ((with_reducible apply kN); first | refine stP ?_ | refine stI ?_ | refine st1 ?_ | refine stW ?_) | ((with_reducible apply kP (.alloc _)); refine sA (fun b => ?_)) | ((with_reducible apply kP (.box _ _)); first | refine sBA (fun b => ?_) | refine sB (fun b => ?_)) | ((with_reducible apply kP (.buildSlice _ 1 _)); first | refine sl1A (fun b => ?_) | refine sl1 (fun b => ?_)) | ((with_reducible apply kP (.call ⟨.builtin .append, _, _⟩)); refine sAp (fun oa2 c2 blk2 hrow2 => ?_)) | ((with_reducible apply kP _); refine sP ?_) | ((with_reducible apply kP _); refine sX ?_) | ((with_reducible apply kC); first | refine cT ?_ | refine cF ?_ | (refine cI (fun h => ?_) (fun h => ?_) <;> (try (exfalso; omega))) | refine cB (fun h => ?_) (fun h => ?_)) | ((with_reducible apply kDN); first | refine dtI ?_ | refine dt1 ?_ | refine dtW ?_) | ((with_reducible apply kDP (.buildSlice _ 1 _)); first | refine dl1A (fun b => ?_) | refine dl1 (fun b => ?_)) | ((with_reducible apply kDP (.call ⟨.builtin .append, _, _⟩)); first | refine dAp3 (fun oa2 c2 blk2 hrow2 => ?_) (hS := SCt) | refine dAp4 (fun oa2 c2 blk2 hrow2 => ?_)) | ((with_reducible apply kDP _); refine dP ?_) | ((with_reducible apply kDP _); refine dX ?_))
        all_goals try (exfalso; omega)
        refine f_eq (t := 19) rfl (show iv ((((j + n) % r.length : Nat) + 1 : Int) % (r.length : Int)) = iv (((j + (n + 1)) % r.length : Nat) : Int) by rw [hst]) ?_
        have hr7' : RowOk oa7 c7 1 (ivs (tab (n + 1) fun u => r.getD ((j + u) % r.length) 0)) k7 := by rw [tab_snoc]; exact hr7
        have hr8' : RowOk oa8 c8 1 (ivs (tab (n + 1) (hvF g j (g.getD j 0 - hvL g i s w)))) k8 := by rw [tab_snoc, hFn]; exact hr8
        exact r_end (⟨n + 1, oa7, c7, k7, oa8, c8, k8⟩ : HvI) ⟨hn', hr7', hr8'⟩ (by dsimp only; omega) (by repeat' first | trivial | rfl | apply And.intro) (.append (.refl _) (.cons _ (.append (.refl _) (.cons _ (.refl _)))))
    · obtain rfl : tt = n := by omega
      have gi2 := h2.any (show i < g.length by omega)
      repeat' (first | ((with_reducible apply kP (.call ⟨.builtin .append, _, _⟩)); refine sAp (fun oa7 c7 k7 hr7 => ?_) (hr := hrc) (hk := hkc)) | ((with_reducible apply kDP (.call ⟨.builtin .append, _, _⟩)); refine dAp4 (fun oa8 c8 k8 hr8 => ?_) (hr := hrd) (hk := hkd)) | ((with_reducible apply kDN); refine dtC ?_) | ((with_reducible apply kN); refine stC ?_) | ((with_reducible apply kRg 26); refine cDS [1, 0, 3, 4] ((b8, [.slice oa7 (tt + 1) c7, .slice oa8 (tt + 1) c8]) :: (b13, [.slice oa5 (s + 1) c5, .slice oa6 (s + 1) c6]) :: (b5, [.slice o1 r.length c1, .slice o2 g.length c2]) :: hs) ?_ (hS := sbA (.cons _ (sbA (.cons _ (sbA (sbA (.cons_cons _ (.cons_cons _ (.cons _ (.cons _ (.cons_cons _ (.refl _))))))))))))) | ((with_reducible apply kRg 7); refine cD [1, 1, 1, 1, 1, 1, 1, 2, 4, 1, 4] ?_) | ((with_reducible apply kRg 19); refine cD [1, 1, 1, 1, 1, 1, 1, 2, 4, 1, 4] ?_) | ((with_reducible apply kRg 25); refine cD [1, 1, 1, 1, 1, 1, 1, 1, 1, 2, 4, 1, 4] ?_) | (with_reducible first | refine c_seq ?_ | refine c_reg ?_ | refine c_region ?_ | refine c_block ?_ | refine c_skip ?_ | refine c_exit ?_ | refine c_ret ?_ | refine s_nil ?_ | refine x_then ?_ | refine x_then_exit ?_ | refine x_then_ret ?_ | refine x_block ?_ | refine x_block_ret ?_ | refine x_block_same ?_ | refine x_block_other (by first | rfl | decide) ?_ | refine q_nil ?_ | refine k_nil ?_) | ((with_reducible apply kN); first | refine stP ?_ | refine stI ?_ | refine st1 ?_ | refine stW ?_) | ((with_reducible apply kP (.alloc _)); refine sA (fun b => ?_)) | ((with_reducible apply kP (.box _ _)); first | refine sBA (fun b => ?_) | refine sB (fun b => ?_)) | ((with_reducible apply kP (.buildSlice _ 1 _)); first | refine sl1A (fun b => ?_) | refine sl1 (fun b => ?_)) | ((with_reducible apply kP (.call ⟨.builtin .append, _, _⟩)); refine sAp (fun oa2 c2 blk2 hrow2 => ?_)) | ((with_reducible apply kP _); refine sP ?_) | ((with_reducible apply kP _); refine sX ?_) | ((with_reducible apply kC); first | refine cT ?_ | refine cF ?_ | (refine cI (fun h => ?_) (fun h => ?_) <;> (try (exfalso; omega))) | refine cB (fun h => ?_) (fun h => ?_)) | ((with_reducible apply kDN); first | refine dtI ?_ | refine dt1 ?_ | refine dtW ?_) | ((with_reducible apply kDP (.buildSlice _ 1 _)); first | refine dl1A (fun b => ?_) | refine dl1 (fun b => ?_)) | ((with_reducible apply kDP (.call ⟨.builtin .append, _, _⟩)); first | refine dAp3 (fun oa2 c2 blk2 hrow2 => ?_) (hS := SCt) | refine dAp4 (fun oa2 c2 blk2 hrow2 => ?_)) | ((with_reducible apply kDP _); refine dP ?_) | ((with_reducible apply kDP _); refine dX ?_))
      all_goals try (exfalso; omega)
      have hrC : RowOk oa7 c7 1 (ivs (ptl r j tt z)) k7 := by rw [ptl_row]; exact hr7
      have hrD : RowOk oa8 c8 1 (ivs (tab tt (hvF g j (g.getD j 0 - hvL g i s w)) ++ [g.getD i 0 - w])) k8 := by rw [← ivs_snoc]; exact hr8
      refine e_ret2 (hs' := ((k8 ++ k7) ++ (k6 ++ k5)) ++ hs) rfl ⟨_, rfl, ld_two (shTOf rfl) MDt rfl rfl⟩ ⟨_, rfl, ld_two (shTOf rfl) MDt rfl rfl⟩ ⟨s, tt, .agg #[.slice oa5 (s + 1) c5, .slice oa6 (s + 1) c6], .agg #[.slice oa7 (tt + 1) c7, .slice oa8 (tt + 1) c8], k6 ++ k5, k8 ++ k7, htt, hsd, hs0, by omega, ⟨oa5, oa6, c5, c6, k5, k6, by rw [ptl_len, List.length_append, tab_length]; rfl, hrA, hrB, rfl⟩, ⟨oa7, oa8, c7, c8, k7, k8, by rw [ptl_len, List.length_append, tab_length]; rfl, hrC, hrD, rfl⟩, rfl, rfl⟩ ?_
      rw [List.append_assoc, List.append_assoc, List.append_assoc]
      exact .append (.refl _) (.cons _ (.append (.refl _) (.cons _ (.append (.refl _) (.append (.refl _) (.cons _ (.cons _ (.cons _ (.cons _ (.cons _ (.refl _)))))))))))
end Go.Proofs.Ytnbickholedckaa
