/- Moments. -/
import Derived.Test.YtgcjddlcgpjlcaaMP30
namespace Go.Proofs.Ytgcjddlcgpjlcaa
open Go.RowKit

/-- Moments that prove: one for each size that is worn, at a fullest minute. -/
structure Mo (l : List Int) (R : Int) (n j : Nat) (q : List Int) : Prop where
  len : q.length = j * 2
  z : ∀ i, i < j → qZ q i = (szs l n).getD i 0
  full : ∀ i, i < j → crw l R n (qZ q i) (qA q i) = most l R n (qZ q i)
theorem Mo.nil (l : List Int) (R : Int) (n : Nat) : Mo l R n 0 [] := ⟨rfl, fun i h => absurd h (Nat.not_lt_zero _), fun i h => absurd h (Nat.not_lt_zero _)⟩
theorem q2_l {q : List Int} {j i : Nat} {x y : Int} (hl : q.length = j * 2) (h : i < j) : qZ (q ++ [x, y]) i = qZ q i ∧ qA (q ++ [x, y]) i = qA q i := by
  unfold qZ qA
  rw [gD_l (by omega), gD_l (by omega)]
  exact ⟨rfl, rfl⟩
theorem q2_r {q : List Int} {j : Nat} {x y : Int} (hl : q.length = j * 2) : qZ (q ++ [x, y]) j = x ∧ qA (q ++ [x, y]) j = y := by
  unfold qZ qA
  rw [gD_r (by omega), gD_r (by omega), hl, Nat.sub_self, Nat.add_sub_cancel_left]
  exact ⟨rfl, rfl⟩
theorem Mo.snoc {l : List Int} {R : Int} {n j : Nat} {q : List Int} {x y : Int} (h : Mo l R n j q) (hx : (szs l n).getD j 0 = x) (hf : crw l R n x y = most l R n x) : Mo l R n (j + 1) (q ++ [x, y]) := by
  refine ⟨by simp [h.len]; omega, fun i hi => ?_, fun i hi => ?_⟩
  · by_cases e : i < j
    · rw [(q2_l h.len e).1]; exact h.z i e
    · obtain rfl : i = j := by omega
      rw [(q2_r h.len).1, hx]
  · by_cases e : i < j
    · rw [(q2_l h.len e).1, (q2_l h.len e).2]; exact h.full i e
    · obtain rfl : i = j := by omega
      rw [(q2_r h.len).1, (q2_r h.len).2]; exact hf
theorem mo_sum {l q : List Int} {R C : Int} {n K : Nat} (hv : VP n R C l) (hK : (szs l n).length = K) (h : Mo l R n K q) : ∀ j, j ≤ K → ∃ k, k ≤ 100 ∧ sumTo (ndS n R l q) j = (msum l R n k : Nat) ∧ (∀ t, t < j → (szs l n).getD t 0 < (k : Int)) ∧ ∀ t, j ≤ t → t < K → (k : Int) ≤ (szs l n).getD t 0
  | 0, _ => ⟨0, by omega, rfl, fun t h => absurd h (Nat.not_lt_zero _), fun t _ ht => by obtain ⟨i, hi, he⟩ := szs_to (l := l) (n := n) (by rw [hK]; exact ht); have := hv.w i hi; unfold okw at this; omega⟩
  | j + 1, hj => by
    obtain ⟨k, h1, h2, h3, h4⟩ := mo_sum hv hK h j (by omega)
    have hjK : j < (szs l n).length := by omega
    obtain ⟨i0, hi0, he0⟩ := szs_to hjK
    have hw0 := hv.w i0 hi0
    unfold okw at hw0
    obtain ⟨z, hz⟩ := Int.eq_ofNat_of_zero_le (show 0 ≤ (szs l n).getD j 0 by omega)
    have hkz : k ≤ z := by have := h4 j (Nat.le_refl _) (by omega); omega
    have hg : ∀ i, i < n → ¬ ((k : Int) ≤ wZ l i ∧ wZ l i < z) := fun i hi ⟨g1, g2⟩ => by
      obtain ⟨t, ht, he⟩ := szs_at (l := l) hi
      rcases Nat.lt_or_ge t j with c | c
      · have := h3 t c; omega
      · rcases Nat.eq_or_lt_of_le c with c | c
        · subst c; omega
        · have := szs_lt c ht; omega
    refine ⟨z + 1, by omega, ?_, fun t ht => ?_, fun t g1 g2 => ?_⟩
    · have hf := h.full j (by omega)
      have e := h.z j (by omega)
      rw [sumTo_succ, h2, msum_gap hkz hg, msum]
      unfold ndS
      rw [hf, e, hz]; omega
    · rcases Nat.eq_or_lt_of_le (Nat.le_of_lt_succ ht) with c | c
      · subst c; omega
      · have := szs_lt c hjK; omega
    · have := szs_lt (show j < t by omega) (show t < (szs l n).length by omega); omega
theorem mo_all {l q : List Int} {R C : Int} {n : Nat} (hv : vpE n R C l = 0) (h : Mo l R n (szs l n).length q) : ndE n R C l (szs l n).length q = 0 ∧ ndV n R C l (szs l n).length q = lsV n R C l := by
  have hV := vp_to hv
  have hle := szs_le l n
  have hn := hV.le
  have hE : ndE n R C l (szs l n).length q = 0 := ndE_ok hv (by omega) fun o ho k hk => by
    rw [h.z o ho, h.z k (by omega)]
    have := szs_lt hk ho
    omega
  refine ⟨hE, ?_⟩
  obtain ⟨k, h1, h2, h3, h4⟩ := mo_sum hV rfl h _ (Nat.le_refl _)
  have hg : ∀ i, i < n → ¬ ((k : Int) ≤ wZ l i ∧ wZ l i < (100 : Nat)) := fun i hi ⟨g1, g2⟩ => by
    obtain ⟨t, ht, he⟩ := szs_at (l := l) hi
    have := h3 t ht; omega
  rw [ndV_ok hE, h2, msum_gap h1 hg, lsV, if_pos hv]
structure MS where
  j : Nat
  q : List Int
  oa : Option Addr
  c : Nat
  blk : HS
structure MI where
  i : Nat
  bz : Int
  ba : Int
  mx : Nat
set_option maxRecDepth 100000 in
set_option maxHeartbeats 8000000 in
theorem k_Moments (n c : Nat) (R C : Int) (l : List Int) (oa : Option Addr) (hl : l.length = n * 4) (hn : n ≤ 1000) (hc : n ≤ c) (B : Nat) (w0 : Wd) (hs : HS) (hL : Sl B w0 hs oa l) :
    Fn Try.prog 39 #[.agg #[.slice oa n c, iv R, iv C]] B w0 hs (fun u h => ∃ blk, ((vpE n R C l = 0 ∧ ∃ oa2 c2 q, u = .tuple #[.slice oa2 (szs l n).length c2, iv 0] ∧ RowOk oa2 c2 2 (ivs q) blk ∧ Mo l R n (szs l n).length q) ∨ (vpE n R C l ≠ 0 ∧ u = .tuple #[.slice none 0 0, iv (vpE n R C l)] ∧ blk = [])) ∧ h = blk ++ hs) := by
  have kv := fun hs hL => k_VP n c R C l oa hl hn hc B w0 hs hL
  by_cases hv : vpE n R C l = 0
  · have hV := vp_to hv
    have hn6 := hV.le
    have ka := fun z t F hL => k_crowd (c := c) (oa := oa) (z := z) (t := t) hl hV B w0 F hL
    have hw' : ∀ i, i < n → 1 ≤ wZ l i ∧ wZ l i ≤ 99 ∧ wF l i < wT l i + R := fun i hi => by have := hV.w i hi; have := hV.nums; unfold okw at *; unfold okP at *; omega
    rw [hv] at kv
    refine fn_enter Try.func39 rfl Try.ntmps39 (by simp) ?_
    repeat' (first | ((with_reducible apply kF 28); refine sC 28 (kv _ (hL.sub SBt)) ?_) | ((with_reducible apply kF 69); refine sN 69 (k_sizes n c R C l oa hl hn6 B w0 _ (hL.sub SBt)) ?_; rintro u blkS ⟨oS, cS, rfl, hrS⟩) | (with_reducible first | refine c_seq ?_ | refine c_reg ?_ | refine c_region ?_ | refine c_block ?_ | refine c_skip ?_ | refine c_exit ?_ | refine c_ret ?_ | refine s_nil ?_ | refine x_then ?_ | refine x_then_exit ?_ | refine x_then_ret ?_ | refine x_block ?_ | refine x_block_ret ?_ | refine x_block_same ?_ | refine x_block_other (by rfl) ?_ | refine q_nil ?_ | refine k_nil ?_) | ((with_reducible apply kP (.makeFunc _ _ _)); refine sMF ?_) | ((with_reducible apply kG); first | refine gY1 ?_ | refine gN1 ?_ | refine gU1 ?_ | (refine gD1 (fun h => ?_) (fun h => ?_) <;> (try (exfalso; omega))) | refine gB1 (fun h => ?_) (fun h => ?_)) | ((with_reducible apply kN); first | refine stP ?_ | refine stI ?_ | refine st1 ?_ | refine stW ?_) | ((with_reducible apply kP (.alloc _)); refine sA (fun b => ?_)) | ((with_reducible apply kP (.box _ _)); first | refine sBA (fun b => ?_) | refine sB (fun b => ?_)) | ((with_reducible apply kP (.buildSlice _ 1 _)); first | refine sl1A (fun b => ?_) | refine sl1 (fun b => ?_)) | ((with_reducible apply kP (.buildSlice _ 2 _)); refine sl2 (fun b => ?_)) | ((with_reducible apply kP (.buildSlice _ 3 _)); refine sl3 (fun b => ?_)) | ((with_reducible apply kP (.buildSlice _ 4 _)); refine sl4 (fun b => ?_)) | ((with_reducible apply kP (.buildSlice _ 0 _)); refine s_bs0 (scTOf rfl) (zsTOf rfl) (by decide) (fun b => ?_)) | ((with_reducible apply kP (.makeSlice _ _ _)); refine sMk (fun b => ?_)) | ((with_reducible apply kP (.call ⟨.builtin .append, _, _⟩)); refine sAp (fun oa2 c2 blk2 hrow2 => ?_)) | ((with_reducible apply kP _); refine sP ?_) | ((with_reducible apply kP _); refine sX ?_) | ((with_reducible apply kQG); first | refine qY1 ?_ | refine qN1 ?_ | refine qU1 ?_ | (refine qD1 (fun h => ?_) (fun h => ?_) <;> (try (exfalso; omega))) | refine qB1 (fun h => ?_) (fun h => ?_)) | ((with_reducible apply kQP); refine qP ?_) | ((with_reducible apply kQP); refine qX ?_) | ((with_reducible apply kC); first | refine cT ?_ | refine cF ?_ | (refine cI (fun h => ?_) (fun h => ?_) <;> (try (exfalso; omega))) | refine cB (fun h => ?_) (fun h => ?_)) | ((with_reducible apply kR); refine cQ ?_))
    all_goals try (exfalso; first | omega | exact absurd rfl ‹_ ≠ _›)
    revert b
    intro b1
    have hSS := Sl.row (B := B) (w0 := w0) hrS
    have hKn := szs_le l n
    refine c_loop (fun s : MS => [(1, .pointer (some ⟨b1, 0, none⟩)), (5, .slice s.oa s.j s.c), (20, .slice oS (szs l n).length cS), (21, iv (szs l n).length), (22, iv s.j)]) (fun s => s.blk ++ (blkS ++ (b1, [.slice oa n c, iv R, iv C]) :: hs)) (fun s => s.j ≤ (szs l n).length ∧ Mo l R n s.j s.q ∧ RowOk s.oa s.c 2 (ivs s.q) s.blk) (fun s => (szs l n).length - s.j) ⟨0, [], none, 0, []⟩ ⟨Nat.zero_le _, .nil _ _ _, .nil⟩ (by repeat' first | trivial | rfl | apply And.intro) (.refl _) ?_
    rintro ⟨j, q, oE, cE, blkE⟩ ⟨hj, hM, hrE⟩
    dsimp only at hj hM hrE ⊢
    have hlE : (ivs q).length = j * 2 := by rw [ivs_length, hM.len]
    by_cases hj' : j < (szs l n).length
    · have hoS : oS.isSome = true := hSS.any hj'
      obtain ⟨i0, hi0, he0⟩ := szs_to hj'
      have hpos := most_some (l := l) (R := R) (z := (szs l n).getD j 0) ⟨i0, hi0, he0⟩ fun i hi => (hw' i hi).2.2
      repeat' (first | ((with_reducible apply kP (.load 3 _)); refine sP ?_ (o_load rfl (ld_one (shTOf rfl) (Sl.at (by assumption) SBt (by omega))))) | ((with_reducible apply kDP (.load 3 _)); refine dP ?_ (hX := rfl) (hv := o_load rfl (ld_one (shTOf rfl) (Sl.at (by assumption) SBt (by omega))))) | ((with_reducible apply kQO (.load 3 _)); refine qP ?_ (o_load rfl (ld_one (shTOf rfl) (Sl.at (by assumption) SBt (by omega))))) | (with_reducible first | refine c_seq ?_ | refine c_reg ?_ | refine c_region ?_ | refine c_block ?_ | refine c_skip ?_ | refine c_exit ?_ | refine c_ret ?_ | refine s_nil ?_ | refine x_then ?_ | refine x_then_exit ?_ | refine x_then_ret ?_ | refine x_block ?_ | refine x_block_ret ?_ | refine x_block_same ?_ | refine x_block_other (by rfl) ?_ | refine q_nil ?_ | refine k_nil ?_) | ((with_reducible apply kP (.makeFunc _ _ _)); refine sMF ?_) | ((with_reducible apply kG); first | refine gY1 ?_ | refine gN1 ?_ | refine gU1 ?_ | (refine gD1 (fun h => ?_) (fun h => ?_) <;> (try (exfalso; omega))) | refine gB1 (fun h => ?_) (fun h => ?_)) | ((with_reducible apply kN); first | refine stP ?_ | refine stI ?_ | refine st1 ?_ | refine stW ?_) | ((with_reducible apply kP (.alloc _)); refine sA (fun b => ?_)) | ((with_reducible apply kP (.box _ _)); first | refine sBA (fun b => ?_) | refine sB (fun b => ?_)) | ((with_reducible apply kP (.buildSlice _ 1 _)); first | refine sl1A (fun b => ?_) | refine sl1 (fun b => ?_)) | ((with_reducible apply kP (.buildSlice _ 2 _)); refine sl2 (fun b => ?_)) | ((with_reducible apply kP (.buildSlice _ 3 _)); refine sl3 (fun b => ?_)) | ((with_reducible apply kP (.buildSlice _ 4 _)); refine sl4 (fun b => ?_)) | ((with_reducible apply kP (.buildSlice _ 0 _)); refine s_bs0 (scTOf rfl) (zsTOf rfl) (by decide) (fun b => ?_)) | ((with_reducible apply kP (.makeSlice _ _ _)); refine sMk (fun b => ?_)) | ((with_reducible apply kP (.call ⟨.builtin .append, _, _⟩)); refine sAp (fun oa2 c2 blk2 hrow2 => ?_)) | ((with_reducible apply kP _); refine sP ?_) | ((with_reducible apply kP _); refine sX ?_) | ((with_reducible apply kQG); first | refine qY1 ?_ | refine qN1 ?_ | refine qU1 ?_ | (refine qD1 (fun h => ?_) (fun h => ?_) <;> (try (exfalso; omega))) | refine qB1 (fun h => ?_) (fun h => ?_)) | ((with_reducible apply kQP); refine qP ?_) | ((with_reducible apply kQP); refine qX ?_) | ((with_reducible apply kC); first | refine cT ?_ | refine cF ?_ | (refine cI (fun h => ?_) (fun h => ?_) <;> (try (exfalso; omega))) | refine cB (fun h => ?_) (fun h => ?_)) | ((with_reducible apply kR); refine cQ ?_))
      generalize hkz : (szs l n).getD j 0 = kz at *
      revert b
      intro b8
      refine c_loop (fun s : MI => [(1, .pointer (some ⟨b1, 0, none⟩)), (5, .slice oE j cE), (20, .slice oS (szs l n).length cS), (21, iv (szs l n).length), (22, iv j), (7, iv kz), (8, .pointer (some ⟨b8, 0, none⟩)), (9, iv s.mx), (28, .slice oa n c), (29, iv n), (30, iv s.i)]) (fun s => (b8, [iv s.bz, iv s.ba]) :: (blkE ++ (blkS ++ (b1, [.slice oa n c, iv R, iv C]) :: hs))) (fun s => s.i ≤ n ∧ (∀ x, x < s.i → crw l R n kz (wF l x) ≤ s.mx) ∧ (s.mx = 0 ∨ (s.bz = kz ∧ crw l R n kz s.ba = s.mx))) (fun s => n - s.i) ⟨0, 0, 0, 0⟩ ⟨Nat.zero_le _, fun x h => absurd h (Nat.not_lt_zero _), .inl rfl⟩ (by repeat' first | trivial | rfl | apply And.intro) (.refl _) ?_
      rintro ⟨i, bz, ba, mx⟩ ⟨hi, hmx, hbest⟩
      dsimp only at hi hmx hbest ⊢
      by_cases hi' : i < n
      · have hoA : oa.isSome = true := hL.any (i := i * 4) (by omega)
        have hcr := ksW_crw l R n kz (wF l i)
        by_cases hgt : mx < crw l R n kz (wF l i)
        · have hmx2 : ∀ x, x < i + 1 → crw l R n kz (wF l x) ≤ crw l R n kz (wF l i) := fun x hx => by
            by_cases e : x < i
            · have := hmx x e; omega
            · obtain rfl : x = i := by omega
              exact Nat.le_refl _
          rw [← hcr] at hgt
          repeat' (first | ((with_reducible apply kP (.load 84 _)); refine sP ?_ (o_load rfl (ld_4S (shTOf rfl) (by assumption) SBt (by omega)))) | ((with_reducible apply kDP (.load 84 _)); refine dP ?_ (hX := rfl) (hv := o_load rfl (ld_4S (shTOf rfl) (by assumption) SBt (by omega)))) | ((with_reducible apply kQO (.load 84 _)); refine qP ?_ (o_load rfl (ld_4S (shTOf rfl) (by assumption) SBt (by omega)))) | ((with_reducible apply kN); refine stW ?_ (hf := flat_cons rfl (flat_cons rfl (flat_cons rfl (flat1 rfl))))) | ((with_reducible apply kDN); refine dtW ?_ (hf := flat_cons rfl (flat_cons rfl (flat_cons rfl (flat1 rfl))))) | ((with_reducible apply kF 70); refine sN 70 (ka kz (wF l i) _ (hL.sub SBt)) ?_; rintro u blk ⟨o2, c2, rfl, hrow⟩) | (with_reducible first | refine c_seq ?_ | refine c_reg ?_ | refine c_region ?_ | refine c_block ?_ | refine c_skip ?_ | refine c_exit ?_ | refine c_ret ?_ | refine s_nil ?_ | refine x_then ?_ | refine x_then_exit ?_ | refine x_then_ret ?_ | refine x_block ?_ | refine x_block_ret ?_ | refine x_block_same ?_ | refine x_block_other (by rfl) ?_ | refine q_nil ?_ | refine k_nil ?_) | ((with_reducible apply kP (.makeFunc _ _ _)); refine sMF ?_) | ((with_reducible apply kG); first | refine gY1 ?_ | refine gN1 ?_ | refine gU1 ?_ | (refine gD1 (fun h => ?_) (fun h => ?_) <;> (try (exfalso; omega))) | refine gB1 (fun h => ?_) (fun h => ?_)) | ((with_reducible apply kN); first | refine stP ?_ | refine stI ?_ | refine st1 ?_ | refine stW ?_) | ((with_reducible apply kP (.alloc _)); refine sA (fun b => ?_)) | ((with_reducible apply kP (.box _ _)); first | refine sBA (fun b => ?_) | refine sB (fun b => ?_)) | ((with_reducible apply kP (.buildSlice _ 1 _)); first | refine sl1A (fun b => ?_) | refine sl1 (fun b => ?_)) | ((with_reducible apply kP (.buildSlice _ 2 _)); refine sl2 (fun b => ?_)) | ((with_reducible apply kP (.buildSlice _ 3 _)); refine sl3 (fun b => ?_)) | ((with_reducible apply kP (.buildSlice _ 4 _)); refine sl4 (fun b => ?_)) | ((with_reducible apply kP (.buildSlice _ 0 _)); refine s_bs0 (scTOf rfl) (zsTOf rfl) (by decide) (fun b => ?_)) | ((with_reducible apply kP (.makeSlice _ _ _)); refine sMk (fun b => ?_)) | ((with_reducible apply kP (.call ⟨.builtin .append, _, _⟩)); refine sAp (fun oa2 c2 blk2 hrow2 => ?_)) | ((with_reducible apply kP _); refine sP ?_) | ((with_reducible apply kP _); refine sX ?_) | ((with_reducible apply kQG); first | refine qY1 ?_ | refine qN1 ?_ | refine qU1 ?_ | (refine qD1 (fun h => ?_) (fun h => ?_) <;> (try (exfalso; omega))) | refine qB1 (fun h => ?_) (fun h => ?_)) | ((with_reducible apply kQP); refine qP ?_) | ((with_reducible apply kQP); refine qX ?_) | ((with_reducible apply kC); first | refine cT ?_ | refine cF ?_ | (refine cI (fun h => ?_) (fun h => ?_) <;> (try (exfalso; omega))) | refine cB (fun h => ?_) (fun h => ?_)) | ((with_reducible apply kR); refine cQ ?_))
          all_goals first
            | exact r_end ⟨i + 1, kz, l.getD (i * 4 + 2) 0, crw l R n kz (wF l i)⟩ ⟨hi', hmx2, .inr ⟨rfl, rfl⟩⟩ (by show n - (i + 1) < n - i; omega) (by dsimp only; rw [← hcr]; exact (by repeat' first | trivial | rfl | apply And.intro)) (by dsimp only; exact SCt)
            | (exfalso; omega)
            | trace_state
        · have hmx2 : ∀ x, x < i + 1 → crw l R n kz (wF l x) ≤ mx := fun x hx => by
            by_cases e : x < i
            · exact hmx x e
            · obtain rfl : x = i := by omega
              omega
          rw [← hcr] at hgt
          repeat' (first | ((with_reducible apply kP (.load 84 _)); refine sP ?_ (o_load rfl (ld_4S (shTOf rfl) (by assumption) SBt (by omega)))) | ((with_reducible apply kDP (.load 84 _)); refine dP ?_ (hX := rfl) (hv := o_load rfl (ld_4S (shTOf rfl) (by assumption) SBt (by omega)))) | ((with_reducible apply kQO (.load 84 _)); refine qP ?_ (o_load rfl (ld_4S (shTOf rfl) (by assumption) SBt (by omega)))) | ((with_reducible apply kN); refine stW ?_ (hf := flat_cons rfl (flat_cons rfl (flat_cons rfl (flat1 rfl))))) | ((with_reducible apply kDN); refine dtW ?_ (hf := flat_cons rfl (flat_cons rfl (flat_cons rfl (flat1 rfl))))) | ((with_reducible apply kF 70); refine sN 70 (ka kz (wF l i) _ (hL.sub SBt)) ?_; rintro u blk ⟨o2, c2, rfl, hrow⟩) | (with_reducible first | refine c_seq ?_ | refine c_reg ?_ | refine c_region ?_ | refine c_block ?_ | refine c_skip ?_ | refine c_exit ?_ | refine c_ret ?_ | refine s_nil ?_ | refine x_then ?_ | refine x_then_exit ?_ | refine x_then_ret ?_ | refine x_block ?_ | refine x_block_ret ?_ | refine x_block_same ?_ | refine x_block_other (by rfl) ?_ | refine q_nil ?_ | refine k_nil ?_) | ((with_reducible apply kP (.makeFunc _ _ _)); refine sMF ?_) | ((with_reducible apply kG); first | refine gY1 ?_ | refine gN1 ?_ | refine gU1 ?_ | (refine gD1 (fun h => ?_) (fun h => ?_) <;> (try (exfalso; omega))) | refine gB1 (fun h => ?_) (fun h => ?_)) | ((with_reducible apply kN); first | refine stP ?_ | refine stI ?_ | refine st1 ?_ | refine stW ?_) | ((with_reducible apply kP (.alloc _)); refine sA (fun b => ?_)) | ((with_reducible apply kP (.box _ _)); first | refine sBA (fun b => ?_) | refine sB (fun b => ?_)) | ((with_reducible apply kP (.buildSlice _ 1 _)); first | refine sl1A (fun b => ?_) | refine sl1 (fun b => ?_)) | ((with_reducible apply kP (.buildSlice _ 2 _)); refine sl2 (fun b => ?_)) | ((with_reducible apply kP (.buildSlice _ 3 _)); refine sl3 (fun b => ?_)) | ((with_reducible apply kP (.buildSlice _ 4 _)); refine sl4 (fun b => ?_)) | ((with_reducible apply kP (.buildSlice _ 0 _)); refine s_bs0 (scTOf rfl) (zsTOf rfl) (by decide) (fun b => ?_)) | ((with_reducible apply kP (.makeSlice _ _ _)); refine sMk (fun b => ?_)) | ((with_reducible apply kP (.call ⟨.builtin .append, _, _⟩)); refine sAp (fun oa2 c2 blk2 hrow2 => ?_)) | ((with_reducible apply kP _); refine sP ?_) | ((with_reducible apply kP _); refine sX ?_) | ((with_reducible apply kQG); first | refine qY1 ?_ | refine qN1 ?_ | refine qU1 ?_ | (refine qD1 (fun h => ?_) (fun h => ?_) <;> (try (exfalso; omega))) | refine qB1 (fun h => ?_) (fun h => ?_)) | ((with_reducible apply kQP); refine qP ?_) | ((with_reducible apply kQP); refine qX ?_) | ((with_reducible apply kC); first | refine cT ?_ | refine cF ?_ | (refine cI (fun h => ?_) (fun h => ?_) <;> (try (exfalso; omega))) | refine cB (fun h => ?_) (fun h => ?_)) | ((with_reducible apply kR); refine cQ ?_))
          all_goals first
            | exact r_end ⟨i + 1, bz, ba, mx⟩ ⟨hi', hmx2, hbest⟩ (by show n - (i + 1) < n - i; omega) (by repeat' first | trivial | rfl | apply And.intro) SCt
            | (exfalso; omega)
            | trace_state
      · obtain rfl : i = n := by omega
        have hmost : most l R i kz ≤ mx := most_le fun x hx _ => hmx x hx
        have hb2 : bz = kz ∧ crw l R i kz ba = most l R i kz := by
          rcases hbest with h0 | ⟨h1, h2⟩
          · omega
          · have : crw l R i kz ba ≤ most l R i kz := crw_le_most
            exact ⟨h1, by omega⟩
        obtain ⟨rfl, hb3⟩ := hb2
        repeat' (first | (with_reducible first | refine c_seq ?_ | refine c_reg ?_ | refine c_region ?_ | refine c_block ?_ | refine c_skip ?_ | refine c_exit ?_ | refine c_ret ?_ | refine s_nil ?_ | refine x_then ?_ | refine x_then_exit ?_ | refine x_then_ret ?_ | refine x_block ?_ | refine x_block_ret ?_ | refine x_block_same ?_ | refine x_block_other (by rfl) ?_ | refine q_nil ?_ | refine k_nil ?_) | ((with_reducible apply kP (.makeFunc _ _ _)); refine sMF ?_) | ((with_reducible apply kG); first | refine gY1 ?_ | refine gN1 ?_ | refine gU1 ?_ | (refine gD1 (fun h => ?_) (fun h => ?_) <;> (try (exfalso; omega))) | refine gB1 (fun h => ?_) (fun h => ?_)) | ((with_reducible apply kN); first | refine stP ?_ | refine stI ?_ | refine st1 ?_ | refine stW ?_) | ((with_reducible apply kP (.alloc _)); refine sA (fun b => ?_)) | ((with_reducible apply kP (.box _ _)); first | refine sBA (fun b => ?_) | refine sB (fun b => ?_)) | ((with_reducible apply kP (.buildSlice _ 1 _)); first | refine sl1A (fun b => ?_) | refine sl1 (fun b => ?_)) | ((with_reducible apply kP (.buildSlice _ 2 _)); refine sl2 (fun b => ?_)) | ((with_reducible apply kP (.buildSlice _ 3 _)); refine sl3 (fun b => ?_)) | ((with_reducible apply kP (.buildSlice _ 4 _)); refine sl4 (fun b => ?_)) | ((with_reducible apply kP (.buildSlice _ 0 _)); refine s_bs0 (scTOf rfl) (zsTOf rfl) (by decide) (fun b => ?_)) | ((with_reducible apply kP (.makeSlice _ _ _)); refine sMk (fun b => ?_)) | ((with_reducible apply kP (.call ⟨.builtin .append, _, _⟩)); refine sAp (fun oa2 c2 blk2 hrow2 => ?_)) | ((with_reducible apply kP _); refine sP ?_) | ((with_reducible apply kP _); refine sX ?_) | ((with_reducible apply kQG); first | refine qY1 ?_ | refine qN1 ?_ | refine qU1 ?_ | (refine qD1 (fun h => ?_) (fun h => ?_) <;> (try (exfalso; omega))) | refine qB1 (fun h => ?_) (fun h => ?_)) | ((with_reducible apply kQP); refine qP ?_) | ((with_reducible apply kQP); refine qX ?_) | ((with_reducible apply kC); first | refine cT ?_ | refine cF ?_ | (refine cI (fun h => ?_) (fun h => ?_) <;> (try (exfalso; omega))) | refine cB (fun h => ?_) (fun h => ?_)) | ((with_reducible apply kR); refine cQ ?_))
        have e2 : ivs (q ++ [bz, ba]) = ivs q ++ [iv bz, iv ba] := by simp [ivs]
        exact r_end ⟨j + 1, q ++ [bz, ba], oa2, c2, blk2⟩ ⟨hj', hM.snoc hkz hb3, by dsimp only; rw [e2]; exact hrow2⟩ (by show (szs l i).length - (j + 1) < (szs l i).length - j; omega) (by repeat' first | trivial | rfl | apply And.intro) SCt
    · obtain rfl : j = (szs l n).length := by omega
      repeat' (first | (with_reducible first | refine c_seq ?_ | refine c_reg ?_ | refine c_region ?_ | refine c_block ?_ | refine c_skip ?_ | refine c_exit ?_ | refine c_ret ?_ | refine s_nil ?_ | refine x_then ?_ | refine x_then_exit ?_ | refine x_then_ret ?_ | refine x_block ?_ | refine x_block_ret ?_ | refine x_block_same ?_ | refine x_block_other (by rfl) ?_ | refine q_nil ?_ | refine k_nil ?_) | ((with_reducible apply kP (.makeFunc _ _ _)); refine sMF ?_) | ((with_reducible apply kG); first | refine gY1 ?_ | refine gN1 ?_ | refine gU1 ?_ | (refine gD1 (fun h => ?_) (fun h => ?_) <;> (try (exfalso; omega))) | refine gB1 (fun h => ?_) (fun h => ?_)) | ((with_reducible apply kN); first | refine stP ?_ | refine stI ?_ | refine st1 ?_ | refine stW ?_) | ((with_reducible apply kP (.alloc _)); refine sA (fun b => ?_)) | ((with_reducible apply kP (.box _ _)); first | refine sBA (fun b => ?_) | refine sB (fun b => ?_)) | ((with_reducible apply kP (.buildSlice _ 1 _)); first | refine sl1A (fun b => ?_) | refine sl1 (fun b => ?_)) | ((with_reducible apply kP (.buildSlice _ 2 _)); refine sl2 (fun b => ?_)) | ((with_reducible apply kP (.buildSlice _ 3 _)); refine sl3 (fun b => ?_)) | ((with_reducible apply kP (.buildSlice _ 4 _)); refine sl4 (fun b => ?_)) | ((with_reducible apply kP (.buildSlice _ 0 _)); refine s_bs0 (scTOf rfl) (zsTOf rfl) (by decide) (fun b => ?_)) | ((with_reducible apply kP (.makeSlice _ _ _)); refine sMk (fun b => ?_)) | ((with_reducible apply kP (.call ⟨.builtin .append, _, _⟩)); refine sAp (fun oa2 c2 blk2 hrow2 => ?_)) | ((with_reducible apply kP _); refine sP ?_) | ((with_reducible apply kP _); refine sX ?_) | ((with_reducible apply kQG); first | refine qY1 ?_ | refine qN1 ?_ | refine qU1 ?_ | (refine qD1 (fun h => ?_) (fun h => ?_) <;> (try (exfalso; omega))) | refine qB1 (fun h => ?_) (fun h => ?_)) | ((with_reducible apply kQP); refine qP ?_) | ((with_reducible apply kQP); refine qX ?_) | ((with_reducible apply kC); first | refine cT ?_ | refine cF ?_ | (refine cI (fun h => ?_) (fun h => ?_) <;> (try (exfalso; omega))) | refine cB (fun h => ?_) (fun h => ?_)) | ((with_reducible apply kR); refine cQ ?_))
      exact e_ret2 rfl rfl rfl ⟨blkE, .inl ⟨hv, oE, cE, q, rfl, hrE, hM⟩, rfl⟩ SCt
  · have hv' := hv
    generalize vpE n R C l = e at *
    refine fn_enter Try.func39 rfl Try.ntmps39 (by simp) ?_
    repeat' (first | ((with_reducible apply kF 28); refine sC 28 (kv _ (hL.sub SBt)) ?_) | (with_reducible first | refine c_seq ?_ | refine c_reg ?_ | refine c_region ?_ | refine c_block ?_ | refine c_skip ?_ | refine c_exit ?_ | refine c_ret ?_ | refine s_nil ?_ | refine x_then ?_ | refine x_then_exit ?_ | refine x_then_ret ?_ | refine x_block ?_ | refine x_block_ret ?_ | refine x_block_same ?_ | refine x_block_other (by rfl) ?_ | refine q_nil ?_ | refine k_nil ?_) | ((with_reducible apply kP (.makeFunc _ _ _)); refine sMF ?_) | ((with_reducible apply kG); first | refine gY1 ?_ | refine gN1 ?_ | refine gU1 ?_ | (refine gD1 (fun h => ?_) (fun h => ?_) <;> (try (exfalso; omega))) | refine gB1 (fun h => ?_) (fun h => ?_)) | ((with_reducible apply kN); first | refine stP ?_ | refine stI ?_ | refine st1 ?_ | refine stW ?_) | ((with_reducible apply kP (.alloc _)); refine sA (fun b => ?_)) | ((with_reducible apply kP (.box _ _)); first | refine sBA (fun b => ?_) | refine sB (fun b => ?_)) | ((with_reducible apply kP (.buildSlice _ 1 _)); first | refine sl1A (fun b => ?_) | refine sl1 (fun b => ?_)) | ((with_reducible apply kP (.buildSlice _ 2 _)); refine sl2 (fun b => ?_)) | ((with_reducible apply kP (.buildSlice _ 3 _)); refine sl3 (fun b => ?_)) | ((with_reducible apply kP (.buildSlice _ 4 _)); refine sl4 (fun b => ?_)) | ((with_reducible apply kP (.buildSlice _ 0 _)); refine s_bs0 (scTOf rfl) (zsTOf rfl) (by decide) (fun b => ?_)) | ((with_reducible apply kP (.makeSlice _ _ _)); refine sMk (fun b => ?_)) | ((with_reducible apply kP (.call ⟨.builtin .append, _, _⟩)); refine sAp (fun oa2 c2 blk2 hrow2 => ?_)) | ((with_reducible apply kP _); refine sP ?_) | ((with_reducible apply kP _); refine sX ?_) | ((with_reducible apply kQG); first | refine qY1 ?_ | refine qN1 ?_ | refine qU1 ?_ | (refine qD1 (fun h => ?_) (fun h => ?_) <;> (try (exfalso; omega))) | refine qB1 (fun h => ?_) (fun h => ?_)) | ((with_reducible apply kQP); refine qP ?_) | ((with_reducible apply kQP); refine qX ?_) | ((with_reducible apply kC); first | refine cT ?_ | refine cF ?_ | (refine cI (fun h => ?_) (fun h => ?_) <;> (try (exfalso; omega))) | refine cB (fun h => ?_) (fun h => ?_)) | ((with_reducible apply kR); refine cQ ?_))
    all_goals first
      | exact e_ret2 rfl rfl rfl ⟨[], .inr ⟨hv, rfl, rfl⟩, rfl⟩ (.cons _ (.refl _))
      | (exfalso; omega)
      | trace_state
end Go.Proofs.Ytgcjddlcgpjlcaa
