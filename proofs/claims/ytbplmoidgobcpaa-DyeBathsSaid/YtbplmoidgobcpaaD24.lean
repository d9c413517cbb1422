/- Ways: each step is one bath. -/
import Derived.Test.YtbplmoidgobcpaaD15
import Derived.Test.YtbplmoidgobcpaaD16
namespace Go.Proofs.Ytbplmoidgobcpaa
open Go.RowKit

/-- One bath. -/
def stB (L T C x y z : Int) : Prop := (C ≠ 3 ∧ min (L + 2) 10 = x ∧ 0 = y ∧ C + 1 = z) ∨ (1 ≤ x ∧ x ≤ L ∧ 0 ≤ y ∧ y ≤ 5 ∧ C = z)
abbrev wyL (L : Int) (l : List Int) (i : Nat) : Int := if i = 0 then L else l.getD ((i - 1) * 3) 0
abbrev wyT (T : Int) (l : List Int) (i : Nat) : Int := if i = 0 then T else l.getD ((i - 1) * 3 + 1) 0
abbrev wyC (C : Int) (l : List Int) (i : Nat) : Int := if i = 0 then C else l.getD ((i - 1) * 3 + 2) 0
theorem sdB_step {L T C x y z : Int} (h : sdB L T C = true) (hs : stB L T C x y z) : sdB x y z = true := by
  have v := sdB_to.1 h
  refine sdB_to.2 ?_
  rcases hs with ⟨h1, h2, h3, h4⟩ | ⟨h1, h2, h3, h4, h5⟩ <;> omega
theorem q_cons {L T C x y z : Int} {r : List Int} (i : Nat) : wyL L ([x, y, z] ++ r) (i + 1) = wyL x r i ∧ wyT T ([x, y, z] ++ r) (i + 1) = wyT y r i ∧ wyC C ([x, y, z] ++ r) (i + 1) = wyC z r i := by
  cases i with
  | zero => exact ⟨rfl, rfl, rfl⟩
  | succ i =>
    have e : ∀ j, ([x, y, z] ++ r).getD ((i + 1) * 3 + j) 0 = r.getD (i * 3 + j) 0 := fun j => by
      rw [show (i + 1) * 3 + j = (i * 3 + j) + 1 + 1 + 1 by omega]
      simp only [List.cons_append, List.nil_append, List.getD_cons_succ]
    have e0 := e 0
    simp only [Nat.add_zero] at e0
    simp only [wyL, wyT, wyC, Nat.add_sub_cancel, if_neg (Nat.succ_ne_zero _)]
    exact ⟨e0, e 1, e 2⟩
theorem pth_steps : ∀ (f : Nat) (L T C a b : Int), sdB L T C = true → tB a b = true → (pth f L T C a b).2 = true →
    (∀ i, i < (pth f L T C a b).1.length / 3 → stB (wyL L (pth f L T C a b).1 i) (wyT T (pth f L T C a b).1 i) (wyC C (pth f L T C a b).1 i) (wyL L (pth f L T C a b).1 (i + 1)) (wyT T (pth f L T C a b).1 (i + 1)) (wyC C (pth f L T C a b).1 (i + 1))) ∧
    wyL L (pth f L T C a b).1 ((pth f L T C a b).1.length / 3) = a ∧ wyT T (pth f L T C a b).1 ((pth f L T C a b).1.length / 3) = b
  | 0, _, _, _, _, _, _, _, h => by cases h
  | f + 1, L, T, C, a, b, hv, hab, h => by
    have v := sdB_to.1 hv
    have w := tB_to.1 hab
    unfold pth at h ⊢
    by_cases h1 : L = a ∧ T = b
    · rw [if_pos h1]
      exact ⟨fun i hi => by simp at hi, h1.1, h1.2⟩
    · rw [if_neg h1] at h ⊢
      by_cases h2 : a ≤ L
      · rw [if_pos h2]
        by_cases h4 : C ≠ 3 ∧ min (L + 2) 10 = a ∧ 0 = b
        · rw [if_pos h4]
          refine ⟨fun i hi => ?_, by simp [wyL, h4.2.1], by simp [wyT, h4.2.2]⟩
          simp at hi
          obtain rfl : i = 0 := by omega
          exact .inl ⟨h4.1, rfl, rfl, rfl⟩
        · rw [if_neg h4]
          refine ⟨fun i hi => ?_, by simp [wyL], by simp [wyT]⟩
          simp at hi
          obtain rfl : i = 0 := by omega
          exact .inr ⟨w.1, h2, w.2.2.1, w.2.2.2, rfl⟩
      · rw [if_neg h2] at h ⊢
        by_cases h3 : C = 3
        · rw [if_pos h3] at h; cases h
        · rw [if_neg h3] at h ⊢
          by_cases h5 : (pth f (min (L + 2) 10) 0 (C + 1) a b).2 = true
          · rw [if_pos h5]
            obtain ⟨p1, p2, p3⟩ := pth_steps f (min (L + 2) 10) 0 (C + 1) a b (sdB_to.2 (by omega)) hab h5
            have hl : ([min (L + 2) 10, 0, C + 1] ++ (pth f (min (L + 2) 10) 0 (C + 1) a b).1).length / 3 = (pth f (min (L + 2) 10) 0 (C + 1) a b).1.length / 3 + 1 := by
              rw [List.length_append]; simp only [List.length_cons, List.length_nil]; omega
            have hq := fun i => q_cons (L := L) (T := T) (C := C) (x := min (L + 2) 10) (y := 0) (z := C + 1) (r := (pth f (min (L + 2) 10) 0 (C + 1) a b).1) i
            refine ⟨fun i hi => ?_, ?_, ?_⟩
            · show stB (wyL L ([min (L + 2) 10, 0, C + 1] ++ _) i) (wyT T ([min (L + 2) 10, 0, C + 1] ++ _) i) (wyC C ([min (L + 2) 10, 0, C + 1] ++ _) i) (wyL L ([min (L + 2) 10, 0, C + 1] ++ _) (i + 1)) (wyT T ([min (L + 2) 10, 0, C + 1] ++ _) (i + 1)) (wyC C ([min (L + 2) 10, 0, C + 1] ++ _) (i + 1))
              rw [(hq i).1, (hq i).2.1, (hq i).2.2]
              cases i with
              | zero => exact .inl ⟨h3, rfl, rfl, rfl⟩
              | succ i =>
                rw [(hq i).1, (hq i).2.1, (hq i).2.2]
                have hi' : i + 1 < ([min (L + 2) 10, 0, C + 1] ++ (pth f (min (L + 2) 10) 0 (C + 1) a b).1).length / 3 := hi
                exact p1 i (by omega)
            · show wyL L ([min (L + 2) 10, 0, C + 1] ++ _) (([min (L + 2) 10, 0, C + 1] ++ _ : List Int).length / 3) = a
              rw [hl, (hq _).1]; exact p2
            · show wyT T ([min (L + 2) 10, 0, C + 1] ++ _) (([min (L + 2) 10, 0, C + 1] ++ _ : List Int).length / 3) = b
              rw [hl, (hq _).2.1]; exact p3
          · rw [if_neg h5] at h; cases h
theorem blV_agg (L T C : Int) : ∃ x y z, blV L T C = .agg #[iv x, iv y, iv z] := by
  unfold blV
  split <;> exact ⟨_, _, _, rfl⟩
theorem dyV_agg (L T C l t : Int) : ∃ x y z, dyV L T C l t = .agg #[iv x, iv y, iv z] := by
  unfold dyV
  split <;> exact ⟨_, _, _, rfl⟩
set_option maxRecDepth 100000 in
set_option maxHeartbeats 8000000 in
theorem r_IsPath (L T C x y : Int) (l : List Int) (oa : Option Addr) (n c : Nat) (hl : l.length = n * 3) (hn : n ≤ 1000) (hv : sdB L T C = true) (hst : ∀ i, i < n → stB (wyL L l i) (wyT T l i) (wyC C l i) (wyL L l (i + 1)) (wyT T l (i + 1)) (wyC C l (i + 1)))
    (ha : wyL L l n = x) (hb : wyT T l n = y) (B : Nat) (w0 : World) (hs : HS) (hS : Sl B w0 hs oa l) :
    Fn Try.prog 24 #[shd L T C, iv x, iv y, .slice oa n c] B w0 hs (fun v h => v = .bool true ∧ h = hs) := by
  unfold shd
  refine fn_enter Try.func24 rfl Try.ntmps24 (by simp) ?_
  repeat' (first | ((with_reducible apply kRg 5); refine cD [1, 1, 1, 1, 1, 1, 1, 1, 1, 1, 1, 3, 1, 1, 0, 2, 3, 1] ?_) | (with_reducible first | refine c_seq ?_ | refine c_reg ?_ | refine c_region ?_ | refine c_block ?_ | refine c_skip ?_ | refine c_exit ?_ | refine c_ret ?_ | refine s_nil ?_ | refine x_then ?_ | refine x_then_exit ?_ | refine x_then_ret ?_ | refine x_block ?_ | refine x_block_ret ?_ | refine x_block_same ?_ | refine x_block_other (by rfl) ?_ | refine q_nil ?_ | refine k_nil ?_) | ((with_reducible apply kP (.makeFunc _ _ _)); refine sMF ?_) | ((with_reducible apply kG); first | refine gY1 ?_ | refine gN1 ?_ | refine gU1 ?_ | (refine gD1 (fun h => ?_) (fun h => ?_) <;> (try (exfalso; omega))) | refine gB1 (fun h => ?_) (fun h => ?_)) | ((with_reducible apply kN); first | refine stP ?_ | refine stI ?_ | refine st1 ?_ | refine stW ?_) | ((with_reducible apply kP (.alloc _)); refine sA (fun b => ?_)) | ((with_reducible apply kP (.box _ _)); first | refine sBA (fun b => ?_) | refine sB (fun b => ?_)) | ((with_reducible apply kP (.buildSlice _ 1 _)); first | refine sl1A (fun b => ?_) | refine sl1 (fun b => ?_)) | ((with_reducible apply kP (.buildSlice _ 2 _)); refine sl2 (fun b => ?_)) | ((with_reducible apply kP (.buildSlice _ 3 _)); refine sl3 (fun b => ?_)) | ((with_reducible apply kP (.buildSlice _ 4 _)); refine sl4 (fun b => ?_)) | ((with_reducible apply kP (.buildSlice _ 0 _)); refine s_bs0 (scTOf rfl) (zsTOf rfl) (by decide) (fun b => ?_)) | ((with_reducible apply kP (.makeSlice _ _ _)); refine sMk (fun b => ?_)) | ((with_reducible apply kP (.call ⟨.builtin .append, _, _⟩)); refine sAp (fun oa2 c2 blk2 hrow2 => ?_)) | ((with_reducible apply kP _); refine sP ?_) | ((with_reducible apply kP _); refine sX ?_) | ((with_reducible apply kQG); first | refine qY1 ?_ | refine qN1 ?_ | refine qU1 ?_ | (refine qD1 (fun h => ?_) (fun h => ?_) <;> (try (exfalso; omega))) | refine qB1 (fun h => ?_) (fun h => ?_)) | ((with_reducible apply kQP); refine qP ?_) | ((with_reducible apply kQP); refine qX ?_) | ((with_reducible apply kC); first | refine cT ?_ | refine cF ?_ | (refine cI (fun h => ?_) (fun h => ?_) <;> (try (exfalso; omega))) | refine cB (fun h => ?_) (fun h => ?_)) | ((with_reducible apply kR); refine cQ ?_) | ((with_reducible apply kDG); first | refine dY1 ?_ | refine dNo1 ?_ | refine dU1 ?_ | (refine dD1 (fun h => ?_) (fun h => ?_) <;> (try (exfalso; omega))) | refine dB1 (fun h => ?_) (fun h => ?_)) | ((with_reducible apply kDN); first | refine dtI ?_ | refine dt1 ?_ | refine dtW ?_) | ((with_reducible apply kDP (.alloc _)); refine dA (fun b => ?_)) | ((with_reducible apply kDP (.box _ _)); first | refine dBA (fun b => ?_) | refine dB (fun b => ?_)) | ((with_reducible apply kDP (.buildSlice _ 1 _)); first | refine dl1A (fun b => ?_) | refine dl1 (fun b => ?_)) | ((with_reducible apply kDP (.call ⟨.builtin .append, _, _⟩)); first | refine dAp3 (fun oa2 c2 blk2 hrow2 => ?_) (hS := SCt) | refine dAp4 (fun oa2 c2 blk2 hrow2 => ?_)) | ((with_reducible apply kDP _); refine dP ?_) | ((with_reducible apply kDP _); refine dX ?_))
  refine c_loop (fun i : Nat => [(1, iv x), (2, iv y), (3, .slice oa n c), (4, .pointer (some ⟨b, 0, none⟩)), (9, iv i)]) (fun i => (b, [iv (wyL L l i), iv (wyT T l i), iv (wyC C l i)]) :: hs) (fun i => i ≤ n ∧ sdB (wyL L l i) (wyT T l i) (wyC C l i) = true) (fun i => n - i) 0 ⟨Nat.zero_le _, hv⟩ (by repeat' first | trivial | rfl | apply And.intro) (.refl _) ?_
  rintro i ⟨hi, hvi⟩
  by_cases hi' : i < n
  · have hoa : oa.isSome = true := hS.any (i := i * 3) (by omega)
    have hsti := hst i hi'
    have hv2 := sdB_step hvi hsti
    have eX : wyL L l (i + 1) = l.getD (i * 3) 0 := by simp [wyL]
    have eY : wyT T l (i + 1) = l.getD (i * 3 + 1) 0 := by simp [wyT]
    have eZ : wyC C l (i + 1) = l.getD (i * 3 + 2) 0 := by simp [wyC]
    rw [eX, eY, eZ] at hsti hv2
    have kb := r_bleach (wyL L l i) (wyT T l i) (wyC C l i) B w0
    have ky := r_dye (wyL L l i) (wyT T l i) (wyC C l i) (l.getD (i * 3) 0) (l.getD (i * 3 + 1) 0) B w0
    generalize wyL L l i = L1 at *
    generalize wyT T l i = T1 at *
    generalize wyC C l i = C1 at *
    have hsd : sdB L1 T1 C1 = true := hvi
    clear hst eX eY eZ
    rcases hsti with ⟨h1, h2, h3, h4⟩ | ⟨h1, h2, h3, h4, h5⟩
    · have e3 : blV L1 T1 C1 = .agg #[iv (l.getD (i * 3) 0), iv (l.getD (i * 3 + 1) 0), iv (l.getD (i * 3 + 2) 0)] := by
        unfold blV
        rw [bl_ok hsd h1, if_pos rfl, ← h2, ← h3, ← h4]; rfl
      rw [e3, bl_ok hsd h1] at kb
      obtain ⟨x', y', z', e2⟩ := dyV_agg L1 T1 C1 (l.getD (i * 3) 0) (l.getD (i * 3 + 1) 0)
      rw [e2] at ky
      unfold shd at kb ky
      generalize dyE L1 T1 C1 (l.getD (i * 3) 0) (l.getD (i * 3 + 1) 0) = e at ky
      clear e2
      repeat' (first | ((with_reducible apply kP (.load 23 _)); refine sP ?_ (o_load rfl (ld_3S (shTOf rfl) (by assumption) SBt (by omega)))) | ((with_reducible apply kDP (.load 23 _)); refine dP ?_ (hX := rfl) (hv := o_load rfl (ld_3S (shTOf rfl) (by assumption) SBt (by omega)))) | ((with_reducible apply kQO (.load 23 _)); refine qP ?_ (o_load rfl (ld_3S (shTOf rfl) (by assumption) SBt (by omega)))) | ((with_reducible apply kP (.fieldAddr _ _ _)); refine sP ?_ (o_fieldE rfl (by assumption) (foTOf2 rfl rfl) (by with_reducible first | exact bb0 _ | exact bb1 _ | exact bb2 _ _))) | ((with_reducible apply kDP (.fieldAddr _ _ _)); refine dP ?_ (hX := rfl) (hv := o_fieldE rfl (by assumption) (foTOf2 rfl rfl) (by with_reducible first | exact bb0 _ | exact bb1 _ | exact bb2 _ _))) | ((with_reducible apply kQO (.fieldAddr _ _ _)); refine qP ?_ (o_fieldE rfl (by assumption) (foTOf2 rfl rfl) (by with_reducible first | exact bb0 _ | exact bb1 _ | exact bb2 _ _))) | ((with_reducible apply kP (.load 3 _)); refine sP ?_ (o_load rfl (ld_one (shTOf rfl) (Sl.at (by assumption) SBt (by omega))))) | ((with_reducible apply kDP (.load 3 _)); refine dP ?_ (hX := rfl) (hv := o_load rfl (ld_one (shTOf rfl) (Sl.at (by assumption) SBt (by omega))))) | ((with_reducible apply kQO (.load 3 _)); refine qP ?_ (o_load rfl (ld_one (shTOf rfl) (Sl.at (by assumption) SBt (by omega))))) | ((with_reducible apply kF 15); refine sC 15 (kb _) ?_) | ((with_reducible apply kDF 17); refine dC 17 (fun F => ky _) ?_) | ((with_reducible apply kRg 5); refine cD [1, 1, 1, 1, 1, 1, 1, 1, 1, 1, 1, 3, 1, 1, 0, 2, 3, 1] ?_) | (with_reducible first | refine c_seq ?_ | refine c_reg ?_ | refine c_region ?_ | refine c_block ?_ | refine c_skip ?_ | refine c_exit ?_ | refine c_ret ?_ | refine s_nil ?_ | refine x_then ?_ | refine x_then_exit ?_ | refine x_then_ret ?_ | refine x_block ?_ | refine x_block_ret ?_ | refine x_block_same ?_ | refine x_block_other (by rfl) ?_ | refine q_nil ?_ | refine k_nil ?_) | ((with_reducible apply kP (.makeFunc _ _ _)); refine sMF ?_) | ((with_reducible apply kG); first | refine gY1 ?_ | refine gN1 ?_ | refine gU1 ?_ | (refine gD1 (fun h => ?_) (fun h => ?_) <;> (try (exfalso; omega))) | refine gB1 (fun h => ?_) (fun h => ?_)) | ((with_reducible apply kN); first | refine stP ?_ | refine stI ?_ | refine st1 ?_ | refine stW ?_) | ((with_reducible apply kP (.alloc _)); refine sA (fun b => ?_)) | ((with_reducible apply kP (.box _ _)); first | refine sBA (fun b => ?_) | refine sB (fun b => ?_)) | ((with_reducible apply kP (.buildSlice _ 1 _)); first | refine sl1A (fun b => ?_) | refine sl1 (fun b => ?_)) | ((with_reducible apply kP (.buildSlice _ 2 _)); refine sl2 (fun b => ?_)) | ((with_reducible apply kP (.buildSlice _ 3 _)); refine sl3 (fun b => ?_)) | ((with_reducible apply kP (.buildSlice _ 4 _)); refine sl4 (fun b => ?_)) | ((with_reducible apply kP (.buildSlice _ 0 _)); refine s_bs0 (scTOf rfl) (zsTOf rfl) (by decide) (fun b => ?_)) | ((with_reducible apply kP (.makeSlice _ _ _)); refine sMk (fun b => ?_)) | ((with_reducible apply kP (.call ⟨.builtin .append, _, _⟩)); refine sAp (fun oa2 c2 blk2 hrow2 => ?_)) | ((with_reducible apply kP _); refine sP ?_) | ((with_reducible apply kP _); refine sX ?_) | ((with_reducible apply kQG); first | refine qY1 ?_ | refine qN1 ?_ | refine qU1 ?_ | (refine qD1 (fun h => ?_) (fun h => ?_) <;> (try (exfalso; omega))) | refine qB1 (fun h => ?_) (fun h => ?_)) | ((with_reducible apply kQP); refine qP ?_) | ((with_reducible apply kQP); refine qX ?_) | ((with_reducible apply kC); first | refine cT ?_ | refine cF ?_ | (refine cI (fun h => ?_) (fun h => ?_) <;> (try (exfalso; omega))) | refine cB (fun h => ?_) (fun h => ?_)) | ((with_reducible apply kR); refine cQ ?_) | ((with_reducible apply kDG); first | refine dY1 ?_ | refine dNo1 ?_ | refine dU1 ?_ | (refine dD1 (fun h => ?_) (fun h => ?_) <;> (try (exfalso; omega))) | refine dB1 (fun h => ?_) (fun h => ?_)) | ((with_reducible apply kDN); first | refine dtI ?_ | refine dt1 ?_ | refine dtW ?_) | ((with_reducible apply kDP (.alloc _)); refine dA (fun b => ?_)) | ((with_reducible apply kDP (.box _ _)); first | refine dBA (fun b => ?_) | refine dB (fun b => ?_)) | ((with_reducible apply kDP (.buildSlice _ 1 _)); first | refine dl1A (fun b => ?_) | refine dl1 (fun b => ?_)) | ((with_reducible apply kDP (.call ⟨.builtin .append, _, _⟩)); first | refine dAp3 (fun oa2 c2 blk2 hrow2 => ?_) (hS := SCt) | refine dAp4 (fun oa2 c2 blk2 hrow2 => ?_)) | ((with_reducible apply kDP _); refine dP ?_) | ((with_reducible apply kDP _); refine dX ?_))
      all_goals first
        | exact r_end (i + 1) ⟨hi', by simp only [wyL, wyT, wyC, Nat.add_sub_cancel, if_neg (Nat.succ_ne_zero _)]; exact hv2⟩ (by omega) (by repeat' first | trivial | rfl | apply And.intro) (by simp only [wyL, wyT, wyC, Nat.add_sub_cancel, if_neg (Nat.succ_ne_zero _)]; exact SCt)
        | exact absurd rfl ‹¬ _ = _›
        | exact absurd ⟨rfl, rfl, rfl⟩ ‹¬ (_ ∧ _)›
        | (exfalso; omega)
        | trace_state
    · have hd := dy_ok (L := L1) (T := T1) (C := C1) (l := l.getD (i * 3) 0) (t := l.getD (i * 3 + 1) 0) hsd (tB_to.2 (by have := sdB_to.1 hsd; omega)) h2
      have e3 : dyV L1 T1 C1 (l.getD (i * 3) 0) (l.getD (i * 3 + 1) 0) = .agg #[iv (l.getD (i * 3) 0), iv (l.getD (i * 3 + 1) 0), iv (l.getD (i * 3 + 2) 0)] := by
        unfold dyV
        rw [hd, if_pos rfl, ← h5]; rfl
      rw [e3, hd] at ky
      obtain ⟨x', y', z', e2⟩ := blV_agg L1 T1 C1
      rw [e2] at kb
      unfold shd at kb ky
      generalize blE L1 T1 C1 = e at kb
      clear e2 hd
      repeat' (first | ((with_reducible apply kP (.load 23 _)); refine sP ?_ (o_load rfl (ld_3S (shTOf rfl) (by assumption) SBt (by omega)))) | ((with_reducible apply kDP (.load 23 _)); refine dP ?_ (hX := rfl) (hv := o_load rfl (ld_3S (shTOf rfl) (by assumption) SBt (by omega)))) | ((with_reducible apply kQO (.load 23 _)); refine qP ?_ (o_load rfl (ld_3S (shTOf rfl) (by assumption) SBt (by omega)))) | ((with_reducible apply kP (.fieldAddr _ _ _)); refine sP ?_ (o_fieldE rfl (by assumption) (foTOf2 rfl rfl) (by with_reducible first | exact bb0 _ | exact bb1 _ | exact bb2 _ _))) | ((with_reducible apply kDP (.fieldAddr _ _ _)); refine dP ?_ (hX := rfl) (hv := o_fieldE rfl (by assumption) (foTOf2 rfl rfl) (by with_reducible first | exact bb0 _ | exact bb1 _ | exact bb2 _ _))) | ((with_reducible apply kQO (.fieldAddr _ _ _)); refine qP ?_ (o_fieldE rfl (by assumption) (foTOf2 rfl rfl) (by with_reducible first | exact bb0 _ | exact bb1 _ | exact bb2 _ _))) | ((with_reducible apply kP (.load 3 _)); refine sP ?_ (o_load rfl (ld_one (shTOf rfl) (Sl.at (by assumption) SBt (by omega))))) | ((with_reducible apply kDP (.load 3 _)); refine dP ?_ (hX := rfl) (hv := o_load rfl (ld_one (shTOf rfl) (Sl.at (by assumption) SBt (by omega))))) | ((with_reducible apply kQO (.load 3 _)); refine qP ?_ (o_load rfl (ld_one (shTOf rfl) (Sl.at (by assumption) SBt (by omega))))) | ((with_reducible apply kF 15); refine sC 15 (kb _) ?_) | ((with_reducible apply kDF 17); refine dC 17 (fun F => ky _) ?_) | ((with_reducible apply kRg 5); refine cD [1, 1, 1, 1, 1, 1, 1, 1, 1, 1, 1, 3, 1, 1, 0, 2, 3, 1] ?_) | (with_reducible first | refine c_seq ?_ | refine c_reg ?_ | refine c_region ?_ | refine c_block ?_ | refine c_skip ?_ | refine c_exit ?_ | refine c_ret ?_ | refine s_nil ?_ | refine x_then ?_ | refine x_then_exit ?_ | refine x_then_ret ?_ | refine x_block ?_ | refine x_block_ret ?_ | refine x_block_same ?_ | refine x_block_other (by rfl) ?_ | refine q_nil ?_ | refine k_nil ?_) | ((with_reducible apply kP (.makeFunc _ _ _)); refine sMF ?_) | ((with_reducible apply kG); first | refine gY1 ?_ | refine gN1 ?_ | refine gU1 ?_ | (refine gD1 (fun h => ?_) (fun h => ?_) <;> (try (exfalso; omega))) | refine gB1 (fun h => ?_) (fun h => ?_)) | ((with_reducible apply kN); first | refine stP ?_ | refine stI ?_ | refine st1 ?_ | refine stW ?_) | ((with_reducible apply kP (.alloc _)); refine sA (fun b => ?_)) | ((with_reducible apply kP (.box _ _)); first | refine sBA (fun b => ?_) | refine sB (fun b => ?_)) | ((with_reducible apply kP (.buildSlice _ 1 _)); first | refine sl1A (fun b => ?_) | refine sl1 (fun b => ?_)) | ((with_reducible apply kP (.buildSlice _ 2 _)); refine sl2 (fun b => ?_)) | ((with_reducible apply kP (.buildSlice _ 3 _)); refine sl3 (fun b => ?_)) | ((with_reducible apply kP (.buildSlice _ 4 _)); refine sl4 (fun b => ?_)) | ((with_reducible apply kP (.buildSlice _ 0 _)); refine s_bs0 (scTOf rfl) (zsTOf rfl) (by decide) (fun b => ?_)) | ((with_reducible apply kP (.makeSlice _ _ _)); refine sMk (fun b => ?_)) | ((with_reducible apply kP (.call ⟨.builtin .append, _, _⟩)); refine sAp (fun oa2 c2 blk2 hrow2 => ?_)) | ((with_reducible apply kP _); refine sP ?_) | ((with_reducible apply kP _); refine sX ?_) | ((with_reducible apply kQG); first | refine qY1 ?_ | refine qN1 ?_ | refine qU1 ?_ | (refine qD1 (fun h => ?_) (fun h => ?_) <;> (try (exfalso; omega))) | refine qB1 (fun h => ?_) (fun h => ?_)) | ((with_reducible apply kQP); refine qP ?_) | ((with_reducible apply kQP); refine qX ?_) | ((with_reducible apply kC); first | refine cT ?_ | refine cF ?_ | (refine cI (fun h => ?_) (fun h => ?_) <;> (try (exfalso; omega))) | refine cB (fun h => ?_) (fun h => ?_)) | ((with_reducible apply kR); refine cQ ?_) | ((with_reducible apply kDG); first | refine dY1 ?_ | refine dNo1 ?_ | refine dU1 ?_ | (refine dD1 (fun h => ?_) (fun h => ?_) <;> (try (exfalso; omega))) | refine dB1 (fun h => ?_) (fun h => ?_)) | ((with_reducible apply kDN); first | refine dtI ?_ | refine dt1 ?_ | refine dtW ?_) | ((with_reducible apply kDP (.alloc _)); refine dA (fun b => ?_)) | ((with_reducible apply kDP (.box _ _)); first | refine dBA (fun b => ?_) | refine dB (fun b => ?_)) | ((with_reducible apply kDP (.buildSlice _ 1 _)); first | refine dl1A (fun b => ?_) | refine dl1 (fun b => ?_)) | ((with_reducible apply kDP (.call ⟨.builtin .append, _, _⟩)); first | refine dAp3 (fun oa2 c2 blk2 hrow2 => ?_) (hS := SCt) | refine dAp4 (fun oa2 c2 blk2 hrow2 => ?_)) | ((with_reducible apply kDP _); refine dP ?_) | ((with_reducible apply kDP _); refine dX ?_))
      all_goals first
        | exact r_end (i + 1) ⟨hi', by simp only [wyL, wyT, wyC, Nat.add_sub_cancel, if_neg (Nat.succ_ne_zero _)]; exact hv2⟩ (by omega) (by repeat' first | trivial | rfl | apply And.intro) (by simp only [wyL, wyT, wyC, Nat.add_sub_cancel, if_neg (Nat.succ_ne_zero _)]; exact SCt)
        | exact absurd rfl ‹¬ _ = _›
        | exact absurd ⟨rfl, rfl, rfl⟩ ‹¬ (_ ∧ _)›
        | (exfalso; omega)
        | trace_state
  · obtain rfl : n = i := by omega
    rw [ha, hb]
    repeat' (first | ((with_reducible apply kRg 5); refine cD [1, 1, 1, 1, 1, 1, 1, 1, 1, 1, 1, 3, 1, 1, 0, 2, 3, 1] ?_) | (with_reducible first | refine c_seq ?_ | refine c_reg ?_ | refine c_region ?_ | refine c_block ?_ | refine c_skip ?_ | refine c_exit ?_ | refine c_ret ?_ | refine s_nil ?_ | refine x_then ?_ | refine x_then_exit ?_ | refine x_then_ret ?_ | refine x_block ?_ | refine x_block_ret ?_ | refine x_block_same ?_ | refine x_block_other (by rfl) ?_ | refine q_nil ?_ | refine k_nil ?_) | ((with_reducible apply kP (.makeFunc _ _ _)); refine sMF ?_) | ((with_reducible apply kG); first | refine gY1 ?_ | refine gN1 ?_ | refine gU1 ?_ | (refine gD1 (fun h => ?_) (fun h => ?_) <;> (try (exfalso; omega))) | refine gB1 (fun h => ?_) (fun h => ?_)) | ((with_reducible apply kN); first | refine stP ?_ | refine stI ?_ | refine st1 ?_ | refine stW ?_) | ((with_reducible apply kP (.alloc _)); refine sA (fun b => ?_)) | ((with_reducible apply kP (.box _ _)); first | refine sBA (fun b => ?_) | refine sB (fun b => ?_)) | ((with_reducible apply kP (.buildSlice _ 1 _)); first | refine sl1A (fun b => ?_) | refine sl1 (fun b => ?_)) | ((with_reducible apply kP (.buildSlice _ 2 _)); refine sl2 (fun b => ?_)) | ((with_reducible apply kP (.buildSlice _ 3 _)); refine sl3 (fun b => ?_)) | ((with_reducible apply kP (.buildSlice _ 4 _)); refine sl4 (fun b => ?_)) | ((with_reducible apply kP (.buildSlice _ 0 _)); refine s_bs0 (scTOf rfl) (zsTOf rfl) (by decide) (fun b => ?_)) | ((with_reducible apply kP (.makeSlice _ _ _)); refine sMk (fun b => ?_)) | ((with_reducible apply kP (.call ⟨.builtin .append, _, _⟩)); refine sAp (fun oa2 c2 blk2 hrow2 => ?_)) | ((with_reducible apply kP _); refine sP ?_) | ((with_reducible apply kP _); refine sX ?_) | ((with_reducible apply kQG); first | refine qY1 ?_ | refine qN1 ?_ | refine qU1 ?_ | (refine qD1 (fun h => ?_) (fun h => ?_) <;> (try (exfalso; omega))) | refine qB1 (fun h => ?_) (fun h => ?_)) | ((with_reducible apply kQP); refine qP ?_) | ((with_reducible apply kQP); refine qX ?_) | ((with_reducible apply kC); first | refine cT ?_ | refine cF ?_ | (refine cI (fun h => ?_) (fun h => ?_) <;> (try (exfalso; omega))) | refine cB (fun h => ?_) (fun h => ?_)) | ((with_reducible apply kR); refine cQ ?_) | ((with_reducible apply kDG); first | refine dY1 ?_ | refine dNo1 ?_ | refine dU1 ?_ | (refine dD1 (fun h => ?_) (fun h => ?_) <;> (try (exfalso; omega))) | refine dB1 (fun h => ?_) (fun h => ?_)) | ((with_reducible apply kDN); first | refine dtI ?_ | refine dt1 ?_ | refine dtW ?_) | ((with_reducible apply kDP (.alloc _)); refine dA (fun b => ?_)) | ((with_reducible apply kDP (.box _ _)); first | refine dBA (fun b => ?_) | refine dB (fun b => ?_)) | ((with_reducible apply kDP (.buildSlice _ 1 _)); first | refine dl1A (fun b => ?_) | refine dl1 (fun b => ?_)) | ((with_reducible apply kDP (.call ⟨.builtin .append, _, _⟩)); first | refine dAp3 (fun oa2 c2 blk2 hrow2 => ?_) (hS := SCt) | refine dAp4 (fun oa2 c2 blk2 hrow2 => ?_)) | ((with_reducible apply kDP _); refine dP ?_) | ((with_reducible apply kDP _); refine dX ?_))
    all_goals first
      | exact e_ret1 rfl rfl ⟨congrArg Value.bool (decide_eq_true rfl), rfl⟩ SCt
      | exact absurd rfl ‹¬ _ = _›
end Go.Proofs.Ytbplmoidgobcpaa
