/- Digits, Words, Number of the reference. -/
import Derived.Test.YtmblgbcipniecaaGreatDoorMX3
import Derived.Test.YtmblgbcipniecaaGreatDoorMX5
namespace Go.Proofs.YtmblgbcipniecaaGreatDoor
open Go.RowKit
attribute [local irreducible] OpF Ld CellAt Sl Sv
theorem dig_tab : ∀ u : Nat, u < 10 → ((([48, 49, 50, 51, 52, 53, 54, 55, 56, 57] : List UInt8).drop u).take (u + 1 - u)) = [UInt8.ofNat (48 + u)] := by decide
theorem dec_small {u : Nat} (h : u < 10) : ((([48, 49, 50, 51, 52, 53, 54, 55, 56, 57] : List UInt8).drop u).take (u + 1 - u)) = Go.Lib.decDigits u := by
  rw [dig_tab u h, dec_step, if_pos h]
theorem dec_big {u : Nat} (h : ¬ u < 10) : Go.Lib.decDigits (u / 10) ++ Go.Lib.decDigits (u % 10) = Go.Lib.decDigits u := by
  rw [dec_step u, if_neg h, dec_step (u % 10), if_pos (Nat.mod_lt _ (by omega))]
set_option maxRecDepth 100000 in
set_option maxHeartbeats 8000000 in
theorem x_Digits : ∀ (u : Nat), u < 9223372036854775807 → ∀ (B : Nat) (w0 : Wd) (hs : HS), Fn Tryz.prog 37 #[iv u] B w0 hs (fun v h => v = sv (Go.Lib.decDigits u) ∧ h = hs) := by
  intro u
  induction u using Nat.strongRecOn with
  | _ u ih =>
    intro hu B w0 hs
    by_cases h10 : u < 10
    · have e := dec_small h10
      refine fn_enter Tryz.func37 rfl Tryz.ntmps37 (by simp) ?_
      repeat' (first | ((with_reducible apply kP (.slice _ _ (some _) (some _) none)); refine sP ?_ (o_sSub (a := [48, 49, 50, 51, 52, 53, 54, 55, 56, 57]) (j := u) (j2 := u + 1) uStr rfl rfl rfl rfl (by omega) (by omega) (by simp only [List.length_cons, List.length_nil]; omega))) | ((with_reducible apply kDP (.slice _ _ (some _) (some _) none)); refine dP ?_ (hX := rfl) (hv := o_sSub (a := [48, 49, 50, 51, 52, 53, 54, 55, 56, 57]) (j := u) (j2 := u + 1) uStr rfl rfl rfl rfl (by omega) (by omega) (by simp only [List.length_cons, List.length_nil]; omega))) | ((with_reducible apply kQO (.slice _ _ (some _) (some _) none)); refine qP ?_ (o_sSub (a := [48, 49, 50, 51, 52, 53, 54, 55, 56, 57]) (j := u) (j2 := u + 1) uStr rfl rfl rfl rfl (by omega) (by omega) (by simp only [List.length_cons, List.length_nil]; omega))) | (with_reducible first | refine c_seq ?_ | refine c_reg ?_ | refine c_region ?_ | refine c_block ?_ | refine c_skip ?_ | refine c_exit ?_ | refine c_ret ?_ | refine s_nil ?_ | refine x_then ?_ | refine x_then_exit ?_ | refine x_then_ret ?_ | refine x_block ?_ | refine x_block_ret ?_ | refine x_block_same ?_ | refine x_block_other (by first | rfl | decide) ?_ | refine q_nil ?_ | refine k_nil ?_) | ((with_reducible apply kP _); refine sP ?_) | ((with_reducible apply kP _); refine sX ?_) | ((with_reducible apply kC); first | refine cT ?_ | refine cF ?_ | (refine cI (fun h => ?_) (fun h => ?_) <;> (try (exfalso; omega))) | refine cB (fun h => ?_) (fun h => ?_)))
      all_goals try (exfalso; omega)
      rw [e]
      exact e_ret1 rfl rfl ⟨rfl, rfl⟩ (.refl _)
    · have e := dec_big h10
      have kq := ih (u / 10) (by omega) (by omega) B w0
      have kr := ih (u % 10) (by have := Nat.mod_lt u (show 0 < 10 by omega); omega) (by have := Nat.mod_lt u (show 0 < 10 by omega); omega) B w0
      have eq : ((u / 10 : Nat) : Int) = (u : Int) / 10 := by omega
      have er : ((u % 10 : Nat) : Int) = (u : Int) % 10 := by omega
      rw [eq] at kq
      rw [er] at kr
      have l1 := dec_len 18 (u / 10) (by omega)
      have l2 := dec_len 18 (u % 10) (by omega)
      refine fn_enter Tryz.func37 rfl Tryz.ntmps37 (by simp) ?_
      repeat' (first | ((with_reducible apply kF 37); refine sC 37 (kq _) ?_) | ((with_reducible apply kF 37); refine sC 37 (kr _) ?_) | ((with_reducible apply kP (.binOp .add _ _ _ _)); refine sP ?_ (o_sAdd rfl rfl (by omega))) | ((with_reducible apply kDP (.binOp .add _ _ _ _)); refine dP ?_ (hX := rfl) (hv := o_sAdd rfl rfl (by omega))) | ((with_reducible apply kQO (.binOp .add _ _ _ _)); refine qP ?_ (o_sAdd rfl rfl (by omega))) | (with_reducible first | refine c_seq ?_ | refine c_reg ?_ | refine c_region ?_ | refine c_block ?_ | refine c_skip ?_ | refine c_exit ?_ | refine c_ret ?_ | refine s_nil ?_ | refine x_then ?_ | refine x_then_exit ?_ | refine x_then_ret ?_ | refine x_block ?_ | refine x_block_ret ?_ | refine x_block_same ?_ | refine x_block_other (by first | rfl | decide) ?_ | refine q_nil ?_ | refine k_nil ?_) | ((with_reducible apply kP _); refine sP ?_) | ((with_reducible apply kP _); refine sX ?_) | ((with_reducible apply kC); first | refine cT ?_ | refine cF ?_ | (refine cI (fun h => ?_) (fun h => ?_) <;> (try (exfalso; omega))) | refine cB (fun h => ?_) (fun h => ?_)))
      all_goals try (exfalso; omega)
      rw [e]
      exact e_ret1 rfl rfl ⟨rfl, rfl⟩ (.refl _)
structure WdI where
  i : Nat
  fr : Nat
  ws : List (List UInt8)
  oa : Option Addr
  c : Nat
  blk : HS
set_option maxRecDepth 100000 in
set_option maxHeartbeats 8000000 in
theorem x_Words (l : List UInt8) (c : UInt8) (hl : l.length ≤ 100000) (B : Nat) (w0 : Wd) (hs : HS) : Fn Tryz.prog 19 #[sv l, .int .u8 (c.toNat : Nat)] B w0 hs (fun v h => ∃ blk, (∃ oa k, RowOk oa k 1 (svs (wds c l)) blk ∧ v = .slice oa (wds c l).length k) ∧ h = blk ++ hs) := by
  refine fn_enter Tryz.func19 rfl Tryz.ntmps19 (by simp) ?_
  repeat' (first | (with_reducible first | refine c_seq ?_ | refine c_reg ?_ | refine c_region ?_ | refine c_block ?_ | refine c_skip ?_ | refine c_exit ?_ | refine c_ret ?_ | refine s_nil ?_ | refine x_then ?_ | refine x_then_exit ?_ | refine x_then_ret ?_ | refine x_block ?_ | refine x_block_ret ?_ | refine x_block_same ?_ | refine x_block_other (by first | rfl | decide) ?_ | refine q_nil ?_ | refine k_nil ?_) | ((with_reducible apply kP (.buildSlice _ 1 _)); first | refine sl1A (fun b => ?_) | refine sl1 (fun b => ?_)) | ((with_reducible apply kP (.call ⟨.builtin .append, _, _⟩)); refine sAp (fun oa2 c2 blk2 hrow2 => ?_)) | ((with_reducible apply kP _); refine sP ?_) | ((with_reducible apply kP _); refine sX ?_) | ((with_reducible apply kC); first | refine cT ?_ | refine cF ?_ | (refine cI (fun h => ?_) (fun h => ?_) <;> (try (exfalso; omega))) | refine cB (fun h => ?_) (fun h => ?_)))
  refine c_loop (fun t : WdI => [(0, sv l), (1, .int .u8 (c.toNat : Nat)), (5, .slice t.oa t.ws.length t.c), (6, iv t.fr), (7, iv t.i)])
    (fun t : WdI => t.blk ++ hs)
    (fun t => t.i ≤ l.length ∧ t.fr ≤ t.i ∧ t.ws.length ≤ t.i ∧ RowOk t.oa t.c 1 (svs t.ws) t.blk ∧ wds c l = t.ws ++ wds c (l.drop t.fr) ∧ c ∉ (l.drop t.fr).take (t.i - t.fr)) (fun t => l.length - t.i) ⟨0, 0, [], none, 0, []⟩ ⟨Nat.zero_le _, Nat.le_refl _, Nat.le_refl _, RowOk.nil, rfl, by simp⟩ (by repeat' first | trivial | rfl | apply And.intro) (.refl _) ?_
  rintro ⟨i, f, ws, oa, k, blk⟩ ⟨hi, hf, hwl, hr, hw, hc⟩
  dsimp only at hi hf hwl hr hw hc ⊢
  have hkw : (svs ws).length = ws.length * 1 := by rw [svs_length, Nat.mul_one]
  by_cases hi' : i < l.length
  · have hst : (l.drop f).take (i + 1 - f) = (l.drop f).take (i - f) ++ [l.getD i 0] := by
      rw [show i + 1 - f = (i - f) + 1 by omega, List.take_succ_eq_append_getElem (by rw [List.length_drop]; omega)]
      congr 2
      rw [List.getElem_drop, List.getD_eq_getElem?_getD, List.getElem?_eq_getElem hi']
      simp only [show f + (i - f) = i by omega]
      rfl
    by_cases hcc : l.getD i 0 = c
    · have hcut : l.drop f = (l.drop f).take (i - f) ++ c :: l.drop (i + 1) := by
        have h1 := List.take_append_drop (i + 1 - f) (l.drop f)
        rw [hst, List.drop_drop, hcc, show f + (i + 1 - f) = i + 1 by omega, List.append_assoc] at h1
        exact h1.symm
      have hw2 : wds c l = (ws ++ [(l.drop f).take (i - f)]) ++ wds c (l.drop (i + 1)) := by
        have h1 := wds_app (c := c) (w := (l.drop f).take (i - f)) (l.drop (i + 1)) hc
        rw [← hcut] at h1
        rw [hw, h1, List.append_assoc]
        rfl
      repeat' (first | ((with_reducible apply kP (.index _ _ _)); refine sP ?_ (o_sIdx uStr rfl rfl rfl hi')) | ((with_reducible apply kDP (.index _ _ _)); refine dP ?_ (hX := rfl) (hv := o_sIdx uStr rfl rfl rfl hi')) | ((with_reducible apply kQO (.index _ _ _)); refine qP ?_ (o_sIdx uStr rfl rfl rfl hi')) | ((with_reducible apply kP (.slice _ _ (some _) (some _) none)); refine sP ?_ (o_sSub (j := f) (j2 := i) uStr rfl rfl rfl rfl rfl hf hi)) | ((with_reducible apply kDP (.slice _ _ (some _) (some _) none)); refine dP ?_ (hX := rfl) (hv := o_sSub (j := f) (j2 := i) uStr rfl rfl rfl rfl rfl hf hi)) | ((with_reducible apply kQO (.slice _ _ (some _) (some _) none)); refine qP ?_ (o_sSub (j := f) (j2 := i) uStr rfl rfl rfl rfl rfl hf hi)) | ((with_reducible apply kP (.call ⟨.builtin .len, _, _⟩)); refine sP ?_ (o_sLen uStr rfl)) | ((with_reducible apply kDP (.call ⟨.builtin .len, _, _⟩)); refine dP ?_ (hX := rfl) (hv := o_sLen uStr rfl)) | ((with_reducible apply kQO (.call ⟨.builtin .len, _, _⟩)); refine qP ?_ (o_sLen uStr rfl)) | ((with_reducible apply kP (.binOp .eql 5 _ _ _)); refine sP ?_ (o_bEql rfl rfl)) | ((with_reducible apply kDP (.binOp .eql 5 _ _ _)); refine dP ?_ (hX := rfl) (hv := o_bEql rfl rfl)) | ((with_reducible apply kQO (.binOp .eql 5 _ _ _)); refine qP ?_ (o_bEql rfl rfl)) | ((with_reducible apply kP (.call ⟨.builtin .append, _, _⟩)); refine sAp (fun oa5 c5 k5 hr5 => ?_) (hr := hr) (hk := hkw) (hf := flat1 rfl)) | (with_reducible first | refine c_seq ?_ | refine c_reg ?_ | refine c_region ?_ | refine c_block ?_ | refine c_skip ?_ | refine c_exit ?_ | refine c_ret ?_ | refine s_nil ?_ | refine x_then ?_ | refine x_then_exit ?_ | refine x_then_ret ?_ | refine x_block ?_ | refine x_block_ret ?_ | refine x_block_same ?_ | refine x_block_other (by first | rfl | decide) ?_ | refine q_nil ?_ | refine k_nil ?_) | ((with_reducible apply kP (.buildSlice _ 1 _)); first | refine sl1A (fun b => ?_) | refine sl1 (fun b => ?_)) | ((with_reducible apply kP (.call ⟨.builtin .append, _, _⟩)); refine sAp (fun oa2 c2 blk2 hrow2 => ?_)) | ((with_reducible apply kP _); refine sP ?_) | ((with_reducible apply kP _); refine sX ?_) | ((with_reducible apply kC); first | refine cT ?_ | refine cF ?_ | (refine cI (fun h => ?_) (fun h => ?_) <;> (try (exfalso; omega))) | refine cB (fun h => ?_) (fun h => ?_)))
      all_goals try (exfalso; omega)
      rotate_left
      · exfalso
        rename_i h
        exact h (by rw [hcc])
      have hr5' : RowOk oa5 c5 1 (svs (ws ++ [(l.drop f).take (i - f)])) k5 := by rw [← svs_snoc]; exact hr5
      refine r_end (⟨i + 1, i + 1, ws ++ [(l.drop f).take (i - f)], oa5, c5, k5⟩ : WdI) ⟨hi', Nat.le_refl _, by rw [List.length_append]; simp only [List.length_cons, List.length_nil]; omega, hr5', hw2, by simp⟩ (by dsimp only; omega) ?_ ?_
      · have e1 : (ws ++ [(l.drop f).take (i - f)]).length = ws.length + 1 := by rw [List.length_append]; rfl
        dsimp only
        rw [e1]
        (repeat' first | trivial | rfl | apply And.intro)
      · exact .append (.refl _) (.cons _ (.refl _))
    · repeat' (first | ((with_reducible apply kP (.index _ _ _)); refine sP ?_ (o_sIdx uStr rfl rfl rfl hi')) | ((with_reducible apply kDP (.index _ _ _)); refine dP ?_ (hX := rfl) (hv := o_sIdx uStr rfl rfl rfl hi')) | ((with_reducible apply kQO (.index _ _ _)); refine qP ?_ (o_sIdx uStr rfl rfl rfl hi')) | ((with_reducible apply kP (.call ⟨.builtin .len, _, _⟩)); refine sP ?_ (o_sLen uStr rfl)) | ((with_reducible apply kDP (.call ⟨.builtin .len, _, _⟩)); refine dP ?_ (hX := rfl) (hv := o_sLen uStr rfl)) | ((with_reducible apply kQO (.call ⟨.builtin .len, _, _⟩)); refine qP ?_ (o_sLen uStr rfl)) | ((with_reducible apply kP (.binOp .eql 5 _ _ _)); refine sP ?_ (o_bEql rfl rfl)) | ((with_reducible apply kDP (.binOp .eql 5 _ _ _)); refine dP ?_ (hX := rfl) (hv := o_bEql rfl rfl)) | ((with_reducible apply kQO (.binOp .eql 5 _ _ _)); refine qP ?_ (o_bEql rfl rfl)) | (with_reducible first | refine c_seq ?_ | refine c_reg ?_ | refine c_region ?_ | refine c_block ?_ | refine c_skip ?_ | refine c_exit ?_ | refine c_ret ?_ | refine s_nil ?_ | refine x_then ?_ | refine x_then_exit ?_ | refine x_then_ret ?_ | refine x_block ?_ | refine x_block_ret ?_ | refine x_block_same ?_ | refine x_block_other (by first | rfl | decide) ?_ | refine q_nil ?_ | refine k_nil ?_) | ((with_reducible apply kP (.buildSlice _ 1 _)); first | refine sl1A (fun b => ?_) | refine sl1 (fun b => ?_)) | ((with_reducible apply kP (.call ⟨.builtin .append, _, _⟩)); refine sAp (fun oa2 c2 blk2 hrow2 => ?_)) | ((with_reducible apply kP _); refine sP ?_) | ((with_reducible apply kP _); refine sX ?_) | ((with_reducible apply kC); first | refine cT ?_ | refine cF ?_ | (refine cI (fun h => ?_) (fun h => ?_) <;> (try (exfalso; omega))) | refine cB (fun h => ?_) (fun h => ?_)))
      all_goals try (exfalso; omega)
      · exfalso
        rename_i h
        exact hcc (UInt8.toNat_inj.1 (by omega))
      refine r_end (⟨i + 1, f, ws, oa, k, blk⟩ : WdI) ⟨hi', by dsimp only; omega, by dsimp only; omega, hr, hw, ?_⟩ (by dsimp only; omega) (by repeat' first | trivial | rfl | apply And.intro) (.refl _)
      dsimp only
      rw [hst]
      intro hm
      rcases List.mem_append.1 hm with hm | hm
      · exact hc hm
      · rw [List.mem_singleton] at hm
        exact hcc hm.symm
  · obtain rfl : i = l.length := by omega
    have hall : (l.drop f).take (l.length - f) = l.drop f := List.take_of_length_le (by rw [List.length_drop]; exact Nat.le_refl _)
    rw [hall] at hc
    have hw2 : wds c l = ws ++ [l.drop f] := by rw [hw, wds_no hc]
    repeat' (first | ((with_reducible apply kP (.slice _ _ (some _) none none)); refine sP ?_ (o_sSubL (j := f) uStr rfl rfl rfl hf)) | ((with_reducible apply kDP (.slice _ _ (some _) none none)); refine dP ?_ (hX := rfl) (hv := o_sSubL (j := f) uStr rfl rfl rfl hf)) | ((with_reducible apply kQO (.slice _ _ (some _) none none)); refine qP ?_ (o_sSubL (j := f) uStr rfl rfl rfl hf)) | ((with_reducible apply kP (.call ⟨.builtin .len, _, _⟩)); refine sP ?_ (o_sLen uStr rfl)) | ((with_reducible apply kDP (.call ⟨.builtin .len, _, _⟩)); refine dP ?_ (hX := rfl) (hv := o_sLen uStr rfl)) | ((with_reducible apply kQO (.call ⟨.builtin .len, _, _⟩)); refine qP ?_ (o_sLen uStr rfl)) | ((with_reducible apply kP (.call ⟨.builtin .append, _, _⟩)); refine sAp (fun oa5 c5 k5 hr5 => ?_) (hr := hr) (hk := hkw) (hf := flat1 rfl)) | (with_reducible first | refine c_seq ?_ | refine c_reg ?_ | refine c_region ?_ | refine c_block ?_ | refine c_skip ?_ | refine c_exit ?_ | refine c_ret ?_ | refine s_nil ?_ | refine x_then ?_ | refine x_then_exit ?_ | refine x_then_ret ?_ | refine x_block ?_ | refine x_block_ret ?_ | refine x_block_same ?_ | refine x_block_other (by first | rfl | decide) ?_ | refine q_nil ?_ | refine k_nil ?_) | ((with_reducible apply kP (.buildSlice _ 1 _)); first | refine sl1A (fun b => ?_) | refine sl1 (fun b => ?_)) | ((with_reducible apply kP (.call ⟨.builtin .append, _, _⟩)); refine sAp (fun oa2 c2 blk2 hrow2 => ?_)) | ((with_reducible apply kP _); refine sP ?_) | ((with_reducible apply kP _); refine sX ?_) | ((with_reducible apply kC); first | refine cT ?_ | refine cF ?_ | (refine cI (fun h => ?_) (fun h => ?_) <;> (try (exfalso; omega))) | refine cB (fun h => ?_) (fun h => ?_)))
    all_goals try (exfalso; omega)
    have hr5' : RowOk oa5 c5 1 (svs (wds c l)) k5 := by rw [hw2, ← svs_snoc]; exact hr5
    refine e_ret1 rfl rfl ⟨k5, ⟨oa5, c5, hr5', ?_⟩, rfl⟩ ?_
    · rw [hw2, List.length_append]
      rfl
    · exact .append (.refl _) (.cons _ (.refl _))
/-- The number of a word. -/
def nrF (w : List UInt8) : Int := if (∀ c ∈ w, 48 ≤ c.toNat ∧ c.toNat ≤ 57) ∧ w.length ≤ 9 ∧ w ≠ [] ∧ Go.Lib.decDigits (spl 0 w) = w then (spl 0 w : Int) else -1
theorem spl_snoc (a : Nat) (l : List UInt8) (c : UInt8) : spl a (l ++ [c]) = 10 * spl a l + (c.toNat - 48) := by unfold spl; rw [List.foldl_append]; rfl
theorem spl_lt : ∀ {l : List UInt8} {a k : Nat}, (∀ c ∈ l, 48 ≤ c.toNat ∧ c.toNat ≤ 57) → a < 10 ^ k → spl a l < 10 ^ (k + l.length)
  | [], a, k, _, h => h
  | c :: l, a, k, hd, h => by
    have h1 := hd c (.head _)
    have h2 : spl a (c :: l) = spl (10 * a + (c.toNat - 48)) l := rfl
    rw [h2, List.length_cons, show k + (l.length + 1) = (k + 1) + l.length by omega]
    exact spl_lt (fun d hm => hd d (.tail _ hm)) (by rw [Nat.pow_succ]; omega)
theorem nr_itoa {x : Int} (h : 0 ≤ x ∧ x ≤ 1000000) : nrF (Go.Lib.itoa x) = x := by
  obtain ⟨u, rfl⟩ : ∃ u : Nat, x = (u : Int) := ⟨x.toNat, by omega⟩
  rw [itoa_nat]
  unfold nrF
  rw [if_pos ⟨dec_dig u, by have := dec_len 6 u (by omega); omega, dec_ne u, by rw [spl_dec]⟩, spl_dec]
theorem take_snoc_at {l : List UInt8} {i : Nat} (h : i < l.length) : l.take (i + 1) = l.take i ++ [l.getD i 0] := by
  rw [List.take_succ_eq_append_getElem h]
  congr 2
  rw [List.getD_eq_getElem?_getD, List.getElem?_eq_getElem h]
  rfl
set_option maxRecDepth 100000 in
set_option maxHeartbeats 8000000 in
theorem x_Number (l : List UInt8) (hl : l.length ≤ 100000) (B : Nat) (w0 : Wd) (hs : HS) : Fn Tryz.prog 41 #[sv l] B w0 hs (fun v h => v = iv (nrF l) ∧ h = hs) := by
  refine fn_enter Tryz.func41 rfl Tryz.ntmps41 (by simp) ?_
  repeat' (first | (with_reducible first | refine c_seq ?_ | refine c_reg ?_ | refine c_region ?_ | refine c_block ?_ | refine c_skip ?_ | refine c_exit ?_ | refine c_ret ?_ | refine s_nil ?_ | refine x_then ?_ | refine x_then_exit ?_ | refine x_then_ret ?_ | refine x_block ?_ | refine x_block_ret ?_ | refine x_block_same ?_ | refine x_block_other (by first | rfl | decide) ?_ | refine q_nil ?_ | refine k_nil ?_) | ((with_reducible apply kG); first | refine gY1 ?_ | refine gN1 ?_ | refine gU1 ?_ | (refine gD1 (fun h => ?_) (fun h => ?_) <;> (try (exfalso; omega))) | refine gB1 (fun h => ?_) (fun h => ?_)) | ((with_reducible apply kP _); refine sP ?_) | ((with_reducible apply kP _); refine sX ?_) | ((with_reducible apply kC); first | refine cT ?_ | refine cF ?_ | (refine cI (fun h => ?_) (fun h => ?_) <;> (try (exfalso; omega))) | refine cB (fun h => ?_) (fun h => ?_)))
  refine c_loop (fun i : Nat => [(0, sv l), (2, iv 0), (3, iv (spl 0 (l.take i))), (4, iv i)]) (fun _ => hs)
    (fun i => i ≤ l.length ∧ i ≤ 9 ∧ ∀ c ∈ l.take i, 48 ≤ c.toNat ∧ c.toNat ≤ 57) (fun i => l.length - i) 0 ⟨Nat.zero_le _, Nat.zero_le _, by simp⟩ (by repeat' first | trivial | rfl | apply And.intro) (.refl _) ?_
  rintro i ⟨hi, hi9, hd⟩
  have hlt := spl_lt (l := l.take i) (a := 0) (k := 0) hd (by decide)
  have hpw : 10 ^ (0 + (l.take i).length) ≤ 10 ^ 9 := Nat.pow_le_pow_right (by omega) (by rw [List.length_take]; omega)
  by_cases hi' : i < l.length
  · have hbyte : (l.getD i 0).toNat < 256 := (l.getD i 0).toNat_lt
    have hsn := take_snoc_at hi'
    have hmem : l.getD i 0 ∈ l := by
      rw [List.getD_eq_getElem?_getD, List.getElem?_eq_getElem hi']
      exact List.getElem_mem hi'
    by_cases hbad : (l.getD i 0).toNat < 48 ∨ 57 < (l.getD i 0).toNat ∨ i = 9
    · have hnr : nrF l = -1 := by
        unfold nrF
        rw [if_neg]
        rintro ⟨h1, h2, _⟩
        have := h1 _ hmem
        omega
      repeat' (first | ((with_reducible apply kP (.index _ _ _)); refine sP ?_ (o_sIdx uStr rfl rfl rfl hi')) | ((with_reducible apply kDP (.index _ _ _)); refine dP ?_ (hX := rfl) (hv := o_sIdx uStr rfl rfl rfl hi')) | ((with_reducible apply kQO (.index _ _ _)); refine qP ?_ (o_sIdx uStr rfl rfl rfl hi')) | ((with_reducible apply kP (.call ⟨.builtin .len, _, _⟩)); refine sP ?_ (o_sLen uStr rfl)) | ((with_reducible apply kDP (.call ⟨.builtin .len, _, _⟩)); refine dP ?_ (hX := rfl) (hv := o_sLen uStr rfl)) | ((with_reducible apply kQO (.call ⟨.builtin .len, _, _⟩)); refine qP ?_ (o_sLen uStr rfl)) | ((with_reducible apply kP (.binOp .lss 5 _ _ _)); refine sP ?_ (o_bLss rfl rfl)) | ((with_reducible apply kDP (.binOp .lss 5 _ _ _)); refine dP ?_ (hX := rfl) (hv := o_bLss rfl rfl)) | ((with_reducible apply kQO (.binOp .lss 5 _ _ _)); refine qP ?_ (o_bLss rfl rfl)) | ((with_reducible apply kP (.binOp .gtr 5 _ _ _)); refine sP ?_ (o_bGtr rfl rfl)) | ((with_reducible apply kDP (.binOp .gtr 5 _ _ _)); refine dP ?_ (hX := rfl) (hv := o_bGtr rfl rfl)) | ((with_reducible apply kQO (.binOp .gtr 5 _ _ _)); refine qP ?_ (o_bGtr rfl rfl)) | (with_reducible first | refine c_seq ?_ | refine c_reg ?_ | refine c_region ?_ | refine c_block ?_ | refine c_skip ?_ | refine c_exit ?_ | refine c_ret ?_ | refine s_nil ?_ | refine x_then ?_ | refine x_then_exit ?_ | refine x_then_ret ?_ | refine x_block ?_ | refine x_block_ret ?_ | refine x_block_same ?_ | refine x_block_other (by first | rfl | decide) ?_ | refine q_nil ?_ | refine k_nil ?_) | ((with_reducible apply kG); first | refine gY1 ?_ | refine gN1 ?_ | refine gU1 ?_ | (refine gD1 (fun h => ?_) (fun h => ?_) <;> (try (exfalso; omega))) | refine gB1 (fun h => ?_) (fun h => ?_)) | ((with_reducible apply kP _); refine sP ?_) | ((with_reducible apply kP _); refine sX ?_) | ((with_reducible apply kC); first | refine cT ?_ | refine cF ?_ | (refine cI (fun h => ?_) (fun h => ?_) <;> (try (exfalso; omega))) | refine cB (fun h => ?_) (fun h => ?_)))
      all_goals first
        | (exfalso; omega)
        | (rw [hnr]; exact e_ret1 rfl rfl ⟨rfl, rfl⟩ (.refl _))
        | exact e_ret1 rfl rfl ⟨by rw [hnr]; rfl, rfl⟩ (.refl _)
        | trace_state
    · have hd2 : ∀ c ∈ l.take (i + 1), 48 ≤ c.toNat ∧ c.toNat ≤ 57 := fun c hc => by
        rw [hsn] at hc
        rcases List.mem_append.1 hc with hc | hc
        · exact hd c hc
        · rw [List.mem_singleton] at hc; rw [hc]; omega
      have hn2 : 10 * (spl 0 (l.take i) : Int) + (((l.getD i 0).toNat : Int) - 48) = (spl 0 (l.take (i + 1)) : Int) := by rw [hsn, spl_snoc]; omega
      repeat' (first | ((with_reducible apply kP (.index _ _ _)); refine sP ?_ (o_sIdx uStr rfl rfl rfl hi')) | ((with_reducible apply kDP (.index _ _ _)); refine dP ?_ (hX := rfl) (hv := o_sIdx uStr rfl rfl rfl hi')) | ((with_reducible apply kQO (.index _ _ _)); refine qP ?_ (o_sIdx uStr rfl rfl rfl hi')) | ((with_reducible apply kP (.call ⟨.builtin .len, _, _⟩)); refine sP ?_ (o_sLen uStr rfl)) | ((with_reducible apply kDP (.call ⟨.builtin .len, _, _⟩)); refine dP ?_ (hX := rfl) (hv := o_sLen uStr rfl)) | ((with_reducible apply kQO (.call ⟨.builtin .len, _, _⟩)); refine qP ?_ (o_sLen uStr rfl)) | ((with_reducible apply kP (.binOp .lss 5 _ _ _)); refine sP ?_ (o_bLss rfl rfl)) | ((with_reducible apply kDP (.binOp .lss 5 _ _ _)); refine dP ?_ (hX := rfl) (hv := o_bLss rfl rfl)) | ((with_reducible apply kQO (.binOp .lss 5 _ _ _)); refine qP ?_ (o_bLss rfl rfl)) | ((with_reducible apply kP (.binOp .gtr 5 _ _ _)); refine sP ?_ (o_bGtr rfl rfl)) | ((with_reducible apply kDP (.binOp .gtr 5 _ _ _)); refine dP ?_ (hX := rfl) (hv := o_bGtr rfl rfl)) | ((with_reducible apply kQO (.binOp .gtr 5 _ _ _)); refine qP ?_ (o_bGtr rfl rfl)) | ((with_reducible apply kP (.binOp .sub 5 _ _ _)); refine sP ?_ (o_bSub rfl rfl (by omega))) | ((with_reducible apply kDP (.binOp .sub 5 _ _ _)); refine dP ?_ (hX := rfl) (hv := o_bSub rfl rfl (by omega))) | ((with_reducible apply kQO (.binOp .sub 5 _ _ _)); refine qP ?_ (o_bSub rfl rfl (by omega))) | ((with_reducible apply kP (.convert _ _ _)); refine sP ?_ (o_bConv rfl uU8 uI64 (by omega))) | ((with_reducible apply kDP (.convert _ _ _)); refine dP ?_ (hX := rfl) (hv := o_bConv rfl uU8 uI64 (by omega))) | ((with_reducible apply kQO (.convert _ _ _)); refine qP ?_ (o_bConv rfl uU8 uI64 (by omega))) | (with_reducible first | refine c_seq ?_ | refine c_reg ?_ | refine c_region ?_ | refine c_block ?_ | refine c_skip ?_ | refine c_exit ?_ | refine c_ret ?_ | refine s_nil ?_ | refine x_then ?_ | refine x_then_exit ?_ | refine x_then_ret ?_ | refine x_block ?_ | refine x_block_ret ?_ | refine x_block_same ?_ | refine x_block_other (by first | rfl | decide) ?_ | refine q_nil ?_ | refine k_nil ?_) | ((with_reducible apply kG); first | refine gY1 ?_ | refine gN1 ?_ | refine gU1 ?_ | (refine gD1 (fun h => ?_) (fun h => ?_) <;> (try (exfalso; omega))) | refine gB1 (fun h => ?_) (fun h => ?_)) | ((with_reducible apply kP _); refine sP ?_) | ((with_reducible apply kP _); refine sX ?_) | ((with_reducible apply kC); first | refine cT ?_ | refine cF ?_ | (refine cI (fun h => ?_) (fun h => ?_) <;> (try (exfalso; omega))) | refine cB (fun h => ?_) (fun h => ?_)))
      all_goals try (exfalso; omega)
      refine f_eq (t := 3) (u := iv (spl 0 (l.take (i + 1)))) rfl (by show iv _ = _; rw [hn2]) ?_
      exact r_end (i + 1) ⟨hi', by omega, hd2⟩ (by omega) (by repeat' first | trivial | rfl | apply And.intro) (.refl _)
  · obtain rfl : i = l.length := by omega
    rw [List.take_length] at hd hlt hpw ⊢
    have kd := x_Digits (spl 0 l) (by omega) B w0
    by_cases h0 : l = []
    · have hnr : nrF l = -1 := by unfold nrF; rw [if_neg (fun h => h.2.2.1 h0)]
      rw [hnr]
      subst h0
      repeat' (first | ((with_reducible apply kP (.call ⟨.builtin .len, _, _⟩)); refine sP ?_ (o_sLen uStr rfl)) | ((with_reducible apply kDP (.call ⟨.builtin .len, _, _⟩)); refine dP ?_ (hX := rfl) (hv := o_sLen uStr rfl)) | ((with_reducible apply kQO (.call ⟨.builtin .len, _, _⟩)); refine qP ?_ (o_sLen uStr rfl)) | ((with_reducible apply kP (.binOp .eql 9 _ _ _)); refine sP ?_ (o_sEql (b := []) rfl rfl)) | ((with_reducible apply kDP (.binOp .eql 9 _ _ _)); refine dP ?_ (hX := rfl) (hv := o_sEql (b := []) rfl rfl)) | ((with_reducible apply kQO (.binOp .eql 9 _ _ _)); refine qP ?_ (o_sEql (b := []) rfl rfl)) | ((with_reducible apply kP (.binOp .neq 9 _ _ _)); refine sP ?_ (o_sNeq rfl rfl)) | ((with_reducible apply kDP (.binOp .neq 9 _ _ _)); refine dP ?_ (hX := rfl) (hv := o_sNeq rfl rfl)) | ((with_reducible apply kQO (.binOp .neq 9 _ _ _)); refine qP ?_ (o_sNeq rfl rfl)) | ((with_reducible apply kF 37); refine sC 37 (kd _) ?_) | (with_reducible first | refine c_seq ?_ | refine c_reg ?_ | refine c_region ?_ | refine c_block ?_ | refine c_skip ?_ | refine c_exit ?_ | refine c_ret ?_ | refine s_nil ?_ | refine x_then ?_ | refine x_then_exit ?_ | refine x_then_ret ?_ | refine x_block ?_ | refine x_block_ret ?_ | refine x_block_same ?_ | refine x_block_other (by first | rfl | decide) ?_ | refine q_nil ?_ | refine k_nil ?_) | ((with_reducible apply kG); first | refine gY1 ?_ | refine gN1 ?_ | refine gU1 ?_ | (refine gD1 (fun h => ?_) (fun h => ?_) <;> (try (exfalso; omega))) | refine gB1 (fun h => ?_) (fun h => ?_)) | ((with_reducible apply kP _); refine sP ?_) | ((with_reducible apply kP _); refine sX ?_) | ((with_reducible apply kC); first | refine cT ?_ | refine cF ?_ | (refine cI (fun h => ?_) (fun h => ?_) <;> (try (exfalso; omega))) | refine cB (fun h => ?_) (fun h => ?_)))
      all_goals first
        | (exfalso; omega)
        | exact e_ret1 rfl rfl ⟨rfl, rfl⟩ (.refl _)
        | trace_state
    · by_cases h1 : Go.Lib.decDigits (spl 0 l) = l
      · have hnr : nrF l = (spl 0 l : Int) := by unfold nrF; rw [if_pos ⟨hd, hi9, h0, h1⟩]
        rw [hnr]
        repeat' (first | ((with_reducible apply kP (.call ⟨.builtin .len, _, _⟩)); refine sP ?_ (o_sLen uStr rfl)) | ((with_reducible apply kDP (.call ⟨.builtin .len, _, _⟩)); refine dP ?_ (hX := rfl) (hv := o_sLen uStr rfl)) | ((with_reducible apply kQO (.call ⟨.builtin .len, _, _⟩)); refine qP ?_ (o_sLen uStr rfl)) | ((with_reducible apply kP (.binOp .eql 9 _ _ _)); refine sP ?_ (o_sEql (b := []) rfl rfl)) | ((with_reducible apply kDP (.binOp .eql 9 _ _ _)); refine dP ?_ (hX := rfl) (hv := o_sEql (b := []) rfl rfl)) | ((with_reducible apply kQO (.binOp .eql 9 _ _ _)); refine qP ?_ (o_sEql (b := []) rfl rfl)) | ((with_reducible apply kP (.binOp .neq 9 _ _ _)); refine sP ?_ (o_sNeq rfl rfl)) | ((with_reducible apply kDP (.binOp .neq 9 _ _ _)); refine dP ?_ (hX := rfl) (hv := o_sNeq rfl rfl)) | ((with_reducible apply kQO (.binOp .neq 9 _ _ _)); refine qP ?_ (o_sNeq rfl rfl)) | ((with_reducible apply kF 37); refine sC 37 (kd _) ?_) | (with_reducible first | refine c_seq ?_ | refine c_reg ?_ | refine c_region ?_ | refine c_block ?_ | refine c_skip ?_ | refine c_exit ?_ | refine c_ret ?_ | refine s_nil ?_ | refine x_then ?_ | refine x_then_exit ?_ | refine x_then_ret ?_ | refine x_block ?_ | refine x_block_ret ?_ | refine x_block_same ?_ | refine x_block_other (by first | rfl | decide) ?_ | refine q_nil ?_ | refine k_nil ?_) | ((with_reducible apply kG); first | refine gY1 ?_ | refine gN1 ?_ | refine gU1 ?_ | (refine gD1 (fun h => ?_) (fun h => ?_) <;> (try (exfalso; omega))) | refine gB1 (fun h => ?_) (fun h => ?_)) | ((with_reducible apply kP _); refine sP ?_) | ((with_reducible apply kP _); refine sX ?_) | ((with_reducible apply kC); first | refine cT ?_ | refine cF ?_ | (refine cI (fun h => ?_) (fun h => ?_) <;> (try (exfalso; omega))) | refine cB (fun h => ?_) (fun h => ?_)))
        all_goals first
          | (exfalso; omega)
          | (exfalso; rename_i h; exact h0 h)
          | (exfalso; rename_i h; exact h h1)
          | exact e_ret1 rfl rfl ⟨rfl, rfl⟩ (.refl _)
          | trace_state
      · have hnr : nrF l = -1 := by unfold nrF; rw [if_neg (fun h => h1 h.2.2.2)]
        rw [hnr]
        repeat' (first | ((with_reducible apply kP (.call ⟨.builtin .len, _, _⟩)); refine sP ?_ (o_sLen uStr rfl)) | ((with_reducible apply kDP (.call ⟨.builtin .len, _, _⟩)); refine dP ?_ (hX := rfl) (hv := o_sLen uStr rfl)) | ((with_reducible apply kQO (.call ⟨.builtin .len, _, _⟩)); refine qP ?_ (o_sLen uStr rfl)) | ((with_reducible apply kP (.binOp .eql 9 _ _ _)); refine sP ?_ (o_sEql (b := []) rfl rfl)) | ((with_reducible apply kDP (.binOp .eql 9 _ _ _)); refine dP ?_ (hX := rfl) (hv := o_sEql (b := []) rfl rfl)) | ((with_reducible apply kQO (.binOp .eql 9 _ _ _)); refine qP ?_ (o_sEql (b := []) rfl rfl)) | ((with_reducible apply kP (.binOp .neq 9 _ _ _)); refine sP ?_ (o_sNeq rfl rfl)) | ((with_reducible apply kDP (.binOp .neq 9 _ _ _)); refine dP ?_ (hX := rfl) (hv := o_sNeq rfl rfl)) | ((with_reducible apply kQO (.binOp .neq 9 _ _ _)); refine qP ?_ (o_sNeq rfl rfl)) | ((with_reducible apply kF 37); refine sC 37 (kd _) ?_) | (with_reducible first | refine c_seq ?_ | refine c_reg ?_ | refine c_region ?_ | refine c_block ?_ | refine c_skip ?_ | refine c_exit ?_ | refine c_ret ?_ | refine s_nil ?_ | refine x_then ?_ | refine x_then_exit ?_ | refine x_then_ret ?_ | refine x_block ?_ | refine x_block_ret ?_ | refine x_block_same ?_ | refine x_block_other (by first | rfl | decide) ?_ | refine q_nil ?_ | refine k_nil ?_) | ((with_reducible apply kG); first | refine gY1 ?_ | refine gN1 ?_ | refine gU1 ?_ | (refine gD1 (fun h => ?_) (fun h => ?_) <;> (try (exfalso; omega))) | refine gB1 (fun h => ?_) (fun h => ?_)) | ((with_reducible apply kP _); refine sP ?_) | ((with_reducible apply kP _); refine sX ?_) | ((with_reducible apply kC); first | refine cT ?_ | refine cF ?_ | (refine cI (fun h => ?_) (fun h => ?_) <;> (try (exfalso; omega))) | refine cB (fun h => ?_) (fun h => ?_)))
        all_goals first
          | (exfalso; omega)
          | (exfalso; rename_i h; exact h0 h)
          | (exfalso; rename_i h; exact h h1)
          | exact e_ret1 rfl rfl ⟨rfl, rfl⟩ (.refl _)
          | trace_state
end Go.Proofs.YtmblgbcipniecaaGreatDoor
