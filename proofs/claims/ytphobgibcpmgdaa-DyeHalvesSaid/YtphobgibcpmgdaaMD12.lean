/- Baths: the walk of the program's way. -/
import Derived.Test.YtphobgibcpmgdaaMD11
namespace Go.Proofs.Ytphobgibcpmgdaa
open Go.RowKit

def pth : Nat → Int → Int → Int → Int → Int → List Int × Bool
  | 0, _, _, _, _, _ => ([], false)
  | f + 1, L, T, C, l, t =>
    if L = l ∧ T = t then ([], true)
    else if l ≤ L then (if C ≠ 3 ∧ min (L + 2) 10 = l ∧ 0 = t then [min (L + 2) 10, 0, C + 1] else [l, t, C], true)
    else if C = 3 then ([], false)
    else if (pth f (min (L + 2) 10) 0 (C + 1) l t).2 = true then ([min (L + 2) 10, 0, C + 1] ++ (pth f (min (L + 2) 10) 0 (C + 1) l t).1, true) else ([], false)
def paB (L T C l t : Int) : Bool := sdB L T C && tB l t
def paL (L T C l t : Int) : List Int := if paB L T C l t = true then (pth 4 L T C l t).1 else []
def paO (L T C l t : Int) : Bool := if paB L T C l t = true then (pth 4 L T C l t).2 else false
def paE (L T C l t : Int) : Int := if paB L T C l t = true then 0 else 1
def PathR (L T C l t : Int) (hs : HS) (v : Value) (h : HS) : Prop :=
  ∃ oa n c blk, v = .tuple #[.slice oa n c, .bool (paO L T C l t), iv (paE L T C l t)] ∧ RowOk oa c 3 (ivs (paL L T C l t)) blk ∧ (paL L T C l t).length = n * 3 ∧ n ≤ 10 ∧ h = blk ++ hs
theorem path_bad {L T C l t : Int} {hs : HS} (h : ¬ paB L T C l t = true) : PathR L T C l t hs = fun v x => ∃ oa n c blk, v = .tuple #[.slice oa n c, .bool false, iv 1] ∧ RowOk oa c 3 (ivs []) blk ∧ ([] : List Int).length = n * 3 ∧ n ≤ 10 ∧ x = blk ++ hs := by
  funext v x
  unfold PathR paL paO paE
  rw [if_neg h, if_neg h, if_neg h]
theorem path_ok {L T C l t : Int} {hs : HS} (h : paB L T C l t = true) : PathR L T C l t hs = fun v x => ∃ oa n c blk, v = .tuple #[.slice oa n c, .bool (pth 4 L T C l t).2, iv 0] ∧ RowOk oa c 3 (ivs (pth 4 L T C l t).1) blk ∧ (pth 4 L T C l t).1.length = n * 3 ∧ n ≤ 10 ∧ x = blk ++ hs := by
  funext v x
  unfold PathR paL paO paE
  rw [if_pos h, if_pos h, if_pos h]
structure F6 where
  f : Nat
  L : Int
  T : Int
  C : Int
  acc : List Int
  oa : Option Addr
  n : Nat
  c : Nat
  blk : HS
/-- What the whole way is, from what was gone. -/
def pac (acc : List Int) (r : List Int × Bool) : List Int × Bool := if r.2 = true then (acc ++ r.1, true) else ([], false)
theorem pac_step (acc x : List Int) (r : List Int × Bool) : pac acc (if r.2 = true then (x ++ r.1, true) else ([], false)) = pac (acc ++ x) r := by
  unfold pac
  by_cases h : r.2 = true
  · rw [if_pos h, if_pos rfl, if_pos h, List.append_assoc]
  · rw [if_neg h, if_neg (by simp), if_neg h]
theorem pac_nil (r : List Int × Bool) (h : r.2 = false → r.1 = []) : pac [] r = r := by
  obtain ⟨x, b⟩ := r
  unfold pac
  cases b with
  | true => rfl
  | false => have := h rfl; simp only at this; subst this; rfl
theorem pth_nil : ∀ f L T C l t, (pth f L T C l t).2 = false → (pth f L T C l t).1 = []
  | 0, _, _, _, _, _, _ => rfl
  | f + 1, L, T, C, l, t, h => by
    unfold pth at h ⊢
    split at h
    · cases h
    · rename_i h1
      split at h
      · cases h
      · rename_i h2
        rw [if_neg h1, if_neg h2]
        split at h
        · rename_i h3; rw [if_pos h3]
        · rename_i h3
          rw [if_neg h3]
          split at h
          · cases h
          · rename_i h4; rw [if_neg h4]
theorem ivs_snoc3 {acc : List Int} {a b c : Int} : ivs acc ++ [iv a, iv b, iv c] = ivs (acc ++ [a, b, c]) := by simp [ivs]
section
variable {n B : Nat} {w0 : Wd} {fr : FR} {hs hs' : HS}
theorem path_end {acc : List Int} {a b c : Int} {res : List Int × Bool} {oa2 : Option Addr} {c2 m : Nat} {blk2 : HS} (hgo : pac acc ([a, b, c], true) = res) (hrow2 : RowOk oa2 c2 3 (ivs acc ++ [iv a, iv b, iv c]) blk2) (hlen : acc.length = m * 3) (hm : m ≤ 9) (hs1 : (blk2 ++ hs).Sublist hs')
    (h6 : get fr 6 = some (.slice oa2 (m + 1) c2) := by rfl) (h7 : get fr 7 = some (.bool true) := by rfl) (h8 : get fr 8 = some (iv 0) := by rfl) :
    Sat n B w0 (bodyPost Try.prog Try.f27 (Ends B w0 fun v x => ∃ oa n c blk, v = .tuple #[.slice oa n c, .bool res.2, iv 0] ∧ RowOk oa c 3 (ivs res.1) blk ∧ res.1.length = n * 3 ∧ n ≤ 10 ∧ x = blk ++ hs) .ret) fr hs' := by
  refine e_ret3 rfl h6 h7 h8 ⟨oa2, m + 1, c2, blk2, by rw [← hgo]; rfl, ?_, ?_, by omega, rfl⟩ hs1
  · rw [← hgo]
    show RowOk oa2 c2 3 (ivs (acc ++ [a, b, c])) blk2
    rw [← ivs_snoc3]; exact hrow2
  · rw [← hgo]
    show (acc ++ [a, b, c]).length = _
    rw [List.length_append, hlen]; simp only [List.length_cons, List.length_nil]; omega
end
set_option maxRecDepth 100000 in
set_option maxHeartbeats 8000000 in
theorem k_Path (L T C l t : Int) (B : Nat) (w0 : Wd) (hs : HS) : Fn Try.prog 27 #[shd L T C, iv l, iv t] B w0 hs (PathR L T C l t hs) := by
  by_cases hp : paB L T C l t = true
  · rw [path_ok hp]
    unfold paB at hp
    rw [Bool.and_eq_true] at hp
    obtain ⟨hv, ht⟩ := hp
    have kd := k_valid L T C B w0
    have kt := k_tint l t B w0
    rw [hv] at kd
    rw [ht] at kt
    refine fn_enter Try.func27 rfl Try.ntmps27 (by simp) ?_
    repeat' (first | ((with_reducible apply kF 22); refine sC 22 (kd _) ?_) | ((with_reducible apply kF 58); refine sC 58 (kt _) ?_) | (with_reducible first | refine c_seq ?_ | refine c_reg ?_ | refine c_region ?_ | refine c_block ?_ | refine c_skip ?_ | refine c_exit ?_ | refine c_ret ?_ | refine s_nil ?_ | refine x_then ?_ | refine x_then_exit ?_ | refine x_then_ret ?_ | refine x_block ?_ | refine x_block_ret ?_ | refine x_block_same ?_ | refine x_block_other (by rfl) ?_ | refine q_nil ?_ | refine k_nil ?_) | ((with_reducible apply kP (.makeFunc _ _ _)); refine sMF ?_) | ((with_reducible apply kG); first | refine gY1 ?_ | refine gN1 ?_ | refine gU1 ?_ | (refine gD1 (fun h => ?_) (fun h => ?_) <;> (try (exfalso; omega))) | refine gB1 (fun h => ?_) (fun h => ?_)) | ((with_reducible apply kN); first | refine stP ?_ | refine stI ?_ | refine st1 ?_ | refine stW ?_) | ((with_reducible apply kP (.alloc _)); refine sA (fun b => ?_)) | ((with_reducible apply kP (.box _ _)); first | refine sBA (fun b => ?_) | refine sB (fun b => ?_)) | ((with_reducible apply kP (.buildSlice _ 1 _)); first | refine sl1A (fun b => ?_) | refine sl1 (fun b => ?_)) | ((with_reducible apply kP (.buildSlice _ 2 _)); refine sl2 (fun b => ?_)) | ((with_reducible apply kP (.buildSlice _ 3 _)); refine sl3 (fun b => ?_)) | ((with_reducible apply kP (.buildSlice _ 4 _)); refine sl4 (fun b => ?_)) | ((with_reducible apply kP (.buildSlice _ 0 _)); refine s_bs0 (scTOf rfl) (zsTOf rfl) (by decide) (fun b => ?_)) | ((with_reducible apply kP (.makeSlice _ _ _)); refine sMk (fun b => ?_)) | ((with_reducible apply kP (.call ⟨.builtin .append, _, _⟩)); refine sAp (fun oa2 c2 blk2 hrow2 => ?_)) | ((with_reducible apply kP _); refine sP ?_) | ((with_reducible apply kP _); refine sX ?_) | ((with_reducible apply kQG); first | refine qY1 ?_ | refine qN1 ?_ | refine qU1 ?_ | (refine qD1 (fun h => ?_) (fun h => ?_) <;> (try (exfalso; omega))) | refine qB1 (fun h => ?_) (fun h => ?_)) | ((with_reducible apply kQP); refine qP ?_) | ((with_reducible apply kQP); refine qX ?_) | ((with_reducible apply kC); first | refine cT ?_ | refine cF ?_ | (refine cI (fun h => ?_) (fun h => ?_) <;> (try (exfalso; omega))) | refine cB (fun h => ?_) (fun h => ?_)) | ((with_reducible apply kR); refine cQ ?_))
    generalize hres : pth 4 L T C l t = res
    have hres0 : pac [] (pth 4 L T C l t) = res := by rw [pac_nil _ (pth_nil 4 L T C l t)]; exact hres
    have hv4 := sdB_to.1 hv
    clear kd kt
    refine c_loop (fun s : F6 => [(1, iv l), (2, iv t), (3, pt b), (9, .slice s.oa s.n s.c)]) (fun s => s.blk ++ ((b, [iv s.L, iv s.T, iv s.C]) :: hs))
      (fun s => sdB s.L s.T s.C = true ∧ 4 ≤ s.C + s.f ∧ pac s.acc (pth s.f s.L s.T s.C l t) = res ∧ RowOk s.oa s.c 3 (ivs s.acc) s.blk ∧ s.acc.length = s.n * 3 ∧ s.n ≤ s.C) (fun s => s.f) ⟨4, L, T, C, [], none, 0, 0, []⟩
      ⟨hv, by simp only; omega, hres0, RowOk.nil, rfl, by simp only; omega⟩ (by repeat' first | trivial | rfl | apply And.intro) (by exact .refl _) ?_
    clear hres hres0 hv4 hv L T C
    rintro ⟨f, L, T, C, acc, oa, m, c, blk⟩ ⟨hv, hf, hgo, hrow, hlen, hm⟩
    dsimp only at hv hf hgo hrow hlen hm ⊢
    obtain ⟨v1, v2, v3, v4, v5, v6⟩ := sdB_to.1 hv
    obtain ⟨t1, t2, t3, t4⟩ := tB_to.1 ht
    obtain ⟨f, rfl⟩ : ∃ k, f = k + 1 := ⟨f - 1, by omega⟩
    have hlen' : (ivs acc).length = m * 3 := by rw [ivs_length]; exact hlen
    have kb := k_bleach L T C B w0
    have ky := k_dye L T C l t B w0
    unfold blV at kb
    unfold dyV at ky
    unfold pth at hgo
    by_cases hA : L = l ∧ T = t
    · rw [if_pos hA] at hgo
      obtain ⟨rfl, rfl⟩ := hA
      repeat' (first | (with_reducible first | refine c_seq ?_ | refine c_reg ?_ | refine c_region ?_ | refine c_block ?_ | refine c_skip ?_ | refine c_exit ?_ | refine c_ret ?_ | refine s_nil ?_ | refine x_then ?_ | refine x_then_exit ?_ | refine x_then_ret ?_ | refine x_block ?_ | refine x_block_ret ?_ | refine x_block_same ?_ | refine x_block_other (by rfl) ?_ | refine q_nil ?_ | refine k_nil ?_) | ((with_reducible apply kP (.makeFunc _ _ _)); refine sMF ?_) | ((with_reducible apply kG); first | refine gY1 ?_ | refine gN1 ?_ | refine gU1 ?_ | (refine gD1 (fun h => ?_) (fun h => ?_) <;> (try (exfalso; omega))) | refine gB1 (fun h => ?_) (fun h => ?_)) | ((with_reducible apply kN); first | refine stP ?_ | refine stI ?_ | refine st1 ?_ | refine stW ?_) | ((with_reducible apply kP (.alloc _)); refine sA (fun b => ?_)) | ((with_reducible apply kP (.box _ _)); first | refine sBA (fun b => ?_) | refine sB (fun b => ?_)) | ((with_reducible apply kP (.buildSlice _ 1 _)); first | refine sl1A (fun b => ?_) | refine sl1 (fun b => ?_)) | ((with_reducible apply kP (.buildSlice _ 2 _)); refine sl2 (fun b => ?_)) | ((with_reducible apply kP (.buildSlice _ 3 _)); refine sl3 (fun b => ?_)) | ((with_reducible apply kP (.buildSlice _ 4 _)); refine sl4 (fun b => ?_)) | ((with_reducible apply kP (.buildSlice _ 0 _)); refine s_bs0 (scTOf rfl) (zsTOf rfl) (by decide) (fun b => ?_)) | ((with_reducible apply kP (.makeSlice _ _ _)); refine sMk (fun b => ?_)) | ((with_reducible apply kP (.call ⟨.builtin .append, _, _⟩)); refine sAp (fun oa2 c2 blk2 hrow2 => ?_)) | ((with_reducible apply kP _); refine sP ?_) | ((with_reducible apply kP _); refine sX ?_) | ((with_reducible apply kQG); first | refine qY1 ?_ | refine qN1 ?_ | refine qU1 ?_ | (refine qD1 (fun h => ?_) (fun h => ?_) <;> (try (exfalso; omega))) | refine qB1 (fun h => ?_) (fun h => ?_)) | ((with_reducible apply kQP); refine qP ?_) | ((with_reducible apply kQP); refine qX ?_) | ((with_reducible apply kC); first | refine cT ?_ | refine cF ?_ | (refine cI (fun h => ?_) (fun h => ?_) <;> (try (exfalso; omega))) | refine cB (fun h => ?_) (fun h => ?_)) | ((with_reducible apply kR); refine cQ ?_))
      all_goals first
        | (refine e_ret3 rfl rfl rfl rfl ⟨oa, m, c, blk, by rw [← hgo]; rfl, ?_, ?_, by omega, rfl⟩ SCt
           · rw [← hgo]
             show RowOk oa c 3 (ivs (acc ++ [])) blk
             rw [List.append_nil]; exact hrow
           · rw [← hgo]
             show (acc ++ []).length = m * 3
             rw [List.append_nil]; exact hlen)
        | exact absurd rfl (by assumption)
    · rw [if_neg hA] at hgo
      by_cases hB : l ≤ L
      · rw [if_pos hB] at hgo
        rw [dy_ok hv ht hB, if_pos rfl] at ky
        by_cases hC : C = 3
        · rw [bl_end hv hC, if_neg (by decide)] at kb
          rw [if_neg (by omega)] at hgo
          simp only [shd] at kb ky
          clear hv hf v1 v2 v3 v4 v5 t1 t2 t3 t4
          repeat' (first | ((with_reducible apply kF 18); refine sC 18 (kb _) ?_) | ((with_reducible apply kF 20); refine sC 20 (ky _) ?_) | (with_reducible first | refine c_seq ?_ | refine c_reg ?_ | refine c_region ?_ | refine c_block ?_ | refine c_skip ?_ | refine c_exit ?_ | refine c_ret ?_ | refine s_nil ?_ | refine x_then ?_ | refine x_then_exit ?_ | refine x_then_ret ?_ | refine x_block ?_ | refine x_block_ret ?_ | refine x_block_same ?_ | refine x_block_other (by rfl) ?_ | refine q_nil ?_ | refine k_nil ?_) | ((with_reducible apply kP (.makeFunc _ _ _)); refine sMF ?_) | ((with_reducible apply kG); first | refine gY1 ?_ | refine gN1 ?_ | refine gU1 ?_ | (refine gD1 (fun h => ?_) (fun h => ?_) <;> (try (exfalso; omega))) | refine gB1 (fun h => ?_) (fun h => ?_)) | ((with_reducible apply kN); first | refine stP ?_ | refine stI ?_ | refine st1 ?_ | refine stW ?_) | ((with_reducible apply kP (.alloc _)); refine sA (fun b => ?_)) | ((with_reducible apply kP (.box _ _)); first | refine sBA (fun b => ?_) | refine sB (fun b => ?_)) | ((with_reducible apply kP (.buildSlice _ 1 _)); first | refine sl1A (fun b => ?_) | refine sl1 (fun b => ?_)) | ((with_reducible apply kP (.buildSlice _ 2 _)); refine sl2 (fun b => ?_)) | ((with_reducible apply kP (.buildSlice _ 3 _)); refine sl3 (fun b => ?_)) | ((with_reducible apply kP (.buildSlice _ 4 _)); refine sl4 (fun b => ?_)) | ((with_reducible apply kP (.buildSlice _ 0 _)); refine s_bs0 (scTOf rfl) (zsTOf rfl) (by decide) (fun b => ?_)) | ((with_reducible apply kP (.makeSlice _ _ _)); refine sMk (fun b => ?_)) | ((with_reducible apply kP (.call ⟨.builtin .append, _, _⟩)); refine sAp (fun oa2 c2 blk2 hrow2 => ?_)) | ((with_reducible apply kP _); refine sP ?_) | ((with_reducible apply kP _); refine sX ?_) | ((with_reducible apply kQG); first | refine qY1 ?_ | refine qN1 ?_ | refine qU1 ?_ | (refine qD1 (fun h => ?_) (fun h => ?_) <;> (try (exfalso; omega))) | refine qB1 (fun h => ?_) (fun h => ?_)) | ((with_reducible apply kQP); refine qP ?_) | ((with_reducible apply kQP); refine qX ?_) | ((with_reducible apply kC); first | refine cT ?_ | refine cF ?_ | (refine cI (fun h => ?_) (fun h => ?_) <;> (try (exfalso; omega))) | refine cB (fun h => ?_) (fun h => ?_)) | ((with_reducible apply kR); refine cQ ?_))
          all_goals first
            | exact path_end hgo hrow2 hlen (by omega) SCt
            | (exfalso; omega)
        · rw [bl_ok hv hC, if_pos rfl] at kb
          simp only [shd] at kb ky
          clear hv hf v1 v2 v3 v4 v5 t1 t2 t3 t4
          by_cases hD : C ≠ 3 ∧ min (L + 2) 10 = l ∧ 0 = t
          · rw [if_pos hD] at hgo
            repeat' (first | ((with_reducible apply kF 18); refine sC 18 (kb _) ?_) | ((with_reducible apply kF 20); refine sC 20 (ky _) ?_) | (with_reducible first | refine c_seq ?_ | refine c_reg ?_ | refine c_region ?_ | refine c_block ?_ | refine c_skip ?_ | refine c_exit ?_ | refine c_ret ?_ | refine s_nil ?_ | refine x_then ?_ | refine x_then_exit ?_ | refine x_then_ret ?_ | refine x_block ?_ | refine x_block_ret ?_ | refine x_block_same ?_ | refine x_block_other (by rfl) ?_ | refine q_nil ?_ | refine k_nil ?_) | ((with_reducible apply kP (.makeFunc _ _ _)); refine sMF ?_) | ((with_reducible apply kG); first | refine gY1 ?_ | refine gN1 ?_ | refine gU1 ?_ | (refine gD1 (fun h => ?_) (fun h => ?_) <;> (try (exfalso; omega))) | refine gB1 (fun h => ?_) (fun h => ?_)) | ((with_reducible apply kN); first | refine stP ?_ | refine stI ?_ | refine st1 ?_ | refine stW ?_) | ((with_reducible apply kP (.alloc _)); refine sA (fun b => ?_)) | ((with_reducible apply kP (.box _ _)); first | refine sBA (fun b => ?_) | refine sB (fun b => ?_)) | ((with_reducible apply kP (.buildSlice _ 1 _)); first | refine sl1A (fun b => ?_) | refine sl1 (fun b => ?_)) | ((with_reducible apply kP (.buildSlice _ 2 _)); refine sl2 (fun b => ?_)) | ((with_reducible apply kP (.buildSlice _ 3 _)); refine sl3 (fun b => ?_)) | ((with_reducible apply kP (.buildSlice _ 4 _)); refine sl4 (fun b => ?_)) | ((with_reducible apply kP (.buildSlice _ 0 _)); refine s_bs0 (scTOf rfl) (zsTOf rfl) (by decide) (fun b => ?_)) | ((with_reducible apply kP (.makeSlice _ _ _)); refine sMk (fun b => ?_)) | ((with_reducible apply kP (.call ⟨.builtin .append, _, _⟩)); refine sAp (fun oa2 c2 blk2 hrow2 => ?_)) | ((with_reducible apply kP _); refine sP ?_) | ((with_reducible apply kP _); refine sX ?_) | ((with_reducible apply kQG); first | refine qY1 ?_ | refine qN1 ?_ | refine qU1 ?_ | (refine qD1 (fun h => ?_) (fun h => ?_) <;> (try (exfalso; omega))) | refine qB1 (fun h => ?_) (fun h => ?_)) | ((with_reducible apply kQP); refine qP ?_) | ((with_reducible apply kQP); refine qX ?_) | ((with_reducible apply kC); first | refine cT ?_ | refine cF ?_ | (refine cI (fun h => ?_) (fun h => ?_) <;> (try (exfalso; omega))) | refine cB (fun h => ?_) (fun h => ?_)) | ((with_reducible apply kR); refine cQ ?_))
            all_goals first
              | exact path_end hgo hrow2 hlen (by omega) SCt
              | (exfalso; omega)
          · rw [if_neg hD] at hgo
            repeat' (first | ((with_reducible apply kF 18); refine sC 18 (kb _) ?_) | ((with_reducible apply kF 20); refine sC 20 (ky _) ?_) | (with_reducible first | refine c_seq ?_ | refine c_reg ?_ | refine c_region ?_ | refine c_block ?_ | refine c_skip ?_ | refine c_exit ?_ | refine c_ret ?_ | refine s_nil ?_ | refine x_then ?_ | refine x_then_exit ?_ | refine x_then_ret ?_ | refine x_block ?_ | refine x_block_ret ?_ | refine x_block_same ?_ | refine x_block_other (by rfl) ?_ | refine q_nil ?_ | refine k_nil ?_) | ((with_reducible apply kP (.makeFunc _ _ _)); refine sMF ?_) | ((with_reducible apply kG); first | refine gY1 ?_ | refine gN1 ?_ | refine gU1 ?_ | (refine gD1 (fun h => ?_) (fun h => ?_) <;> (try (exfalso; omega))) | refine gB1 (fun h => ?_) (fun h => ?_)) | ((with_reducible apply kN); first | refine stP ?_ | refine stI ?_ | refine st1 ?_ | refine stW ?_) | ((with_reducible apply kP (.alloc _)); refine sA (fun b => ?_)) | ((with_reducible apply kP (.box _ _)); first | refine sBA (fun b => ?_) | refine sB (fun b => ?_)) | ((with_reducible apply kP (.buildSlice _ 1 _)); first | refine sl1A (fun b => ?_) | refine sl1 (fun b => ?_)) | ((with_reducible apply kP (.buildSlice _ 2 _)); refine sl2 (fun b => ?_)) | ((with_reducible apply kP (.buildSlice _ 3 _)); refine sl3 (fun b => ?_)) | ((with_reducible apply kP (.buildSlice _ 4 _)); refine sl4 (fun b => ?_)) | ((with_reducible apply kP (.buildSlice _ 0 _)); refine s_bs0 (scTOf rfl) (zsTOf rfl) (by decide) (fun b => ?_)) | ((with_reducible apply kP (.makeSlice _ _ _)); refine sMk (fun b => ?_)) | ((with_reducible apply kP (.call ⟨.builtin .append, _, _⟩)); refine sAp (fun oa2 c2 blk2 hrow2 => ?_)) | ((with_reducible apply kP _); refine sP ?_) | ((with_reducible apply kP _); refine sX ?_) | ((with_reducible apply kQG); first | refine qY1 ?_ | refine qN1 ?_ | refine qU1 ?_ | (refine qD1 (fun h => ?_) (fun h => ?_) <;> (try (exfalso; omega))) | refine qB1 (fun h => ?_) (fun h => ?_)) | ((with_reducible apply kQP); refine qP ?_) | ((with_reducible apply kQP); refine qX ?_) | ((with_reducible apply kC); first | refine cT ?_ | refine cF ?_ | (refine cI (fun h => ?_) (fun h => ?_) <;> (try (exfalso; omega))) | refine cB (fun h => ?_) (fun h => ?_)) | ((with_reducible apply kR); refine cQ ?_))
            all_goals first
              | exact path_end hgo hrow2 hlen (by omega) SCt
              | (exfalso; omega)
      · rw [if_neg hB] at hgo
        rw [dy_end hv ht (by omega), if_neg (by decide)] at ky
        by_cases hC : C = 3
        · rw [bl_end hv hC, if_neg (by decide)] at kb
          rw [if_pos hC] at hgo
          simp only [shd] at kb ky
          clear hv hf v1 v2 v3 v4 v5 t1 t2 t3 t4
          repeat' (first | ((with_reducible apply kF 18); refine sC 18 (kb _) ?_) | ((with_reducible apply kF 20); refine sC 20 (ky _) ?_) | (with_reducible first | refine c_seq ?_ | refine c_reg ?_ | refine c_region ?_ | refine c_block ?_ | refine c_skip ?_ | refine c_exit ?_ | refine c_ret ?_ | refine s_nil ?_ | refine x_then ?_ | refine x_then_exit ?_ | refine x_then_ret ?_ | refine x_block ?_ | refine x_block_ret ?_ | refine x_block_same ?_ | refine x_block_other (by rfl) ?_ | refine q_nil ?_ | refine k_nil ?_) | ((with_reducible apply kP (.makeFunc _ _ _)); refine sMF ?_) | ((with_reducible apply kG); first | refine gY1 ?_ | refine gN1 ?_ | refine gU1 ?_ | (refine gD1 (fun h => ?_) (fun h => ?_) <;> (try (exfalso; omega))) | refine gB1 (fun h => ?_) (fun h => ?_)) | ((with_reducible apply kN); first | refine stP ?_ | refine stI ?_ | refine st1 ?_ | refine stW ?_) | ((with_reducible apply kP (.alloc _)); refine sA (fun b => ?_)) | ((with_reducible apply kP (.box _ _)); first | refine sBA (fun b => ?_) | refine sB (fun b => ?_)) | ((with_reducible apply kP (.buildSlice _ 1 _)); first | refine sl1A (fun b => ?_) | refine sl1 (fun b => ?_)) | ((with_reducible apply kP (.buildSlice _ 2 _)); refine sl2 (fun b => ?_)) | ((with_reducible apply kP (.buildSlice _ 3 _)); refine sl3 (fun b => ?_)) | ((with_reducible apply kP (.buildSlice _ 4 _)); refine sl4 (fun b => ?_)) | ((with_reducible apply kP (.buildSlice _ 0 _)); refine s_bs0 (scTOf rfl) (zsTOf rfl) (by decide) (fun b => ?_)) | ((with_reducible apply kP (.makeSlice _ _ _)); refine sMk (fun b => ?_)) | ((with_reducible apply kP (.call ⟨.builtin .append, _, _⟩)); refine sAp (fun oa2 c2 blk2 hrow2 => ?_)) | ((with_reducible apply kP _); refine sP ?_) | ((with_reducible apply kP _); refine sX ?_) | ((with_reducible apply kQG); first | refine qY1 ?_ | refine qN1 ?_ | refine qU1 ?_ | (refine qD1 (fun h => ?_) (fun h => ?_) <;> (try (exfalso; omega))) | refine qB1 (fun h => ?_) (fun h => ?_)) | ((with_reducible apply kQP); refine qP ?_) | ((with_reducible apply kQP); refine qX ?_) | ((with_reducible apply kC); first | refine cT ?_ | refine cF ?_ | (refine cI (fun h => ?_) (fun h => ?_) <;> (try (exfalso; omega))) | refine cB (fun h => ?_) (fun h => ?_)) | ((with_reducible apply kR); refine cQ ?_))
          all_goals first
            | exact e_ret3 rfl rfl rfl rfl ⟨none, 0, 0, [], by rw [← hgo]; rfl, by rw [← hgo]; exact RowOk.nil, by rw [← hgo]; rfl, Nat.zero_le _, rfl⟩ (.cons _ (.cons _ (List.sublist_append_of_sublist_right (.cons _ (.refl _)))))
            | (exfalso; omega)
        · rw [bl_ok hv hC, if_pos rfl] at kb
          rw [if_neg hC, pac_step] at hgo
          simp only [shd] at kb ky
          repeat' (first | ((with_reducible apply kF 18); refine sC 18 (kb _) ?_) | ((with_reducible apply kF 20); refine sC 20 (ky _) ?_) | (with_reducible first | refine c_seq ?_ | refine c_reg ?_ | refine c_region ?_ | refine c_block ?_ | refine c_skip ?_ | refine c_exit ?_ | refine c_ret ?_ | refine s_nil ?_ | refine x_then ?_ | refine x_then_exit ?_ | refine x_then_ret ?_ | refine x_block ?_ | refine x_block_ret ?_ | refine x_block_same ?_ | refine x_block_other (by rfl) ?_ | refine q_nil ?_ | refine k_nil ?_) | ((with_reducible apply kP (.makeFunc _ _ _)); refine sMF ?_) | ((with_reducible apply kG); first | refine gY1 ?_ | refine gN1 ?_ | refine gU1 ?_ | (refine gD1 (fun h => ?_) (fun h => ?_) <;> (try (exfalso; omega))) | refine gB1 (fun h => ?_) (fun h => ?_)) | ((with_reducible apply kN); first | refine stP ?_ | refine stI ?_ | refine st1 ?_ | refine stW ?_) | ((with_reducible apply kP (.alloc _)); refine sA (fun b => ?_)) | ((with_reducible apply kP (.box _ _)); first | refine sBA (fun b => ?_) | refine sB (fun b => ?_)) | ((with_reducible apply kP (.buildSlice _ 1 _)); first | refine sl1A (fun b => ?_) | refine sl1 (fun b => ?_)) | ((with_reducible apply kP (.buildSlice _ 2 _)); refine sl2 (fun b => ?_)) | ((with_reducible apply kP (.buildSlice _ 3 _)); refine sl3 (fun b => ?_)) | ((with_reducible apply kP (.buildSlice _ 4 _)); refine sl4 (fun b => ?_)) | ((with_reducible apply kP (.buildSlice _ 0 _)); refine s_bs0 (scTOf rfl) (zsTOf rfl) (by decide) (fun b => ?_)) | ((with_reducible apply kP (.makeSlice _ _ _)); refine sMk (fun b => ?_)) | ((with_reducible apply kP (.call ⟨.builtin .append, _, _⟩)); refine sAp (fun oa2 c2 blk2 hrow2 => ?_)) | ((with_reducible apply kP _); refine sP ?_) | ((with_reducible apply kP _); refine sX ?_) | ((with_reducible apply kQG); first | refine qY1 ?_ | refine qN1 ?_ | refine qU1 ?_ | (refine qD1 (fun h => ?_) (fun h => ?_) <;> (try (exfalso; omega))) | refine qB1 (fun h => ?_) (fun h => ?_)) | ((with_reducible apply kQP); refine qP ?_) | ((with_reducible apply kQP); refine qX ?_) | ((with_reducible apply kC); first | refine cT ?_ | refine cF ?_ | (refine cI (fun h => ?_) (fun h => ?_) <;> (try (exfalso; omega))) | refine cB (fun h => ?_) (fun h => ?_)) | ((with_reducible apply kR); refine cQ ?_))
          all_goals first
            | exact r_end ⟨f, min (L + 2) 10, 0, C + 1, acc ++ [min (L + 2) 10, 0, C + 1], oa2, m + 1, c2, blk2⟩ ⟨sdB_to.2 (by simp only; omega), by simp only; omega, hgo, ivs_snoc3 ▸ hrow2, by simp only [List.length_append, hlen, List.length_cons, List.length_nil]; omega, by simp only; omega⟩ (by simp only; omega) (by repeat' first | trivial | rfl | apply And.intro) SCt
            | (exfalso; omega)
  · rw [path_bad hp]
    unfold paB at hp
    have kd := k_valid L T C B w0
    have kt := k_tint l t B w0
    generalize sdB L T C = b1 at kd hp
    generalize tB l t = b2 at kt hp
    refine fn_enter Try.func27 rfl Try.ntmps27 (by simp) ?_
    repeat' (first | ((with_reducible apply kF 22); refine sC 22 (kd _) ?_) | ((with_reducible apply kF 58); refine sC 58 (kt _) ?_) | (with_reducible first | refine c_seq ?_ | refine c_reg ?_ | refine c_region ?_ | refine c_block ?_ | refine c_skip ?_ | refine c_exit ?_ | refine c_ret ?_ | refine s_nil ?_ | refine x_then ?_ | refine x_then_exit ?_ | refine x_then_ret ?_ | refine x_block ?_ | refine x_block_ret ?_ | refine x_block_same ?_ | refine x_block_other (by rfl) ?_ | refine q_nil ?_ | refine k_nil ?_) | ((with_reducible apply kP (.makeFunc _ _ _)); refine sMF ?_) | ((with_reducible apply kG); first | refine gY1 ?_ | refine gN1 ?_ | refine gU1 ?_ | (refine gD1 (fun h => ?_) (fun h => ?_) <;> (try (exfalso; omega))) | refine gB1 (fun h => ?_) (fun h => ?_)) | ((with_reducible apply kN); first | refine stP ?_ | refine stI ?_ | refine st1 ?_ | refine stW ?_) | ((with_reducible apply kP (.alloc _)); refine sA (fun b => ?_)) | ((with_reducible apply kP (.box _ _)); first | refine sBA (fun b => ?_) | refine sB (fun b => ?_)) | ((with_reducible apply kP (.buildSlice _ 1 _)); first | refine sl1A (fun b => ?_) | refine sl1 (fun b => ?_)) | ((with_reducible apply kP (.buildSlice _ 2 _)); refine sl2 (fun b => ?_)) | ((with_reducible apply kP (.buildSlice _ 3 _)); refine sl3 (fun b => ?_)) | ((with_reducible apply kP (.buildSlice _ 4 _)); refine sl4 (fun b => ?_)) | ((with_reducible apply kP (.buildSlice _ 0 _)); refine s_bs0 (scTOf rfl) (zsTOf rfl) (by decide) (fun b => ?_)) | ((with_reducible apply kP (.makeSlice _ _ _)); refine sMk (fun b => ?_)) | ((with_reducible apply kP (.call ⟨.builtin .append, _, _⟩)); refine sAp (fun oa2 c2 blk2 hrow2 => ?_)) | ((with_reducible apply kP _); refine sP ?_) | ((with_reducible apply kP _); refine sX ?_) | ((with_reducible apply kQG); first | refine qY1 ?_ | refine qN1 ?_ | refine qU1 ?_ | (refine qD1 (fun h => ?_) (fun h => ?_) <;> (try (exfalso; omega))) | refine qB1 (fun h => ?_) (fun h => ?_)) | ((with_reducible apply kQP); refine qP ?_) | ((with_reducible apply kQP); refine qX ?_) | ((with_reducible apply kC); first | refine cT ?_ | refine cF ?_ | (refine cI (fun h => ?_) (fun h => ?_) <;> (try (exfalso; omega))) | refine cB (fun h => ?_) (fun h => ?_)) | ((with_reducible apply kR); refine cQ ?_))
    all_goals first
      | exact e_ret3 rfl rfl rfl rfl ⟨none, 0, 0, [], rfl, RowOk.nil, rfl, Nat.zero_le _, rfl⟩ (.cons _ (.refl _))
      | (exfalso; simp_all; done)
end Go.Proofs.Ytphobgibcpmgdaa
