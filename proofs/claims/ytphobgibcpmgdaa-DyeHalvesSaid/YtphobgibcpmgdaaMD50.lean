/- Mixing: the program's and the reference's. -/
import Derived.Test.YtphobgibcpmgdaaMD48
import Derived.Test.YtphobgibcpmgdaaMD36
import Derived.Test.YtphobgibcpmgdaaMD4
namespace Go.Proofs.Ytphobgibcpmgdaa
open Go.RowKit

/-- The first rows with their weights multiplied. -/
def scl (K : Int) (lz : List Int) : Nat → List Int
  | 0 => []
  | i + 1 => scl K lz i ++ [lz.getD (i * 4) 0, lz.getD (i * 4 + 1) 0, lz.getD (i * 4 + 2) 0, wgt lz i * K]
theorem scl_len (K : Int) (lz : List Int) : ∀ i, (scl K lz i).length = i * 4
  | 0 => rfl
  | i + 1 => by rw [scl, List.length_append, scl_len K lz i]; simp; omega
/-- Rows of parts, any weights. -/
structure PV (n : Nat) (l : List Int) : Prop where
  len : l.length = n * 4
  sd : ∀ i, i < n → sdB (l.getD (i * 4) 0) (l.getD (i * 4 + 1) 0) (l.getD (i * 4 + 2) 0) = true
  w : ∀ i, i < n → 0 ≤ wgt l i ∧ wgt l i ≤ 10000000000
theorem PV.nil : PV 0 [] := ⟨rfl, fun i h => absurd h (Nat.not_lt_zero _), fun i h => absurd h (Nat.not_lt_zero _)⟩
theorem PV.app {n : Nat} {l : List Int} (h : PV n l) {L T C x : Int} (h1 : sdB L T C = true) (h2 : 0 ≤ x ∧ x ≤ 10000000000) : PV (n + 1) (l ++ [L, T, C, x]) := by
  have e := h.len
  have g : ∀ j, (l ++ [L, T, C, x]).getD (n * 4 + j) 0 = [L, T, C, x].getD j 0 := fun j => by rw [gD_r (by omega), e, Nat.add_sub_cancel_left]
  refine ⟨by rw [List.length_append, e]; simp; omega, fun i hi => ?_, fun i hi => ?_⟩
  · by_cases hn : i < n
    · rw [gD_l (by omega), gD_l (by omega), gD_l (by omega)]; exact h.sd i hn
    · obtain rfl : i = n := by omega
      rw [show (l ++ [L, T, C, x]).getD (i * 4) 0 = L from g 0, g 1, g 2]; exact h1
  · unfold wgt
    by_cases hn : i < n
    · rw [gD_l (by omega)]; exact h.w i hn
    · obtain rfl : i = n := by omega
      rw [g 3]; exact h2
theorem PV.scl {n N : Nat} {l lz : List Int} {K : Int} (h : PV n l) (hb : VB N lz) (hK : 0 ≤ K ∧ K ≤ 10000000) : ∀ i, i ≤ N → PV (n + i) (l ++ scl K lz i)
  | 0, _ => by rw [Go.Proofs.Ytphobgibcpmgdaa.scl, List.append_nil]; exact h
  | i + 1, hi => by
    rw [Go.Proofs.Ytphobgibcpmgdaa.scl, ← List.append_assoc]
    have hw := hb.w i (by omega)
    refine (h.scl hb hK i (by omega)).app (hb.sd i (by omega)) ⟨Int.mul_nonneg (by omega) hK.1, ?_⟩
    have := Int.mul_le_mul hw.2 hK.2 hK.1 (by decide)
    omega
theorem wS_snoc {l : List Int} {n k : Nat} {L T C x : Int} (h : l.length = n * 4) : wS (l ++ [L, T, C, x]) (n + 1) k = wS l n k + if (L = shL k ∧ T = shT_ k ∧ C = shC k) then x else 0 := by
  have g : ∀ j, (l ++ [L, T, C, x]).getD (n * 4 + j) 0 = [L, T, C, x].getD j 0 := fun j => by rw [gD_r (by omega), h, Nat.add_sub_cancel_left]
  rw [wS_succ, wS_app k (by omega)]
  have e : isS (l ++ [L, T, C, x]) n (shL k) (shT_ k) (shC k) ↔ (L = shL k ∧ T = shT_ k ∧ C = shC k) := by
    unfold isS
    rw [show (l ++ [L, T, C, x]).getD (n * 4) 0 = L from g 0, g 1, g 2]; rfl
  have e2 : wgt (l ++ [L, T, C, x]) n = x := g 3
  rw [e2]
  by_cases hh : L = shL k ∧ T = shT_ k ∧ C = shC k
  · rw [if_pos hh, if_pos (e.2 hh)]
  · rw [if_neg hh, if_neg fun h => hh (e.1 h)]
theorem wS_scl {l lz : List Int} {n k : Nat} {K : Int} (h : l.length = n * 4) : ∀ i, wS (l ++ scl K lz i) (n + i) k = wS l n k + K * wS lz i k
  | 0 => by rw [scl, List.append_nil, wS_zero, Int.mul_zero, Int.add_zero]; rfl
  | i + 1 => by
    rw [scl, ← List.append_assoc, show n + (i + 1) = n + i + 1 by omega, wS_snoc (by rw [List.length_append, h, scl_len]; omega), wS_scl h i, wS_succ]
    by_cases hh : lz.getD (i * 4) 0 = shL k ∧ lz.getD (i * 4 + 1) 0 = shT_ k ∧ lz.getD (i * 4 + 2) 0 = shC k
    · rw [if_pos hh, if_pos (show isS lz i (shL k) (shT_ k) (shC k) from hh), Int.mul_add, Int.mul_comm K (wgt lz i)]; omega
    · rw [if_neg hh, if_neg (show ¬ isS lz i (shL k) (shT_ k) (shC k) from hh), Int.add_zero, Int.add_zero]
structure SS where
  i : Nat
  oa : Option Addr
  c : Nat
  blk : HS
set_option maxRecDepth 100000 in
set_option maxHeartbeats 8000000 in
theorem k_scale (N c n cA b : Nat) (lz acc : List Int) (K : Int) (oa oA : Option Addr) (blk : HS) (hl : lz.length = N * 4) (hb : VB N lz) (hK : 0 ≤ K ∧ K ≤ 10000000) (hn : n ≤ 1000) (ha : acc.length = n * 4) (hrow : RowOk oA cA 4 (ivs acc) blk) (B : Nat) (w0 : Wd) (hs : HS) (hL : Sl B w0 hs oa lz) :
    Fn Try.prog 76 #[.slice oa N c, iv K, .pointer (some ⟨b, 0, none⟩)] B w0 (blk ++ (b, [.slice oA n cA]) :: hs)
      (fun v h => v = .tuple #[] ∧ ∃ oB cB blkB, RowOk oB cB 4 (ivs (acc ++ scl K lz N)) blkB ∧ h = blkB ++ (b, [.slice oB (n + N) cB]) :: hs) := by
  have hle := hb.le
  refine fn_enter Try.func76 rfl Try.ntmps76 (by simp) ?_
  repeat' (first | (with_reducible first | refine c_seq ?_ | refine c_reg ?_ | refine c_region ?_ | refine c_block ?_ | refine c_skip ?_ | refine c_exit ?_ | refine c_ret ?_ | refine s_nil ?_ | refine x_then ?_ | refine x_then_exit ?_ | refine x_then_ret ?_ | refine x_block ?_ | refine x_block_ret ?_ | refine x_block_same ?_ | refine x_block_other (by rfl) ?_ | refine q_nil ?_ | refine k_nil ?_) | ((with_reducible apply kP (.makeFunc _ _ _)); refine sMF ?_) | ((with_reducible apply kG); first | refine gY1 ?_ | refine gN1 ?_ | refine gU1 ?_ | (refine gD1 (fun h => ?_) (fun h => ?_) <;> (try (exfalso; omega))) | refine gB1 (fun h => ?_) (fun h => ?_)) | ((with_reducible apply kN); first | refine stP ?_ | refine stI ?_ | refine st1 ?_ | refine stW ?_) | ((with_reducible apply kP (.alloc _)); refine sA (fun b => ?_)) | ((with_reducible apply kP (.box _ _)); first | refine sBA (fun b => ?_) | refine sB (fun b => ?_)) | ((with_reducible apply kP (.buildSlice _ 1 _)); first | refine sl1A (fun b => ?_) | refine sl1 (fun b => ?_)) | ((with_reducible apply kP (.buildSlice _ 2 _)); refine sl2 (fun b => ?_)) | ((with_reducible apply kP (.buildSlice _ 3 _)); refine sl3 (fun b => ?_)) | ((with_reducible apply kP (.buildSlice _ 4 _)); refine sl4 (fun b => ?_)) | ((with_reducible apply kP (.buildSlice _ 0 _)); refine s_bs0 (scTOf rfl) (zsTOf rfl) (by decide) (fun b => ?_)) | ((with_reducible apply kP (.makeSlice _ _ _)); refine sMk (fun b => ?_)) | ((with_reducible apply kP (.call ⟨.builtin .append, _, _⟩)); refine sAp (fun oa2 c2 blk2 hrow2 => ?_)) | ((with_reducible apply kP _); refine sP ?_) | ((with_reducible apply kP _); refine sX ?_) | ((with_reducible apply kQG); first | refine qY1 ?_ | refine qN1 ?_ | refine qU1 ?_ | (refine qD1 (fun h => ?_) (fun h => ?_) <;> (try (exfalso; omega))) | refine qB1 (fun h => ?_) (fun h => ?_)) | ((with_reducible apply kQP); refine qP ?_) | ((with_reducible apply kQP); refine qX ?_) | ((with_reducible apply kC); first | refine cT ?_ | refine cF ?_ | (refine cI (fun h => ?_) (fun h => ?_) <;> (try (exfalso; omega))) | refine cB (fun h => ?_) (fun h => ?_)) | ((with_reducible apply kR); refine cQ ?_))
  refine c_loop (fun s : SS => [(0, .slice oa N c), (1, iv K), (2, .pointer (some ⟨b, 0, none⟩)), (7, .slice oa N c), (8, iv N), (9, iv s.i)]) (fun s => s.blk ++ (b, [.slice s.oa (n + s.i) s.c]) :: hs)
    (fun s => s.i ≤ N ∧ RowOk s.oa s.c 4 (ivs (acc ++ scl K lz s.i)) s.blk) (fun s => N - s.i) ⟨0, oA, cA, blk⟩ ⟨Nat.zero_le _, by show RowOk oA cA 4 (ivs (acc ++ scl K lz 0)) blk; rw [scl, List.append_nil]; exact hrow⟩ (by repeat' first | trivial | rfl | apply And.intro) (.refl _) ?_
  rintro ⟨i, oa3, c3, blk3⟩ ⟨hi, hr⟩
  dsimp only at hi hr ⊢
  have hlen : (ivs (acc ++ scl K lz i)).length = (n + i) * 4 := by rw [ivs_length, List.length_append, ha, scl_len]; omega
  by_cases hi' : i < N
  · have hoA : oa.isSome = true := hL.any (i := i * 4) (by omega)
    have hw := hb.w i hi'
    unfold wgt at hw
    have q1 : 0 ≤ lz.getD (i * 4 + 3) 0 * K := Int.mul_nonneg (by omega) hK.1
    have q2 : lz.getD (i * 4 + 3) 0 * K ≤ 1000 * 10000000 := Int.mul_le_mul hw.2 hK.2 hK.1 (by decide)
    have hf4 : Flat [iv (lz.getD (i * 4) 0), iv (lz.getD (i * 4 + 1) 0), iv (lz.getD (i * 4 + 2) 0), iv (lz.getD (i * 4 + 3) 0 * K)] := flat4 rfl rfl rfl rfl
    repeat' (first | ((with_reducible apply kN); refine stW ?_ (hf := flat4 rfl rfl rfl rfl)) | ((with_reducible apply kP (.load 111 _)); refine sP ?_ (o_load rfl (ld_4S (shTOf rfl) (by assumption) SBt (by omega)))) | ((with_reducible apply kP (.load 23 _)); refine sP ?_ (o_load rfl (ld_own (shTOf rfl) MMt rfl rfl))) | ((with_reducible apply kDP (.load 23 _)); refine dP ?_ (hX := rfl) (hv := o_load rfl (ld_own (shTOf rfl) MMt rfl rfl))) | (with_reducible first | refine c_seq ?_ | refine c_reg ?_ | refine c_region ?_ | refine c_block ?_ | refine c_skip ?_ | refine c_exit ?_ | refine c_ret ?_ | refine s_nil ?_ | refine x_then ?_ | refine x_then_exit ?_ | refine x_then_ret ?_ | refine x_block ?_ | refine x_block_ret ?_ | refine x_block_same ?_ | refine x_block_other (by rfl) ?_ | refine q_nil ?_ | refine k_nil ?_) | ((with_reducible apply kP (.makeFunc _ _ _)); refine sMF ?_) | ((with_reducible apply kG); first | refine gY1 ?_ | refine gN1 ?_ | refine gU1 ?_ | (refine gD1 (fun h => ?_) (fun h => ?_) <;> (try (exfalso; omega))) | refine gB1 (fun h => ?_) (fun h => ?_)) | ((with_reducible apply kN); first | refine stP ?_ | refine stI ?_ | refine st1 ?_ | refine stW ?_) | ((with_reducible apply kP (.alloc _)); refine sA (fun b => ?_)) | ((with_reducible apply kP (.box _ _)); first | refine sBA (fun b => ?_) | refine sB (fun b => ?_)) | ((with_reducible apply kP (.buildSlice _ 1 _)); first | refine sl1A (fun b => ?_) | refine sl1 (fun b => ?_)) | ((with_reducible apply kP (.buildSlice _ 2 _)); refine sl2 (fun b => ?_)) | ((with_reducible apply kP (.buildSlice _ 3 _)); refine sl3 (fun b => ?_)) | ((with_reducible apply kP (.buildSlice _ 4 _)); refine sl4 (fun b => ?_)) | ((with_reducible apply kP (.buildSlice _ 0 _)); refine s_bs0 (scTOf rfl) (zsTOf rfl) (by decide) (fun b => ?_)) | ((with_reducible apply kP (.makeSlice _ _ _)); refine sMk (fun b => ?_)) | ((with_reducible apply kP (.call ⟨.builtin .append, _, _⟩)); refine sAp (fun oa2 c2 blk2 hrow2 => ?_)) | ((with_reducible apply kP _); refine sP ?_) | ((with_reducible apply kP _); refine sX ?_) | ((with_reducible apply kQG); first | refine qY1 ?_ | refine qN1 ?_ | refine qU1 ?_ | (refine qD1 (fun h => ?_) (fun h => ?_) <;> (try (exfalso; omega))) | refine qB1 (fun h => ?_) (fun h => ?_)) | ((with_reducible apply kQP); refine qP ?_) | ((with_reducible apply kQP); refine qX ?_) | ((with_reducible apply kC); first | refine cT ?_ | refine cF ?_ | (refine cI (fun h => ?_) (fun h => ?_) <;> (try (exfalso; omega))) | refine cB (fun h => ?_) (fun h => ?_)) | ((with_reducible apply kR); refine cQ ?_))
    have hrow3 : RowOk oa2 c2 4 (ivs (acc ++ scl K lz i) ++ [iv (lz.getD (i * 4) 0), iv (lz.getD (i * 4 + 1) 0), iv (lz.getD (i * 4 + 2) 0), iv (lz.getD (i * 4 + 3) 0 * K)]) blk2 := hrow2
    rw [ivs_sn4, List.append_assoc] at hrow3
    exact r_end ⟨i + 1, oa2, c2, blk2⟩ ⟨hi', hrow3⟩ (by show N - (i + 1) < N - i; omega) (by repeat' first | trivial | rfl | apply And.intro) (List.Sublist.append (.refl _) (.cons _ (.cons _ (.refl _))))
  · obtain rfl : i = N := by omega
    repeat' (first | (with_reducible first | refine c_seq ?_ | refine c_reg ?_ | refine c_region ?_ | refine c_block ?_ | refine c_skip ?_ | refine c_exit ?_ | refine c_ret ?_ | refine s_nil ?_ | refine x_then ?_ | refine x_then_exit ?_ | refine x_then_ret ?_ | refine x_block ?_ | refine x_block_ret ?_ | refine x_block_same ?_ | refine x_block_other (by rfl) ?_ | refine q_nil ?_ | refine k_nil ?_) | ((with_reducible apply kP (.makeFunc _ _ _)); refine sMF ?_) | ((with_reducible apply kG); first | refine gY1 ?_ | refine gN1 ?_ | refine gU1 ?_ | (refine gD1 (fun h => ?_) (fun h => ?_) <;> (try (exfalso; omega))) | refine gB1 (fun h => ?_) (fun h => ?_)) | ((with_reducible apply kN); first | refine stP ?_ | refine stI ?_ | refine st1 ?_ | refine stW ?_) | ((with_reducible apply kP (.alloc _)); refine sA (fun b => ?_)) | ((with_reducible apply kP (.box _ _)); first | refine sBA (fun b => ?_) | refine sB (fun b => ?_)) | ((with_reducible apply kP (.buildSlice _ 1 _)); first | refine sl1A (fun b => ?_) | refine sl1 (fun b => ?_)) | ((with_reducible apply kP (.buildSlice _ 2 _)); refine sl2 (fun b => ?_)) | ((with_reducible apply kP (.buildSlice _ 3 _)); refine sl3 (fun b => ?_)) | ((with_reducible apply kP (.buildSlice _ 4 _)); refine sl4 (fun b => ?_)) | ((with_reducible apply kP (.buildSlice _ 0 _)); refine s_bs0 (scTOf rfl) (zsTOf rfl) (by decide) (fun b => ?_)) | ((with_reducible apply kP (.makeSlice _ _ _)); refine sMk (fun b => ?_)) | ((with_reducible apply kP (.call ⟨.builtin .append, _, _⟩)); refine sAp (fun oa2 c2 blk2 hrow2 => ?_)) | ((with_reducible apply kP _); refine sP ?_) | ((with_reducible apply kP _); refine sX ?_) | ((with_reducible apply kQG); first | refine qY1 ?_ | refine qN1 ?_ | refine qU1 ?_ | (refine qD1 (fun h => ?_) (fun h => ?_) <;> (try (exfalso; omega))) | refine qB1 (fun h => ?_) (fun h => ?_)) | ((with_reducible apply kQP); refine qP ?_) | ((with_reducible apply kQP); refine qX ?_) | ((with_reducible apply kC); first | refine cT ?_ | refine cF ?_ | (refine cI (fun h => ?_) (fun h => ?_) <;> (try (exfalso; omega))) | refine cB (fun h => ?_) (fun h => ?_)) | ((with_reducible apply kR); refine cQ ?_))
    exact e_ret0 rfl ⟨rfl, _, _, _, hr, rfl⟩ (.refl _)
end Go.Proofs.Ytphobgibcpmgdaa
