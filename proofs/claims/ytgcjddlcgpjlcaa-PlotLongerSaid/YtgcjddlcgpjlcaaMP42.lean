/- A day of a plan. -/
import Derived.Test.YtgcjddlcgpjlcaaMP41
namespace Go.Proofs.Ytgcjddlcgpjlcaa
open Go.RowKit

theorem natJ_snoc (js : List Nat) (i : Nat) : ivs (natJ (js ++ [i])) = ivs (natJ js) ++ [iv i] := by simp [natJ, ivs]
structure DQ where
  k : Nat
  g : Nat → Int
  qs : List Nat
  oa : Option Addr
  c : Nat
  blk : HS
theorem fla_upd {d : Int} {g : Nat → Int} {qs : List Nat} {j0 : Nat} {x : Int} (h : j0 ∉ qs) : fla (qs.map (rS d fun i => if i = j0 then x else g i)) = fla (qs.map (rS d g)) := by
  congr 1
  refine List.map_congr_left fun j hj => ?_
  have hne : j ≠ j0 := fun e => h (by rw [← e]; exact hj)
  have e : (fun i => if i = j0 then x else g i) j = g j := if_neg hne
  unfold rS
  rw [e]
set_option maxRecDepth 100000 in
set_option maxHeartbeats 8000000 in
theorem k_day {K c cl d bl B : Nat} {μ : Int} {w0 : Wd} {hs : HS} {ob : Option Addr} {z : List Int} {lf : Nat → Int} {zz : List Value} (hz : z.length = K * 3) (hK : 1 ≤ K) (hK8 : K ≤ 8) (hd : d < 60) (hμ : 0 ≤ μ ∧ μ ≤ 1440) (hlf : ∀ j, j < K → 0 ≤ lf j ∧ lf j ≤ 20000) (hJ : Sl B w0 hs ob z) :
    Fn Try.prog 83 #[iv d, iv μ, .slice ob K c, .slice (some ⟨bl, 0, none⟩) K cl] B w0 ((bl, ivs (tab K lf) ++ zz) :: hs) (fun u h => ∃ oS cS blk g ps sl, u = .slice oS ps.length cS ∧ RowOk oS cS 3 (ivs sl) blk ∧ h = blk ++ (bl, ivs (tab K fun j => lf j - g j) ++ zz) :: hs ∧ DayOk K (jR z) (jD z) d μ lf g ∧ (∀ j, j ∈ ps ↔ j < K ∧ 0 < g j) ∧ (∀ a b, a < b → b < ps.length → ps.getD a 0 < ps.getD b 0) ∧ Sl3 d g ps sl) := by
  have hoJ : ob.isSome = true := hJ.any (i := 0) (by omega)
  refine fn_enter Try.func83 rfl Try.ntmps83 (by simp) ?_
  repeat' (first | (with_reducible first | refine c_seq ?_ | refine c_reg ?_ | refine c_region ?_ | refine c_block ?_ | refine c_skip ?_ | refine c_exit ?_ | refine c_ret ?_ | refine s_nil ?_ | refine x_then ?_ | refine x_then_exit ?_ | refine x_then_ret ?_ | refine x_block ?_ | refine x_block_ret ?_ | refine x_block_same ?_ | refine x_block_other (by rfl) ?_ | refine q_nil ?_ | refine k_nil ?_) | ((with_reducible apply kP (.makeFunc _ _ _)); refine sMF ?_) | ((with_reducible apply kG); first | refine gY1 ?_ | refine gN1 ?_ | refine gU1 ?_ | (refine gD1 (fun h => ?_) (fun h => ?_) <;> (try (exfalso; omega))) | refine gB1 (fun h => ?_) (fun h => ?_)) | ((with_reducible apply kN); first | refine stP ?_ | refine stI ?_ | refine st1 ?_ | refine stW ?_) | ((with_reducible apply kP (.alloc _)); refine sA (fun b => ?_)) | ((with_reducible apply kP (.box _ _)); first | refine sBA (fun b => ?_) | refine sB (fun b => ?_)) | ((with_reducible apply kP (.buildSlice _ 1 _)); first | refine sl1A (fun b => ?_) | refine sl1 (fun b => ?_)) | ((with_reducible apply kP (.buildSlice _ 2 _)); refine sl2 (fun b => ?_)) | ((with_reducible apply kP (.buildSlice _ 3 _)); refine sl3 (fun b => ?_)) | ((with_reducible apply kP (.buildSlice _ 4 _)); refine sl4 (fun b => ?_)) | ((with_reducible apply kP (.buildSlice _ 0 _)); refine s_bs0 (scTOf rfl) (zsTOf rfl) (by decide) (fun b => ?_)) | ((with_reducible apply kP (.makeSlice _ _ _)); refine sMk (fun b => ?_)) | ((with_reducible apply kP (.call ⟨.builtin .append, _, _⟩)); refine sAp (fun oa2 c2 blk2 hrow2 => ?_)) | ((with_reducible apply kP _); refine sP ?_) | ((with_reducible apply kP _); refine sX ?_) | ((with_reducible apply kQG); first | refine qY1 ?_ | refine qN1 ?_ | refine qU1 ?_ | (refine qD1 (fun h => ?_) (fun h => ?_) <;> (try (exfalso; omega))) | refine qB1 (fun h => ?_) (fun h => ?_)) | ((with_reducible apply kQP); refine qP ?_) | ((with_reducible apply kQP); refine qX ?_) | ((with_reducible apply kC); first | refine cT ?_ | refine cF ?_ | (refine cI (fun h => ?_) (fun h => ?_) <;> (try (exfalso; omega))) | refine cB (fun h => ?_) (fun h => ?_)) | ((with_reducible apply kR); refine cQ ?_))
  revert b
  intro b6
  refine c_loop (fun s : LT => [(0, iv d), (1, iv μ), (3, .slice (some ⟨bl, 0, none⟩) K cl), (6, .pointer (some ⟨b6, 0, none⟩)), (9, .slice s.oa (ksW (opB (jR z) (jD z) d lf) s.i).length s.c), (16, .slice ob K c), (17, iv K), (18, iv s.i)]) (fun s => s.blk ++ (b6, [.slice ob K c]) :: (bl, ivs (tab K lf) ++ zz) :: hs) (fun s => s.i ≤ K ∧ RowOk s.oa s.c 1 (ivs (natJ (ksW (opB (jR z) (jD z) d lf) s.i))) s.blk) (fun s => K - s.i) ⟨0, none, 0, []⟩ ⟨Nat.zero_le _, .nil⟩ (by repeat' first | trivial | rfl | apply And.intro) (.refl _) ?_
  rintro ⟨i, o9, c9, blk⟩ ⟨hi, hrow⟩
  dsimp only at hi hrow ⊢
  have hkl := ksW_len (opB (jR z) (jD z) d lf) i
  have hlen : (ivs (natJ (ksW (opB (jR z) (jD z) d lf) i))).length = (ksW (opB (jR z) (jD z) d lf) i).length * 1 := by rw [ivs_length, natJ_len, Nat.mul_one]
  have htl := tab_length K lf
  by_cases hi' : i < K
  · have kw := k_within d (z.getD (i * 3 + 1) 0) (z.getD (i * 3 + 2) 0) B w0
    have hv : (tab K lf).getD i 0 = lf i := tab_getD _ hi'
    rcases hp : opB (jR z) (jD z) d lf i with _ | _
    · have e : ksW (opB (jR z) (jD z) d lf) (i + 1) = ksW (opB (jR z) (jD z) d lf) i := by rw [ksW_succ, hp]; rfl
      have hp' := of_decide_eq_false hp
      unfold jR jD at hp'
      rw [← hv] at hp'
      rcases hb : decide (inB d (z.getD (i * 3 + 1) 0) (z.getD (i * 3 + 2) 0)) with _ | _
      all_goals
        rw [hb] at kw
        simp only [decide_eq_false_iff_not, decide_eq_true_eq] at hb
        unfold inB at hb
        repeat' (first | ((with_reducible apply kP (.load 79 _)); refine sP ?_ (o_load rfl (ld_3S (shTOf rfl) hJ SBt (by omega)))) | ((with_reducible apply kDP (.load 79 _)); refine dP ?_ (hX := rfl) (hv := o_load rfl (ld_3S (shTOf rfl) hJ SBt (by omega)))) | ((with_reducible apply kQO (.load 79 _)); refine qP ?_ (o_load rfl (ld_3S (shTOf rfl) hJ SBt (by omega)))) | ((with_reducible apply kP (.load 3 (.tmp 25))); refine sP ?_ (o_load rfl (ld_one (shTOf rfl) (ownY MMt (by omega))))) | ((with_reducible apply kDP (.load 3 (.tmp 25))); refine dP ?_ (hX := rfl) (hv := o_load rfl (ld_one (shTOf rfl) (ownY MMt (by omega))))) | ((with_reducible apply kQO (.load 3 (.tmp 25))); refine qP ?_ (o_load rfl (ld_one (shTOf rfl) (ownY MMt (by omega))))) | ((with_reducible apply kF 60); refine sC 60 (kw _) ?_) | (with_reducible first | refine c_seq ?_ | refine c_reg ?_ | refine c_region ?_ | refine c_block ?_ | refine c_skip ?_ | refine c_exit ?_ | refine c_ret ?_ | refine s_nil ?_ | refine x_then ?_ | refine x_then_exit ?_ | refine x_then_ret ?_ | refine x_block ?_ | refine x_block_ret ?_ | refine x_block_same ?_ | refine x_block_other (by rfl) ?_ | refine q_nil ?_ | refine k_nil ?_) | ((with_reducible apply kP (.makeFunc _ _ _)); refine sMF ?_) | ((with_reducible apply kG); first | refine gY1 ?_ | refine gN1 ?_ | refine gU1 ?_ | (refine gD1 (fun h => ?_) (fun h => ?_) <;> (try (exfalso; omega))) | refine gB1 (fun h => ?_) (fun h => ?_)) | ((with_reducible apply kN); first | refine stP ?_ | refine stI ?_ | refine st1 ?_ | refine stW ?_) | ((with_reducible apply kP (.alloc _)); refine sA (fun b => ?_)) | ((with_reducible apply kP (.box _ _)); first | refine sBA (fun b => ?_) | refine sB (fun b => ?_)) | ((with_reducible apply kP (.buildSlice _ 1 _)); first | refine sl1A (fun b => ?_) | refine sl1 (fun b => ?_)) | ((with_reducible apply kP (.buildSlice _ 2 _)); refine sl2 (fun b => ?_)) | ((with_reducible apply kP (.buildSlice _ 3 _)); refine sl3 (fun b => ?_)) | ((with_reducible apply kP (.buildSlice _ 4 _)); refine sl4 (fun b => ?_)) | ((with_reducible apply kP (.buildSlice _ 0 _)); refine s_bs0 (scTOf rfl) (zsTOf rfl) (by decide) (fun b => ?_)) | ((with_reducible apply kP (.makeSlice _ _ _)); refine sMk (fun b => ?_)) | ((with_reducible apply kP (.call ⟨.builtin .append, _, _⟩)); refine sAp (fun oa2 c2 blk2 hrow2 => ?_)) | ((with_reducible apply kP _); refine sP ?_) | ((with_reducible apply kP _); refine sX ?_) | ((with_reducible apply kQG); first | refine qY1 ?_ | refine qN1 ?_ | refine qU1 ?_ | (refine qD1 (fun h => ?_) (fun h => ?_) <;> (try (exfalso; omega))) | refine qB1 (fun h => ?_) (fun h => ?_)) | ((with_reducible apply kQP); refine qP ?_) | ((with_reducible apply kQP); refine qX ?_) | ((with_reducible apply kC); first | refine cT ?_ | refine cF ?_ | (refine cI (fun h => ?_) (fun h => ?_) <;> (try (exfalso; omega))) | refine cB (fun h => ?_) (fun h => ?_)) | ((with_reducible apply kR); refine cQ ?_))
        all_goals first
          | exact r_end ⟨i + 1, o9, c9, blk⟩ ⟨hi', by dsimp only; rw [e]; exact hrow⟩ (by show K - (i + 1) < K - i; omega) (by dsimp only; rw [e]; exact (by repeat' first | trivial | rfl | apply And.intro)) (by dsimp only; exact SCt)
          | (exfalso; omega)
          | trace_state
    · have e : ksW (opB (jR z) (jD z) d lf) (i + 1) = ksW (opB (jR z) (jD z) d lf) i ++ [i] := by rw [ksW_succ, hp]; rfl
      have hp' := of_decide_eq_true hp
      unfold jR jD at hp'
      rw [← hv] at hp'
      rw [decide_eq_true (show inB d (z.getD (i * 3 + 1) 0) (z.getD (i * 3 + 2) 0) from hp'.2)] at kw
      obtain ⟨hp1, _⟩ := hp'
      repeat' (first | ((with_reducible apply kP (.load 79 _)); refine sP ?_ (o_load rfl (ld_3S (shTOf rfl) hJ SBt (by omega)))) | ((with_reducible apply kDP (.load 79 _)); refine dP ?_ (hX := rfl) (hv := o_load rfl (ld_3S (shTOf rfl) hJ SBt (by omega)))) | ((with_reducible apply kQO (.load 79 _)); refine qP ?_ (o_load rfl (ld_3S (shTOf rfl) hJ SBt (by omega)))) | ((with_reducible apply kP (.load 3 (.tmp 25))); refine sP ?_ (o_load rfl (ld_one (shTOf rfl) (ownY MMt (by omega))))) | ((with_reducible apply kDP (.load 3 (.tmp 25))); refine dP ?_ (hX := rfl) (hv := o_load rfl (ld_one (shTOf rfl) (ownY MMt (by omega))))) | ((with_reducible apply kQO (.load 3 (.tmp 25))); refine qP ?_ (o_load rfl (ld_one (shTOf rfl) (ownY MMt (by omega))))) | ((with_reducible apply kF 60); refine sC 60 (kw _) ?_) | (with_reducible first | refine c_seq ?_ | refine c_reg ?_ | refine c_region ?_ | refine c_block ?_ | refine c_skip ?_ | refine c_exit ?_ | refine c_ret ?_ | refine s_nil ?_ | refine x_then ?_ | refine x_then_exit ?_ | refine x_then_ret ?_ | refine x_block ?_ | refine x_block_ret ?_ | refine x_block_same ?_ | refine x_block_other (by rfl) ?_ | refine q_nil ?_ | refine k_nil ?_) | ((with_reducible apply kP (.makeFunc _ _ _)); refine sMF ?_) | ((with_reducible apply kG); first | refine gY1 ?_ | refine gN1 ?_ | refine gU1 ?_ | (refine gD1 (fun h => ?_) (fun h => ?_) <;> (try (exfalso; omega))) | refine gB1 (fun h => ?_) (fun h => ?_)) | ((with_reducible apply kN); first | refine stP ?_ | refine stI ?_ | refine st1 ?_ | refine stW ?_) | ((with_reducible apply kP (.alloc _)); refine sA (fun b => ?_)) | ((with_reducible apply kP (.box _ _)); first | refine sBA (fun b => ?_) | refine sB (fun b => ?_)) | ((with_reducible apply kP (.buildSlice _ 1 _)); first | refine sl1A (fun b => ?_) | refine sl1 (fun b => ?_)) | ((with_reducible apply kP (.buildSlice _ 2 _)); refine sl2 (fun b => ?_)) | ((with_reducible apply kP (.buildSlice _ 3 _)); refine sl3 (fun b => ?_)) | ((with_reducible apply kP (.buildSlice _ 4 _)); refine sl4 (fun b => ?_)) | ((with_reducible apply kP (.buildSlice _ 0 _)); refine s_bs0 (scTOf rfl) (zsTOf rfl) (by decide) (fun b => ?_)) | ((with_reducible apply kP (.makeSlice _ _ _)); refine sMk (fun b => ?_)) | ((with_reducible apply kP (.call ⟨.builtin .append, _, _⟩)); refine sAp (fun oa2 c2 blk2 hrow2 => ?_)) | ((with_reducible apply kP _); refine sP ?_) | ((with_reducible apply kP _); refine sX ?_) | ((with_reducible apply kQG); first | refine qY1 ?_ | refine qN1 ?_ | refine qU1 ?_ | (refine qD1 (fun h => ?_) (fun h => ?_) <;> (try (exfalso; omega))) | refine qB1 (fun h => ?_) (fun h => ?_)) | ((with_reducible apply kQP); refine qP ?_) | ((with_reducible apply kQP); refine qX ?_) | ((with_reducible apply kC); first | refine cT ?_ | refine cF ?_ | (refine cI (fun h => ?_) (fun h => ?_) <;> (try (exfalso; omega))) | refine cB (fun h => ?_) (fun h => ?_)) | ((with_reducible apply kR); refine cQ ?_))
      all_goals first
        | exact r_end ⟨i + 1, oa2, c2, blk2⟩ ⟨hi', by dsimp only; rw [e, natJ_snoc]; exact hrow2⟩ (by show K - (i + 1) < K - i; omega) (by dsimp only; rw [e, List.length_append]; exact (by repeat' first | trivial | rfl | apply And.intro)) (by dsimp only; exact SCt)
        | (exfalso; omega)
        | trace_state
  · obtain rfl : i = K := by omega
    clear hi hi' hlen
    have hk0 : ∀ x, x < (ksW (opB (jR z) (jD z) d lf) i).length → 0 ≤ (natJ (ksW (opB (jR z) (jD z) d lf) i)).getD x 0 ∧ (natJ (ksW (opB (jR z) (jD z) d lf) i)).getD x 0 < i := fun x hx => by
      rw [natJ_get hx]
      have := getD_memN hx
      unfold ksW at this
      have := List.mem_range.1 (List.mem_filter.1 this).1
      unfold ksW
      omega
    repeat' (first | ((with_reducible apply kF 94); refine sR 94 (k_sort9 (c := c9) (d := c) (b6 := b6) hz (natJ_len _) (by omega) hk0 hrow (hJ.sub (.cons _ (.refl _)))) ?_; rintro u h' ⟨rfl, m', blk', hrow', hpm, hso, rfl⟩) | (with_reducible first | refine c_seq ?_ | refine c_reg ?_ | refine c_region ?_ | refine c_block ?_ | refine c_skip ?_ | refine c_exit ?_ | refine c_ret ?_ | refine s_nil ?_ | refine x_then ?_ | refine x_then_exit ?_ | refine x_then_ret ?_ | refine x_block ?_ | refine x_block_ret ?_ | refine x_block_same ?_ | refine x_block_other (by rfl) ?_ | refine q_nil ?_ | refine k_nil ?_) | ((with_reducible apply kP (.makeFunc _ _ _)); refine sMF ?_) | ((with_reducible apply kG); first | refine gY1 ?_ | refine gN1 ?_ | refine gU1 ?_ | (refine gD1 (fun h => ?_) (fun h => ?_) <;> (try (exfalso; omega))) | refine gB1 (fun h => ?_) (fun h => ?_)) | ((with_reducible apply kN); first | refine stP ?_ | refine stI ?_ | refine st1 ?_ | refine stW ?_) | ((with_reducible apply kP (.alloc _)); refine sA (fun b => ?_)) | ((with_reducible apply kP (.box _ _)); first | refine sBA (fun b => ?_) | refine sB (fun b => ?_)) | ((with_reducible apply kP (.buildSlice _ 1 _)); first | refine sl1A (fun b => ?_) | refine sl1 (fun b => ?_)) | ((with_reducible apply kP (.buildSlice _ 2 _)); refine sl2 (fun b => ?_)) | ((with_reducible apply kP (.buildSlice _ 3 _)); refine sl3 (fun b => ?_)) | ((with_reducible apply kP (.buildSlice _ 4 _)); refine sl4 (fun b => ?_)) | ((with_reducible apply kP (.buildSlice _ 0 _)); refine s_bs0 (scTOf rfl) (zsTOf rfl) (by decide) (fun b => ?_)) | ((with_reducible apply kP (.makeSlice _ _ _)); refine sMk (fun b => ?_)) | ((with_reducible apply kP (.call ⟨.builtin .append, _, _⟩)); refine sAp (fun oa2 c2 blk2 hrow2 => ?_)) | ((with_reducible apply kP _); refine sP ?_) | ((with_reducible apply kP _); refine sX ?_) | ((with_reducible apply kQG); first | refine qY1 ?_ | refine qN1 ?_ | refine qU1 ?_ | (refine qD1 (fun h => ?_) (fun h => ?_) <;> (try (exfalso; omega))) | refine qB1 (fun h => ?_) (fun h => ?_)) | ((with_reducible apply kQP); refine qP ?_) | ((with_reducible apply kQP); refine qX ?_) | ((with_reducible apply kC); first | refine cT ?_ | refine cF ?_ | (refine cI (fun h => ?_) (fun h => ?_) <;> (try (exfalso; omega))) | refine cB (fun h => ?_) (fun h => ?_)) | ((with_reducible apply kR); refine cQ ?_))
    obtain ⟨os, rfl, hpo⟩ := natJ_perm hpm
    have hol : os.length = (ksW (opB (jR z) (jD z) d lf) i).length := hpo.length_eq
    have hnd : os.Nodup := hpo.nodup_iff.2 (List.nodup_range.filter _)
    have hmo : ∀ j, j ∈ os ↔ j < i ∧ opB (jR z) (jD z) d lf j = true := fun j => by rw [hpo.mem_iff, ksW, List.mem_filter, List.mem_range]
    have hsD : ∀ a b, a < b → b < os.length → jD z (os.getD a 0) ≤ jD z (os.getD b 0) := fun a b h1 h2 => by
      have := hso a b h1 (by omega)
      rw [natJ_get (by omega), natJ_get h2] at this
      simpa using this
    rw [← hol]
    have hS9 := Sl.rowK (B := B) (w0 := w0) hrow'
    have hnl := natJ_len os
    have hoK : ∀ a, a < os.length → os.getD a 0 < i := fun a ha => ((hmo _).1 (getD_memN ha)).1
    have hos8 : os.length ≤ 8 := by omega
    clear hpm hso hpo hk0 hrow hol
    refine c_loop (fun s : DQ => [(0, iv d), (1, iv (μ - sumTo s.g i)), (3, .slice (some ⟨bl, 0, none⟩) i cl), (12, .slice s.oa s.qs.length s.c), (44, .slice o9 os.length c9), (45, iv os.length), (46, iv s.k)]) (fun s => s.blk ++ (blk' ++ (bl, ivs (tab i fun j => lf j - s.g j) ++ zz) :: hs)) (fun s => s.k ≤ os.length ∧ Gk i lf μ os s.k s.g s.qs ∧ RowOk s.oa s.c 3 (ivs (fla (s.qs.map (rS d s.g)))) s.blk) (fun s => os.length - s.k) ⟨0, fun _ => 0, [], none, 0, []⟩ ⟨Nat.zero_le _, .zero (fun j hj => (hlf j hj).1) hμ.1, .nil⟩ (by dsimp only; rw [sumTo_zero i fun _ _ => rfl, Int.sub_zero]; exact (by repeat' first | trivial | rfl | apply And.intro)) (by dsimp only; rw [show (tab i fun j => lf j - 0) = tab i lf from tab_ext fun j _ => Int.sub_zero _]; exact (List.Sublist.append (List.Sublist.refl blk') (List.Sublist.cons _ (List.Sublist.refl _)) : (blk' ++ ((bl, ivs (tab i lf) ++ zz) :: hs)).Sublist (blk' ++ ((b6, [Value.slice ob i c]) :: (bl, ivs (tab i lf) ++ zz) :: hs)))) ?_
    clear hkl
    rintro ⟨k, g, qs, oQ, cQ, blkQ⟩ ⟨hk, hG, hrQ⟩
    dsimp only at hk hG hrQ ⊢
    have hqn : qs.length ≤ os.length := by
      have := nodup_sub hG.nd (l := os) fun x hx => List.mem_of_mem_take ((hG.mem x).1 hx).1
      omega
    have hlQ : (ivs (fla (qs.map (rS d g)))).length = qs.length * 3 := by rw [ivs_length, fla_len, List.length_map]
    have hcap := hG.cap
    have hsnn : 0 ≤ sumTo g i := sumTo_nonneg i fun j hj => (hG.nn j hj).1
    by_cases hk' : k < os.length
    · have ho9 : o9.isSome = true := hS9.any (i := k) (by omega)
      have hj0 := hoK k hk'
      have hG2 := hG.step hnd hk' hoK
      have hout := hG.out (os.getD k 0) (fun hx => by
        obtain ⟨a, h1, h2, h3⟩ := mem_takeG hx
        rw [List.getD_eq_getElem?_getD, List.getD_eq_getElem?_getD, List.getElem?_eq_getElem h2, List.getElem?_eq_getElem hk'] at h3
        have := (List.getElem_inj hnd).1 h3
        omega)
      have hfq : os.getD k 0 ∉ qs := fun hx => by have := ((hG.mem _).1 hx).2; omega
      have hsm := fun x => sum_upd (x := x) hout i hj0
      have hlj := hlf _ hj0
      have hgk : (natJ os).getD k 0 = (os.getD k 0 : Int) := natJ_get hk'
      generalize hje : os.getD k 0 = j0 at *
      have hvl : (tab i fun j => lf j - g j).getD j0 0 = lf j0 := by rw [tab_getD _ hj0, hout]; omega
      have htl2 := tab_length i fun j => lf j - g j
      have e0 : (tab i fun j => lf j - g j).set j0 (lf j0 - min (μ - sumTo g i) (lf j0)) = tab i fun j => lf j - (if j = j0 then min (μ - sumTo g i) (lf j0) else g j) := by
        rw [tab_set]
        refine tab_ext fun j _ => ?_
        by_cases e : j = j0
        · rw [if_pos e, if_pos e, e]
        · rw [if_neg e, if_neg e]
      have hx : 0 ≤ min (μ - sumTo g i) (lf j0) ∧ min (μ - sumTo g i) (lf j0) ≤ 20000 := by omega
      have e1 := hsm (min (μ - sumTo g i) (lf j0))
      generalize hme : min (μ - sumTo g i) (lf j0) = x at *
      have hLd : @Ld = @Ld := rfl
      by_cases hpos : 0 < x
      · rw [if_pos hpos] at hG2
        have e2 : ivs (fla ((qs ++ [j0]).map (rS d fun j => if j = j0 then x else g j))) = ivs (fla (qs.map (rS d g))) ++ [iv d, iv j0, iv x] := by
          rw [List.map_append]
          have := fla_upd (d := (d : Int)) (g := g) (x := x) hfq
          unfold fla at this ⊢
          rw [List.map_append, List.flatten_append, this]
          simp [ivs, rS]; rfl
        repeat' (first | ((with_reducible apply kP (.load 3 (.tmp 48))); refine sP ?_ (hgk ▸ o_load rfl (ld_one (shTOf rfl) (Sl.at hS9 SBt (by omega))))) | ((with_reducible apply kDP (.load 3 (.tmp 48))); refine dP ?_ (hX := rfl) (hv := hgk ▸ o_load rfl (ld_one (shTOf rfl) (Sl.at hS9 SBt (by omega))))) | ((with_reducible apply kQO (.load 3 (.tmp 48))); refine qP ?_ (hgk ▸ o_load rfl (ld_one (shTOf rfl) (Sl.at hS9 SBt (by omega))))) | ((with_reducible apply kP (.load 3 (.tmp 53))); refine sP ?_ (hvl ▸ o_load rfl (ld_one (shTOf rfl) (ownY MMt (by omega))))) | ((with_reducible apply kDP (.load 3 (.tmp 53))); refine dP ?_ (hX := rfl) (hv := hvl ▸ o_load rfl (ld_one (shTOf rfl) (ownY MMt (by omega))))) | ((with_reducible apply kQO (.load 3 (.tmp 53))); refine qP ?_ (hvl ▸ o_load rfl (ld_one (shTOf rfl) (ownY MMt (by omega))))) | ((with_reducible apply kP (.load 3 (.tmp 70))); refine sP ?_ (hvl ▸ o_load rfl (ld_one (shTOf rfl) (ownY MMt (by omega))))) | ((with_reducible apply kDP (.load 3 (.tmp 70))); refine dP ?_ (hX := rfl) (hv := hvl ▸ o_load rfl (ld_one (shTOf rfl) (ownY MMt (by omega))))) | ((with_reducible apply kQO (.load 3 (.tmp 70))); refine qP ?_ (hvl ▸ o_load rfl (ld_one (shTOf rfl) (ownY MMt (by omega))))) | ((with_reducible apply kP (.call ⟨.builtin .min, _, _⟩)); refine sP ?_ (hme ▸ o_min rfl rfl)) | ((with_reducible apply kN); refine s_storeZ rfl rfl (shTOf rfl) (by with_reducible first | exact uu0 | exact uu1 | exact uu2 | exact uu3 | exact uu4 | exact uu5 | exact uu6 | exact uu7 | exact uu8 | ((repeat (first | exact uu0 | apply Upd.tail | apply Upd.app)); done)) (by omega) ?_) | (with_reducible first | refine c_seq ?_ | refine c_reg ?_ | refine c_region ?_ | refine c_block ?_ | refine c_skip ?_ | refine c_exit ?_ | refine c_ret ?_ | refine s_nil ?_ | refine x_then ?_ | refine x_then_exit ?_ | refine x_then_ret ?_ | refine x_block ?_ | refine x_block_ret ?_ | refine x_block_same ?_ | refine x_block_other (by rfl) ?_ | refine q_nil ?_ | refine k_nil ?_) | ((with_reducible apply kP (.makeFunc _ _ _)); refine sMF ?_) | ((with_reducible apply kG); first | refine gY1 ?_ | refine gN1 ?_ | refine gU1 ?_ | (refine gD1 (fun h => ?_) (fun h => ?_) <;> (try (exfalso; omega))) | refine gB1 (fun h => ?_) (fun h => ?_)) | ((with_reducible apply kN); first | refine stP ?_ | refine stI ?_ | refine st1 ?_ | refine stW ?_) | ((with_reducible apply kP (.alloc _)); refine sA (fun b => ?_)) | ((with_reducible apply kP (.box _ _)); first | refine sBA (fun b => ?_) | refine sB (fun b => ?_)) | ((with_reducible apply kP (.buildSlice _ 1 _)); first | refine sl1A (fun b => ?_) | refine sl1 (fun b => ?_)) | ((with_reducible apply kP (.buildSlice _ 2 _)); refine sl2 (fun b => ?_)) | ((with_reducible apply kP (.buildSlice _ 3 _)); refine sl3 (fun b => ?_)) | ((with_reducible apply kP (.buildSlice _ 4 _)); refine sl4 (fun b => ?_)) | ((with_reducible apply kP (.buildSlice _ 0 _)); refine s_bs0 (scTOf rfl) (zsTOf rfl) (by decide) (fun b => ?_)) | ((with_reducible apply kP (.makeSlice _ _ _)); refine sMk (fun b => ?_)) | ((with_reducible apply kP (.call ⟨.builtin .append, _, _⟩)); refine sAp (fun oa2 c2 blk2 hrow2 => ?_)) | ((with_reducible apply kP _); refine sP ?_) | ((with_reducible apply kP _); refine sX ?_) | ((with_reducible apply kQG); first | refine qY1 ?_ | refine qN1 ?_ | refine qU1 ?_ | (refine qD1 (fun h => ?_) (fun h => ?_) <;> (try (exfalso; omega))) | refine qB1 (fun h => ?_) (fun h => ?_)) | ((with_reducible apply kQP); refine qP ?_) | ((with_reducible apply kQP); refine qX ?_) | ((with_reducible apply kC); first | refine cT ?_ | refine cF ?_ | (refine cI (fun h => ?_) (fun h => ?_) <;> (try (exfalso; omega))) | refine cB (fun h => ?_) (fun h => ?_)) | ((with_reducible apply kR); refine cQ ?_))
        all_goals first
          | exact r_end ⟨k + 1, fun j => if j = j0 then x else g j, qs ++ [j0], oa2, c2, blk2⟩ ⟨hk', hG2, by dsimp only; rw [e2]; exact hrow2⟩ (by show os.length - (k + 1) < os.length - k; omega) (by dsimp only; rw [show μ - sumTo (fun j => if j = j0 then x else g j) i = μ - sumTo g i - x by rw [e1]; omega, List.length_append]; exact (by repeat' first | trivial | rfl | apply And.intro)) (by dsimp only; rw [← e0]; exact SCt)
          | (exfalso; omega)
          | trace_state
      · rw [if_neg hpos] at hG2
        have hx0 : x = 0 := by omega
        have e3 : (tab i fun j => lf j - (if j = j0 then x else g j)) = tab i fun j => lf j - g j := tab_ext fun j _ => by
          by_cases e : j = j0
          · rw [if_pos e, e, hout, hx0]
          · rw [if_neg e]
        repeat' (first | ((with_reducible apply kP (.load 3 (.tmp 48))); refine sP ?_ (hgk ▸ o_load rfl (ld_one (shTOf rfl) (Sl.at hS9 SBt (by omega))))) | ((with_reducible apply kDP (.load 3 (.tmp 48))); refine dP ?_ (hX := rfl) (hv := hgk ▸ o_load rfl (ld_one (shTOf rfl) (Sl.at hS9 SBt (by omega))))) | ((with_reducible apply kQO (.load 3 (.tmp 48))); refine qP ?_ (hgk ▸ o_load rfl (ld_one (shTOf rfl) (Sl.at hS9 SBt (by omega))))) | ((with_reducible apply kP (.load 3 (.tmp 53))); refine sP ?_ (hvl ▸ o_load rfl (ld_one (shTOf rfl) (ownY MMt (by omega))))) | ((with_reducible apply kDP (.load 3 (.tmp 53))); refine dP ?_ (hX := rfl) (hv := hvl ▸ o_load rfl (ld_one (shTOf rfl) (ownY MMt (by omega))))) | ((with_reducible apply kQO (.load 3 (.tmp 53))); refine qP ?_ (hvl ▸ o_load rfl (ld_one (shTOf rfl) (ownY MMt (by omega))))) | ((with_reducible apply kP (.call ⟨.builtin .min, _, _⟩)); refine sP ?_ (hme ▸ o_min rfl rfl)) | (with_reducible first | refine c_seq ?_ | refine c_reg ?_ | refine c_region ?_ | refine c_block ?_ | refine c_skip ?_ | refine c_exit ?_ | refine c_ret ?_ | refine s_nil ?_ | refine x_then ?_ | refine x_then_exit ?_ | refine x_then_ret ?_ | refine x_block ?_ | refine x_block_ret ?_ | refine x_block_same ?_ | refine x_block_other (by rfl) ?_ | refine q_nil ?_ | refine k_nil ?_) | ((with_reducible apply kP (.makeFunc _ _ _)); refine sMF ?_) | ((with_reducible apply kG); first | refine gY1 ?_ | refine gN1 ?_ | refine gU1 ?_ | (refine gD1 (fun h => ?_) (fun h => ?_) <;> (try (exfalso; omega))) | refine gB1 (fun h => ?_) (fun h => ?_)) | ((with_reducible apply kN); first | refine stP ?_ | refine stI ?_ | refine st1 ?_ | refine stW ?_) | ((with_reducible apply kP (.alloc _)); refine sA (fun b => ?_)) | ((with_reducible apply kP (.box _ _)); first | refine sBA (fun b => ?_) | refine sB (fun b => ?_)) | ((with_reducible apply kP (.buildSlice _ 1 _)); first | refine sl1A (fun b => ?_) | refine sl1 (fun b => ?_)) | ((with_reducible apply kP (.buildSlice _ 2 _)); refine sl2 (fun b => ?_)) | ((with_reducible apply kP (.buildSlice _ 3 _)); refine sl3 (fun b => ?_)) | ((with_reducible apply kP (.buildSlice _ 4 _)); refine sl4 (fun b => ?_)) | ((with_reducible apply kP (.buildSlice _ 0 _)); refine s_bs0 (scTOf rfl) (zsTOf rfl) (by decide) (fun b => ?_)) | ((with_reducible apply kP (.makeSlice _ _ _)); refine sMk (fun b => ?_)) | ((with_reducible apply kP (.call ⟨.builtin .append, _, _⟩)); refine sAp (fun oa2 c2 blk2 hrow2 => ?_)) | ((with_reducible apply kP _); refine sP ?_) | ((with_reducible apply kP _); refine sX ?_) | ((with_reducible apply kQG); first | refine qY1 ?_ | refine qN1 ?_ | refine qU1 ?_ | (refine qD1 (fun h => ?_) (fun h => ?_) <;> (try (exfalso; omega))) | refine qB1 (fun h => ?_) (fun h => ?_)) | ((with_reducible apply kQP); refine qP ?_) | ((with_reducible apply kQP); refine qX ?_) | ((with_reducible apply kC); first | refine cT ?_ | refine cF ?_ | (refine cI (fun h => ?_) (fun h => ?_) <;> (try (exfalso; omega))) | refine cB (fun h => ?_) (fun h => ?_)) | ((with_reducible apply kR); refine cQ ?_))
        all_goals first
          | exact r_end ⟨k + 1, fun j => if j = j0 then x else g j, qs, oQ, cQ, blkQ⟩ ⟨hk', hG2, by dsimp only; rw [fla_upd hfq]; exact hrQ⟩ (by show os.length - (k + 1) < os.length - k; omega) (by dsimp only; rw [show μ - sumTo (fun j => if j = j0 then x else g j) i = μ - sumTo g i by rw [e1]; omega]; exact (by repeat' first | trivial | rfl | apply And.intro)) (by dsimp only; rw [e3]; exact SCt)
          | (exfalso; omega)
          | trace_state
    · obtain rfl : k = os.length := by omega
      obtain ⟨hD, hmq⟩ := hG.fin (R := jR z) (D := jD z) (d := d) hmo hsD
      repeat' (first | ((with_reducible apply kF 97); refine sR 97 (k_sortS (by rw [fla_len, List.length_map]) (by omega) hrQ) ?_; rintro u h' ⟨rfl, l', blk2, hr2, hSr, rfl⟩) | (with_reducible first | refine c_seq ?_ | refine c_reg ?_ | refine c_region ?_ | refine c_block ?_ | refine c_skip ?_ | refine c_exit ?_ | refine c_ret ?_ | refine s_nil ?_ | refine x_then ?_ | refine x_then_exit ?_ | refine x_then_ret ?_ | refine x_block ?_ | refine x_block_ret ?_ | refine x_block_same ?_ | refine x_block_other (by rfl) ?_ | refine q_nil ?_ | refine k_nil ?_) | ((with_reducible apply kP (.makeFunc _ _ _)); refine sMF ?_) | ((with_reducible apply kG); first | refine gY1 ?_ | refine gN1 ?_ | refine gU1 ?_ | (refine gD1 (fun h => ?_) (fun h => ?_) <;> (try (exfalso; omega))) | refine gB1 (fun h => ?_) (fun h => ?_)) | ((with_reducible apply kN); first | refine stP ?_ | refine stI ?_ | refine st1 ?_ | refine stW ?_) | ((with_reducible apply kP (.alloc _)); refine sA (fun b => ?_)) | ((with_reducible apply kP (.box _ _)); first | refine sBA (fun b => ?_) | refine sB (fun b => ?_)) | ((with_reducible apply kP (.buildSlice _ 1 _)); first | refine sl1A (fun b => ?_) | refine sl1 (fun b => ?_)) | ((with_reducible apply kP (.buildSlice _ 2 _)); refine sl2 (fun b => ?_)) | ((with_reducible apply kP (.buildSlice _ 3 _)); refine sl3 (fun b => ?_)) | ((with_reducible apply kP (.buildSlice _ 4 _)); refine sl4 (fun b => ?_)) | ((with_reducible apply kP (.buildSlice _ 0 _)); refine s_bs0 (scTOf rfl) (zsTOf rfl) (by decide) (fun b => ?_)) | ((with_reducible apply kP (.makeSlice _ _ _)); refine sMk (fun b => ?_)) | ((with_reducible apply kP (.call ⟨.builtin .append, _, _⟩)); refine sAp (fun oa2 c2 blk2 hrow2 => ?_)) | ((with_reducible apply kP _); refine sP ?_) | ((with_reducible apply kP _); refine sX ?_) | ((with_reducible apply kQG); first | refine qY1 ?_ | refine qN1 ?_ | refine qU1 ?_ | (refine qD1 (fun h => ?_) (fun h => ?_) <;> (try (exfalso; omega))) | refine qB1 (fun h => ?_) (fun h => ?_)) | ((with_reducible apply kQP); refine qP ?_) | ((with_reducible apply kQP); refine qX ?_) | ((with_reducible apply kC); first | refine cT ?_ | refine cF ?_ | (refine cI (fun h => ?_) (fun h => ?_) <;> (try (exfalso; omega))) | refine cB (fun h => ?_) (fun h => ?_)) | ((with_reducible apply kR); refine cQ ?_))
      obtain ⟨ps, hpl, hpm, hpa, hs3⟩ := sl3_of hG.nd hSr
      exact e_ret1 rfl rfl ⟨oQ, cQ, blk2, g, ps, l', by rw [hpl], hr2, rfl, hD, fun j => (hpm j).trans (hmq j), hpa, hs3⟩ SCt
end Go.Proofs.Ytgcjddlcgpjlcaa
