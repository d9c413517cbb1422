/- Wearings that are meant, in their order; the first place where a test holds. -/
import Derived.Shelf.SlSortCmp.NoneTotal
import Derived.Test.YtgcjddlcgpjlcaaMP17
namespace Go.Proofs.Ytgcjddlcgpjlcaa
open Go.RowKit

theorem o_sliceLHM {P : Program} {n B : Nat} {w0 : Wd} {fr : FR} {hs : HS} {ty t : TypeId} {x lo hi mx : Operand} {b : Bool} {k len cap j j2 j3 : Nat} {i i2 i3 : Int} {oa : Option Addr} (ht : sc P t = some (b, k)) (hx : opv fr x = some (.slice oa len cap)) (hl : opv fr lo = some (.int .i64 i)) (hh : opv fr hi = some (.int .i64 i2)) (hm : opv fr mx = some (.int .i64 i3)) (hj : i = (j : Int)) (hj2 : i2 = (j2 : Int)) (hj3 : i3 = (j3 : Int)) (h1 : j ≤ j2) (h2 : j2 ≤ j3) (h3 : j3 ≤ cap) :
    OpF P n B w0 (.slice t x (some lo) (some hi) (some mx)) ty fr hs (.slice (subA oa j3 j k) (j2 - j) (j3 - j)) := fun a w ha _ => by
  have hb : (Instr.sliceBounds true len cap (some (.int .i64 i)) (some (.int .i64 i2)) (some (.int .i64 i3))).run P w = .ok (j, j2, j3) w := by
    simp [Instr.sliceBounds, run_slb _ hj h1, run_slb _ hj2 h2, run_slb _ hj3 h3]
  simp [ex, execOp, ha.opv hx, ha.opv hl, ha.opv hh, ha.opv hm, run_slc ht w hb]
/-- The first place where a test holds, or -1. -/
def Fst (p : Nat → Bool) (N : Nat) (w : Int) : Prop := (w = -1 ∧ ∀ k, k < N → p k = false) ∨ ∃ j : Nat, j < N ∧ w = j ∧ p j = true ∧ ∀ k, k < j → p k = false
theorem fst_ex (p : Nat → Bool) (N : Nat) : ∃ w, Fst p N w := by
  by_cases h : ∃ j, j < N ∧ p j = true
  · obtain ⟨j, hj, hp⟩ := h
    obtain ⟨j0, h1, h2, h3⟩ := least_of (K := N) (fun i => p i = true) (fun i => (i : Int)) (fun _ => inferInstance) N ⟨j, hj, hp⟩
    refine ⟨j0, .inr ⟨j0, h1, rfl, h2, fun k hk => ?_⟩⟩
    cases hc : p k with
    | false => rfl
    | true => have := h3 k (by omega) hc; omega
  · refine ⟨-1, .inl ⟨rfl, fun k hk => ?_⟩⟩
    cases hc : p k with
    | false => rfl
    | true => exact absurd ⟨k, hk, hc⟩ h
set_option maxRecDepth 100000 in
set_option maxHeartbeats 8000000 in
theorem k_index {N c g : Nat} {l : List Int} {oa : Option Addr} {cs : List Value} {p : Nat → Bool} {w : Int} (hl : l.length = N) (hN : N ≤ 1000) (hg : isGo Try.prog g = true) (hw : Fst p N w) (B : Nat) (w0 : Wd) (hs : HS) (hL : Sl B w0 hs oa l)
    (hF : ∀ k, k < N → Fn Try.prog g (iv (l.getD k 0) :: cs).toArray B w0 hs (fun v h => v = .bool (p k) ∧ h = hs)) :
    Fn Try.prog 86 #[.slice oa N c, .func (.func g) #[] cs.toArray] B w0 hs (fun v h => v = iv w ∧ h = hs) := by
  refine fn_enter Try.func86 rfl Try.ntmps86 (by simp) ?_
  repeat' (first | (with_reducible first | refine c_seq ?_ | refine c_reg ?_ | refine c_region ?_ | refine c_block ?_ | refine c_skip ?_ | refine c_exit ?_ | refine c_ret ?_ | refine s_nil ?_ | refine x_then ?_ | refine x_then_exit ?_ | refine x_then_ret ?_ | refine x_block ?_ | refine x_block_ret ?_ | refine x_block_same ?_ | refine x_block_other (by rfl) ?_ | refine q_nil ?_ | refine k_nil ?_) | ((with_reducible apply kP (.makeFunc _ _ _)); refine sMF ?_) | ((with_reducible apply kG); first | refine gY1 ?_ | refine gN1 ?_ | refine gU1 ?_ | (refine gD1 (fun h => ?_) (fun h => ?_) <;> (try (exfalso; omega))) | refine gB1 (fun h => ?_) (fun h => ?_)) | ((with_reducible apply kN); first | refine stP ?_ | refine stI ?_ | refine st1 ?_ | refine stW ?_) | ((with_reducible apply kP (.alloc _)); refine sA (fun b => ?_)) | ((with_reducible apply kP (.box _ _)); first | refine sBA (fun b => ?_) | refine sB (fun b => ?_)) | ((with_reducible apply kP (.buildSlice _ 1 _)); first | refine sl1A (fun b => ?_) | refine sl1 (fun b => ?_)) | ((with_reducible apply kP (.buildSlice _ 2 _)); refine sl2 (fun b => ?_)) | ((with_reducible apply kP (.buildSlice _ 3 _)); refine sl3 (fun b => ?_)) | ((with_reducible apply kP (.buildSlice _ 4 _)); refine sl4 (fun b => ?_)) | ((with_reducible apply kP (.buildSlice _ 0 _)); refine s_bs0 (scTOf rfl) (zsTOf rfl) (by decide) (fun b => ?_)) | ((with_reducible apply kP (.makeSlice _ _ _)); refine sMk (fun b => ?_)) | ((with_reducible apply kP (.call ⟨.builtin .append, _, _⟩)); refine sAp (fun oa2 c2 blk2 hrow2 => ?_)) | ((with_reducible apply kP _); refine sP ?_) | ((with_reducible apply kP _); refine sX ?_) | ((with_reducible apply kQG); first | refine qY1 ?_ | refine qN1 ?_ | refine qU1 ?_ | (refine qD1 (fun h => ?_) (fun h => ?_) <;> (try (exfalso; omega))) | refine qB1 (fun h => ?_) (fun h => ?_)) | ((with_reducible apply kQP); refine qP ?_) | ((with_reducible apply kQP); refine qX ?_) | ((with_reducible apply kC); first | refine cT ?_ | refine cF ?_ | (refine cI (fun h => ?_) (fun h => ?_) <;> (try (exfalso; omega))) | refine cB (fun h => ?_) (fun h => ?_)) | ((with_reducible apply kR); refine cQ ?_))
  refine c_loop (fun i : Nat => [(0, .slice oa N c), (1, .func (.func g) #[] cs.toArray), (7, iv N), (8, iv i)]) (fun _ => hs) (fun i => i ≤ N ∧ ∀ k, k < i → p k = false) (fun i => N - i) 0 ⟨Nat.zero_le _, fun k h => absurd h (Nat.not_lt_zero _)⟩ (by repeat' first | trivial | rfl | apply And.intro) (.refl _) ?_
  rintro i ⟨hi, ho⟩
  by_cases hi' : i < N
  · have hoA : oa.isSome = true := hL.any (i := i) (by omega)
    have hF' := hF i hi'
    rcases hp : p i with _ | _
    · rw [hp] at hF'
      repeat' (first | ((with_reducible apply kP (.load 3 _)); refine sP ?_ (o_load rfl (ld_one (shTOf rfl) (Sl.at (by assumption) SBt (by omega))))) | ((with_reducible apply kDP (.load 3 _)); refine dP ?_ (hX := rfl) (hv := o_load rfl (ld_one (shTOf rfl) (Sl.at (by assumption) SBt (by omega))))) | ((with_reducible apply kQO (.load 3 _)); refine qP ?_ (o_load rfl (ld_one (shTOf rfl) (Sl.at (by assumption) SBt (by omega))))) | ((with_reducible apply kT 11); refine sF (t := 11) (g := g) (fs := []) hF' ?_ hg) | (with_reducible first | refine c_seq ?_ | refine c_reg ?_ | refine c_region ?_ | refine c_block ?_ | refine c_skip ?_ | refine c_exit ?_ | refine c_ret ?_ | refine s_nil ?_ | refine x_then ?_ | refine x_then_exit ?_ | refine x_then_ret ?_ | refine x_block ?_ | refine x_block_ret ?_ | refine x_block_same ?_ | refine x_block_other (by rfl) ?_ | refine q_nil ?_ | refine k_nil ?_) | ((with_reducible apply kP (.makeFunc _ _ _)); refine sMF ?_) | ((with_reducible apply kG); first | refine gY1 ?_ | refine gN1 ?_ | refine gU1 ?_ | (refine gD1 (fun h => ?_) (fun h => ?_) <;> (try (exfalso; omega))) | refine gB1 (fun h => ?_) (fun h => ?_)) | ((with_reducible apply kN); first | refine stP ?_ | refine stI ?_ | refine st1 ?_ | refine stW ?_) | ((with_reducible apply kP (.alloc _)); refine sA (fun b => ?_)) | ((with_reducible apply kP (.box _ _)); first | refine sBA (fun b => ?_) | refine sB (fun b => ?_)) | ((with_reducible apply kP (.buildSlice _ 1 _)); first | refine sl1A (fun b => ?_) | refine sl1 (fun b => ?_)) | ((with_reducible apply kP (.buildSlice _ 2 _)); refine sl2 (fun b => ?_)) | ((with_reducible apply kP (.buildSlice _ 3 _)); refine sl3 (fun b => ?_)) | ((with_reducible apply kP (.buildSlice _ 4 _)); refine sl4 (fun b => ?_)) | ((with_reducible apply kP (.buildSlice _ 0 _)); refine s_bs0 (scTOf rfl) (zsTOf rfl) (by decide) (fun b => ?_)) | ((with_reducible apply kP (.makeSlice _ _ _)); refine sMk (fun b => ?_)) | ((with_reducible apply kP (.call ⟨.builtin .append, _, _⟩)); refine sAp (fun oa2 c2 blk2 hrow2 => ?_)) | ((with_reducible apply kP _); refine sP ?_) | ((with_reducible apply kP _); refine sX ?_) | ((with_reducible apply kQG); first | refine qY1 ?_ | refine qN1 ?_ | refine qU1 ?_ | (refine qD1 (fun h => ?_) (fun h => ?_) <;> (try (exfalso; omega))) | refine qB1 (fun h => ?_) (fun h => ?_)) | ((with_reducible apply kQP); refine qP ?_) | ((with_reducible apply kQP); refine qX ?_) | ((with_reducible apply kC); first | refine cT ?_ | refine cF ?_ | (refine cI (fun h => ?_) (fun h => ?_) <;> (try (exfalso; omega))) | refine cB (fun h => ?_) (fun h => ?_)) | ((with_reducible apply kR); refine cQ ?_))
      exact r_end (i + 1) ⟨hi', fun k h => by by_cases e : k < i; exact ho k e; obtain rfl : k = i := (by omega); exact hp⟩ (by show N - (i + 1) < N - i; omega) (by repeat' first | trivial | rfl | apply And.intro) SCt
    · rw [hp] at hF'
      obtain rfl : w = i := by
        rcases hw with ⟨_, h2⟩ | ⟨j, h1, h2, h3, h4⟩
        · rw [h2 i hi'] at hp; cases hp
        · rcases Nat.lt_trichotomy i j with h | h | h
          · rw [h4 i h] at hp; cases hp
          · rw [h2, h]
          · rw [ho j h] at h3; cases h3
      repeat' (first | ((with_reducible apply kP (.load 3 _)); refine sP ?_ (o_load rfl (ld_one (shTOf rfl) (Sl.at (by assumption) SBt (by omega))))) | ((with_reducible apply kDP (.load 3 _)); refine dP ?_ (hX := rfl) (hv := o_load rfl (ld_one (shTOf rfl) (Sl.at (by assumption) SBt (by omega))))) | ((with_reducible apply kQO (.load 3 _)); refine qP ?_ (o_load rfl (ld_one (shTOf rfl) (Sl.at (by assumption) SBt (by omega))))) | ((with_reducible apply kT 11); refine sF (t := 11) (g := g) (fs := []) hF' ?_ hg) | (with_reducible first | refine c_seq ?_ | refine c_reg ?_ | refine c_region ?_ | refine c_block ?_ | refine c_skip ?_ | refine c_exit ?_ | refine c_ret ?_ | refine s_nil ?_ | refine x_then ?_ | refine x_then_exit ?_ | refine x_then_ret ?_ | refine x_block ?_ | refine x_block_ret ?_ | refine x_block_same ?_ | refine x_block_other (by rfl) ?_ | refine q_nil ?_ | refine k_nil ?_) | ((with_reducible apply kP (.makeFunc _ _ _)); refine sMF ?_) | ((with_reducible apply kG); first | refine gY1 ?_ | refine gN1 ?_ | refine gU1 ?_ | (refine gD1 (fun h => ?_) (fun h => ?_) <;> (try (exfalso; omega))) | refine gB1 (fun h => ?_) (fun h => ?_)) | ((with_reducible apply kN); first | refine stP ?_ | refine stI ?_ | refine st1 ?_ | refine stW ?_) | ((with_reducible apply kP (.alloc _)); refine sA (fun b => ?_)) | ((with_reducible apply kP (.box _ _)); first | refine sBA (fun b => ?_) | refine sB (fun b => ?_)) | ((with_reducible apply kP (.buildSlice _ 1 _)); first | refine sl1A (fun b => ?_) | refine sl1 (fun b => ?_)) | ((with_reducible apply kP (.buildSlice _ 2 _)); refine sl2 (fun b => ?_)) | ((with_reducible apply kP (.buildSlice _ 3 _)); refine sl3 (fun b => ?_)) | ((with_reducible apply kP (.buildSlice _ 4 _)); refine sl4 (fun b => ?_)) | ((with_reducible apply kP (.buildSlice _ 0 _)); refine s_bs0 (scTOf rfl) (zsTOf rfl) (by decide) (fun b => ?_)) | ((with_reducible apply kP (.makeSlice _ _ _)); refine sMk (fun b => ?_)) | ((with_reducible apply kP (.call ⟨.builtin .append, _, _⟩)); refine sAp (fun oa2 c2 blk2 hrow2 => ?_)) | ((with_reducible apply kP _); refine sP ?_) | ((with_reducible apply kP _); refine sX ?_) | ((with_reducible apply kQG); first | refine qY1 ?_ | refine qN1 ?_ | refine qU1 ?_ | (refine qD1 (fun h => ?_) (fun h => ?_) <;> (try (exfalso; omega))) | refine qB1 (fun h => ?_) (fun h => ?_)) | ((with_reducible apply kQP); refine qP ?_) | ((with_reducible apply kQP); refine qX ?_) | ((with_reducible apply kC); first | refine cT ?_ | refine cF ?_ | (refine cI (fun h => ?_) (fun h => ?_) <;> (try (exfalso; omega))) | refine cB (fun h => ?_) (fun h => ?_)) | ((with_reducible apply kR); refine cQ ?_))
      exact e_ret1 rfl rfl ⟨rfl, rfl⟩ SCt
  · obtain rfl : i = N := by omega
    obtain rfl : w = -1 := by
      rcases hw with ⟨h1, _⟩ | ⟨j, h1, h2, h3, h4⟩
      · exact h1
      · rw [ho j h1] at h3; cases h3
    repeat' (first | (with_reducible first | refine c_seq ?_ | refine c_reg ?_ | refine c_region ?_ | refine c_block ?_ | refine c_skip ?_ | refine c_exit ?_ | refine c_ret ?_ | refine s_nil ?_ | refine x_then ?_ | refine x_then_exit ?_ | refine x_then_ret ?_ | refine x_block ?_ | refine x_block_ret ?_ | refine x_block_same ?_ | refine x_block_other (by rfl) ?_ | refine q_nil ?_ | refine k_nil ?_) | ((with_reducible apply kP (.makeFunc _ _ _)); refine sMF ?_) | ((with_reducible apply kG); first | refine gY1 ?_ | refine gN1 ?_ | refine gU1 ?_ | (refine gD1 (fun h => ?_) (fun h => ?_) <;> (try (exfalso; omega))) | refine gB1 (fun h => ?_) (fun h => ?_)) | ((with_reducible apply kN); first | refine stP ?_ | refine stI ?_ | refine st1 ?_ | refine stW ?_) | ((with_reducible apply kP (.alloc _)); refine sA (fun b => ?_)) | ((with_reducible apply kP (.box _ _)); first | refine sBA (fun b => ?_) | refine sB (fun b => ?_)) | ((with_reducible apply kP (.buildSlice _ 1 _)); first | refine sl1A (fun b => ?_) | refine sl1 (fun b => ?_)) | ((with_reducible apply kP (.buildSlice _ 2 _)); refine sl2 (fun b => ?_)) | ((with_reducible apply kP (.buildSlice _ 3 _)); refine sl3 (fun b => ?_)) | ((with_reducible apply kP (.buildSlice _ 4 _)); refine sl4 (fun b => ?_)) | ((with_reducible apply kP (.buildSlice _ 0 _)); refine s_bs0 (scTOf rfl) (zsTOf rfl) (by decide) (fun b => ?_)) | ((with_reducible apply kP (.makeSlice _ _ _)); refine sMk (fun b => ?_)) | ((with_reducible apply kP (.call ⟨.builtin .append, _, _⟩)); refine sAp (fun oa2 c2 blk2 hrow2 => ?_)) | ((with_reducible apply kP _); refine sP ?_) | ((with_reducible apply kP _); refine sX ?_) | ((with_reducible apply kQG); first | refine qY1 ?_ | refine qN1 ?_ | refine qU1 ?_ | (refine qD1 (fun h => ?_) (fun h => ?_) <;> (try (exfalso; omega))) | refine qB1 (fun h => ?_) (fun h => ?_)) | ((with_reducible apply kQP); refine qP ?_) | ((with_reducible apply kQP); refine qX ?_) | ((with_reducible apply kC); first | refine cT ?_ | refine cF ?_ | (refine cI (fun h => ?_) (fun h => ?_) <;> (try (exfalso; omega))) | refine cB (fun h => ?_) (fun h => ?_)) | ((with_reducible apply kR); refine cQ ?_))
    exact e_ret1 rfl rfl ⟨rfl, rfl⟩ SCt
/-! ### Sorted -/
def rwW (l : List Int) (i : Nat) : Rw 5 := ⟨[wA l i, wZ l i, wF l i, wT l i, (i : Int)], rfl⟩
/-- The wearings that are meant, in the order of their beginnings: numbers, and rows. -/
structure Sd (l : List Int) (n : Nat) (m : Nat → Bool) (js : List Nat) (l' : List Int) : Prop where
  len : l'.length = js.length * 5
  nd : js.Nodup
  mem : ∀ i, i ∈ js ↔ i < n ∧ m i = true
  ord : ∀ a b, a < b → b < js.length → wF l (js.getD a 0) < wF l (js.getD b 0) ∨ (wF l (js.getD a 0) = wF l (js.getD b 0) ∧ js.getD a 0 < js.getD b 0)
  cell : ∀ a, a < js.length → rw_ 5 l' a = rwW l (js.getD a 0)
theorem rw_get {k : Nat} {l : List Int} {i j : Nat} (hj : j < k) : (rw_ k l i).1.getD j 0 = l.getD (i * k + j) 0 := by
  show ((List.range k).map fun j => l.getD (i * k + j) 0).getD j 0 = _
  simp [List.getD, hj]
theorem Sd.get {l : List Int} {n : Nat} {m : Nat → Bool} {js : List Nat} {l' : List Int} (h : Sd l n m js l') {a : Nat} (ha : a < js.length) :
    l'.getD (a * 5) 0 = wA l (js.getD a 0) ∧ l'.getD (a * 5 + 1) 0 = wZ l (js.getD a 0) ∧ l'.getD (a * 5 + 2) 0 = wF l (js.getD a 0) ∧ l'.getD (a * 5 + 3) 0 = wT l (js.getD a 0) ∧ l'.getD (a * 5 + 4) 0 = (js.getD a 0 : Int) := by
  have hc := h.cell a ha
  have key : ∀ j, j < 5 → l'.getD (a * 5 + j) 0 = (rwW l (js.getD a 0)).1.getD j 0 := fun j hj => by rw [← hc, rw_get hj]
  exact ⟨key 0 (by omega), key 1 (by omega), key 2 (by omega), key 3 (by omega), key 4 (by omega)⟩
def ksW (m : Nat → Bool) (i : Nat) : List Nat := (List.range i).filter m
theorem ksW_succ (m : Nat → Bool) (i : Nat) : ksW m (i + 1) = if m i then ksW m i ++ [i] else ksW m i := by
  unfold ksW
  rw [List.range_succ, List.filter_append]
  cases h : m i <;> simp [h]
theorem ksW_len (m : Nat → Bool) (i : Nat) : (ksW m i).length ≤ i := by
  have := List.length_filter_le m (List.range i)
  simpa [ksW] using this
theorem sd_of {l l' : List Int} {n : Nat} {m : Nat → Bool} (h : Srt 5 (ksW m n).length cfW (fla ((ksW m n).map (rwW l))) l') : ∃ js, js.length = (ksW m n).length ∧ Sd l n m js l' := by
  have hd : ((ksW m n).map (rwW l)).length = (ksW m n).length := by simp
  have hp : (rwl 5 (ksW m n).length l').Perm ((ksW m n).map (rwW l)) := by
    have := h.perm
    rw [← hd, rwl_fla, hd] at this
    exact this
  have e1 : ((ksW m n).map (rwW l)).map (fun r => (r.1.getD 4 0).toNat) = ksW m n := by
    rw [List.map_map]
    conv => rhs; rw [← List.map_id (ksW m n)]
    refine List.map_congr_left fun i _ => ?_
    show (Int.toNat (i : Int)) = i
    simp
  refine ⟨(rwl 5 (ksW m n).length l').map fun r => (r.1.getD 4 0).toNat, by simp [rwl_len], ?_⟩
  have hjp : ((rwl 5 (ksW m n).length l').map fun r => (r.1.getD 4 0).toNat).Perm (ksW m n) := by
    have := hp.map (fun r : Rw 5 => (r.1.getD 4 0).toNat)
    rwa [e1] at this
  have hlen : ((rwl 5 (ksW m n).length l').map fun r => (r.1.getD 4 0).toNat).length = (ksW m n).length := by simp [rwl_len]
  have hget : ∀ a, a < (ksW m n).length → ((rwl 5 (ksW m n).length l').map fun r => (r.1.getD 4 0).toNat).getD a 0 = ((rw_ 5 l' a).1.getD 4 0).toNat := fun a ha => by
    simp [rwl, List.getD, ha]
  have hcell : ∀ a, a < (ksW m n).length → rw_ 5 l' a = rwW l (((rw_ 5 l' a).1.getD 4 0).toNat) := fun a ha => by
    have hmem : rw_ 5 l' a ∈ rwl 5 (ksW m n).length l' := List.mem_map.2 ⟨a, List.mem_range.2 ha, rfl⟩
    obtain ⟨i, _, hi⟩ := List.mem_map.1 (hp.mem_iff.1 hmem)
    rw [← hi]
    congr 1
  have hnd : (ksW m n).Nodup := List.nodup_range.filter _
  refine ⟨by rw [hlen]; exact h.len, hjp.nodup_iff.2 hnd, fun i => ?_, fun a b hab hb => ?_, fun a ha => ?_⟩
  · rw [hjp.mem_iff, ksW, List.mem_filter, List.mem_range]
  · rw [hlen] at hb
    have hs := h.sorted a b hab hb
    have c1 := hcell a (by omega)
    have c2 := hcell b hb
    rw [hget a (by omega), hget b hb]
    have hne : ((rw_ 5 l' a).1.getD 4 0).toNat ≠ ((rw_ 5 l' b).1.getD 4 0).toNat := by
      rw [← hget a (by omega), ← hget b hb]
      intro he
      have hnd2 := hjp.nodup_iff.2 hnd
      rw [List.getD_eq_getElem?_getD, List.getD_eq_getElem?_getD, List.getElem?_eq_getElem (by rw [hlen]; omega), List.getElem?_eq_getElem (by rw [hlen]; omega)] at he
      have := (List.getElem_inj (h₀ := by rw [hlen]; omega) (h₁ := by rw [hlen]; omega) hnd2).1 he
      omega
    generalize ((rw_ 5 l' a).1.getD 4 0).toNat = x at *
    generalize ((rw_ 5 l' b).1.getD 4 0).toNat = y at *
    rw [c1, c2, cfW_lt] at hs
    have q : ¬ (wF l y < wF l x ∨ (wF l y = wF l x ∧ (y : Int) < (x : Int))) := hs
    omega
  · rw [hlen] at ha
    rw [hget a ha]; exact hcell a ha
theorem k_sortW0 {c : Nat} {oa : Option Addr} {fv : Value} (B : Nat) (w0 : Wd) (hs : HS) : Fn Try.prog 88 #[.slice oa 0 c, fv] B w0 hs (fun v h => v = .tuple #[] ∧ h = hs) := fn_mk fun w hw =>
  (AnyF.slices_SortFunc_none Try.sortWear oa c fv w).mono fun _ _ ⟨he, hw'⟩ => ⟨_, _, he, ⟨rfl, rfl⟩, hw' ▸ hw⟩
structure LT where
  i : Nat
  oa : Option Addr
  c : Nat
  blk : HS
set_option maxRecDepth 100000 in
set_option maxHeartbeats 8000000 in
theorem k_sorted {n c g : Nat} {R C : Int} {l : List Int} {oa : Option Addr} {cs : List Value} {m : Nat → Bool} (hl : l.length = n * 4) (hn : n ≤ 16) (hg : isGo Try.prog g = true) (B : Nat) (w0 : Wd) (hs : HS) (hL : Sl B w0 hs oa l)
    (hF : ∀ i, i < n → ∀ hs', hs.Sublist hs' → Fn Try.prog g (.agg #[iv (l.getD (i * 4) 0), iv (l.getD (i * 4 + 1) 0), iv (l.getD (i * 4 + 2) 0), iv (l.getD (i * 4 + 3) 0)] :: cs).toArray B w0 hs' (fun v h => v = .bool (m i) ∧ h = hs')) :
    Fn Try.prog 66 #[.agg #[.slice oa n c, iv R, iv C], .func (.func g) #[] cs.toArray] B w0 hs (fun u h => ∃ blk, (∃ oa2 c2 js l', u = .slice oa2 js.length c2 ∧ RowOk oa2 c2 5 (ivs l') blk ∧ Sd l n m js l') ∧ h = blk ++ hs) := by
  refine fn_enter Try.func66 rfl Try.ntmps66 (by simp) ?_
  repeat' (first | (with_reducible first | refine c_seq ?_ | refine c_reg ?_ | refine c_region ?_ | refine c_block ?_ | refine c_skip ?_ | refine c_exit ?_ | refine c_ret ?_ | refine s_nil ?_ | refine x_then ?_ | refine x_then_exit ?_ | refine x_then_ret ?_ | refine x_block ?_ | refine x_block_ret ?_ | refine x_block_same ?_ | refine x_block_other (by rfl) ?_ | refine q_nil ?_ | refine k_nil ?_) | ((with_reducible apply kP (.makeFunc _ _ _)); refine sMF ?_) | ((with_reducible apply kG); first | refine gY1 ?_ | refine gN1 ?_ | refine gU1 ?_ | (refine gD1 (fun h => ?_) (fun h => ?_) <;> (try (exfalso; omega))) | refine gB1 (fun h => ?_) (fun h => ?_)) | ((with_reducible apply kN); first | refine stP ?_ | refine stI ?_ | refine st1 ?_ | refine stW ?_) | ((with_reducible apply kP (.alloc _)); refine sA (fun b => ?_)) | ((with_reducible apply kP (.box _ _)); first | refine sBA (fun b => ?_) | refine sB (fun b => ?_)) | ((with_reducible apply kP (.buildSlice _ 1 _)); first | refine sl1A (fun b => ?_) | refine sl1 (fun b => ?_)) | ((with_reducible apply kP (.buildSlice _ 2 _)); refine sl2 (fun b => ?_)) | ((with_reducible apply kP (.buildSlice _ 3 _)); refine sl3 (fun b => ?_)) | ((with_reducible apply kP (.buildSlice _ 4 _)); refine sl4 (fun b => ?_)) | ((with_reducible apply kP (.buildSlice _ 0 _)); refine s_bs0 (scTOf rfl) (zsTOf rfl) (by decide) (fun b => ?_)) | ((with_reducible apply kP (.makeSlice _ _ _)); refine sMk (fun b => ?_)) | ((with_reducible apply kP (.call ⟨.builtin .append, _, _⟩)); refine sAp (fun oa2 c2 blk2 hrow2 => ?_)) | ((with_reducible apply kP _); refine sP ?_) | ((with_reducible apply kP _); refine sX ?_) | ((with_reducible apply kQG); first | refine qY1 ?_ | refine qN1 ?_ | refine qU1 ?_ | (refine qD1 (fun h => ?_) (fun h => ?_) <;> (try (exfalso; omega))) | refine qB1 (fun h => ?_) (fun h => ?_)) | ((with_reducible apply kQP); refine qP ?_) | ((with_reducible apply kQP); refine qX ?_) | ((with_reducible apply kC); first | refine cT ?_ | refine cF ?_ | (refine cI (fun h => ?_) (fun h => ?_) <;> (try (exfalso; omega))) | refine cB (fun h => ?_) (fun h => ?_)) | ((with_reducible apply kR); refine cQ ?_))
  revert b
  intro b1
  refine c_loop (fun s : LT => [(1, .func (.func g) #[] cs.toArray), (2, .pointer (some ⟨b1, 0, none⟩)), (4, .slice none 0 0), (5, .slice s.oa (ksW m s.i).length s.c), (9, .slice oa n c), (10, iv n), (11, iv s.i)]) (fun s => s.blk ++ (b1, [.slice oa n c, iv R, iv C]) :: hs) (fun s => s.i ≤ n ∧ RowOk s.oa s.c 5 (ivs (fla ((ksW m s.i).map (rwW l)))) s.blk) (fun s => n - s.i) ⟨0, none, 0, []⟩ ⟨Nat.zero_le _, .nil⟩ (by repeat' first | trivial | rfl | apply And.intro) (.refl _) ?_
  rintro ⟨i, o2, c0, blk⟩ ⟨hi, hrow⟩
  dsimp only at hi hrow ⊢
  have hkl := ksW_len m i
  have hlen : (ivs (fla ((ksW m i).map (rwW l)))).length = (ksW m i).length * 5 := by rw [ivs_length, fla_len, List.length_map]
  by_cases hi' : i < n
  · have hoA : oa.isSome = true := hL.any (i := i * 4) (by omega)
    have hF' := hF i hi'
    have hf5 : Flat [iv (l.getD (i * 4) 0), iv (l.getD (i * 4 + 1) 0), iv (l.getD (i * 4 + 2) 0), iv (l.getD (i * 4 + 3) 0), iv i] := flat_cons rfl (flat4 rfl rfl rfl rfl)
    rcases hp : m i with _ | _
    · rw [hp] at hF'
      repeat' (first | ((with_reducible apply kP (.load 84 _)); refine sP ?_ (o_load rfl (ld_4S (shTOf rfl) (by assumption) SBt (by omega)))) | ((with_reducible apply kDP (.load 84 _)); refine dP ?_ (hX := rfl) (hv := o_load rfl (ld_4S (shTOf rfl) (by assumption) SBt (by omega)))) | ((with_reducible apply kQO (.load 84 _)); refine qP ?_ (o_load rfl (ld_4S (shTOf rfl) (by assumption) SBt (by omega)))) | ((with_reducible apply kN); refine stW ?_ (hf := flat4 rfl rfl rfl rfl)) | ((with_reducible apply kT 16); refine sF (t := 16) (g := g) (fs := []) (hF' _ SBt) ?_ hg) | (with_reducible first | refine c_seq ?_ | refine c_reg ?_ | refine c_region ?_ | refine c_block ?_ | refine c_skip ?_ | refine c_exit ?_ | refine c_ret ?_ | refine s_nil ?_ | refine x_then ?_ | refine x_then_exit ?_ | refine x_then_ret ?_ | refine x_block ?_ | refine x_block_ret ?_ | refine x_block_same ?_ | refine x_block_other (by rfl) ?_ | refine q_nil ?_ | refine k_nil ?_) | ((with_reducible apply kP (.makeFunc _ _ _)); refine sMF ?_) | ((with_reducible apply kG); first | refine gY1 ?_ | refine gN1 ?_ | refine gU1 ?_ | (refine gD1 (fun h => ?_) (fun h => ?_) <;> (try (exfalso; omega))) | refine gB1 (fun h => ?_) (fun h => ?_)) | ((with_reducible apply kN); first | refine stP ?_ | refine stI ?_ | refine st1 ?_ | refine stW ?_) | ((with_reducible apply kP (.alloc _)); refine sA (fun b => ?_)) | ((with_reducible apply kP (.box _ _)); first | refine sBA (fun b => ?_) | refine sB (fun b => ?_)) | ((with_reducible apply kP (.buildSlice _ 1 _)); first | refine sl1A (fun b => ?_) | refine sl1 (fun b => ?_)) | ((with_reducible apply kP (.buildSlice _ 2 _)); refine sl2 (fun b => ?_)) | ((with_reducible apply kP (.buildSlice _ 3 _)); refine sl3 (fun b => ?_)) | ((with_reducible apply kP (.buildSlice _ 4 _)); refine sl4 (fun b => ?_)) | ((with_reducible apply kP (.buildSlice _ 0 _)); refine s_bs0 (scTOf rfl) (zsTOf rfl) (by decide) (fun b => ?_)) | ((with_reducible apply kP (.makeSlice _ _ _)); refine sMk (fun b => ?_)) | ((with_reducible apply kP (.call ⟨.builtin .append, _, _⟩)); refine sAp (fun oa2 c2 blk2 hrow2 => ?_)) | ((with_reducible apply kP _); refine sP ?_) | ((with_reducible apply kP _); refine sX ?_) | ((with_reducible apply kQG); first | refine qY1 ?_ | refine qN1 ?_ | refine qU1 ?_ | (refine qD1 (fun h => ?_) (fun h => ?_) <;> (try (exfalso; omega))) | refine qB1 (fun h => ?_) (fun h => ?_)) | ((with_reducible apply kQP); refine qP ?_) | ((with_reducible apply kQP); refine qX ?_) | ((with_reducible apply kC); first | refine cT ?_ | refine cF ?_ | (refine cI (fun h => ?_) (fun h => ?_) <;> (try (exfalso; omega))) | refine cB (fun h => ?_) (fun h => ?_)) | ((with_reducible apply kR); refine cQ ?_))
      have e : ksW m (i + 1) = ksW m i := by rw [ksW_succ, hp]; rfl
      exact r_end ⟨i + 1, o2, c0, blk⟩ ⟨hi', by dsimp only; rw [e]; exact hrow⟩ (by show n - (i + 1) < n - i; omega) (by dsimp only; rw [e]; exact (by repeat' first | trivial | rfl | apply And.intro)) SCt
    · rw [hp] at hF'
      repeat' (first | ((with_reducible apply kP (.load 84 _)); refine sP ?_ (o_load rfl (ld_4S (shTOf rfl) (by assumption) SBt (by omega)))) | ((with_reducible apply kDP (.load 84 _)); refine dP ?_ (hX := rfl) (hv := o_load rfl (ld_4S (shTOf rfl) (by assumption) SBt (by omega)))) | ((with_reducible apply kQO (.load 84 _)); refine qP ?_ (o_load rfl (ld_4S (shTOf rfl) (by assumption) SBt (by omega)))) | ((with_reducible apply kN); refine stW ?_ (hf := flat4 rfl rfl rfl rfl)) | ((with_reducible apply kT 16); refine sF (t := 16) (g := g) (fs := []) (hF' _ SBt) ?_ hg) | (with_reducible first | refine c_seq ?_ | refine c_reg ?_ | refine c_region ?_ | refine c_block ?_ | refine c_skip ?_ | refine c_exit ?_ | refine c_ret ?_ | refine s_nil ?_ | refine x_then ?_ | refine x_then_exit ?_ | refine x_then_ret ?_ | refine x_block ?_ | refine x_block_ret ?_ | refine x_block_same ?_ | refine x_block_other (by rfl) ?_ | refine q_nil ?_ | refine k_nil ?_) | ((with_reducible apply kP (.makeFunc _ _ _)); refine sMF ?_) | ((with_reducible apply kG); first | refine gY1 ?_ | refine gN1 ?_ | refine gU1 ?_ | (refine gD1 (fun h => ?_) (fun h => ?_) <;> (try (exfalso; omega))) | refine gB1 (fun h => ?_) (fun h => ?_)) | ((with_reducible apply kN); first | refine stP ?_ | refine stI ?_ | refine st1 ?_ | refine stW ?_) | ((with_reducible apply kP (.alloc _)); refine sA (fun b => ?_)) | ((with_reducible apply kP (.box _ _)); first | refine sBA (fun b => ?_) | refine sB (fun b => ?_)) | ((with_reducible apply kP (.buildSlice _ 1 _)); first | refine sl1A (fun b => ?_) | refine sl1 (fun b => ?_)) | ((with_reducible apply kP (.buildSlice _ 2 _)); refine sl2 (fun b => ?_)) | ((with_reducible apply kP (.buildSlice _ 3 _)); refine sl3 (fun b => ?_)) | ((with_reducible apply kP (.buildSlice _ 4 _)); refine sl4 (fun b => ?_)) | ((with_reducible apply kP (.buildSlice _ 0 _)); refine s_bs0 (scTOf rfl) (zsTOf rfl) (by decide) (fun b => ?_)) | ((with_reducible apply kP (.makeSlice _ _ _)); refine sMk (fun b => ?_)) | ((with_reducible apply kP (.call ⟨.builtin .append, _, _⟩)); refine sAp (fun oa2 c2 blk2 hrow2 => ?_)) | ((with_reducible apply kP _); refine sP ?_) | ((with_reducible apply kP _); refine sX ?_) | ((with_reducible apply kQG); first | refine qY1 ?_ | refine qN1 ?_ | refine qU1 ?_ | (refine qD1 (fun h => ?_) (fun h => ?_) <;> (try (exfalso; omega))) | refine qB1 (fun h => ?_) (fun h => ?_)) | ((with_reducible apply kQP); refine qP ?_) | ((with_reducible apply kQP); refine qX ?_) | ((with_reducible apply kC); first | refine cT ?_ | refine cF ?_ | (refine cI (fun h => ?_) (fun h => ?_) <;> (try (exfalso; omega))) | refine cB (fun h => ?_) (fun h => ?_)) | ((with_reducible apply kR); refine cQ ?_))
      have e : ksW m (i + 1) = ksW m i ++ [i] := by rw [ksW_succ, hp]; rfl
      have e2 : ivs (fla ((ksW m (i + 1)).map (rwW l))) = ivs (fla ((ksW m i).map (rwW l))) ++ [iv (l.getD (i * 4) 0), iv (l.getD (i * 4 + 1) 0), iv (l.getD (i * 4 + 2) 0), iv (l.getD (i * 4 + 3) 0), iv i] := by
        rw [e]; simp [fla, ivs, rwW, wA, wZ, wF, wT]; rfl
      exact r_end ⟨i + 1, oa2, c2, blk2⟩ ⟨hi', by dsimp only; rw [e2]; exact hrow2⟩ (by show n - (i + 1) < n - i; omega) (by dsimp only; rw [e, List.length_append]; exact (by repeat' first | trivial | rfl | apply And.intro)) SCt
  · obtain rfl : i = n := by omega
    rcases Nat.eq_zero_or_pos (ksW m i).length with h0 | h0
    · have hnil : ksW m i = [] := List.eq_nil_of_length_eq_zero h0
      rw [h0]
      repeat' (first | ((with_reducible apply kF 88); refine sC 88 (k_sortW0 B w0 _) ?_) | (with_reducible first | refine c_seq ?_ | refine c_reg ?_ | refine c_region ?_ | refine c_block ?_ | refine c_skip ?_ | refine c_exit ?_ | refine c_ret ?_ | refine s_nil ?_ | refine x_then ?_ | refine x_then_exit ?_ | refine x_then_ret ?_ | refine x_block ?_ | refine x_block_ret ?_ | refine x_block_same ?_ | refine x_block_other (by rfl) ?_ | refine q_nil ?_ | refine k_nil ?_) | ((with_reducible apply kP (.makeFunc _ _ _)); refine sMF ?_) | ((with_reducible apply kG); first | refine gY1 ?_ | refine gN1 ?_ | refine gU1 ?_ | (refine gD1 (fun h => ?_) (fun h => ?_) <;> (try (exfalso; omega))) | refine gB1 (fun h => ?_) (fun h => ?_)) | ((with_reducible apply kN); first | refine stP ?_ | refine stI ?_ | refine st1 ?_ | refine stW ?_) | ((with_reducible apply kP (.alloc _)); refine sA (fun b => ?_)) | ((with_reducible apply kP (.box _ _)); first | refine sBA (fun b => ?_) | refine sB (fun b => ?_)) | ((with_reducible apply kP (.buildSlice _ 1 _)); first | refine sl1A (fun b => ?_) | refine sl1 (fun b => ?_)) | ((with_reducible apply kP (.buildSlice _ 2 _)); refine sl2 (fun b => ?_)) | ((with_reducible apply kP (.buildSlice _ 3 _)); refine sl3 (fun b => ?_)) | ((with_reducible apply kP (.buildSlice _ 4 _)); refine sl4 (fun b => ?_)) | ((with_reducible apply kP (.buildSlice _ 0 _)); refine s_bs0 (scTOf rfl) (zsTOf rfl) (by decide) (fun b => ?_)) | ((with_reducible apply kP (.makeSlice _ _ _)); refine sMk (fun b => ?_)) | ((with_reducible apply kP (.call ⟨.builtin .append, _, _⟩)); refine sAp (fun oa2 c2 blk2 hrow2 => ?_)) | ((with_reducible apply kP _); refine sP ?_) | ((with_reducible apply kP _); refine sX ?_) | ((with_reducible apply kQG); first | refine qY1 ?_ | refine qN1 ?_ | refine qU1 ?_ | (refine qD1 (fun h => ?_) (fun h => ?_) <;> (try (exfalso; omega))) | refine qB1 (fun h => ?_) (fun h => ?_)) | ((with_reducible apply kQP); refine qP ?_) | ((with_reducible apply kQP); refine qX ?_) | ((with_reducible apply kC); first | refine cT ?_ | refine cF ?_ | (refine cI (fun h => ?_) (fun h => ?_) <;> (try (exfalso; omega))) | refine cB (fun h => ?_) (fun h => ?_)) | ((with_reducible apply kR); refine cQ ?_))
      refine e_ret1 rfl rfl ⟨blk, ⟨o2, c0, [], [], rfl, ?_, ⟨rfl, List.nodup_nil, fun k => ?_, fun a b _ h => absurd h (Nat.not_lt_zero _), fun a h => absurd h (Nat.not_lt_zero _)⟩⟩, rfl⟩ (List.Sublist.append (.refl _) (.cons _ (.refl _)))
      · rw [hnil] at hrow; exact hrow
      · rw [← hnil, ksW, List.mem_filter, List.mem_range]
    · obtain ⟨b3, z3, rfl, rfl, hz3, hc3⟩ := row_some hrow (by rw [hlen]; omega)
      simp only [List.cons_append, List.nil_append]
      have hfl : (fla ((ksW m i).map (rwW l))).length = (ksW m i).length * 5 := by rw [fla_len, List.length_map]
      repeat' (first | ((with_reducible apply kF 88); refine sR 88 (k_sortW hfl (by omega) B w0 _) ?_; rintro u h' ⟨rfl, l', hS, rfl⟩) | (with_reducible first | refine c_seq ?_ | refine c_reg ?_ | refine c_region ?_ | refine c_block ?_ | refine c_skip ?_ | refine c_exit ?_ | refine c_ret ?_ | refine s_nil ?_ | refine x_then ?_ | refine x_then_exit ?_ | refine x_then_ret ?_ | refine x_block ?_ | refine x_block_ret ?_ | refine x_block_same ?_ | refine x_block_other (by rfl) ?_ | refine q_nil ?_ | refine k_nil ?_) | ((with_reducible apply kP (.makeFunc _ _ _)); refine sMF ?_) | ((with_reducible apply kG); first | refine gY1 ?_ | refine gN1 ?_ | refine gU1 ?_ | (refine gD1 (fun h => ?_) (fun h => ?_) <;> (try (exfalso; omega))) | refine gB1 (fun h => ?_) (fun h => ?_)) | ((with_reducible apply kN); first | refine stP ?_ | refine stI ?_ | refine st1 ?_ | refine stW ?_) | ((with_reducible apply kP (.alloc _)); refine sA (fun b => ?_)) | ((with_reducible apply kP (.box _ _)); first | refine sBA (fun b => ?_) | refine sB (fun b => ?_)) | ((with_reducible apply kP (.buildSlice _ 1 _)); first | refine sl1A (fun b => ?_) | refine sl1 (fun b => ?_)) | ((with_reducible apply kP (.buildSlice _ 2 _)); refine sl2 (fun b => ?_)) | ((with_reducible apply kP (.buildSlice _ 3 _)); refine sl3 (fun b => ?_)) | ((with_reducible apply kP (.buildSlice _ 4 _)); refine sl4 (fun b => ?_)) | ((with_reducible apply kP (.buildSlice _ 0 _)); refine s_bs0 (scTOf rfl) (zsTOf rfl) (by decide) (fun b => ?_)) | ((with_reducible apply kP (.makeSlice _ _ _)); refine sMk (fun b => ?_)) | ((with_reducible apply kP (.call ⟨.builtin .append, _, _⟩)); refine sAp (fun oa2 c2 blk2 hrow2 => ?_)) | ((with_reducible apply kP _); refine sP ?_) | ((with_reducible apply kP _); refine sX ?_) | ((with_reducible apply kQG); first | refine qY1 ?_ | refine qN1 ?_ | refine qU1 ?_ | (refine qD1 (fun h => ?_) (fun h => ?_) <;> (try (exfalso; omega))) | refine qB1 (fun h => ?_) (fun h => ?_)) | ((with_reducible apply kQP); refine qP ?_) | ((with_reducible apply kQP); refine qX ?_) | ((with_reducible apply kC); first | refine cT ?_ | refine cF ?_ | (refine cI (fun h => ?_) (fun h => ?_) <;> (try (exfalso; omega))) | refine cB (fun h => ?_) (fun h => ?_)) | ((with_reducible apply kR); refine cQ ?_))
      obtain ⟨js, hj, hSd⟩ := sd_of hS
      exact e_ret1 rfl rfl ⟨[(b3, ivs l' ++ z3)], ⟨_, c0, js, l', by rw [hj], .inr ⟨b3, z3, rfl, rfl, by rw [List.length_append, ivs_length, hSd.len, hj]; rw [List.length_append, hlen] at hz3; omega, hc3⟩, hSd⟩, rfl⟩ (.cons_cons _ (.cons _ (.refl _)))
end Go.Proofs.Ytgcjddlcgpjlcaa
