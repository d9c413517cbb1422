/- Sorts of rows with room; a day's minutes: plain. -/
import Derived.Test.YtgcjddlcgpjlcaaMP40
namespace Go.Proofs.Ytgcjddlcgpjlcaa
open Go.RowKit

def natJ (js : List Nat) : List Int := js.map fun (i : Nat) => (i : Int)
theorem natJ_len (js : List Nat) : (natJ js).length = js.length := by simp [natJ]
theorem natJ_get {js : List Nat} {i : Nat} (h : i < js.length) : (natJ js).getD i 0 = (js.getD i 0 : Int) := by simp [natJ, List.getD, h]
theorem natJ_perm {m : List Int} {ks : List Nat} (h : m.Perm (natJ ks)) : ∃ os : List Nat, m = natJ os ∧ os.Perm ks := by
  have e1 : (natJ ks).map Int.toNat = ks := by
    unfold natJ
    rw [List.map_map]
    conv => rhs; rw [← List.map_id ks]
    exact List.map_congr_left fun x _ => by simp
  refine ⟨m.map Int.toNat, ?_, ?_⟩
  · unfold natJ
    rw [List.map_map]
    conv => lhs; rw [← List.map_id m]
    refine List.map_congr_left fun x hx => ?_
    obtain ⟨i, _, rfl⟩ := List.mem_map.1 (h.mem_iff.1 hx)
    simp
  · have := h.map Int.toNat
    rwa [e1] at this
theorem getD_memN {l : List Nat} {i : Nat} (h : i < l.length) : l.getD i 0 ∈ l := by rw [List.getD_eq_getElem?_getD, List.getElem?_eq_getElem h]; exact List.getElem_mem h
theorem memN_getD {l : List Nat} {x : Nat} (h : x ∈ l) : ∃ i, i < l.length ∧ l.getD i 0 = x := by
  obtain ⟨i, hi, he⟩ := List.getElem_of_mem h
  exact ⟨i, hi, by rw [List.getD_eq_getElem?_getD, List.getElem?_eq_getElem hi]; exact he⟩
theorem k_sort9 {n c K d b6 B : Nat} {w0 : Wd} {hs blk : HS} {oa ob : Option Addr} {m z : List Int} (hz : z.length = K * 3) (hl : m.length = n) (hn : n < 20) (hQ : ∀ x, x < n → 0 ≤ m.getD x 0 ∧ m.getD x 0 < K) (hr : RowOk oa c 1 (ivs m) blk) (hJ : Sl B w0 hs ob z) :
    Fn Try.prog 94 #[.slice oa n c, .func (.func 95) #[] [.pointer (some ⟨b6, 0, none⟩)].toArray] B w0 (blk ++ (b6, [.slice ob K d]) :: hs) (fun v h => v = .tuple #[] ∧ ∃ m' blk', RowOk oa c 1 (ivs m') blk' ∧ m'.Perm m ∧ (∀ x y, x < y → y < n → jD z (m'.getD x 0).toNat ≤ jD z (m'.getD y 0).toNat) ∧ h = blk' ++ (b6, [.slice ob K d]) :: hs) := by
  rcases Nat.eq_zero_or_pos n with h0 | h0
  · subst h0
    refine k_sortStable (R := fun _ h => ∃ m' blk', RowOk oa c 1 (ivs m') blk' ∧ m'.Perm m ∧ (∀ x y, x < y → y < 0 → jD z (m'.getD x 0).toNat ≤ jD z (m'.getD y 0).toNat) ∧ h = blk' ++ (b6, [.slice ob K d]) :: hs) (by omega) ((k_insert0 B w0 _).mono fun v h ⟨h1, h2⟩ => ⟨h1, m, blk, hr, .refl _, fun x y _ h => absurd h (Nat.not_lt_zero _), h2⟩)
  · obtain ⟨b, zz, rfl, rfl, hz3, hc3⟩ := row_some hr (by rw [ivs_length]; omega)
    refine k_sortStable (R := fun _ h => ∃ m' blk', RowOk (some ⟨b, 0, none⟩) c 1 (ivs m') blk' ∧ m'.Perm m ∧ (∀ x y, x < y → y < n → jD z (m'.getD x 0).toNat ≤ jD z (m'.getD y 0).toNat) ∧ h = blk' ++ (b6, [.slice ob K d]) :: hs) hn ?_
    refine (k_insert (κ := fun x => jD z x.toNat) (Q := fun x => 0 ≤ x ∧ x < K) (g := 95) (cs := [.pointer (some ⟨b6, 0, none⟩)]) (m := m) (zz := zz) (hs := (b6, [.slice ob K d]) :: hs) (goF rfl) (fun x y hx hy F m' => k_dd1 hz hx hy B w0 _ (mmA (.tail _ (.head _))) (hJ.sub (sbA (.cons _ (.cons _ (.refl _)))))) hQ hl h0 (by omega)).mono fun v h ⟨h1, m', hp, hso, h2⟩ => ⟨h1, m', [(b, ivs m' ++ zz)], .inr ⟨b, zz, rfl, rfl, ?_, hc3⟩, hp, hso, h2⟩
    rw [← hz3, List.length_append, List.length_append, ivs_length, ivs_length, hp.length_eq]
/-! ### Slots in order -/
def cfS (x y : Rw 3) : Int := cmV (x.1.getD 1 0) (y.1.getD 1 0)
set_option maxRecDepth 100000 in
set_option maxHeartbeats 8000000 in
theorem k_cfS (x y : Rw 3) (B : Nat) (w0 : Wd) (hs : HS) : Fn Try.prog 98 #[.agg (ivs x.1).toArray, .agg (ivs y.1).toArray] B w0 hs (fun v h => v = iv (cfS x y) ∧ h = hs) := by
  obtain ⟨x, hx⟩ := x
  obtain ⟨y, hy⟩ := y
  obtain ⟨A, J, M, rfl⟩ := len_3 hx
  obtain ⟨a, j, m, rfl⟩ := len_3 hy
  show Fn Try.prog 98 #[.agg #[iv A, iv J, iv M], .agg #[iv a, iv j, iv m]] B w0 hs (fun v h => v = iv (cmV J j) ∧ h = hs)
  have kc := k_cmp J j B w0
  generalize cmV J j = q at *
  refine fn_enter Try.func98 rfl Try.ntmps98 (by simp) ?_
  repeat' (first | ((with_reducible apply kF 96); refine sC 96 (kc _) ?_) | ((with_reducible apply kDF 96); refine dC 96 (fun F => kc _) ?_) | (with_reducible first | refine c_seq ?_ | refine c_reg ?_ | refine c_region ?_ | refine c_block ?_ | refine c_skip ?_ | refine c_exit ?_ | refine c_ret ?_ | refine s_nil ?_ | refine x_then ?_ | refine x_then_exit ?_ | refine x_then_ret ?_ | refine x_block ?_ | refine x_block_ret ?_ | refine x_block_same ?_ | refine x_block_other (by rfl) ?_ | refine q_nil ?_ | refine k_nil ?_) | ((with_reducible apply kP (.makeFunc _ _ _)); refine sMF ?_) | ((with_reducible apply kG); first | refine gY1 ?_ | refine gN1 ?_ | refine gU1 ?_ | (refine gD1 (fun h => ?_) (fun h => ?_) <;> (try (exfalso; omega))) | refine gB1 (fun h => ?_) (fun h => ?_)) | ((with_reducible apply kN); first | refine stP ?_ | refine stI ?_ | refine st1 ?_ | refine stW ?_) | ((with_reducible apply kP (.alloc _)); refine sA (fun b => ?_)) | ((with_reducible apply kP (.box _ _)); first | refine sBA (fun b => ?_) | refine sB (fun b => ?_)) | ((with_reducible apply kP (.buildSlice _ 1 _)); first | refine sl1A (fun b => ?_) | refine sl1 (fun b => ?_)) | ((with_reducible apply kP (.buildSlice _ 2 _)); refine sl2 (fun b => ?_)) | ((with_reducible apply kP (.buildSlice _ 3 _)); refine sl3 (fun b => ?_)) | ((with_reducible apply kP (.buildSlice _ 4 _)); refine sl4 (fun b => ?_)) | ((with_reducible apply kP (.buildSlice _ 0 _)); refine s_bs0 (scTOf rfl) (zsTOf rfl) (by decide) (fun b => ?_)) | ((with_reducible apply kP (.makeSlice _ _ _)); refine sMk (fun b => ?_)) | ((with_reducible apply kP (.call ⟨.builtin .append, _, _⟩)); refine sAp (fun oa2 c2 blk2 hrow2 => ?_)) | ((with_reducible apply kP _); refine sP ?_) | ((with_reducible apply kP _); refine sX ?_) | ((with_reducible apply kQG); first | refine qY1 ?_ | refine qN1 ?_ | refine qU1 ?_ | (refine qD1 (fun h => ?_) (fun h => ?_) <;> (try (exfalso; omega))) | refine qB1 (fun h => ?_) (fun h => ?_)) | ((with_reducible apply kQP); refine qP ?_) | ((with_reducible apply kQP); refine qX ?_) | ((with_reducible apply kC); first | refine cT ?_ | refine cF ?_ | (refine cI (fun h => ?_) (fun h => ?_) <;> (try (exfalso; omega))) | refine cB (fun h => ?_) (fun h => ?_)) | ((with_reducible apply kR); refine cQ ?_))
  all_goals first
    | exact e_ret1 rfl rfl ⟨rfl, rfl⟩ SCt
    | trace_state
theorem swoS : Go.Sort.SWO (ltOf cfS) where
  irrefl x := by simp only [ltOf, cfS, cmV_lt, decide_eq_false_iff_not]; omega
  trans x y z h1 h2 := by simp only [ltOf, cfS, cmV_lt, decide_eq_true_eq] at *; omega
  ntrans x y z h1 h2 := by simp only [ltOf, cfS, cmV_lt, decide_eq_false_iff_not] at *; omega
theorem k_sortS {n c B : Nat} {w0 : Wd} {hs blk : HS} {oa : Option Addr} {l : List Int} (hl : l.length = n * 3) (hn : n ≤ 1000) (hr : RowOk oa c 3 (ivs l) blk) :
    Fn Try.prog 97 #[.slice oa n c, .func (.func 98) #[] #[]] B w0 (blk ++ hs) (fun v h => v = .tuple #[] ∧ ∃ l' blk', RowOk oa c 3 (ivs l') blk' ∧ Srt 3 n cfS l l' ∧ h = blk' ++ hs) := by
  rcases Nat.eq_zero_or_pos n with h0 | h0
  · subst h0
    refine fn_mk fun w hw => (AnyF.slices_SortFunc_none Try.sortSlot oa c _ w).mono fun _ _ ⟨he, hw'⟩ => ⟨_, _, he, ⟨rfl, l, blk, hr, ⟨hl, .refl _, fun i j _ h => absurd h (Nat.not_lt_zero _)⟩, rfl⟩, hw' ▸ hw⟩
  · obtain ⟨b, zz, rfl, rfl, hz3, hc3⟩ := row_some hr (by rw [ivs_length]; omega)
    refine (fn_sort Try.sortSlot (k := 3) (c := c) (b := b) (z := zz) (B := B) (w0 := w0) (hs := hs) (fun w => run_isAgg (shTOf rfl) w) (fun w => run_sizeOf (shTOf rfl) w) swoS (goTOf rfl) (fun x y B w0 => (k_cfS x y B w0 []).mono fun _ _ h => h.1) hl (by omega)).mono fun v h ⟨h1, l', hS, h2⟩ => ⟨h1, l', [(b, ivs l' ++ zz)], .inr ⟨b, zz, rfl, rfl, ?_, hc3⟩, hS, h2⟩
    rw [← hz3, List.length_append, List.length_append, ivs_length, ivs_length, hS.len, hl]
def rS (d : Int) (g : Nat → Int) (j : Nat) : Rw 3 := ⟨[d, (j : Int), g j], rfl⟩
/-- A day's slots. -/
structure Sl3 (d : Int) (g : Nat → Int) (ps : List Nat) (sl : List Int) : Prop where
  len : sl.length = ps.length * 3
  row : ∀ a, a < ps.length → sl.getD (a * 3) 0 = d ∧ sl.getD (a * 3 + 1) 0 = (ps.getD a 0 : Int) ∧ sl.getD (a * 3 + 2) 0 = g (ps.getD a 0)
theorem sl3_of {d : Int} {g : Nat → Int} {qs : List Nat} {l' : List Int} (hnd : qs.Nodup) (h : Srt 3 qs.length cfS (fla (qs.map (rS d g))) l') : ∃ ps : List Nat, ps.length = qs.length ∧ (∀ j, j ∈ ps ↔ j ∈ qs) ∧ (∀ a b, a < b → b < ps.length → ps.getD a 0 < ps.getD b 0) ∧ Sl3 d g ps l' := by
  have hd : (qs.map (rS d g)).length = qs.length := by simp
  have hp : (rwl 3 qs.length l').Perm (qs.map (rS d g)) := by
    have := h.perm
    rw [← hd, rwl_fla, hd] at this
    exact this
  have e1 : (qs.map (rS d g)).map (fun r => (r.1.getD 1 0).toNat) = qs := by
    rw [List.map_map]
    conv => rhs; rw [← List.map_id qs]
    exact List.map_congr_left fun i _ => by show (Int.toNat (i : Int)) = i; simp
  have hjp : ((rwl 3 qs.length l').map fun r => (r.1.getD 1 0).toNat).Perm qs := by
    have := hp.map (fun r : Rw 3 => (r.1.getD 1 0).toNat)
    rwa [e1] at this
  have hlen : ((rwl 3 qs.length l').map fun r => (r.1.getD 1 0).toNat).length = qs.length := by simp [rwl_len]
  have hget : ∀ a, a < qs.length → ((rwl 3 qs.length l').map fun r => (r.1.getD 1 0).toNat).getD a 0 = ((rw_ 3 l' a).1.getD 1 0).toNat := fun a ha => by
    simp [rwl, List.getD, ha]
  have hcell : ∀ a, a < qs.length → rw_ 3 l' a = rS d g (((rw_ 3 l' a).1.getD 1 0).toNat) := fun a ha => by
    have hmem : rw_ 3 l' a ∈ rwl 3 qs.length l' := List.mem_map.2 ⟨a, List.mem_range.2 ha, rfl⟩
    obtain ⟨i, _, hi⟩ := List.mem_map.1 (hp.mem_iff.1 hmem)
    rw [← hi]
    congr 1
  refine ⟨_, hlen, fun j => hjp.mem_iff, fun a b hab hb => ?_, by rw [hlen]; exact h.len, fun a ha => ?_⟩
  · rw [hlen] at hb
    have hs := h.sorted a b hab hb
    have c1 := hcell a (by omega)
    have c2 := hcell b hb
    rw [hget a (by omega), hget b hb]
    have hne : ((rw_ 3 l' a).1.getD 1 0).toNat ≠ ((rw_ 3 l' b).1.getD 1 0).toNat := by
      rw [← hget a (by omega), ← hget b hb]
      intro he
      have hnd2 := hjp.nodup_iff.2 hnd
      rw [List.getD_eq_getElem?_getD, List.getD_eq_getElem?_getD, List.getElem?_eq_getElem (by rw [hlen]; omega), List.getElem?_eq_getElem (by rw [hlen]; omega)] at he
      have := (List.getElem_inj (h₀ := by rw [hlen]; omega) (h₁ := by rw [hlen]; omega) hnd2).1 he
      omega
    generalize ((rw_ 3 l' a).1.getD 1 0).toNat = x at *
    generalize ((rw_ 3 l' b).1.getD 1 0).toNat = y at *
    rw [c1, c2] at hs
    have q : ¬ cmV (y : Int) (x : Int) < 0 := hs
    rw [cmV_lt] at q
    omega
  · rw [hlen] at ha
    have hc := hcell a ha
    rw [hget a ha]
    generalize ((rw_ 3 l' a).1.getD 1 0).toNat = x at *
    have key : ∀ j, j < 3 → l'.getD (a * 3 + j) 0 = (rS d g x).1.getD j 0 := fun j hj => by rw [← hc, rw_get hj]
    exact ⟨key 0 (by omega), key 1 (by omega), key 2 (by omega)⟩
/-! ### Minutes of a day -/
structure DayOk (K : Nat) (R D : Nat → Int) (d : Nat) (μ : Int) (lf g : Nat → Int) : Prop where
  nn : ∀ j, j < K → 0 ≤ g j ∧ g j ≤ lf j
  win : ∀ j, j < K → 0 < g j → R j ≤ d ∧ (d : Int) ≤ D j
  cap : sumTo g K ≤ μ
  edf : ∀ j, j < K → 0 < lf j - g j → R j ≤ d → (d : Int) ≤ D j → sumTo g K = μ ∧ ∀ i, i < K → 0 < g i → D i ≤ D j
def opB (R D : Nat → Int) (d : Nat) (lf : Nat → Int) (j : Nat) : Bool := decide (0 < lf j ∧ R j ≤ d ∧ (d : Int) ≤ D j)
/-- The first k commissions have been served. -/
structure Gk (K : Nat) (lf : Nat → Int) (μ : Int) (os : List Nat) (k : Nat) (g : Nat → Int) (qs : List Nat) : Prop where
  out : ∀ j, j ∉ os.take k → g j = 0
  nn : ∀ j, j < K → 0 ≤ g j ∧ g j ≤ lf j
  cap : sumTo g K ≤ μ
  part : ∀ a, a < k → g (os.getD a 0) < lf (os.getD a 0) → sumTo g K = μ
  full : ∀ a b, a < b → b < k → 0 < g (os.getD b 0) → g (os.getD a 0) = lf (os.getD a 0)
  nd : qs.Nodup
  mem : ∀ j, j ∈ qs ↔ j ∈ os.take k ∧ 0 < g j
theorem Gk.zero {K : Nat} {lf : Nat → Int} {μ : Int} {os : List Nat} (h : ∀ j, j < K → 0 ≤ lf j) (hμ : 0 ≤ μ) : Gk K lf μ os 0 (fun _ => 0) [] := by
  refine ⟨fun _ _ => rfl, fun j hj => ⟨Int.le_refl _, h j hj⟩, by rw [sumTo_zero K fun _ _ => rfl]; exact hμ, fun a h => absurd h (Nat.not_lt_zero _), fun a b _ h => absurd h (Nat.not_lt_zero _), List.nodup_nil, fun j => ?_⟩
  simp
theorem sum_upd {g : Nat → Int} {j : Nat} {x : Int} (h0 : g j = 0) : ∀ K, j < K → sumTo (fun i => if i = j then x else g i) K = sumTo g K + x
  | K + 1, h => by
    rw [sumTo_succ, sumTo_succ]
    by_cases e : j = K
    · subst e
      rw [sumTo_congr j fun i hi => if_neg (by omega), if_pos rfl, h0]; omega
    · rw [sum_upd h0 K (by omega), if_neg (by omega)]; omega
theorem Gk.step {K : Nat} {lf g : Nat → Int} {μ : Int} {os qs : List Nat} {k : Nat} (h : Gk K lf μ os k g qs) (hnd : os.Nodup) (hk : k < os.length) (hKa : ∀ a, a < os.length → os.getD a 0 < K) :
    Gk K lf μ os (k + 1) (fun i => if i = os.getD k 0 then min (μ - sumTo g K) (lf (os.getD k 0)) else g i) (if 0 < min (μ - sumTo g K) (lf (os.getD k 0)) then qs ++ [os.getD k 0] else qs) := by
  have hK := hKa k hk
  have htk : os.take (k + 1) = os.take k ++ [os.getD k 0] := takeG hk
  have hfr : os.getD k 0 ∉ os.take k := fun hx => by
    obtain ⟨i, h1, h2, h3⟩ := mem_takeG hx
    rw [List.getD_eq_getElem?_getD, List.getD_eq_getElem?_getD, List.getElem?_eq_getElem h2, List.getElem?_eq_getElem hk] at h3
    have := (List.getElem_inj hnd).1 h3
    omega
  have hne : ∀ a, a < k → os.getD a 0 ≠ os.getD k 0 := fun a ha he => by
    rw [List.getD_eq_getElem?_getD, List.getD_eq_getElem?_getD, List.getElem?_eq_getElem (show a < os.length by omega), List.getElem?_eq_getElem hk] at he
    have := (List.getElem_inj hnd).1 he
    omega
  have h0 := h.out _ hfr
  have hnn := h.nn _ hK
  have hcap := h.cap
  have hs := sum_upd (x := min (μ - sumTo g K) (lf (os.getD k 0))) h0 K hK
  have hpart := h.part
  have hfull := h.full
  generalize hj0 : os.getD k 0 = j0 at *
  generalize hn : min (μ - sumTo g K) (lf j0) = x at *
  have hx : 0 ≤ x ∧ x ≤ lf j0 ∧ x ≤ μ - sumTo g K ∧ (x < lf j0 → x = μ - sumTo g K) := by omega
  refine ⟨fun j hj => ?_, fun j hj => ?_, by rw [hs]; omega, fun a ha hlt => ?_, fun a b hab hb hpos => ?_, ?_, fun j => ?_⟩
  · rw [htk, List.mem_append, not_or, List.mem_singleton] at hj
    rw [if_neg hj.2]; exact h.out j hj.1
  · by_cases e : j = j0
    · rw [if_pos e, e]; exact ⟨hx.1, hx.2.1⟩
    · rw [if_neg e]; exact h.nn j hj
  · rw [hs]
    by_cases e : a = k
    · subst e
      rw [hj0, if_pos rfl] at hlt
      have := hx.2.2.2 hlt; omega
    · rw [if_neg (hne a (by omega))] at hlt
      have := hpart a (by omega) hlt
      omega
  · by_cases e : b = k
    · subst e
      rw [hj0, if_pos rfl] at hpos
      rw [if_neg (hne a hab)]
      apply Classical.byContradiction
      intro hcon
      have h9 := h.nn (os.getD a 0) (hKa a (by omega))
      have := hpart a hab (by omega)
      omega
    · rw [if_neg (hne b (by omega))] at hpos
      rw [if_neg (hne a (by omega))]
      exact hfull a b hab (by omega) hpos
  · split
    · refine List.nodup_append.2 ⟨h.nd, List.nodup_cons.2 ⟨by simp, List.nodup_nil⟩, fun a ha b hb => ?_⟩
      rw [List.mem_singleton] at hb
      subst hb
      intro he
      subst he
      exact hfr ((h.mem _).1 ha).1
    · exact h.nd
  · rw [htk, List.mem_append, List.mem_singleton]
    split
    · rename_i hpos
      rw [List.mem_append, List.mem_singleton]
      by_cases e : j = j0
      · rw [if_pos e]; exact ⟨fun _ => ⟨.inr e, hpos⟩, fun _ => .inr e⟩
      · rw [if_neg e, h.mem]
        constructor
        · rintro (⟨a, b⟩ | a)
          · exact ⟨.inl a, b⟩
          · exact absurd a e
        · rintro ⟨a | a, b⟩
          · exact .inl ⟨a, b⟩
          · exact absurd a e
    · rename_i hpos
      by_cases e : j = j0
      · rw [if_pos e]
        constructor
        · intro hq; subst e; exact absurd ((h.mem _).1 hq).1 hfr
        · rintro ⟨_, b⟩; exact absurd b hpos
      · rw [if_neg e, h.mem]
        constructor
        · rintro ⟨a, b⟩; exact ⟨.inl a, b⟩
        · rintro ⟨a | a, b⟩
          · exact ⟨a, b⟩
          · exact absurd a e
theorem Gk.fin {K d : Nat} {R D lf g : Nat → Int} {μ : Int} {os qs : List Nat} (h : Gk K lf μ os os.length g qs) (hos : ∀ j, j ∈ os ↔ j < K ∧ opB R D d lf j = true) (hso : ∀ a b, a < b → b < os.length → D (os.getD a 0) ≤ D (os.getD b 0)) : DayOk K R D d μ lf g ∧ ∀ j, j ∈ qs ↔ j < K ∧ 0 < g j := by
  have ht : os.take os.length = os := List.take_length
  have hm := h.mem
  have hout := h.out
  rw [ht] at hout
  simp only [ht] at hm
  have hpos : ∀ j, 0 < g j → j ∈ os := fun j hg => Classical.byContradiction fun hn => by have := hout j hn; omega
  refine ⟨⟨h.nn, fun j _ hg => (of_decide_eq_true ((hos j).1 (hpos j hg)).2).2, h.cap, fun j hj hl h1 h2 => ?_⟩, fun j => ?_⟩
  · have hnn := h.nn j hj
    have hjo : j ∈ os := (hos j).2 ⟨hj, decide_eq_true ⟨by omega, h1, h2⟩⟩
    obtain ⟨a, ha, he⟩ := memN_getD hjo
    refine ⟨h.part a ha (by rw [he]; omega), fun i hi hgi => ?_⟩
    obtain ⟨b, hb, hbe⟩ := memN_getD (hpos i hgi)
    rcases Nat.lt_trichotomy a b with c | c | c
    · have := h.full a b c hb (by rw [hbe]; exact hgi)
      rw [he] at this; omega
    · subst c; rw [← he, ← hbe]; exact Int.le_refl _
    · have := hso b a c ha
      rw [he, hbe] at this; exact this
  · rw [hm]
    constructor
    · rintro ⟨a, b⟩; exact ⟨((hos j).1 a).1, b⟩
    · rintro ⟨a, b⟩; exact ⟨hpos j b, b⟩
end Go.Proofs.Ytgcjddlcgpjlcaa
