/- The wigs that are given: assign. -/
import Derived.Test.YtgcjddlcgpjlcaaMP18
namespace Go.Proofs.Ytgcjddlcgpjlcaa
open Go.RowKit

section
variable {P : Program} {n B : Nat} {w0 : Wd} {fr : FR} {hs hs' : HS}
theorem ld_5 {t : TypeId} {ad : Addr} {v0 v1 v2 v3 v4 : Value} (ht : sh P t = some (true, 5)) (h0 : CellAt B w0 hs (ad.add 0) v0) (h1 : CellAt B w0 hs (ad.add 1) v1) (h2 : CellAt B w0 hs (ad.add 2) v2) (h3 : CellAt B w0 hs (ad.add 3) v3) (h4 : CellAt B w0 hs (ad.add 4) v4) : Ld P B w0 hs t ad (.agg #[v0, v1, v2, v3, v4]) :=
  ld_agg (vs := [v0, v1, v2, v3, v4]) ht rfl fun j v hj => by
    match j, hj with
    | 0, hj => simp at hj; subst hj; exact h0
    | 1, hj => simp at hj; subst hj; exact h1
    | 2, hj => simp at hj; subst hj; exact h2
    | 3, hj => simp at hj; subst hj; exact h3
    | 4, hj => simp at hj; subst hj; exact h4
    | j + 5, hj => simp at hj
theorem ld_5S {t : TypeId} {oa : Option Addr} {o : Nat} {l : List Int} (ht : sh P t = some (true, 5)) (h : Sl B w0 hs' oa l) (hsub : hs'.Sublist hs) (hl : o + 4 < l.length) : Ld P B w0 hs t (ea oa o) (.agg #[iv (l.getD o 0), iv (l.getD (o + 1) 0), iv (l.getD (o + 2) 0), iv (l.getD (o + 3) 0), iv (l.getD (o + 4) 0)]) := ld_5 ht (h.cell hsub (by omega)) (h.cell hsub (by omega)) (h.cell hsub (by omega)) (h.cell hsub (by omega)) (h.cell hsub hl)
theorem ld_wear {t : TypeId} {oa : Option Addr} {l l' : List Int} {n a w : Nat} {m : Nat → Bool} {js : List Nat} (ht : sh P t = some (true, 5)) (h : Sl B w0 hs' oa l') (hS : Sd l n m js l') (hsub : hs'.Sublist hs) (ha : a < js.length) (hw : js.getD a 0 = w) :
    Ld P B w0 hs t (ea oa (a * 5)) (.agg #[iv (wA l w), iv (wZ l w), iv (wF l w), iv (wT l w), iv (w : Int)]) := by
  obtain ⟨e0, e1, e2, e3, e4⟩ := hS.get ha
  rw [hw] at e0 e1 e2 e3 e4
  have := ld_5S (P := P) ht h hsub (o := a * 5) (by rw [hS.len]; omega)
  rwa [e0, e1, e2, e3, e4] at this
theorem o_sliceLHM' {ty t : TypeId} {x lo hi mx : Operand} {b : Bool} {k len cap j j2 r : Nat} {i i2 : Int} {oa : Option Addr} (ht : sc P t = some (b, k)) (hx : opv fr x = some (.slice oa len cap)) (hl : opv fr lo = some (.int .i64 i)) (hh : opv fr hi = some (.int .i64 i2)) (hm : opv fr mx = some (.int .i64 i2)) (hj : i = (j : Int)) (hj2 : i2 = (j2 : Int)) (h1 : j + r = j2) (h3 : j2 ≤ cap) :
    OpF P n B w0 (.slice t x (some lo) (some hi) (some mx)) ty fr hs (.slice (subA oa j2 j k) r r) := by
  have := o_sliceLHM (P := P) (n := n) (B := B) (w0 := w0) (ty := ty) (hs := hs) ht hx hl hh hm hj hj2 hj2 (by omega) (Nat.le_refl _) h3
  rwa [show j2 - j = r by omega] at this
/-- A store into a row of own memory that has room. -/
theorem s_storeZ {t : TypeId} {x y : Operand} {b o : Nat} {m : List Int} {z : List Value} {v : Int} {K : Act → World → Prop} {ops : Array Oper} {l : List Oper} {ty : TypeId} {pos : String} {aft : Array Edge} (hx : opv fr x = some (.pointer (some ⟨b, o, none⟩))) (hy : opv fr y = some (iv v)) (ht : sh P t = some (false, 1))
    (hu : Upd b (ivs m ++ z) (ivs (m.set o v) ++ z) hs hs') (ho : o < m.length) (h : Sat n B w0 (sl P ops K l) fr hs') :
    Sat n B w0 (sl P ops K (⟨none, .store t x y, ty, pos, aft, none⟩ :: l)) fr hs := by
  refine s_store1 hx hy rfl rfl ht (cs := ivs m ++ z) ?_ (by rw [List.length_append, ivs_length]; omega) h
  rw [List.set_append_left _ _ (by rw [ivs_length]; omega), ivs_set]
  exact hu
end
set_option maxRecDepth 100000 in
set_option maxHeartbeats 8000000 in
theorem k_asg1 (A Z F T z : Int) (b : Nat) (B : Nat) (w0 : Wd) (hs : HS) (hm : (b, [iv z]) ∈ hs) : Fn Try.prog 85 #[.agg #[iv A, iv Z, iv F, iv T], .pointer (some ⟨b, 0, none⟩)] B w0 hs (fun v h => v = .bool (decide (Z = z)) ∧ h = hs) := by
  refine fn_enter Try.func85 rfl Try.ntmps85 (by simp) ?_
  repeat' (first | ((with_reducible apply kP (.load _ (.tmp 1))); refine sP ?_ (o_load rfl (ld_one (shTOf rfl) (own (List.mem_cons_of_mem _ hm) rfl)))) | (with_reducible first | refine c_seq ?_ | refine c_reg ?_ | refine c_region ?_ | refine c_block ?_ | refine c_skip ?_ | refine c_exit ?_ | refine c_ret ?_ | refine s_nil ?_ | refine x_then ?_ | refine x_then_exit ?_ | refine x_then_ret ?_ | refine x_block ?_ | refine x_block_ret ?_ | refine x_block_same ?_ | refine x_block_other (by rfl) ?_ | refine q_nil ?_ | refine k_nil ?_) | ((with_reducible apply kP (.makeFunc _ _ _)); refine sMF ?_) | ((with_reducible apply kG); first | refine gY1 ?_ | refine gN1 ?_ | refine gU1 ?_ | (refine gD1 (fun h => ?_) (fun h => ?_) <;> (try (exfalso; omega))) | refine gB1 (fun h => ?_) (fun h => ?_)) | ((with_reducible apply kN); first | refine stP ?_ | refine stI ?_ | refine st1 ?_ | refine stW ?_) | ((with_reducible apply kP (.alloc _)); refine sA (fun b => ?_)) | ((with_reducible apply kP (.box _ _)); first | refine sBA (fun b => ?_) | refine sB (fun b => ?_)) | ((with_reducible apply kP (.buildSlice _ 1 _)); first | refine sl1A (fun b => ?_) | refine sl1 (fun b => ?_)) | ((with_reducible apply kP (.buildSlice _ 2 _)); refine sl2 (fun b => ?_)) | ((with_reducible apply kP (.buildSlice _ 3 _)); refine sl3 (fun b => ?_)) | ((with_reducible apply kP (.buildSlice _ 4 _)); refine sl4 (fun b => ?_)) | ((with_reducible apply kP (.buildSlice _ 0 _)); refine s_bs0 (scTOf rfl) (zsTOf rfl) (by decide) (fun b => ?_)) | ((with_reducible apply kP (.makeSlice _ _ _)); refine sMk (fun b => ?_)) | ((with_reducible apply kP (.call ⟨.builtin .append, _, _⟩)); refine sAp (fun oa2 c2 blk2 hrow2 => ?_)) | ((with_reducible apply kP _); refine sP ?_) | ((with_reducible apply kP _); refine sX ?_) | ((with_reducible apply kQG); first | refine qY1 ?_ | refine qN1 ?_ | refine qU1 ?_ | (refine qD1 (fun h => ?_) (fun h => ?_) <;> (try (exfalso; omega))) | refine qB1 (fun h => ?_) (fun h => ?_)) | ((with_reducible apply kQP); refine qP ?_) | ((with_reducible apply kQP); refine qX ?_) | ((with_reducible apply kC); first | refine cT ?_ | refine cF ?_ | (refine cI (fun h => ?_) (fun h => ?_) <;> (try (exfalso; omega))) | refine cB (fun h => ?_) (fun h => ?_)) | ((with_reducible apply kR); refine cQ ?_))
  exact e_ret1 rfl rfl ⟨rfl, rfl⟩ SCt
set_option maxRecDepth 100000 in
set_option maxHeartbeats 8000000 in
theorem k_asg2 (e A Z F T N : Int) (b : Nat) (B : Nat) (w0 : Wd) (hs : HS) (hm : (b, [iv A, iv Z, iv F, iv T, iv N]) ∈ hs) : Fn Try.prog 87 #[iv e, .pointer (some ⟨b, 0, none⟩)] B w0 hs (fun v h => v = .bool (decide (e ≤ F)) ∧ h = hs) := by
  refine fn_enter Try.func87 rfl Try.ntmps87 (by simp) ?_
  repeat' (first | ((with_reducible apply kP (.load _ _)); refine sP ?_ (o_load rfl (ld_one (shTOf rfl) (own hm rfl)))) | (with_reducible first | refine c_seq ?_ | refine c_reg ?_ | refine c_region ?_ | refine c_block ?_ | refine c_skip ?_ | refine c_exit ?_ | refine c_ret ?_ | refine s_nil ?_ | refine x_then ?_ | refine x_then_exit ?_ | refine x_then_ret ?_ | refine x_block ?_ | refine x_block_ret ?_ | refine x_block_same ?_ | refine x_block_other (by rfl) ?_ | refine q_nil ?_ | refine k_nil ?_) | ((with_reducible apply kP (.makeFunc _ _ _)); refine sMF ?_) | ((with_reducible apply kG); first | refine gY1 ?_ | refine gN1 ?_ | refine gU1 ?_ | (refine gD1 (fun h => ?_) (fun h => ?_) <;> (try (exfalso; omega))) | refine gB1 (fun h => ?_) (fun h => ?_)) | ((with_reducible apply kN); first | refine stP ?_ | refine stI ?_ | refine st1 ?_ | refine stW ?_) | ((with_reducible apply kP (.alloc _)); refine sA (fun b => ?_)) | ((with_reducible apply kP (.box _ _)); first | refine sBA (fun b => ?_) | refine sB (fun b => ?_)) | ((with_reducible apply kP (.buildSlice _ 1 _)); first | refine sl1A (fun b => ?_) | refine sl1 (fun b => ?_)) | ((with_reducible apply kP (.buildSlice _ 2 _)); refine sl2 (fun b => ?_)) | ((with_reducible apply kP (.buildSlice _ 3 _)); refine sl3 (fun b => ?_)) | ((with_reducible apply kP (.buildSlice _ 4 _)); refine sl4 (fun b => ?_)) | ((with_reducible apply kP (.buildSlice _ 0 _)); refine s_bs0 (scTOf rfl) (zsTOf rfl) (by decide) (fun b => ?_)) | ((with_reducible apply kP (.makeSlice _ _ _)); refine sMk (fun b => ?_)) | ((with_reducible apply kP (.call ⟨.builtin .append, _, _⟩)); refine sAp (fun oa2 c2 blk2 hrow2 => ?_)) | ((with_reducible apply kP _); refine sP ?_) | ((with_reducible apply kP _); refine sX ?_) | ((with_reducible apply kQG); first | refine qY1 ?_ | refine qN1 ?_ | refine qU1 ?_ | (refine qD1 (fun h => ?_) (fun h => ?_) <;> (try (exfalso; omega))) | refine qB1 (fun h => ?_) (fun h => ?_)) | ((with_reducible apply kQP); refine qP ?_) | ((with_reducible apply kQP); refine qX ?_) | ((with_reducible apply kC); first | refine cT ?_ | refine cF ?_ | (refine cI (fun h => ?_) (fun h => ?_) <;> (try (exfalso; omega))) | refine cB (fun h => ?_) (fun h => ?_)) | ((with_reducible apply kR); refine cQ ?_))
  exact e_ret1 rfl rfl ⟨rfl, rfl⟩ SCt
theorem most_b (l : List Int) (R : Int) (n : Nat) (z : Int) : most l R n z ≤ n := most_le fun _ _ _ => cnt_le n
theorem msum_b (l : List Int) (R : Int) (n : Nat) : ∀ k, msum l R n k ≤ k * n
  | 0 => by simp [msum]
  | k + 1 => by
    have := msum_b l R n k
    have := most_b l R n (k : Int)
    rw [msum, Nat.succ_mul]; omega
theorem set_lastE (E E2 : List Int) (v : Int) : ((E ++ E2) ++ [0]).set (E.length + E2.length) v = E ++ (E2 ++ [v]) := by
  rw [← List.length_append, List.set_append_right _ _ (Nat.le_refl _), Nat.sub_self]
  simp
theorem set_midE (E E2 : List Int) (j : Nat) (v : Int) : (E ++ E2).set (E.length + j) v = E ++ E2.set j v := by
  rw [List.set_append_right _ _ (Nat.le_add_right _ _), Nat.add_sub_cancel_left]
theorem takeG {js : List Nat} {a : Nat} (h : a < js.length) : js.take (a + 1) = js.take a ++ [js.getD a 0] := by
  rw [List.take_succ_eq_append_getElem h, List.getD_eq_getElem?_getD, List.getElem?_eq_getElem h]; rfl
theorem mem_takeG {js : List Nat} {a x : Nat} (h : x ∈ js.take a) : ∃ i, i < a ∧ i < js.length ∧ js.getD i 0 = x := by
  obtain ⟨i, hi, he⟩ := List.getElem_of_mem h
  rw [List.length_take] at hi
  refine ⟨i, by omega, by omega, ?_⟩
  rw [List.getElem_take] at he
  rw [List.getD_eq_getElem?_getD, List.getElem?_eq_getElem (by omega)]; exact he
theorem Sd.fresh {l : List Int} {n : Nat} {m : Nat → Bool} {js : List Nat} {l' : List Int} (h : Sd l n m js l') {a : Nat} (ha : a < js.length) : js.getD a 0 ∉ js.take a := fun hx => by
  obtain ⟨i, h1, h2, h3⟩ := mem_takeG hx
  rcases h.ord i a h1 ha with q | q
  · rw [h3] at q; omega
  · rw [h3] at q; omega
theorem Sd.le {l : List Int} {n : Nat} {m : Nat → Bool} {js : List Nat} {l' : List Int} (h : Sd l n m js l') {a x : Nat} (ha : a < js.length) (hx : x ∈ js.take a) : wF l x ≤ wF l (js.getD a 0) := by
  obtain ⟨i, h1, h2, h3⟩ := mem_takeG hx
  rcases h.ord i a h1 ha with q | q
  · rw [h3] at q; omega
  · rw [h3] at q; omega
theorem wgo_eq {o : List Int} {w f c : Nat} (hw : w < o.length) : wgo (o.set w ((f : Int) + (c : Int))) f w = c := by
  unfold wgo; rw [gE_eq hw]; omega
theorem wgo_ne {o : List Int} {w f a : Nat} {x : Int} (h : w ≠ a) : wgo (o.set w x) f a = wgo o f a := by
  unfold wgo; rw [gE_ne h]
/-- A round of the inner loop, plain. -/
structure Rd (l : List Int) (R : Int) (n f z : Nat) (P : List Nat) (E2 : List Int) (o0 o : List Int) : Prop where
  gd : Gd l R n z P E2.length E2 (wgo o f)
  len : o.length = n
  hold : ∀ i, i < n → wZ l i < z → o.getD i 0 = o0.getD i 0
  pos : ∀ i ∈ P, (f : Int) ≤ o.getD i 0
theorem Rd.nil {l : List Int} {R : Int} {n f z : Nat} {o0 : List Int} (h : o0.length = n) : Rd l R n f z [] [] o0 o0 :=
  ⟨.nil _ _ _ _ _, h, fun _ _ _ => rfl, fun _ h => by cases h⟩
theorem Rd.new {l : List Int} {R : Int} {n f z w : Nat} {P : List Nat} {E2 o0 o : List Int} (h : Rd l R n f z P E2 o0 o) (hw : w < n) (hz : wZ l w = z) (hv : wF l w < wT l w + R) (hP : w ∉ P) (hs : ∀ a ∈ P, wF l a ≤ wF l w) (he : ∀ k, k < E2.length → decide (E2.getD k 0 ≤ wF l w) = false) :
    Rd l R n f z (P ++ [w]) (E2 ++ [wT l w + R]) o0 (o.set w ((f : Int) + (E2.length : Int))) := by
  refine ⟨?_, by rw [List.length_set]; exact h.len, fun i hi hiz => ?_, fun i hi => ?_⟩
  · have := h.gd.new (wg' := wgo (o.set w ((f : Int) + (E2.length : Int))) f) hw hz hv hP hs (fun k hk => by have := he k hk; simp only [decide_eq_false_iff_not] at this; omega) (wgo_eq (by rw [h.len]; exact hw)) (fun a ha => wgo_ne fun e => by subst e; exact hP ha)
    rwa [show (E2 ++ [wT l w + R]).length = E2.length + 1 from by simp]
  · rw [gE_ne (fun e => by subst e; omega)]; exact h.hold i hi hiz
  · rcases List.mem_append.1 hi with hi | hi
    · rw [gE_ne (fun e => by subst e; exact hP hi)]; exact h.pos i hi
    · obtain rfl : i = w := by simpa using hi
      rw [gE_eq (by rw [h.len]; exact hw)]; omega
theorem Rd.old {l : List Int} {R : Int} {n f z w j : Nat} {P : List Nat} {E2 o0 o : List Int} (h : Rd l R n f z P E2 o0 o) (hw : w < n) (hz : wZ l w = z) (hv : wF l w < wT l w + R) (hP : w ∉ P) (hj : j < E2.length) (he : decide (E2.getD j 0 ≤ wF l w) = true) :
    Rd l R n f z (P ++ [w]) (E2.set j (wT l w + R)) o0 (o.set w ((f : Int) + (j : Int))) := by
  refine ⟨?_, by rw [List.length_set]; exact h.len, fun i hi hiz => ?_, fun i hi => ?_⟩
  · have := h.gd.old (wg' := wgo (o.set w ((f : Int) + (j : Int))) f) hw hz hv hP hj (of_decide_eq_true he) (wgo_eq (by rw [h.len]; exact hw)) (fun a ha => wgo_ne fun e => by subst e; exact hP ha)
    rwa [List.length_set]
  · rw [gE_ne (fun e => by subst e; omega)]; exact h.hold i hi hiz
  · rcases List.mem_append.1 hi with hi | hi
    · rw [gE_ne (fun e => by subst e; exact hP hi)]; exact h.pos i hi
    · obtain rfl : i = w := by simpa using hi
      rw [gE_eq (by rw [h.len]; exact hw)]; omega
/-- Where the outer loop stands. -/
structure Ou (l : List Int) (R : Int) (n j k : Nat) (E o : List Int) : Prop where
  asn : As l R n k o
  len : E.length = msum l R n k
  lo : ∀ t, t < j → (szs l n).getD t 0 < (k : Int)
  hi : ∀ t, j ≤ t → t < (szs l n).length → (k : Int) ≤ (szs l n).getD t 0
  hk : k ≤ 100
theorem szs_lt {l : List Int} {n t u : Nat} (h : t < u) (hu : u < (szs l n).length) : (szs l n).getD t 0 < (szs l n).getD u 0 := by
  have := List.pairwise_iff_getElem.1 (szs_ord l n) t u (by omega) hu h
  rw [List.getD_eq_getElem?_getD, List.getD_eq_getElem?_getD, List.getElem?_eq_getElem (by omega), List.getElem?_eq_getElem hu]
  exact this
theorem szs_at {l : List Int} {n i : Nat} (hi : i < n) : ∃ t, t < (szs l n).length ∧ (szs l n).getD t 0 = wZ l i := by
  obtain ⟨t, ht, he⟩ := List.getElem_of_mem (szs_mem.2 ⟨i, hi, rfl⟩)
  exact ⟨t, ht, by rw [List.getD_eq_getElem?_getD, List.getElem?_eq_getElem ht]; exact he⟩
theorem szs_to {l : List Int} {n t : Nat} (ht : t < (szs l n).length) : ∃ i, i < n ∧ wZ l i = (szs l n).getD t 0 := by
  refine szs_mem.1 ?_
  rw [List.getD_eq_getElem?_getD, List.getElem?_eq_getElem ht]
  exact List.getElem_mem ht
theorem Ou.gap {l : List Int} {R : Int} {n j k z : Nat} {E o : List Int} (h : Ou l R n j k E o) (hj : j < (szs l n).length) (hz : (szs l n).getD j 0 = (z : Int)) : As l R n z o ∧ E.length = msum l R n z := by
  have hkz : k ≤ z := by have := h.hi j (Nat.le_refl _) hj; omega
  have hg : ∀ i, i < n → ¬ ((k : Int) ≤ wZ l i ∧ wZ l i < z) := fun i hi ⟨h1, h2⟩ => by
    obtain ⟨t, ht, he⟩ := szs_at (l := l) hi
    rcases Nat.lt_or_ge t j with q | q
    · have := h.lo t q; omega
    · rcases Nat.eq_or_lt_of_le q with q | q
      · subst q; omega
      · have := szs_lt q ht; omega
  exact ⟨h.asn.gap hkz hg, by rw [h.len, msum_gap hkz hg]⟩
theorem Ou.next {l : List Int} {R : Int} {n j k z : Nat} {E o o' E2 : List Int} {js : List Nat} (h : Ou l R n j k E o) (hj : j < (szs l n).length) (hz : (szs l n).getD j 0 = (z : Int)) (hz9 : z ≤ 99) (hr : Rd l R n E.length z js E2 o o') (hS : ∀ i, i < n → wZ l i = z → i ∈ js) : Ou l R n (j + 1) (z + 1) (E ++ E2) o' := by
  obtain ⟨ha, he⟩ := h.gap hj hz
  have hc := hr.gd.fin hS
  refine ⟨ha.next (P := js) (E := E2) (by rw [← he]; exact hr.gd) hS hr.len hr.hold (fun a h => by have := hr.pos a h; omega), ?_, fun t ht => ?_, fun t h1 h2 => ?_, by omega⟩
  · rw [List.length_append, he, msum, hc]
  · rcases Nat.eq_or_lt_of_le (Nat.le_of_lt_succ ht) with q | q
    · subst q; omega
    · have := szs_lt q hj; omega
  · have := szs_lt (show j < t by omega) h2; omega
theorem Ou.fin {l : List Int} {R : Int} {n k : Nat} {E o : List Int} (h : Ou l R n (szs l n).length k E o) : As l R n 100 o ∧ E.length = msum l R n 100 := by
  have hg : ∀ i, i < n → ¬ ((k : Int) ≤ wZ l i ∧ wZ l i < (100 : Nat)) := fun i hi ⟨h1, h2⟩ => by
    obtain ⟨t, ht, he⟩ := szs_at (l := l) hi
    have := h.lo t ht; omega
  exact ⟨h.asn.gap h.hk hg, by rw [h.len, msum_gap h.hk hg]⟩
end Go.Proofs.Ytgcjddlcgpjlcaa
