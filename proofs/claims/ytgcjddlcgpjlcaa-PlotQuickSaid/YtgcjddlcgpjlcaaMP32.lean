/- Quick changes: plain, and the program's. -/
import Derived.Test.YtgcjddlcgpjlcaaMP23
namespace Go.Proofs.Ytgcjddlcgpjlcaa
open Go.RowKit

/-- The next wearing of the same actor. -/
def isNx (l : List Int) (n i k : Nat) : Prop := wA l i = wA l k ∧ wF l i < wF l k ∧ ∀ x, x < n → ¬ (wA l x = wA l i ∧ wF l i < wF l x ∧ wF l x < wF l k)
instance (l : List Int) (n i k : Nat) : Decidable (isNx l n i k) := by unfold isNx; infer_instance
def nxB (l : List Int) (n : Nat) (t : Int) (i k : Nat) : Bool := decide (isNx l n i k ∧ wF l k < wT l i + t)
def qp (l : List Int) (n : Nat) (t : Int) (m : Nat) : List (Nat × Nat) := (List.range m).flatMap fun i => (ksW (nxB l n t i) n).map fun k => (i, k)
theorem qp_succ (l : List Int) (n : Nat) (t : Int) (m : Nat) : qp l n t (m + 1) = qp l n t m ++ (ksW (nxB l n t m) n).map fun k => (m, k) := by
  unfold qp; rw [List.range_succ, List.flatMap_append]; simp
theorem qp_len (l : List Int) (n : Nat) (t : Int) : ∀ m, (qp l n t m).length ≤ m * n
  | 0 => by simp [qp]
  | m + 1 => by
    have h1 := qp_len l n t m
    have h2 := ksW_len (nxB l n t m) n
    rw [qp_succ, List.length_append, List.length_map, Nat.succ_mul]; omega
def prI (ps : List (Nat × Nat)) : List Int := ps.flatMap fun p => [(p.1 : Int), (p.2 : Int)]
theorem prI_len : ∀ ps, (prI ps).length = ps.length * 2
  | [] => rfl
  | p :: ps => by
    have := prI_len ps
    show ([(p.1 : Int), (p.2 : Int)] ++ prI ps).length = (ps.length + 1) * 2
    rw [List.length_append, this]; simp; omega
theorem prI_snoc (ps : List (Nat × Nat)) (i k : Nat) : ivs (prI (ps ++ [(i, k)])) = ivs (prI ps) ++ [iv i, iv k] := by
  unfold prI; rw [List.flatMap_append]; simp [ivs]
theorem ksW_one {p : Nat → Bool} {k0 : Nat} : ∀ m, (∀ k, k < m → (p k = true ↔ k = k0)) → ksW p m = if k0 < m then [k0] else []
  | 0, _ => rfl
  | m + 1, h => by
    rw [ksW_succ, ksW_one m fun k hk => h k (by omega)]
    by_cases e : k0 = m
    · subst e
      simp [(h k0 (by omega)).2 rfl]
    · have : p m = false := by
        cases hp : p m with
        | false => rfl
        | true => exact absurd ((h m (by omega)).1 hp).symm e
      rw [this]
      by_cases h1 : k0 < m
      · simp [h1]; omega
      · simp [h1]; omega
theorem ksW_none {p : Nat → Bool} {m : Nat} (h : ∀ k, k < m → p k = false) : ksW p m = [] := by
  rw [ksW, List.filter_eq_nil_iff]
  intro k hk
  rw [h k (List.mem_range.1 hk)]; decide
def ltB (l : List Int) (i x : Nat) : Bool := decide (wA l x = wA l i ∧ wF l i < wF l x)
theorem nx_none {l : List Int} {n i : Nat} {t : Int} {js : List Nat} {l' : List Int} (hS : Sd l n (ltB l i) js l') (h0 : js.length = 0) : ksW (nxB l n t i) n = [] := ksW_none fun k hk => by
  cases hp : nxB l n t i k with
  | false => rfl
  | true =>
    have h1 := of_decide_eq_true hp
    have hm : k ∈ js := (hS.mem k).2 ⟨hk, decide_eq_true ⟨h1.1.1.symm, h1.1.2.1⟩⟩
    have := List.length_pos_of_mem hm
    omega
theorem nx_first {l : List Int} {n i : Nat} {R C : Int} {js : List Nat} {l' : List Int} (hV : VP n R C l) (hS : Sd l n (ltB l i) js l') (h0 : 0 < js.length) : js.getD 0 0 < n ∧ ∀ k, k < n → (isNx l n i k ↔ k = js.getD 0 0) := by
  have hm : js.getD 0 0 ∈ js := by rw [List.getD_eq_getElem?_getD, List.getElem?_eq_getElem h0]; exact List.getElem_mem h0
  obtain ⟨hk0, hb⟩ := (hS.mem _).1 hm
  have hb := of_decide_eq_true hb
  have hmin : ∀ x, x < n → wA l x = wA l i → wF l i < wF l x → wF l (js.getD 0 0) ≤ wF l x := fun x hx h1 h2 => by
    have hxm : x ∈ js := (hS.mem x).2 ⟨hx, decide_eq_true ⟨h1, h2⟩⟩
    obtain ⟨a, ha, he⟩ := List.getElem_of_mem hxm
    have hg : js.getD a 0 = x := by rw [List.getD_eq_getElem?_getD, List.getElem?_eq_getElem ha]; exact he
    rcases Nat.eq_zero_or_pos a with h | h
    · subst h; rw [hg]; exact Int.le_refl _
    · have := hS.ord 0 a h ha
      rw [hg] at this; omega
  refine ⟨hk0, fun k hk => ⟨fun h => ?_, fun h => ?_⟩⟩
  · obtain ⟨h1, h2, h3⟩ := h
    have h4 := hmin k hk h1.symm h2
    have h5 := h3 _ hk0
    generalize js.getD 0 0 = k0 at *
    apply Classical.byContradiction
    intro hne
    have heq : wF l k = wF l k0 := by
      apply Classical.byContradiction
      intro hn
      exact h5 ⟨hb.1, hb.2, by omega⟩
    have w1 := hV.w k hk
    have w2 := hV.w k0 hk0
    have hC := hV.nums
    unfold okw at w1 w2
    unfold okP at hC
    rcases Nat.lt_or_ge k k0 with c | c
    · exact hV.no k0 hk0 k c ⟨by omega, by unfold nr; omega⟩
    · exact hV.no k hk k0 (by omega) ⟨by omega, by unfold nr; omega⟩
  · subst h
    exact ⟨hb.1.symm, hb.2, fun x hx ⟨g1, g2, g3⟩ => by have := hmin x hx g1 g2; omega⟩
theorem nx_some {l : List Int} {n i : Nat} {t R C : Int} {js : List Nat} {l' : List Int} (hV : VP n R C l) (hS : Sd l n (ltB l i) js l') (h0 : 0 < js.length) (ht : wF l (js.getD 0 0) < wT l i + t) : ksW (nxB l n t i) n = [js.getD 0 0] := by
  obtain ⟨h1, h2⟩ := nx_first hV hS h0
  have := ksW_one (p := nxB l n t i) (k0 := js.getD 0 0) n fun k hk => ⟨fun h => (h2 k hk).1 (of_decide_eq_true h).1, fun h => decide_eq_true ⟨(h2 k hk).2 h, by rw [h]; exact ht⟩⟩
  rwa [if_pos h1] at this
theorem nx_late {l : List Int} {n i : Nat} {t R C : Int} {js : List Nat} {l' : List Int} (hV : VP n R C l) (hS : Sd l n (ltB l i) js l') (h0 : 0 < js.length) (ht : ¬ wF l (js.getD 0 0) < wT l i + t) : ksW (nxB l n t i) n = [] := ksW_none fun k hk => by
  obtain ⟨h1, h2⟩ := nx_first hV hS h0
  cases hp : nxB l n t i k with
  | false => rfl
  | true =>
    have h3 := of_decide_eq_true hp
    have := (h2 k hk).1 h3.1
    subst this
    exact absurd h3.2 ht
def qkE (n : Nat) (R C : Int) (l : List Int) (t : Int) : Int := if vpE n R C l = 0 then (if inB t 0 600 then 0 else 1) else vpE n R C l
def qkP (n : Nat) (R C : Int) (l : List Int) (t : Int) : List (Nat × Nat) := if qkE n R C l t = 0 then qp l n t n else []
theorem qk_bad {n : Nat} {R C t : Int} {l : List Int} (h : ¬ vpE n R C l = 0) : qkE n R C l t = vpE n R C l ∧ qkP n R C l t = [] := by
  have e : qkE n R C l t = vpE n R C l := if_neg h
  exact ⟨e, by unfold qkP; rw [if_neg (by rw [e]; exact h)]⟩
theorem qk_arg {n : Nat} {R C t : Int} {l : List Int} (h : vpE n R C l = 0) (h1 : ¬ inB t 0 600) : qkE n R C l t = 1 ∧ qkP n R C l t = [] := by
  have e : qkE n R C l t = 1 := by unfold qkE; rw [if_pos h, if_neg h1]
  exact ⟨e, by unfold qkP; rw [if_neg (by rw [e]; decide)]⟩
theorem qk_ok {n : Nat} {R C t : Int} {l : List Int} (h : vpE n R C l = 0) (h1 : inB t 0 600) : qkE n R C l t = 0 ∧ qkP n R C l t = qp l n t n := by
  have e : qkE n R C l t = 0 := by unfold qkE; rw [if_pos h, if_pos h1]
  exact ⟨e, by unfold qkP; rw [if_pos e]⟩
set_option maxRecDepth 100000 in
set_option maxHeartbeats 8000000 in
theorem k_qk1 (A Z F T a z f t : Int) (b : Nat) (B : Nat) (w0 : Wd) (hs : HS) (hm : (b, [iv a, iv z, iv f, iv t]) ∈ hs) : Fn Try.prog 67 #[.agg #[iv A, iv Z, iv F, iv T], .pointer (some ⟨b, 0, none⟩)] B w0 hs (fun v h => v = .bool (decide (A = a ∧ f < F)) ∧ h = hs) := by
  by_cases h : A = a ∧ f < F
  · rw [decide_eq_true h]
    obtain ⟨h1, h2⟩ := h
    refine fn_enter Try.func67 rfl Try.ntmps67 (by simp) ?_
    repeat' (first | ((with_reducible apply kP (.fieldAddr _ (.tmp 1) _)); refine sP ?_ (o_fieldO rfl (foTOf2 rfl rfl) (bb0 _))) | ((with_reducible apply kP (.load _ (.tmp 6))); refine sP ?_ (o_load rfl (ld_one (shTOf rfl) (own (List.mem_cons_of_mem _ hm) rfl)))) | ((with_reducible apply kP (.load _ (.tmp 12))); refine sP ?_ (o_load rfl (ld_one (shTOf rfl) (own (List.mem_cons_of_mem _ hm) rfl)))) | (with_reducible first | refine c_seq ?_ | refine c_reg ?_ | refine c_region ?_ | refine c_block ?_ | refine c_skip ?_ | refine c_exit ?_ | refine c_ret ?_ | refine s_nil ?_ | refine x_then ?_ | refine x_then_exit ?_ | refine x_then_ret ?_ | refine x_block ?_ | refine x_block_ret ?_ | refine x_block_same ?_ | refine x_block_other (by rfl) ?_ | refine q_nil ?_ | refine k_nil ?_) | ((with_reducible apply kP (.makeFunc _ _ _)); refine sMF ?_) | ((with_reducible apply kG); first | refine gY1 ?_ | refine gN1 ?_ | refine gU1 ?_ | (refine gD1 (fun h => ?_) (fun h => ?_) <;> (try (exfalso; omega))) | refine gB1 (fun h => ?_) (fun h => ?_)) | ((with_reducible apply kN); first | refine stP ?_ | refine stI ?_ | refine st1 ?_ | refine stW ?_) | ((with_reducible apply kP (.alloc _)); refine sA (fun b => ?_)) | ((with_reducible apply kP (.box _ _)); first | refine sBA (fun b => ?_) | refine sB (fun b => ?_)) | ((with_reducible apply kP (.buildSlice _ 1 _)); first | refine sl1A (fun b => ?_) | refine sl1 (fun b => ?_)) | ((with_reducible apply kP (.buildSlice _ 2 _)); refine sl2 (fun b => ?_)) | ((with_reducible apply kP (.buildSlice _ 3 _)); refine sl3 (fun b => ?_)) | ((with_reducible apply kP (.buildSlice _ 4 _)); refine sl4 (fun b => ?_)) | ((with_reducible apply kP (.buildSlice _ 0 _)); refine s_bs0 (scTOf rfl) (zsTOf rfl) (by decide) (fun b => ?_)) | ((with_reducible apply kP (.makeSlice _ _ _)); refine sMk (fun b => ?_)) | ((with_reducible apply kP (.call ⟨.builtin .append, _, _⟩)); refine sAp (fun oa2 c2 blk2 hrow2 => ?_)) | ((with_reducible apply kP _); refine sP ?_) | ((with_reducible apply kP _); refine sX ?_) | ((with_reducible apply kQG); first | refine qY1 ?_ | refine qN1 ?_ | refine qU1 ?_ | (refine qD1 (fun h => ?_) (fun h => ?_) <;> (try (exfalso; omega))) | refine qB1 (fun h => ?_) (fun h => ?_)) | ((with_reducible apply kQP); refine qP ?_) | ((with_reducible apply kQP); refine qX ?_) | ((with_reducible apply kC); first | refine cT ?_ | refine cF ?_ | (refine cI (fun h => ?_) (fun h => ?_) <;> (try (exfalso; omega))) | refine cB (fun h => ?_) (fun h => ?_)) | ((with_reducible apply kR); refine cQ ?_))
    all_goals first
      | exact e_ret1 rfl rfl ⟨rfl, rfl⟩ SCt
      | (refine e_ret1 rfl rfl ⟨?_, rfl⟩ SCt; simp; omega)
      | (exfalso; omega)
      | trace_state
  · rw [decide_eq_false h]
    refine fn_enter Try.func67 rfl Try.ntmps67 (by simp) ?_
    repeat' (first | ((with_reducible apply kP (.fieldAddr _ (.tmp 1) _)); refine sP ?_ (o_fieldO rfl (foTOf2 rfl rfl) (bb0 _))) | ((with_reducible apply kP (.load _ (.tmp 6))); refine sP ?_ (o_load rfl (ld_one (shTOf rfl) (own (List.mem_cons_of_mem _ hm) rfl)))) | ((with_reducible apply kP (.load _ (.tmp 12))); refine sP ?_ (o_load rfl (ld_one (shTOf rfl) (own (List.mem_cons_of_mem _ hm) rfl)))) | (with_reducible first | refine c_seq ?_ | refine c_reg ?_ | refine c_region ?_ | refine c_block ?_ | refine c_skip ?_ | refine c_exit ?_ | refine c_ret ?_ | refine s_nil ?_ | refine x_then ?_ | refine x_then_exit ?_ | refine x_then_ret ?_ | refine x_block ?_ | refine x_block_ret ?_ | refine x_block_same ?_ | refine x_block_other (by rfl) ?_ | refine q_nil ?_ | refine k_nil ?_) | ((with_reducible apply kP (.makeFunc _ _ _)); refine sMF ?_) | ((with_reducible apply kG); first | refine gY1 ?_ | refine gN1 ?_ | refine gU1 ?_ | (refine gD1 (fun h => ?_) (fun h => ?_) <;> (try (exfalso; omega))) | refine gB1 (fun h => ?_) (fun h => ?_)) | ((with_reducible apply kN); first | refine stP ?_ | refine stI ?_ | refine st1 ?_ | refine stW ?_) | ((with_reducible apply kP (.alloc _)); refine sA (fun b => ?_)) | ((with_reducible apply kP (.box _ _)); first | refine sBA (fun b => ?_) | refine sB (fun b => ?_)) | ((with_reducible apply kP (.buildSlice _ 1 _)); first | refine sl1A (fun b => ?_) | refine sl1 (fun b => ?_)) | ((with_reducible apply kP (.buildSlice _ 2 _)); refine sl2 (fun b => ?_)) | ((with_reducible apply kP (.buildSlice _ 3 _)); refine sl3 (fun b => ?_)) | ((with_reducible apply kP (.buildSlice _ 4 _)); refine sl4 (fun b => ?_)) | ((with_reducible apply kP (.buildSlice _ 0 _)); refine s_bs0 (scTOf rfl) (zsTOf rfl) (by decide) (fun b => ?_)) | ((with_reducible apply kP (.makeSlice _ _ _)); refine sMk (fun b => ?_)) | ((with_reducible apply kP (.call ⟨.builtin .append, _, _⟩)); refine sAp (fun oa2 c2 blk2 hrow2 => ?_)) | ((with_reducible apply kP _); refine sP ?_) | ((with_reducible apply kP _); refine sX ?_) | ((with_reducible apply kQG); first | refine qY1 ?_ | refine qN1 ?_ | refine qU1 ?_ | (refine qD1 (fun h => ?_) (fun h => ?_) <;> (try (exfalso; omega))) | refine qB1 (fun h => ?_) (fun h => ?_)) | ((with_reducible apply kQP); refine qP ?_) | ((with_reducible apply kQP); refine qX ?_) | ((with_reducible apply kC); first | refine cT ?_ | refine cF ?_ | (refine cI (fun h => ?_) (fun h => ?_) <;> (try (exfalso; omega))) | refine cB (fun h => ?_) (fun h => ?_)) | ((with_reducible apply kR); refine cQ ?_))
    all_goals first
      | exact e_ret1 rfl rfl ⟨rfl, rfl⟩ SCt
      | (refine e_ret1 rfl rfl ⟨?_, rfl⟩ SCt; simp; omega)
      | (exfalso; omega)
      | trace_state
structure QS where
  i : Nat
  oa : Option Addr
  c : Nat
  blk : HS
set_option maxRecDepth 100000 in
set_option maxHeartbeats 8000000 in
theorem k_Quick (n c : Nat) (R C t : Int) (l : List Int) (oa : Option Addr) (hl : l.length = n * 4) (hn : n ≤ 1000) (hc : n ≤ c) (B : Nat) (w0 : Wd) (hs : HS) (hL : Sl B w0 hs oa l) :
    Fn Try.prog 37 #[.agg #[.slice oa n c, iv R, iv C], iv t] B w0 hs (fun u h => ∃ blk, (∃ oa2 c2, u = .tuple #[.slice oa2 (qkP n R C l t).length c2, iv (qkE n R C l t)] ∧ RowOk oa2 c2 2 (ivs (prI (qkP n R C l t))) blk) ∧ h = blk ++ hs) := by
  have kv := fun hs hL => k_VP n c R C l oa hl hn hc B w0 hs hL
  have kw := k_within t 0 600 B w0
  by_cases hv : vpE n R C l = 0
  · have hV := vp_to hv
    have hn6 := hV.le
    rw [hv] at kv
    by_cases ht : inB t 0 600
    · obtain ⟨e1, e2⟩ := qk_ok hv ht
      rw [e1, e2]
      rw [decide_eq_true ht] at kw
      unfold inB at ht
      refine fn_enter Try.func37 rfl Try.ntmps37 (by simp) ?_
      repeat' (first | ((with_reducible apply kF 28); refine sC 28 (kv _ (hL.sub SBt)) ?_) | ((with_reducible apply kF 60); refine sC 60 (kw _) ?_) | (with_reducible first | refine c_seq ?_ | refine c_reg ?_ | refine c_region ?_ | refine c_block ?_ | refine c_skip ?_ | refine c_exit ?_ | refine c_ret ?_ | refine s_nil ?_ | refine x_then ?_ | refine x_then_exit ?_ | refine x_then_ret ?_ | refine x_block ?_ | refine x_block_ret ?_ | refine x_block_same ?_ | refine x_block_other (by rfl) ?_ | refine q_nil ?_ | refine k_nil ?_) | ((with_reducible apply kP (.makeFunc _ _ _)); refine sMF ?_) | ((with_reducible apply kG); first | refine gY1 ?_ | refine gN1 ?_ | refine gU1 ?_ | (refine gD1 (fun h => ?_) (fun h => ?_) <;> (try (exfalso; omega))) | refine gB1 (fun h => ?_) (fun h => ?_)) | ((with_reducible apply kN); first | refine stP ?_ | refine stI ?_ | refine st1 ?_ | refine stW ?_) | ((with_reducible apply kP (.alloc _)); refine sA (fun b => ?_)) | ((with_reducible apply kP (.box _ _)); first | refine sBA (fun b => ?_) | refine sB (fun b => ?_)) | ((with_reducible apply kP (.buildSlice _ 1 _)); first | refine sl1A (fun b => ?_) | refine sl1 (fun b => ?_)) | ((with_reducible apply kP (.buildSlice _ 2 _)); refine sl2 (fun b => ?_)) | ((with_reducible apply kP (.buildSlice _ 3 _)); refine sl3 (fun b => ?_)) | ((with_reducible apply kP (.buildSlice _ 4 _)); refine sl4 (fun b => ?_)) | ((with_reducible apply kP (.buildSlice _ 0 _)); refine s_bs0 (scTOf rfl) (zsTOf rfl) (by decide) (fun b => ?_)) | ((with_reducible apply kP (.makeSlice _ _ _)); refine sMk (fun b => ?_)) | ((with_reducible apply kP (.call ⟨.builtin .append, _, _⟩)); refine sAp (fun oa2 c2 blk2 hrow2 => ?_)) | ((with_reducible apply kP _); refine sP ?_) | ((with_reducible apply kP _); refine sX ?_) | ((with_reducible apply kQG); first | refine qY1 ?_ | refine qN1 ?_ | refine qU1 ?_ | (refine qD1 (fun h => ?_) (fun h => ?_) <;> (try (exfalso; omega))) | refine qB1 (fun h => ?_) (fun h => ?_)) | ((with_reducible apply kQP); refine qP ?_) | ((with_reducible apply kQP); refine qX ?_) | ((with_reducible apply kC); first | refine cT ?_ | refine cF ?_ | (refine cI (fun h => ?_) (fun h => ?_) <;> (try (exfalso; omega))) | refine cB (fun h => ?_) (fun h => ?_)) | ((with_reducible apply kR); refine cQ ?_))
      all_goals try (exfalso; first | omega | exact absurd rfl ‹_ ≠ _›)
      revert b
      intro b2
      refine c_loop (fun s : QS => [(1, iv t), (2, .pointer (some ⟨b2, 0, none⟩)), (7, .slice s.oa (qp l n t s.i).length s.c), (20, .slice oa n c), (21, iv n), (22, iv s.i)]) (fun s => s.blk ++ (b2, [.slice oa n c, iv R, iv C]) :: hs) (fun s => s.i ≤ n ∧ RowOk s.oa s.c 2 (ivs (prI (qp l n t s.i))) s.blk) (fun s => n - s.i) ⟨0, none, 0, []⟩ ⟨Nat.zero_le _, .nil⟩ (by repeat' first | trivial | rfl | apply And.intro) (.refl _) ?_
      rintro ⟨i, o2, c0, blk⟩ ⟨hi, hrow⟩
      dsimp only at hi hrow ⊢
      have hlen : (ivs (prI (qp l n t i))).length = (qp l n t i).length * 2 := by rw [ivs_length, prI_len]
      have hb : (qp l n t i).length ≤ 256 := by have h1 := qp_len l n t i; have h2 := Nat.mul_le_mul (show i ≤ 16 by omega) hn6; omega
      by_cases hi' : i < n
      · have hoA : oa.isSome = true := hL.any (i := i * 4) (by omega)
        have hw := hV.w i hi'
        unfold okw wA wZ wF wT at hw
        repeat' (first | ((with_reducible apply kP (.load 84 _)); refine sP ?_ (o_load rfl (ld_4S (shTOf rfl) (by assumption) SBt (by omega)))) | ((with_reducible apply kDP (.load 84 _)); refine dP ?_ (hX := rfl) (hv := o_load rfl (ld_4S (shTOf rfl) (by assumption) SBt (by omega)))) | ((with_reducible apply kQO (.load 84 _)); refine qP ?_ (o_load rfl (ld_4S (shTOf rfl) (by assumption) SBt (by omega)))) | ((with_reducible apply kN); refine stW ?_ (hf := flat_cons rfl (flat_cons rfl (flat_cons rfl (flat1 rfl))))) | ((with_reducible apply kDN); refine dtW ?_ (hf := flat_cons rfl (flat_cons rfl (flat_cons rfl (flat1 rfl))))) | (with_reducible first | refine c_seq ?_ | refine c_reg ?_ | refine c_region ?_ | refine c_block ?_ | refine c_skip ?_ | refine c_exit ?_ | refine c_ret ?_ | refine s_nil ?_ | refine x_then ?_ | refine x_then_exit ?_ | refine x_then_ret ?_ | refine x_block ?_ | refine x_block_ret ?_ | refine x_block_same ?_ | refine x_block_other (by rfl) ?_ | refine q_nil ?_ | refine k_nil ?_) | ((with_reducible apply kP (.makeFunc _ _ _)); refine sMF ?_) | ((with_reducible apply kG); first | refine gY1 ?_ | refine gN1 ?_ | refine gU1 ?_ | (refine gD1 (fun h => ?_) (fun h => ?_) <;> (try (exfalso; omega))) | refine gB1 (fun h => ?_) (fun h => ?_)) | ((with_reducible apply kN); first | refine stP ?_ | refine stI ?_ | refine st1 ?_ | refine stW ?_) | ((with_reducible apply kP (.alloc _)); refine sA (fun b => ?_)) | ((with_reducible apply kP (.box _ _)); first | refine sBA (fun b => ?_) | refine sB (fun b => ?_)) | ((with_reducible apply kP (.buildSlice _ 1 _)); first | refine sl1A (fun b => ?_) | refine sl1 (fun b => ?_)) | ((with_reducible apply kP (.buildSlice _ 2 _)); refine sl2 (fun b => ?_)) | ((with_reducible apply kP (.buildSlice _ 3 _)); refine sl3 (fun b => ?_)) | ((with_reducible apply kP (.buildSlice _ 4 _)); refine sl4 (fun b => ?_)) | ((with_reducible apply kP (.buildSlice _ 0 _)); refine s_bs0 (scTOf rfl) (zsTOf rfl) (by decide) (fun b => ?_)) | ((with_reducible apply kP (.makeSlice _ _ _)); refine sMk (fun b => ?_)) | ((with_reducible apply kP (.call ⟨.builtin .append, _, _⟩)); refine sAp (fun oa2 c2 blk2 hrow2 => ?_)) | ((with_reducible apply kP _); refine sP ?_) | ((with_reducible apply kP _); refine sX ?_) | ((with_reducible apply kQG); first | refine qY1 ?_ | refine qN1 ?_ | refine qU1 ?_ | (refine qD1 (fun h => ?_) (fun h => ?_) <;> (try (exfalso; omega))) | refine qB1 (fun h => ?_) (fun h => ?_)) | ((with_reducible apply kQP); refine qP ?_) | ((with_reducible apply kQP); refine qX ?_) | ((with_reducible apply kC); first | refine cT ?_ | refine cF ?_ | (refine cI (fun h => ?_) (fun h => ?_) <;> (try (exfalso; omega))) | refine cB (fun h => ?_) (fun h => ?_)) | ((with_reducible apply kR); refine cQ ?_))
        revert b
        intro b9
        repeat' (first | ((with_reducible apply kF 66); refine sN 66 (k_sorted (g := 67) (m := ltB l i) (cs := [.pointer (some ⟨b9, 0, none⟩)]) hl hn6 (goF rfl) B w0 _ (hL.sub SBt) (fun x hx hs' hsub => k_qk1 _ _ _ _ _ _ _ _ b9 B w0 hs' (hsub.subset MDt))) ?_; rintro u blkW ⟨oW, cW, js, lW, rfl, hrW, hSd⟩; have hSW := Sl.rowK (B := B) (w0 := w0) hrW; rcases Nat.eq_zero_or_pos js.length with h0 | h0) | (with_reducible first | refine c_seq ?_ | refine c_reg ?_ | refine c_region ?_ | refine c_block ?_ | refine c_skip ?_ | refine c_exit ?_ | refine c_ret ?_ | refine s_nil ?_ | refine x_then ?_ | refine x_then_exit ?_ | refine x_then_ret ?_ | refine x_block ?_ | refine x_block_ret ?_ | refine x_block_same ?_ | refine x_block_other (by rfl) ?_ | refine q_nil ?_ | refine k_nil ?_) | ((with_reducible apply kP (.makeFunc _ _ _)); refine sMF ?_) | ((with_reducible apply kG); first | refine gY1 ?_ | refine gN1 ?_ | refine gU1 ?_ | (refine gD1 (fun h => ?_) (fun h => ?_) <;> (try (exfalso; omega))) | refine gB1 (fun h => ?_) (fun h => ?_)) | ((with_reducible apply kN); first | refine stP ?_ | refine stI ?_ | refine st1 ?_ | refine stW ?_) | ((with_reducible apply kP (.alloc _)); refine sA (fun b => ?_)) | ((with_reducible apply kP (.box _ _)); first | refine sBA (fun b => ?_) | refine sB (fun b => ?_)) | ((with_reducible apply kP (.buildSlice _ 1 _)); first | refine sl1A (fun b => ?_) | refine sl1 (fun b => ?_)) | ((with_reducible apply kP (.buildSlice _ 2 _)); refine sl2 (fun b => ?_)) | ((with_reducible apply kP (.buildSlice _ 3 _)); refine sl3 (fun b => ?_)) | ((with_reducible apply kP (.buildSlice _ 4 _)); refine sl4 (fun b => ?_)) | ((with_reducible apply kP (.buildSlice _ 0 _)); refine s_bs0 (scTOf rfl) (zsTOf rfl) (by decide) (fun b => ?_)) | ((with_reducible apply kP (.makeSlice _ _ _)); refine sMk (fun b => ?_)) | ((with_reducible apply kP (.call ⟨.builtin .append, _, _⟩)); refine sAp (fun oa2 c2 blk2 hrow2 => ?_)) | ((with_reducible apply kP _); refine sP ?_) | ((with_reducible apply kP _); refine sX ?_) | ((with_reducible apply kQG); first | refine qY1 ?_ | refine qN1 ?_ | refine qU1 ?_ | (refine qD1 (fun h => ?_) (fun h => ?_) <;> (try (exfalso; omega))) | refine qB1 (fun h => ?_) (fun h => ?_)) | ((with_reducible apply kQP); refine qP ?_) | ((with_reducible apply kQP); refine qX ?_) | ((with_reducible apply kC); first | refine cT ?_ | refine cF ?_ | (refine cI (fun h => ?_) (fun h => ?_) <;> (try (exfalso; omega))) | refine cB (fun h => ?_) (fun h => ?_)) | ((with_reducible apply kR); refine cQ ?_))
        · have e : qp l n t (i + 1) = qp l n t i := by rw [qp_succ, nx_none hSd h0]; simp
          all_goals first
            | exact r_end ⟨i + 1, o2, c0, blk⟩ ⟨hi', by dsimp only; rw [e]; exact hrow⟩ (by show n - (i + 1) < n - i; omega) (by dsimp only; rw [e]; exact (by repeat' first | trivial | rfl | apply And.intro)) (by dsimp only; exact SCt)
            | (exfalso; omega)
            | trace_state
        · have hoW : oW.isSome = true := hSW.any (i := 0) (by rw [hSd.len]; omega)
          have hlW := hSd.len
          obtain ⟨_, _, g2, _, g4⟩ := hSd.get h0
          by_cases hc : wF l (js.getD 0 0) < wT l i + t
          · have e : qp l n t (i + 1) = qp l n t i ++ [(i, js.getD 0 0)] := by rw [qp_succ, nx_some hV hSd h0 hc]; rfl
            have e3 : ivs (prI (qp l n t (i + 1))) = ivs (prI (qp l n t i)) ++ [iv i, iv (js.getD 0 0)] := by rw [e, prI_snoc]
            rw [← g2] at hc
            unfold wT at hc
            have hc2 : lW.getD 2 0 < l.getD (i * 4 + 3) 0 + t := hc
            rw [← g4] at e3
            repeat' (first | ((with_reducible apply kP (.fieldAddr _ _ _)); refine sP ?_ (o_fieldE rfl (by assumption) (foTOf2 rfl rfl) (by with_reducible first | exact bb0 _ | exact bb1 _ | exact bb2 _ _))) | ((with_reducible apply kDP (.fieldAddr _ _ _)); refine dP ?_ (hX := rfl) (hv := o_fieldE rfl (by assumption) (foTOf2 rfl rfl) (by with_reducible first | exact bb0 _ | exact bb1 _ | exact bb2 _ _))) | ((with_reducible apply kQO (.fieldAddr _ _ _)); refine qP ?_ (o_fieldE rfl (by assumption) (foTOf2 rfl rfl) (by with_reducible first | exact bb0 _ | exact bb1 _ | exact bb2 _ _))) | ((with_reducible apply kP (.load 3 _)); refine sP ?_ (o_load rfl (ld_one (shTOf rfl) (Sl.at (by assumption) SBt (by omega))))) | ((with_reducible apply kDP (.load 3 _)); refine dP ?_ (hX := rfl) (hv := o_load rfl (ld_one (shTOf rfl) (Sl.at (by assumption) SBt (by omega))))) | ((with_reducible apply kQO (.load 3 _)); refine qP ?_ (o_load rfl (ld_one (shTOf rfl) (Sl.at (by assumption) SBt (by omega))))) | ((with_reducible apply kP (.build _ _)); refine sP ?_ (o_bldA2 rfl rfl rfl rfl (zcTOf rfl) (arTOf rfl))) | ((with_reducible apply kDP (.build _ _)); refine dP ?_ (hX := rfl) (hv := o_bldA2 rfl rfl rfl rfl (zcTOf rfl) (arTOf rfl))) | ((with_reducible apply kQO (.build _ _)); refine qP ?_ (o_bldA2 rfl rfl rfl rfl (zcTOf rfl) (arTOf rfl))) | (with_reducible first | refine c_seq ?_ | refine c_reg ?_ | refine c_region ?_ | refine c_block ?_ | refine c_skip ?_ | refine c_exit ?_ | refine c_ret ?_ | refine s_nil ?_ | refine x_then ?_ | refine x_then_exit ?_ | refine x_then_ret ?_ | refine x_block ?_ | refine x_block_ret ?_ | refine x_block_same ?_ | refine x_block_other (by rfl) ?_ | refine q_nil ?_ | refine k_nil ?_) | ((with_reducible apply kP (.makeFunc _ _ _)); refine sMF ?_) | ((with_reducible apply kG); first | refine gY1 ?_ | refine gN1 ?_ | refine gU1 ?_ | (refine gD1 (fun h => ?_) (fun h => ?_) <;> (try (exfalso; omega))) | refine gB1 (fun h => ?_) (fun h => ?_)) | ((with_reducible apply kN); first | refine stP ?_ | refine stI ?_ | refine st1 ?_ | refine stW ?_) | ((with_reducible apply kP (.alloc _)); refine sA (fun b => ?_)) | ((with_reducible apply kP (.box _ _)); first | refine sBA (fun b => ?_) | refine sB (fun b => ?_)) | ((with_reducible apply kP (.buildSlice _ 1 _)); first | refine sl1A (fun b => ?_) | refine sl1 (fun b => ?_)) | ((with_reducible apply kP (.buildSlice _ 2 _)); refine sl2 (fun b => ?_)) | ((with_reducible apply kP (.buildSlice _ 3 _)); refine sl3 (fun b => ?_)) | ((with_reducible apply kP (.buildSlice _ 4 _)); refine sl4 (fun b => ?_)) | ((with_reducible apply kP (.buildSlice _ 0 _)); refine s_bs0 (scTOf rfl) (zsTOf rfl) (by decide) (fun b => ?_)) | ((with_reducible apply kP (.makeSlice _ _ _)); refine sMk (fun b => ?_)) | ((with_reducible apply kP (.call ⟨.builtin .append, _, _⟩)); refine sAp (fun oa2 c2 blk2 hrow2 => ?_)) | ((with_reducible apply kP _); refine sP ?_) | ((with_reducible apply kP _); refine sX ?_) | ((with_reducible apply kQG); first | refine qY1 ?_ | refine qN1 ?_ | refine qU1 ?_ | (refine qD1 (fun h => ?_) (fun h => ?_) <;> (try (exfalso; omega))) | refine qB1 (fun h => ?_) (fun h => ?_)) | ((with_reducible apply kQP); refine qP ?_) | ((with_reducible apply kQP); refine qX ?_) | ((with_reducible apply kC); first | refine cT ?_ | refine cF ?_ | (refine cI (fun h => ?_) (fun h => ?_) <;> (try (exfalso; omega))) | refine cB (fun h => ?_) (fun h => ?_)) | ((with_reducible apply kR); refine cQ ?_))
            all_goals first
              | exact r_end ⟨i + 1, oa2, c2, blk2⟩ ⟨hi', by dsimp only; rw [e3]; exact hrow2⟩ (by show n - (i + 1) < n - i; omega) (by dsimp only; rw [e, List.length_append]; exact (by repeat' first | trivial | rfl | apply And.intro)) (by dsimp only; exact SCt)
              | (exfalso; omega)
              | trace_state
          · have e : qp l n t (i + 1) = qp l n t i := by rw [qp_succ, nx_late hV hSd h0 hc]; simp
            rw [← g2] at hc
            unfold wT at hc
            have hc2 : ¬ lW.getD 2 0 < l.getD (i * 4 + 3) 0 + t := hc
            repeat' (first | ((with_reducible apply kP (.fieldAddr _ _ _)); refine sP ?_ (o_fieldE rfl (by assumption) (foTOf2 rfl rfl) (by with_reducible first | exact bb0 _ | exact bb1 _ | exact bb2 _ _))) | ((with_reducible apply kDP (.fieldAddr _ _ _)); refine dP ?_ (hX := rfl) (hv := o_fieldE rfl (by assumption) (foTOf2 rfl rfl) (by with_reducible first | exact bb0 _ | exact bb1 _ | exact bb2 _ _))) | ((with_reducible apply kQO (.fieldAddr _ _ _)); refine qP ?_ (o_fieldE rfl (by assumption) (foTOf2 rfl rfl) (by with_reducible first | exact bb0 _ | exact bb1 _ | exact bb2 _ _))) | ((with_reducible apply kP (.load 3 _)); refine sP ?_ (o_load rfl (ld_one (shTOf rfl) (Sl.at (by assumption) SBt (by omega))))) | ((with_reducible apply kDP (.load 3 _)); refine dP ?_ (hX := rfl) (hv := o_load rfl (ld_one (shTOf rfl) (Sl.at (by assumption) SBt (by omega))))) | ((with_reducible apply kQO (.load 3 _)); refine qP ?_ (o_load rfl (ld_one (shTOf rfl) (Sl.at (by assumption) SBt (by omega))))) | (with_reducible first | refine c_seq ?_ | refine c_reg ?_ | refine c_region ?_ | refine c_block ?_ | refine c_skip ?_ | refine c_exit ?_ | refine c_ret ?_ | refine s_nil ?_ | refine x_then ?_ | refine x_then_exit ?_ | refine x_then_ret ?_ | refine x_block ?_ | refine x_block_ret ?_ | refine x_block_same ?_ | refine x_block_other (by rfl) ?_ | refine q_nil ?_ | refine k_nil ?_) | ((with_reducible apply kP (.makeFunc _ _ _)); refine sMF ?_) | ((with_reducible apply kG); first | refine gY1 ?_ | refine gN1 ?_ | refine gU1 ?_ | (refine gD1 (fun h => ?_) (fun h => ?_) <;> (try (exfalso; omega))) | refine gB1 (fun h => ?_) (fun h => ?_)) | ((with_reducible apply kN); first | refine stP ?_ | refine stI ?_ | refine st1 ?_ | refine stW ?_) | ((with_reducible apply kP (.alloc _)); refine sA (fun b => ?_)) | ((with_reducible apply kP (.box _ _)); first | refine sBA (fun b => ?_) | refine sB (fun b => ?_)) | ((with_reducible apply kP (.buildSlice _ 1 _)); first | refine sl1A (fun b => ?_) | refine sl1 (fun b => ?_)) | ((with_reducible apply kP (.buildSlice _ 2 _)); refine sl2 (fun b => ?_)) | ((with_reducible apply kP (.buildSlice _ 3 _)); refine sl3 (fun b => ?_)) | ((with_reducible apply kP (.buildSlice _ 4 _)); refine sl4 (fun b => ?_)) | ((with_reducible apply kP (.buildSlice _ 0 _)); refine s_bs0 (scTOf rfl) (zsTOf rfl) (by decide) (fun b => ?_)) | ((with_reducible apply kP (.makeSlice _ _ _)); refine sMk (fun b => ?_)) | ((with_reducible apply kP (.call ⟨.builtin .append, _, _⟩)); refine sAp (fun oa2 c2 blk2 hrow2 => ?_)) | ((with_reducible apply kP _); refine sP ?_) | ((with_reducible apply kP _); refine sX ?_) | ((with_reducible apply kQG); first | refine qY1 ?_ | refine qN1 ?_ | refine qU1 ?_ | (refine qD1 (fun h => ?_) (fun h => ?_) <;> (try (exfalso; omega))) | refine qB1 (fun h => ?_) (fun h => ?_)) | ((with_reducible apply kQP); refine qP ?_) | ((with_reducible apply kQP); refine qX ?_) | ((with_reducible apply kC); first | refine cT ?_ | refine cF ?_ | (refine cI (fun h => ?_) (fun h => ?_) <;> (try (exfalso; omega))) | refine cB (fun h => ?_) (fun h => ?_)) | ((with_reducible apply kR); refine cQ ?_))
            all_goals first
              | exact r_end ⟨i + 1, o2, c0, blk⟩ ⟨hi', by dsimp only; rw [e]; exact hrow⟩ (by show n - (i + 1) < n - i; omega) (by dsimp only; rw [e]; exact (by repeat' first | trivial | rfl | apply And.intro)) (by dsimp only; exact SCt)
              | (exfalso; omega)
              | trace_state
      · obtain rfl : i = n := by omega
        repeat' (first | (with_reducible first | refine c_seq ?_ | refine c_reg ?_ | refine c_region ?_ | refine c_block ?_ | refine c_skip ?_ | refine c_exit ?_ | refine c_ret ?_ | refine s_nil ?_ | refine x_then ?_ | refine x_then_exit ?_ | refine x_then_ret ?_ | refine x_block ?_ | refine x_block_ret ?_ | refine x_block_same ?_ | refine x_block_other (by rfl) ?_ | refine q_nil ?_ | refine k_nil ?_) | ((with_reducible apply kP (.makeFunc _ _ _)); refine sMF ?_) | ((with_reducible apply kG); first | refine gY1 ?_ | refine gN1 ?_ | refine gU1 ?_ | (refine gD1 (fun h => ?_) (fun h => ?_) <;> (try (exfalso; omega))) | refine gB1 (fun h => ?_) (fun h => ?_)) | ((with_reducible apply kN); first | refine stP ?_ | refine stI ?_ | refine st1 ?_ | refine stW ?_) | ((with_reducible apply kP (.alloc _)); refine sA (fun b => ?_)) | ((with_reducible apply kP (.box _ _)); first | refine sBA (fun b => ?_) | refine sB (fun b => ?_)) | ((with_reducible apply kP (.buildSlice _ 1 _)); first | refine sl1A (fun b => ?_) | refine sl1 (fun b => ?_)) | ((with_reducible apply kP (.buildSlice _ 2 _)); refine sl2 (fun b => ?_)) | ((with_reducible apply kP (.buildSlice _ 3 _)); refine sl3 (fun b => ?_)) | ((with_reducible apply kP (.buildSlice _ 4 _)); refine sl4 (fun b => ?_)) | ((with_reducible apply kP (.buildSlice _ 0 _)); refine s_bs0 (scTOf rfl) (zsTOf rfl) (by decide) (fun b => ?_)) | ((with_reducible apply kP (.makeSlice _ _ _)); refine sMk (fun b => ?_)) | ((with_reducible apply kP (.call ⟨.builtin .append, _, _⟩)); refine sAp (fun oa2 c2 blk2 hrow2 => ?_)) | ((with_reducible apply kP _); refine sP ?_) | ((with_reducible apply kP _); refine sX ?_) | ((with_reducible apply kQG); first | refine qY1 ?_ | refine qN1 ?_ | refine qU1 ?_ | (refine qD1 (fun h => ?_) (fun h => ?_) <;> (try (exfalso; omega))) | refine qB1 (fun h => ?_) (fun h => ?_)) | ((with_reducible apply kQP); refine qP ?_) | ((with_reducible apply kQP); refine qX ?_) | ((with_reducible apply kC); first | refine cT ?_ | refine cF ?_ | (refine cI (fun h => ?_) (fun h => ?_) <;> (try (exfalso; omega))) | refine cB (fun h => ?_) (fun h => ?_)) | ((with_reducible apply kR); refine cQ ?_))
        exact e_ret2 rfl rfl rfl ⟨blk, ⟨o2, c0, rfl, hrow⟩, rfl⟩ (List.Sublist.append (.refl _) (.cons _ (.refl _)))
    · obtain ⟨e1, e2⟩ := qk_arg hv ht
      rw [e1, e2]
      rw [decide_eq_false ht] at kw
      refine fn_enter Try.func37 rfl Try.ntmps37 (by simp) ?_
      repeat' (first | ((with_reducible apply kF 28); refine sC 28 (kv _ (hL.sub SBt)) ?_) | ((with_reducible apply kF 60); refine sC 60 (kw _) ?_) | (with_reducible first | refine c_seq ?_ | refine c_reg ?_ | refine c_region ?_ | refine c_block ?_ | refine c_skip ?_ | refine c_exit ?_ | refine c_ret ?_ | refine s_nil ?_ | refine x_then ?_ | refine x_then_exit ?_ | refine x_then_ret ?_ | refine x_block ?_ | refine x_block_ret ?_ | refine x_block_same ?_ | refine x_block_other (by rfl) ?_ | refine q_nil ?_ | refine k_nil ?_) | ((with_reducible apply kP (.makeFunc _ _ _)); refine sMF ?_) | ((with_reducible apply kG); first | refine gY1 ?_ | refine gN1 ?_ | refine gU1 ?_ | (refine gD1 (fun h => ?_) (fun h => ?_) <;> (try (exfalso; omega))) | refine gB1 (fun h => ?_) (fun h => ?_)) | ((with_reducible apply kN); first | refine stP ?_ | refine stI ?_ | refine st1 ?_ | refine stW ?_) | ((with_reducible apply kP (.alloc _)); refine sA (fun b => ?_)) | ((with_reducible apply kP (.box _ _)); first | refine sBA (fun b => ?_) | refine sB (fun b => ?_)) | ((with_reducible apply kP (.buildSlice _ 1 _)); first | refine sl1A (fun b => ?_) | refine sl1 (fun b => ?_)) | ((with_reducible apply kP (.buildSlice _ 2 _)); refine sl2 (fun b => ?_)) | ((with_reducible apply kP (.buildSlice _ 3 _)); refine sl3 (fun b => ?_)) | ((with_reducible apply kP (.buildSlice _ 4 _)); refine sl4 (fun b => ?_)) | ((with_reducible apply kP (.buildSlice _ 0 _)); refine s_bs0 (scTOf rfl) (zsTOf rfl) (by decide) (fun b => ?_)) | ((with_reducible apply kP (.makeSlice _ _ _)); refine sMk (fun b => ?_)) | ((with_reducible apply kP (.call ⟨.builtin .append, _, _⟩)); refine sAp (fun oa2 c2 blk2 hrow2 => ?_)) | ((with_reducible apply kP _); refine sP ?_) | ((with_reducible apply kP _); refine sX ?_) | ((with_reducible apply kQG); first | refine qY1 ?_ | refine qN1 ?_ | refine qU1 ?_ | (refine qD1 (fun h => ?_) (fun h => ?_) <;> (try (exfalso; omega))) | refine qB1 (fun h => ?_) (fun h => ?_)) | ((with_reducible apply kQP); refine qP ?_) | ((with_reducible apply kQP); refine qX ?_) | ((with_reducible apply kC); first | refine cT ?_ | refine cF ?_ | (refine cI (fun h => ?_) (fun h => ?_) <;> (try (exfalso; omega))) | refine cB (fun h => ?_) (fun h => ?_)) | ((with_reducible apply kR); refine cQ ?_))
      all_goals first
        | exact e_ret2 rfl rfl rfl ⟨[], ⟨none, 0, rfl, .nil⟩, rfl⟩ (.cons _ (.refl _))
        | (exfalso; omega)
        | trace_state
  · obtain ⟨e1, e2⟩ := qk_bad (t := t) hv
    rw [e1, e2]
    generalize vpE n R C l = e at *
    refine fn_enter Try.func37 rfl Try.ntmps37 (by simp) ?_
    repeat' (first | ((with_reducible apply kF 28); refine sC 28 (kv _ (hL.sub SBt)) ?_) | (with_reducible first | refine c_seq ?_ | refine c_reg ?_ | refine c_region ?_ | refine c_block ?_ | refine c_skip ?_ | refine c_exit ?_ | refine c_ret ?_ | refine s_nil ?_ | refine x_then ?_ | refine x_then_exit ?_ | refine x_then_ret ?_ | refine x_block ?_ | refine x_block_ret ?_ | refine x_block_same ?_ | refine x_block_other (by rfl) ?_ | refine q_nil ?_ | refine k_nil ?_) | ((with_reducible apply kP (.makeFunc _ _ _)); refine sMF ?_) | ((with_reducible apply kG); first | refine gY1 ?_ | refine gN1 ?_ | refine gU1 ?_ | (refine gD1 (fun h => ?_) (fun h => ?_) <;> (try (exfalso; omega))) | refine gB1 (fun h => ?_) (fun h => ?_)) | ((with_reducible apply kN); first | refine stP ?_ | refine stI ?_ | refine st1 ?_ | refine stW ?_) | ((with_reducible apply kP (.alloc _)); refine sA (fun b => ?_)) | ((with_reducible apply kP (.box _ _)); first | refine sBA (fun b => ?_) | refine sB (fun b => ?_)) | ((with_reducible apply kP (.buildSlice _ 1 _)); first | refine sl1A (fun b => ?_) | refine sl1 (fun b => ?_)) | ((with_reducible apply kP (.buildSlice _ 2 _)); refine sl2 (fun b => ?_)) | ((with_reducible apply kP (.buildSlice _ 3 _)); refine sl3 (fun b => ?_)) | ((with_reducible apply kP (.buildSlice _ 4 _)); refine sl4 (fun b => ?_)) | ((with_reducible apply kP (.buildSlice _ 0 _)); refine s_bs0 (scTOf rfl) (zsTOf rfl) (by decide) (fun b => ?_)) | ((with_reducible apply kP (.makeSlice _ _ _)); refine sMk (fun b => ?_)) | ((with_reducible apply kP (.call ⟨.builtin .append, _, _⟩)); refine sAp (fun oa2 c2 blk2 hrow2 => ?_)) | ((with_reducible apply kP _); refine sP ?_) | ((with_reducible apply kP _); refine sX ?_) | ((with_reducible apply kQG); first | refine qY1 ?_ | refine qN1 ?_ | refine qU1 ?_ | (refine qD1 (fun h => ?_) (fun h => ?_) <;> (try (exfalso; omega))) | refine qB1 (fun h => ?_) (fun h => ?_)) | ((with_reducible apply kQP); refine qP ?_) | ((with_reducible apply kQP); refine qX ?_) | ((with_reducible apply kC); first | refine cT ?_ | refine cF ?_ | (refine cI (fun h => ?_) (fun h => ?_) <;> (try (exfalso; omega))) | refine cB (fun h => ?_) (fun h => ?_)) | ((with_reducible apply kR); refine cQ ?_))
    all_goals first
      | exact e_ret2 rfl rfl rfl ⟨[], ⟨none, 0, rfl, .nil⟩, rfl⟩ (.cons _ (.refl _))
      | (exfalso; omega)
      | trace_state
end Go.Proofs.Ytgcjddlcgpjlcaa
