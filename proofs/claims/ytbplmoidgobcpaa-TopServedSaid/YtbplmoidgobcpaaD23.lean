/- What is lacking: the walk. -/
import Derived.Test.YtbplmoidgobcpaaD22
import Derived.Test.YtbplmoidgobcpaaD19
namespace Go.Proofs.Ytbplmoidgobcpaa
open Go.RowKit

theorem sat_perm {n B : Nat} {w0 : World} {Q : Act → World → Prop} {fr : FR} {hs hs' : HS} (p : hs.Perm hs') (h : Sat n B w0 Q fr hs') : Sat n B w0 Q fr hs := sat_mk fun a w ha hw => sat_el h a w ha (hw.perm p)
theorem bvs_flat (M : Nat) (f : Nat → Bool) : Flat (bvs M f) := fun v hv => by
  obtain ⟨x, _, rfl⟩ := List.mem_map.1 hv
  rfl
theorem pm_TC {q : TQ} {lk : Nat → Int} {mv : Value} {t : FS} {p : Nat × List Value} {hs : HS} : (p :: TC q lk mv t hs).Perm (TC q lk mv t (p :: hs)) := by
  have e : ∀ X : HS, TC q lk mv t X = (q.Y ++ (rws q.N q.pr t.g q.M ++ [(q.pT, q.st mv), (q.pL, ivs (tab q.M lk)), (q.pS, ivs (tab q.N t.s))])) ++ X := fun X => by simp [TC]
  rw [e, e]
  exact List.perm_middle.symm
theorem cl_no {N M : Nat} {nr : Nat → Nat → Bool} {a b lk : Nat → Int} {t t' : FS} {S : Nat → Bool} (h : Fed N M nr a b lk t) (hc : Cl N M nr S t) {i : Nat} {m : Int} (hi : i < M) (hs : S i = true) (hr : Res N M nr i (lk i) ⟨t.g, t.s, fun _ => false⟩ t' m) : m = 0 := by
  have h' := h.step hi hr
  have e1 := set_eq h hc
  have e2 := set_le (S := S) h'
  have e3 : sumTo (fun o => inS S o (sumTo (t'.g o) N)) M = sumTo (fun o => inS S o (sumTo (t.g o) N)) M + if i < M then (if S i = true then m else 0) else 0 := sum_put1 fun o ho => by
    have := hr.want o ho
    unfold inS
    by_cases e : o = i
    · subst e
      rw [if_pos rfl] at this ⊢
      split <;> omega
    · rw [if_neg e] at this ⊢
      split <;> omega
  rw [if_pos hi, if_pos hs] at e3
  have h0 := hr.lo
  omega
/-- The numbers of a set, in order. -/
def ls (S : Nat → Bool) : Nat → List Int
  | 0 => []
  | i + 1 => ls S i ++ if S i = true then [(i : Int)] else []
theorem ls_len (S : Nat → Bool) : ∀ i, (ls S i).length ≤ i
  | 0 => Nat.le_refl _
  | i + 1 => by
    have := ls_len S i
    unfold ls
    split
    · rw [List.length_append]; simp only [List.length_cons, List.length_nil]; omega
    · rw [List.append_nil]; omega
theorem ls_ord (S : Nat → Bool) : ∀ i j, j < (ls S i).length → 0 ≤ sI (ls S i) j ∧ sI (ls S i) j < i ∧ (0 < j → sI (ls S i) (j - 1) < sI (ls S i) j)
  | 0, j, h => by simp [ls] at h
  | i + 1, j, h => by
    unfold ls at h ⊢
    by_cases e : S i = true
    · rw [if_pos e] at h ⊢
      rw [List.length_append] at h
      simp only [List.length_cons, List.length_nil] at h
      by_cases e2 : j < (ls S i).length
      · obtain ⟨h1, h2, h3⟩ := ls_ord S i j e2
        simp only [sI] at h1 h2 h3 ⊢
        rw [gd_app e2, gd_app (show j - 1 < (ls S i).length by omega)]
        exact ⟨h1, by omega, h3⟩
      · have e3 : j = (ls S i).length := by omega
        simp only [sI]
        rw [gd_app2 (j := 0) (show (ls S i).length + 0 = j by omega)]
        refine ⟨by simp, by simp; omega, fun h0 => ?_⟩
        obtain ⟨h1, h2, _⟩ := ls_ord S i (j - 1) (by omega)
        simp only [sI] at h1 h2
        rw [gd_app (show j - 1 < (ls S i).length by omega)]
        simpa using h2
    · rw [if_neg e, List.append_nil] at h ⊢
      obtain ⟨h1, h2, h3⟩ := ls_ord S i j h
      exact ⟨h1, by omega, h3⟩
theorem ls_in (S : Nat → Bool) : ∀ i o, inB (ls S i) (ls S i).length o = true ↔ o < i ∧ S o = true := by
  have key : ∀ (l : List Int) o, inB l l.length o = true ↔ (o : Int) ∈ l := fun l o => by
    unfold inB
    rw [List.any_eq_true]
    constructor
    · rintro ⟨j, hj, h⟩
      have hj' := List.mem_range.1 hj
      have h2 : l.getD j 0 = o := by simpa using h
      rw [← h2]
      simp only [List.getD_eq_getElem?_getD, List.getElem?_eq_getElem hj', Option.getD_some]
      exact List.getElem_mem hj'
    · intro h
      obtain ⟨j, hj, h2⟩ := List.getElem_of_mem h
      refine ⟨j, List.mem_range.2 hj, ?_⟩
      simp [sI, List.getD_eq_getElem?_getD, List.getElem?_eq_getElem hj, h2]
  intro i o
  rw [key]
  induction i with
  | zero => simp [ls]
  | succ i ih =>
    unfold ls
    by_cases e : S i = true
    · rw [if_pos e, List.mem_append, ih, List.mem_singleton]
      constructor
      · rintro (⟨h1, h2⟩ | h)
        · exact ⟨by omega, h2⟩
        · obtain rfl : o = i := by omega
          exact ⟨by omega, e⟩
      · rintro ⟨h1, h2⟩
        by_cases e2 : o = i
        · exact .inr (by rw [e2])
        · exact .inl ⟨by omega, h2⟩
    · rw [if_neg e, List.append_nil, ih]
      constructor
      · rintro ⟨h1, h2⟩; exact ⟨by omega, h2⟩
      · rintro ⟨h1, h2⟩
        refine ⟨?_, h2⟩
        by_cases e2 : o = i
        · subst e2; exact absurd h2 e
        · omega
/-- The set that is returned is a list of wants, and its bound is the least. -/
theorem lack_right {N M : Nat} {lz wz : List Int} {S : Nat → Bool} (hv : vlE N M lz wz = 0) (hc : Cl N M (nrF lz wz) S (fillR N M lz wz).2) (hl : ∀ o, o < M → S o = true ∨ (fillR N M lz wz).1 o ≤ 0) :
    boE N M (ls S M).length lz wz (ls S M) = 0 ∧ boV N M (ls S M).length lz wz (ls S M) = bsS N M lz wz := by
  obtain ⟨h1, _⟩ := fill_fed hv
  obtain ⟨q1, q2⟩ := bo_ok (sz := ls S M) hv (fun j hj => by
    obtain ⟨h1, h2, h3⟩ := ls_ord S M j hj
    refine if_neg ?_
    rintro (h | h | h)
    · omega
    · omega
    · have := h3 h.1
      have := h.2
      omega)
  refine ⟨q1, ?_⟩
  rw [q2]
  have e : bsS N M lz wz = tot N M (fillR N M lz wz).2 := if_pos hv
  rw [e, tot_eq h1 hc hl]
  refine bndS_congr fun o ho => ?_
  rw [Bool.eq_iff_iff, ls_in]
  exact ⟨fun h => h.2, fun h => ⟨ho, h⟩⟩
set_option maxRecDepth 100000 in
set_option maxHeartbeats 8000000 in
theorem k_Clip (oa : Option Addr) (n c : Nat) (hn : n ≤ c) (B : Nat) (w0 : World) (hs : HS) : Fn Try.prog 53 #[.slice oa n c] B w0 hs (fun v h => v = .slice (subA oa n 0 1) n n ∧ h = hs) := by
  refine fn_enter Try.func53 rfl Try.ntmps53 (by simp) ?_
  repeat' (first | ((with_reducible apply kP (.slice _ _ _ _ _)); refine sP ?_ (o_sliceHM (scTOf rfl) rfl rfl rfl rfl rfl (by omega) (by omega))) | (with_reducible first | refine c_seq ?_ | refine c_reg ?_ | refine c_region ?_ | refine c_block ?_ | refine c_skip ?_ | refine c_exit ?_ | refine c_ret ?_ | refine s_nil ?_ | refine x_then ?_ | refine x_then_exit ?_ | refine x_then_ret ?_ | refine x_block ?_ | refine x_block_ret ?_ | refine x_block_same ?_ | refine x_block_other (by rfl) ?_ | refine q_nil ?_ | refine k_nil ?_) | ((with_reducible apply kP (.makeFunc _ _ _)); refine sMF ?_) | ((with_reducible apply kG); first | refine gY1 ?_ | refine gN1 ?_ | refine gU1 ?_ | (refine gD1 (fun h => ?_) (fun h => ?_) <;> (try (exfalso; omega))) | refine gB1 (fun h => ?_) (fun h => ?_)) | ((with_reducible apply kN); first | refine stP ?_ | refine stI ?_ | refine st1 ?_ | refine stW ?_) | ((with_reducible apply kP (.alloc _)); refine sA (fun b => ?_)) | ((with_reducible apply kP (.box _ _)); first | refine sBA (fun b => ?_) | refine sB (fun b => ?_)) | ((with_reducible apply kP (.buildSlice _ 1 _)); first | refine sl1A (fun b => ?_) | refine sl1 (fun b => ?_)) | ((with_reducible apply kP (.buildSlice _ 2 _)); refine sl2 (fun b => ?_)) | ((with_reducible apply kP (.buildSlice _ 3 _)); refine sl3 (fun b => ?_)) | ((with_reducible apply kP (.buildSlice _ 4 _)); refine sl4 (fun b => ?_)) | ((with_reducible apply kP (.buildSlice _ 0 _)); refine s_bs0 (scTOf rfl) (zsTOf rfl) (by decide) (fun b => ?_)) | ((with_reducible apply kP (.makeSlice _ _ _)); refine sMk (fun b => ?_)) | ((with_reducible apply kP (.call ⟨.builtin .append, _, _⟩)); refine sAp (fun oa2 c2 blk2 hrow2 => ?_)) | ((with_reducible apply kP _); refine sP ?_) | ((with_reducible apply kP _); refine sX ?_) | ((with_reducible apply kQG); first | refine qY1 ?_ | refine qN1 ?_ | refine qU1 ?_ | (refine qD1 (fun h => ?_) (fun h => ?_) <;> (try (exfalso; omega))) | refine qB1 (fun h => ?_) (fun h => ?_)) | ((with_reducible apply kQP); refine qP ?_) | ((with_reducible apply kQP); refine qX ?_) | ((with_reducible apply kC); first | refine cT ?_ | refine cF ?_ | (refine cI (fun h => ?_) (fun h => ?_) <;> (try (exfalso; omega))) | refine cB (fun h => ?_) (fun h => ?_)) | ((with_reducible apply kR); refine cQ ?_))
  exact e_ret1 rfl rfl ⟨rfl, rfl⟩ (.refl _)
structure F7 where
  i : Nat
  S : Nat → Bool
  mv : Value
structure F8 where
  i : Nat
  oa : Option Addr
  n : Nat
  c : Nat
  blk : HS
def LackR (N M : Nat) (lz wz : List Int) (B : Nat) (w0 : World) (hs : HS) (v : Value) (h : HS) : Prop :=
  ∃ oa n c blk l, v = .tuple #[.slice oa n c, iv (vlE N M lz wz)] ∧ l.length = n ∧ n ≤ 6 ∧ Sl B w0 blk oa l ∧ h = blk ++ hs ∧
    (vlE N M lz wz = 0 → boE N M n lz wz l = 0 ∧ boV N M n lz wz l = bsS N M lz wz) ∧ (vlE N M lz wz ≠ 0 → n = 0)
set_option maxRecDepth 100000 in
set_option maxHeartbeats 8000000 in
theorem k_Lack (N M : Nat) (lz wz : List Int) (cL cW : Nat) (oaL oaW : Option Addr) (hN : N ≤ 100) (hM : M ≤ 100) (hl : lz.length = N * 4) (hwz : wz.length = M * 5) (B : Nat) (w0 : World) (hs : HS) (hL : Sl B w0 hs oaL lz) (hW : Sl B w0 hs oaW wz) :
    Fn Try.prog 38 #[.slice oaL N cL, .slice oaW M cW] B w0 hs (LackR N M lz wz B w0 hs) := by
  have kv := k_Validate N M lz wz cL cW oaL oaW hN hM hl hwz B w0
  by_cases hv : vlE N M lz wz = 0
  · obtain ⟨_, f2, f3, f4, f5⟩ := fed_start hv
    obtain ⟨hF, hLk⟩ := fill_fed hv
    have hright := fun S => lack_right (N := N) (M := M) (lz := lz) (wz := wz) (S := S) hv
    have kf := k_fill N M lz wz cL cW oaL oaW f4 f5 hl hwz B w0 hs hL hW f2 f3
    rw [hv] at kv
    refine fn_enter Try.func38 rfl Try.ntmps38 (by simp) ?_
    repeat' (first | ((with_reducible apply kF 28); refine sC 28 (kv _ hL hW) ?_) | ((with_reducible apply kF 49); refine sR 49 (kf) ?_; rintro u h' ⟨pT, pS, pL, pr, oaG, cG, Y, mv, rfl, hY, hmv, rfl⟩) | (with_reducible first | refine c_seq ?_ | refine c_reg ?_ | refine c_region ?_ | refine c_block ?_ | refine c_skip ?_ | refine c_exit ?_ | refine c_ret ?_ | refine s_nil ?_ | refine x_then ?_ | refine x_then_exit ?_ | refine x_then_ret ?_ | refine x_block ?_ | refine x_block_ret ?_ | refine x_block_same ?_ | refine x_block_other (by rfl) ?_ | refine q_nil ?_ | refine k_nil ?_) | ((with_reducible apply kP (.makeFunc _ _ _)); refine sMF ?_) | ((with_reducible apply kG); first | refine gY1 ?_ | refine gN1 ?_ | refine gU1 ?_ | (refine gD1 (fun h => ?_) (fun h => ?_) <;> (try (exfalso; omega))) | refine gB1 (fun h => ?_) (fun h => ?_)) | ((with_reducible apply kN); first | refine stP ?_ | refine stI ?_ | refine st1 ?_ | refine stW ?_) | ((with_reducible apply kP (.alloc _)); refine sA (fun b => ?_)) | ((with_reducible apply kP (.box _ _)); first | refine sBA (fun b => ?_) | refine sB (fun b => ?_)) | ((with_reducible apply kP (.buildSlice _ 1 _)); first | refine sl1A (fun b => ?_) | refine sl1 (fun b => ?_)) | ((with_reducible apply kP (.buildSlice _ 2 _)); refine sl2 (fun b => ?_)) | ((with_reducible apply kP (.buildSlice _ 3 _)); refine sl3 (fun b => ?_)) | ((with_reducible apply kP (.buildSlice _ 4 _)); refine sl4 (fun b => ?_)) | ((with_reducible apply kP (.buildSlice _ 0 _)); refine s_bs0 (scTOf rfl) (zsTOf rfl) (by decide) (fun b => ?_)) | ((with_reducible apply kP (.makeSlice _ _ _)); refine sMk (fun b => ?_)) | ((with_reducible apply kP (.call ⟨.builtin .append, _, _⟩)); refine sAp (fun oa2 c2 blk2 hrow2 => ?_)) | ((with_reducible apply kP _); refine sP ?_) | ((with_reducible apply kP _); refine sX ?_) | ((with_reducible apply kQG); first | refine qY1 ?_ | refine qN1 ?_ | refine qU1 ?_ | (refine qD1 (fun h => ?_) (fun h => ?_) <;> (try (exfalso; omega))) | refine qB1 (fun h => ?_) (fun h => ?_)) | ((with_reducible apply kQP); refine qP ?_) | ((with_reducible apply kQP); refine qX ?_) | ((with_reducible apply kC); first | refine cT ?_ | refine cF ?_ | (refine cI (fun h => ?_) (fun h => ?_) <;> (try (exfalso; omega))) | refine cB (fun h => ?_) (fun h => ?_)) | ((with_reducible apply kR); refine cQ ?_))
    refine s_makeZ (apTOf rfl) (zsTOf rfl) rfl rfl (by omega) (by decide) (by decide) (fun bi => ?_)
    rw [bvs_false]
    refine sat_perm pm_TC ?_
    generalize (fillR N M lz wz).2 = t at hF hLk hright ⊢
    generalize (fillR N M lz wz).1 = lk at hF hLk hright ⊢
    have hBd : t.Bd N M := fun k hk => by rw [hF.lot k hk]; exact (f2 k hk).2
    have hlk : ∀ o, o < M → lk o ≤ 1000 := fun o ho => by
      have h1 := hF.want o ho
      have h2 := f3 o ho
      have h3 := sumTo_nonneg N (F := t.g o) (fun k hk => (hF.ok k hk).2 o ho)
      omega
    dsimp only [TC, TQ.st]
    repeat' (first | (with_reducible first | refine c_seq ?_ | refine c_reg ?_ | refine c_region ?_ | refine c_block ?_ | refine c_skip ?_ | refine c_exit ?_ | refine c_ret ?_ | refine s_nil ?_ | refine x_then ?_ | refine x_then_exit ?_ | refine x_then_ret ?_ | refine x_block ?_ | refine x_block_ret ?_ | refine x_block_same ?_ | refine x_block_other (by rfl) ?_ | refine q_nil ?_ | refine k_nil ?_) | ((with_reducible apply kP (.makeFunc _ _ _)); refine sMF ?_) | ((with_reducible apply kG); first | refine gY1 ?_ | refine gN1 ?_ | refine gU1 ?_ | (refine gD1 (fun h => ?_) (fun h => ?_) <;> (try (exfalso; omega))) | refine gB1 (fun h => ?_) (fun h => ?_)) | ((with_reducible apply kN); first | refine stP ?_ | refine stI ?_ | refine st1 ?_ | refine stW ?_) | ((with_reducible apply kP (.alloc _)); refine sA (fun b => ?_)) | ((with_reducible apply kP (.box _ _)); first | refine sBA (fun b => ?_) | refine sB (fun b => ?_)) | ((with_reducible apply kP (.buildSlice _ 1 _)); first | refine sl1A (fun b => ?_) | refine sl1 (fun b => ?_)) | ((with_reducible apply kP (.buildSlice _ 2 _)); refine sl2 (fun b => ?_)) | ((with_reducible apply kP (.buildSlice _ 3 _)); refine sl3 (fun b => ?_)) | ((with_reducible apply kP (.buildSlice _ 4 _)); refine sl4 (fun b => ?_)) | ((with_reducible apply kP (.buildSlice _ 0 _)); refine s_bs0 (scTOf rfl) (zsTOf rfl) (by decide) (fun b => ?_)) | ((with_reducible apply kP (.makeSlice _ _ _)); refine sMk (fun b => ?_)) | ((with_reducible apply kP (.call ⟨.builtin .append, _, _⟩)); refine sAp (fun oa2 c2 blk2 hrow2 => ?_)) | ((with_reducible apply kP _); refine sP ?_) | ((with_reducible apply kP _); refine sX ?_) | ((with_reducible apply kQG); first | refine qY1 ?_ | refine qN1 ?_ | refine qU1 ?_ | (refine qD1 (fun h => ?_) (fun h => ?_) <;> (try (exfalso; omega))) | refine qB1 (fun h => ?_) (fun h => ?_)) | ((with_reducible apply kQP); refine qP ?_) | ((with_reducible apply kQP); refine qX ?_) | ((with_reducible apply kC); first | refine cT ?_ | refine cF ?_ | (refine cI (fun h => ?_) (fun h => ?_) <;> (try (exfalso; omega))) | refine cB (fun h => ?_) (fun h => ?_)) | ((with_reducible apply kR); refine cQ ?_))
    refine c_loop (fun s : F7 => [(1, .slice oaW M cW), (7, pt pT), (8, .slice (some ⟨bi, 0, none⟩) M M), (32, .slice (some ⟨pL, 0, none⟩) M M), (33, iv M), (34, iv s.i)])
      (fun s => TC ⟨N, M, lz, wz, pT, pS, pL, cL, cW, oaL, oaW, pr, oaG, cG, Y⟩ lk s.mv t ((bi, bvs M s.S) :: hs)) (fun s => s.i ≤ M ∧ Cl N M (nrF lz wz) s.S t ∧ (∀ o, o < s.i → s.S o = true ∨ lk o ≤ 0) ∧ s.mv.cells = #[s.mv]) (fun s => M - s.i) ⟨0, fun _ => false, mv⟩
      ⟨Nat.zero_le _, fun i hi hs => by simp at hs, fun o ho => absurd ho (Nat.not_lt_zero o), hmv⟩ (by repeat' first | trivial | rfl | apply And.intro) (.refl _) ?_
    clear hmv mv
    rintro ⟨i, S, mv⟩ ⟨hi, hcl, hdone, hmv⟩
    dsimp only at hi hcl hdone hmv ⊢
    by_cases hi' : i < M
    · have hget := tab_get? lk hi'
      by_cases h0 : 0 < lk i
      · have kS := k_serve2 ⟨N, M, lz, wz, pT, pS, pL, cL, cW, oaL, oaW, pr, oaG, cG, Y⟩ lk mv hmv f4 f5 hl hwz hY i (lk i) t hi' hF.ok hBd h0 (hlk i hi') B w0 ((bi, bvs M S) :: hs) (hL.sub SBt) (hW.sub SBt)
        have hR := r_srv (nr := nrF lz wz) hi' hF.ok h0
        rcases hsv : srv N M (nrF lz wz) i (lk i) t with ⟨m, t'⟩
        dsimp only at kS
        rw [hsv] at hR kS
        dsimp only at hR kS
        have hm0 : m = 0 := by
          rcases hLk i hi' with h1 | ⟨S', h1, h2⟩
          · omega
          · exact cl_no hF h1 hi' h2 hR
        obtain ⟨e1, e2⟩ := hR.same (by omega)
        simp only at e1 e2
        have hcl2 := Cl.fail hR hm0
        have hown := hR.own
        simp only [TC, TQ.st] at kS ⊢
        rw [e1, e2] at kS
        have hcl3 : Cl N M (nrF lz wz) t'.md t := fun j hj hs k hk hn => by
          have := hcl2 j hj hs k hk hn
          rwa [e1, e2] at this
        generalize t'.md = md at kS hown hcl3
        clear hcl2 hR hsv e1 e2 hLk
        repeat' (first | ((with_reducible apply kF 52); refine sR 52 (kS) ?_; rintro u h' ⟨pM, rfl, rfl⟩) | (with_reducible first | refine c_seq ?_ | refine c_reg ?_ | refine c_region ?_ | refine c_block ?_ | refine c_skip ?_ | refine c_exit ?_ | refine c_ret ?_ | refine s_nil ?_ | refine x_then ?_ | refine x_then_exit ?_ | refine x_then_ret ?_ | refine x_block ?_ | refine x_block_ret ?_ | refine x_block_same ?_ | refine x_block_other (by rfl) ?_ | refine q_nil ?_ | refine k_nil ?_) | ((with_reducible apply kP (.makeFunc _ _ _)); refine sMF ?_) | ((with_reducible apply kG); first | refine gY1 ?_ | refine gN1 ?_ | refine gU1 ?_ | (refine gD1 (fun h => ?_) (fun h => ?_) <;> (try (exfalso; omega))) | refine gB1 (fun h => ?_) (fun h => ?_)) | ((with_reducible apply kN); first | refine stP ?_ | refine stI ?_ | refine st1 ?_ | refine stW ?_) | ((with_reducible apply kP (.alloc _)); refine sA (fun b => ?_)) | ((with_reducible apply kP (.box _ _)); first | refine sBA (fun b => ?_) | refine sB (fun b => ?_)) | ((with_reducible apply kP (.buildSlice _ 1 _)); first | refine sl1A (fun b => ?_) | refine sl1 (fun b => ?_)) | ((with_reducible apply kP (.buildSlice _ 2 _)); refine sl2 (fun b => ?_)) | ((with_reducible apply kP (.buildSlice _ 3 _)); refine sl3 (fun b => ?_)) | ((with_reducible apply kP (.buildSlice _ 4 _)); refine sl4 (fun b => ?_)) | ((with_reducible apply kP (.buildSlice _ 0 _)); refine s_bs0 (scTOf rfl) (zsTOf rfl) (by decide) (fun b => ?_)) | ((with_reducible apply kP (.makeSlice _ _ _)); refine sMk (fun b => ?_)) | ((with_reducible apply kP (.call ⟨.builtin .append, _, _⟩)); refine sAp (fun oa2 c2 blk2 hrow2 => ?_)) | ((with_reducible apply kP _); refine sP ?_) | ((with_reducible apply kP _); refine sX ?_) | ((with_reducible apply kQG); first | refine qY1 ?_ | refine qN1 ?_ | refine qU1 ?_ | (refine qD1 (fun h => ?_) (fun h => ?_) <;> (try (exfalso; omega))) | refine qB1 (fun h => ?_) (fun h => ?_)) | ((with_reducible apply kQP); refine qP ?_) | ((with_reducible apply kQP); refine qX ?_) | ((with_reducible apply kC); first | refine cT ?_ | refine cF ?_ | (refine cI (fun h => ?_) (fun h => ?_) <;> (try (exfalso; omega))) | refine cB (fun h => ?_) (fun h => ?_)) | ((with_reducible apply kR); refine cQ ?_))
        refine s_makeZ (apTOf rfl) (zsTOf rfl) rfl rfl (by omega) (by decide) (by decide) (fun pB => ?_)
        rw [bvs_false]
        repeat' (first | (with_reducible first | refine c_seq ?_ | refine c_reg ?_ | refine c_region ?_ | refine c_block ?_ | refine c_skip ?_ | refine c_exit ?_ | refine c_ret ?_ | refine s_nil ?_ | refine x_then ?_ | refine x_then_exit ?_ | refine x_then_ret ?_ | refine x_block ?_ | refine x_block_ret ?_ | refine x_block_same ?_ | refine x_block_other (by rfl) ?_ | refine q_nil ?_ | refine k_nil ?_) | ((with_reducible apply kP (.makeFunc _ _ _)); refine sMF ?_) | ((with_reducible apply kG); first | refine gY1 ?_ | refine gN1 ?_ | refine gU1 ?_ | (refine gD1 (fun h => ?_) (fun h => ?_) <;> (try (exfalso; omega))) | refine gB1 (fun h => ?_) (fun h => ?_)) | ((with_reducible apply kN); first | refine stP ?_ | refine stI ?_ | refine st1 ?_ | refine stW ?_) | ((with_reducible apply kP (.alloc _)); refine sA (fun b => ?_)) | ((with_reducible apply kP (.box _ _)); first | refine sBA (fun b => ?_) | refine sB (fun b => ?_)) | ((with_reducible apply kP (.buildSlice _ 1 _)); first | refine sl1A (fun b => ?_) | refine sl1 (fun b => ?_)) | ((with_reducible apply kP (.buildSlice _ 2 _)); refine sl2 (fun b => ?_)) | ((with_reducible apply kP (.buildSlice _ 3 _)); refine sl3 (fun b => ?_)) | ((with_reducible apply kP (.buildSlice _ 4 _)); refine sl4 (fun b => ?_)) | ((with_reducible apply kP (.buildSlice _ 0 _)); refine s_bs0 (scTOf rfl) (zsTOf rfl) (by decide) (fun b => ?_)) | ((with_reducible apply kP (.makeSlice _ _ _)); refine sMk (fun b => ?_)) | ((with_reducible apply kP (.call ⟨.builtin .append, _, _⟩)); refine sAp (fun oa2 c2 blk2 hrow2 => ?_)) | ((with_reducible apply kP _); refine sP ?_) | ((with_reducible apply kP _); refine sX ?_) | ((with_reducible apply kQG); first | refine qY1 ?_ | refine qN1 ?_ | refine qU1 ?_ | (refine qD1 (fun h => ?_) (fun h => ?_) <;> (try (exfalso; omega))) | refine qB1 (fun h => ?_) (fun h => ?_)) | ((with_reducible apply kQP); refine qP ?_) | ((with_reducible apply kQP); refine qX ?_) | ((with_reducible apply kC); first | refine cT ?_ | refine cF ?_ | (refine cI (fun h => ?_) (fun h => ?_) <;> (try (exfalso; omega))) | refine cB (fun h => ?_) (fun h => ?_)) | ((with_reducible apply kR); refine cQ ?_))
        refine s_copy (vs := bvs M S) (scTOf rfl) rfl rfl (by with_reducible first | exact mm0 | exact mm1 | exact mm2 | exact mm3 | exact mm4 | exact mm5 | exact mm6 | exact mm7 | exact mm8 | ((repeat (first | exact mm0 | refine mmT ?_ | refine mmA ?_)); done)) (bvs_length _ _) (bvs_length _ _) (bvs_flat _ _) (by with_reducible first | exact uu0 | exact uu1 | exact uu2 | exact uu3 | exact uu4 | exact uu5 | exact uu6 | exact uu7 | exact uu8 | ((repeat (first | exact uu0 | apply Upd.tail | apply Upd.app)); done)) (by decide) ?_
        repeat' (first | (with_reducible first | refine c_seq ?_ | refine c_reg ?_ | refine c_region ?_ | refine c_block ?_ | refine c_skip ?_ | refine c_exit ?_ | refine c_ret ?_ | refine s_nil ?_ | refine x_then ?_ | refine x_then_exit ?_ | refine x_then_ret ?_ | refine x_block ?_ | refine x_block_ret ?_ | refine x_block_same ?_ | refine x_block_other (by rfl) ?_ | refine q_nil ?_ | refine k_nil ?_) | ((with_reducible apply kP (.makeFunc _ _ _)); refine sMF ?_) | ((with_reducible apply kG); first | refine gY1 ?_ | refine gN1 ?_ | refine gU1 ?_ | (refine gD1 (fun h => ?_) (fun h => ?_) <;> (try (exfalso; omega))) | refine gB1 (fun h => ?_) (fun h => ?_)) | ((with_reducible apply kN); first | refine stP ?_ | refine stI ?_ | refine st1 ?_ | refine stW ?_) | ((with_reducible apply kP (.alloc _)); refine sA (fun b => ?_)) | ((with_reducible apply kP (.box _ _)); first | refine sBA (fun b => ?_) | refine sB (fun b => ?_)) | ((with_reducible apply kP (.buildSlice _ 1 _)); first | refine sl1A (fun b => ?_) | refine sl1 (fun b => ?_)) | ((with_reducible apply kP (.buildSlice _ 2 _)); refine sl2 (fun b => ?_)) | ((with_reducible apply kP (.buildSlice _ 3 _)); refine sl3 (fun b => ?_)) | ((with_reducible apply kP (.buildSlice _ 4 _)); refine sl4 (fun b => ?_)) | ((with_reducible apply kP (.buildSlice _ 0 _)); refine s_bs0 (scTOf rfl) (zsTOf rfl) (by decide) (fun b => ?_)) | ((with_reducible apply kP (.makeSlice _ _ _)); refine sMk (fun b => ?_)) | ((with_reducible apply kP (.call ⟨.builtin .append, _, _⟩)); refine sAp (fun oa2 c2 blk2 hrow2 => ?_)) | ((with_reducible apply kP _); refine sP ?_) | ((with_reducible apply kP _); refine sX ?_) | ((with_reducible apply kQG); first | refine qY1 ?_ | refine qN1 ?_ | refine qU1 ?_ | (refine qD1 (fun h => ?_) (fun h => ?_) <;> (try (exfalso; omega))) | refine qB1 (fun h => ?_) (fun h => ?_)) | ((with_reducible apply kQP); refine qP ?_) | ((with_reducible apply kQP); refine qX ?_) | ((with_reducible apply kC); first | refine cT ?_ | refine cF ?_ | (refine cI (fun h => ?_) (fun h => ?_) <;> (try (exfalso; omega))) | refine cB (fun h => ?_) (fun h => ?_)) | ((with_reducible apply kR); refine cQ ?_))
        refine c_loop (fun k : Nat => [(1, .slice oaW M cW), (7, pt pT), (8, .slice (some ⟨bi, 0, none⟩) M M), (32, .slice (some ⟨pL, 0, none⟩) M M), (33, iv M), (34, iv i), (11, .slice (some ⟨pB, 0, none⟩) M M), (54, .slice (some ⟨pM, 0, none⟩) M M), (55, iv M), (56, iv k)])
          (fun k => (pB, bvs M S) :: (pM, bvs M md) :: TC ⟨N, M, lz, wz, pT, pS, pL, cL, cW, oaL, oaW, pr, oaG, cG, Y⟩ lk (.slice (some ⟨pM, 0, none⟩) M M) t ((bi, bvs M (fun j => if j < k then (S j || md j) else S j)) :: hs)) (fun k => k ≤ M) (fun k => M - k) 0 (Nat.zero_le _) (by repeat' first | trivial | rfl | apply And.intro) (.refl _) ?_
        intro k hk
        by_cases hk' : k < M
        · have g1 := bvs_get? S hk'
          have g2 := bvs_get? md hk'
          have hbl : (bvs M (fun j => if j < k then (S j || md j) else S j)).length = M := bvs_length _ _
          have ebv : (bvs M (fun j => if j < k then (S j || md j) else S j)).set k (.bool (S k || md k)) = bvs M (fun j => if j < k + 1 then (S j || md j) else S j) := by
            rw [bvs_set]
            congr 1
            funext j
            by_cases e : j = k
            · subst e; rw [if_pos rfl, if_pos (by omega)]
            · rw [if_neg e]
              by_cases e2 : j < k
              · rw [if_pos e2, if_pos (by omega)]
              · rw [if_neg e2, if_neg (by omega)]
          clear kS hcl hcl3 hdone hright hF hBd
          dsimp only [TC, TQ.st]
          rcases hSk : S k with _ | _ <;> rcases hmk : md k with _ | _
          all_goals
            rw [hSk] at g1 ebv
            rw [hmk] at g2 ebv
            simp only [Bool.or_false, Bool.or_true] at ebv
            repeat' (first | (with_reducible first | refine c_seq ?_ | refine c_reg ?_ | refine c_region ?_ | refine c_block ?_ | refine c_skip ?_ | refine c_exit ?_ | refine c_ret ?_ | refine s_nil ?_ | refine x_then ?_ | refine x_then_exit ?_ | refine x_then_ret ?_ | refine x_block ?_ | refine x_block_ret ?_ | refine x_block_same ?_ | refine x_block_other (by rfl) ?_ | refine q_nil ?_ | refine k_nil ?_) | ((with_reducible apply kP (.makeFunc _ _ _)); refine sMF ?_) | ((with_reducible apply kG); first | refine gY1 ?_ | refine gN1 ?_ | refine gU1 ?_ | (refine gD1 (fun h => ?_) (fun h => ?_) <;> (try (exfalso; omega))) | refine gB1 (fun h => ?_) (fun h => ?_)) | ((with_reducible apply kN); first | refine stP ?_ | refine stI ?_ | refine st1 ?_ | refine stW ?_) | ((with_reducible apply kP (.alloc _)); refine sA (fun b => ?_)) | ((with_reducible apply kP (.box _ _)); first | refine sBA (fun b => ?_) | refine sB (fun b => ?_)) | ((with_reducible apply kP (.buildSlice _ 1 _)); first | refine sl1A (fun b => ?_) | refine sl1 (fun b => ?_)) | ((with_reducible apply kP (.buildSlice _ 2 _)); refine sl2 (fun b => ?_)) | ((with_reducible apply kP (.buildSlice _ 3 _)); refine sl3 (fun b => ?_)) | ((with_reducible apply kP (.buildSlice _ 4 _)); refine sl4 (fun b => ?_)) | ((with_reducible apply kP (.buildSlice _ 0 _)); refine s_bs0 (scTOf rfl) (zsTOf rfl) (by decide) (fun b => ?_)) | ((with_reducible apply kP (.makeSlice _ _ _)); refine sMk (fun b => ?_)) | ((with_reducible apply kP (.call ⟨.builtin .append, _, _⟩)); refine sAp (fun oa2 c2 blk2 hrow2 => ?_)) | ((with_reducible apply kP _); refine sP ?_) | ((with_reducible apply kP _); refine sX ?_) | ((with_reducible apply kQG); first | refine qY1 ?_ | refine qN1 ?_ | refine qU1 ?_ | (refine qD1 (fun h => ?_) (fun h => ?_) <;> (try (exfalso; omega))) | refine qB1 (fun h => ?_) (fun h => ?_)) | ((with_reducible apply kQP); refine qP ?_) | ((with_reducible apply kQP); refine qX ?_) | ((with_reducible apply kC); first | refine cT ?_ | refine cF ?_ | (refine cI (fun h => ?_) (fun h => ?_) <;> (try (exfalso; omega))) | refine cB (fun h => ?_) (fun h => ?_)) | ((with_reducible apply kR); refine cQ ?_))
            rw [ebv]
            exact r_end (k + 1) (by omega) (by omega) (by repeat' first | trivial | rfl | apply And.intro) (.refl _)
        · obtain rfl : M = k := by omega
          repeat' (first | (with_reducible first | refine c_seq ?_ | refine c_reg ?_ | refine c_region ?_ | refine c_block ?_ | refine c_skip ?_ | refine c_exit ?_ | refine c_ret ?_ | refine s_nil ?_ | refine x_then ?_ | refine x_then_exit ?_ | refine x_then_ret ?_ | refine x_block ?_ | refine x_block_ret ?_ | refine x_block_same ?_ | refine x_block_other (by rfl) ?_ | refine q_nil ?_ | refine k_nil ?_) | ((with_reducible apply kP (.makeFunc _ _ _)); refine sMF ?_) | ((with_reducible apply kG); first | refine gY1 ?_ | refine gN1 ?_ | refine gU1 ?_ | (refine gD1 (fun h => ?_) (fun h => ?_) <;> (try (exfalso; omega))) | refine gB1 (fun h => ?_) (fun h => ?_)) | ((with_reducible apply kN); first | refine stP ?_ | refine stI ?_ | refine st1 ?_ | refine stW ?_) | ((with_reducible apply kP (.alloc _)); refine sA (fun b => ?_)) | ((with_reducible apply kP (.box _ _)); first | refine sBA (fun b => ?_) | refine sB (fun b => ?_)) | ((with_reducible apply kP (.buildSlice _ 1 _)); first | refine sl1A (fun b => ?_) | refine sl1 (fun b => ?_)) | ((with_reducible apply kP (.buildSlice _ 2 _)); refine sl2 (fun b => ?_)) | ((with_reducible apply kP (.buildSlice _ 3 _)); refine sl3 (fun b => ?_)) | ((with_reducible apply kP (.buildSlice _ 4 _)); refine sl4 (fun b => ?_)) | ((with_reducible apply kP (.buildSlice _ 0 _)); refine s_bs0 (scTOf rfl) (zsTOf rfl) (by decide) (fun b => ?_)) | ((with_reducible apply kP (.makeSlice _ _ _)); refine sMk (fun b => ?_)) | ((with_reducible apply kP (.call ⟨.builtin .append, _, _⟩)); refine sAp (fun oa2 c2 blk2 hrow2 => ?_)) | ((with_reducible apply kP _); refine sP ?_) | ((with_reducible apply kP _); refine sX ?_) | ((with_reducible apply kQG); first | refine qY1 ?_ | refine qN1 ?_ | refine qU1 ?_ | (refine qD1 (fun h => ?_) (fun h => ?_) <;> (try (exfalso; omega))) | refine qB1 (fun h => ?_) (fun h => ?_)) | ((with_reducible apply kQP); refine qP ?_) | ((with_reducible apply kQP); refine qX ?_) | ((with_reducible apply kC); first | refine cT ?_ | refine cF ?_ | (refine cI (fun h => ?_) (fun h => ?_) <;> (try (exfalso; omega))) | refine cB (fun h => ?_) (fun h => ?_)) | ((with_reducible apply kR); refine cQ ?_))
          have ebv : bvs M (fun j => if j < M then (S j || md j) else S j) = bvs M (fun j => S j || md j) := List.map_congr_left fun j hj => by
            show Value.bool (if j < M then (S j || md j) else S j) = .bool (S j || md j)
            rw [if_pos (List.mem_range.1 hj)]
          rw [ebv]
          refine r_end ⟨i + 1, fun j => S j || md j, .slice (some ⟨pM, 0, none⟩) M M⟩ ⟨hi', ?_, fun o ho => ?_, rfl⟩ (by simp only; omega) (by repeat' first | trivial | rfl | apply And.intro) (.cons _ (.cons _ (.refl _)))
          · refine Cl.union (ι := Bool) (F := fun b => if b = true then S else md) (fun b => ?_) _ fun o => ?_
            · cases b
              · exact hcl3
              · exact hcl
            · rw [Bool.or_eq_true]
              exact ⟨fun h => h.elim (fun h => ⟨true, h⟩) (fun h => ⟨false, h⟩), fun ⟨b, hb⟩ => by
                cases b
                · exact .inr hb
                · exact .inl hb⟩
          · by_cases e : o = i
            · subst e; exact .inl (by show (S o || md o) = true; rw [hown, Bool.or_true])
            · rcases hdone o (by simp only at ho; omega) with h | h
              · exact .inl (by show (S o || md o) = true; rw [h, Bool.true_or])
              · exact .inr h
      · repeat' (first | (with_reducible first | refine c_seq ?_ | refine c_reg ?_ | refine c_region ?_ | refine c_block ?_ | refine c_skip ?_ | refine c_exit ?_ | refine c_ret ?_ | refine s_nil ?_ | refine x_then ?_ | refine x_then_exit ?_ | refine x_then_ret ?_ | refine x_block ?_ | refine x_block_ret ?_ | refine x_block_same ?_ | refine x_block_other (by rfl) ?_ | refine q_nil ?_ | refine k_nil ?_) | ((with_reducible apply kP (.makeFunc _ _ _)); refine sMF ?_) | ((with_reducible apply kG); first | refine gY1 ?_ | refine gN1 ?_ | refine gU1 ?_ | (refine gD1 (fun h => ?_) (fun h => ?_) <;> (try (exfalso; omega))) | refine gB1 (fun h => ?_) (fun h => ?_)) | ((with_reducible apply kN); first | refine stP ?_ | refine stI ?_ | refine st1 ?_ | refine stW ?_) | ((with_reducible apply kP (.alloc _)); refine sA (fun b => ?_)) | ((with_reducible apply kP (.box _ _)); first | refine sBA (fun b => ?_) | refine sB (fun b => ?_)) | ((with_reducible apply kP (.buildSlice _ 1 _)); first | refine sl1A (fun b => ?_) | refine sl1 (fun b => ?_)) | ((with_reducible apply kP (.buildSlice _ 2 _)); refine sl2 (fun b => ?_)) | ((with_reducible apply kP (.buildSlice _ 3 _)); refine sl3 (fun b => ?_)) | ((with_reducible apply kP (.buildSlice _ 4 _)); refine sl4 (fun b => ?_)) | ((with_reducible apply kP (.buildSlice _ 0 _)); refine s_bs0 (scTOf rfl) (zsTOf rfl) (by decide) (fun b => ?_)) | ((with_reducible apply kP (.makeSlice _ _ _)); refine sMk (fun b => ?_)) | ((with_reducible apply kP (.call ⟨.builtin .append, _, _⟩)); refine sAp (fun oa2 c2 blk2 hrow2 => ?_)) | ((with_reducible apply kP _); refine sP ?_) | ((with_reducible apply kP _); refine sX ?_) | ((with_reducible apply kQG); first | refine qY1 ?_ | refine qN1 ?_ | refine qU1 ?_ | (refine qD1 (fun h => ?_) (fun h => ?_) <;> (try (exfalso; omega))) | refine qB1 (fun h => ?_) (fun h => ?_)) | ((with_reducible apply kQP); refine qP ?_) | ((with_reducible apply kQP); refine qX ?_) | ((with_reducible apply kC); first | refine cT ?_ | refine cF ?_ | (refine cI (fun h => ?_) (fun h => ?_) <;> (try (exfalso; omega))) | refine cB (fun h => ?_) (fun h => ?_)) | ((with_reducible apply kR); refine cQ ?_))
        exact r_end ⟨i + 1, S, mv⟩ ⟨hi', hcl, fun o ho => by
          by_cases e : o = i
          · subst e; exact .inr (by omega)
          · exact hdone o (by simp only at ho; omega), hmv⟩ (by simp only; omega) (by repeat' first | trivial | rfl | apply And.intro) (.refl _)
    · obtain rfl : M = i := by omega
      obtain ⟨q1, q2⟩ := hright S hcl hdone
      repeat' (first | (with_reducible first | refine c_seq ?_ | refine c_reg ?_ | refine c_region ?_ | refine c_block ?_ | refine c_skip ?_ | refine c_exit ?_ | refine c_ret ?_ | refine s_nil ?_ | refine x_then ?_ | refine x_then_exit ?_ | refine x_then_ret ?_ | refine x_block ?_ | refine x_block_ret ?_ | refine x_block_same ?_ | refine x_block_other (by rfl) ?_ | refine q_nil ?_ | refine k_nil ?_) | ((with_reducible apply kP (.makeFunc _ _ _)); refine sMF ?_) | ((with_reducible apply kG); first | refine gY1 ?_ | refine gN1 ?_ | refine gU1 ?_ | (refine gD1 (fun h => ?_) (fun h => ?_) <;> (try (exfalso; omega))) | refine gB1 (fun h => ?_) (fun h => ?_)) | ((with_reducible apply kN); first | refine stP ?_ | refine stI ?_ | refine st1 ?_ | refine stW ?_) | ((with_reducible apply kP (.alloc _)); refine sA (fun b => ?_)) | ((with_reducible apply kP (.box _ _)); first | refine sBA (fun b => ?_) | refine sB (fun b => ?_)) | ((with_reducible apply kP (.buildSlice _ 1 _)); first | refine sl1A (fun b => ?_) | refine sl1 (fun b => ?_)) | ((with_reducible apply kP (.buildSlice _ 2 _)); refine sl2 (fun b => ?_)) | ((with_reducible apply kP (.buildSlice _ 3 _)); refine sl3 (fun b => ?_)) | ((with_reducible apply kP (.buildSlice _ 4 _)); refine sl4 (fun b => ?_)) | ((with_reducible apply kP (.buildSlice _ 0 _)); refine s_bs0 (scTOf rfl) (zsTOf rfl) (by decide) (fun b => ?_)) | ((with_reducible apply kP (.makeSlice _ _ _)); refine sMk (fun b => ?_)) | ((with_reducible apply kP (.call ⟨.builtin .append, _, _⟩)); refine sAp (fun oa2 c2 blk2 hrow2 => ?_)) | ((with_reducible apply kP _); refine sP ?_) | ((with_reducible apply kP _); refine sX ?_) | ((with_reducible apply kQG); first | refine qY1 ?_ | refine qN1 ?_ | refine qU1 ?_ | (refine qD1 (fun h => ?_) (fun h => ?_) <;> (try (exfalso; omega))) | refine qB1 (fun h => ?_) (fun h => ?_)) | ((with_reducible apply kQP); refine qP ?_) | ((with_reducible apply kQP); refine qX ?_) | ((with_reducible apply kC); first | refine cT ?_ | refine cF ?_ | (refine cI (fun h => ?_) (fun h => ?_) <;> (try (exfalso; omega))) | refine cB (fun h => ?_) (fun h => ?_)) | ((with_reducible apply kR); refine cQ ?_))
      clear hcl hdone hright hF hBd hLk kf hlk hmv
      refine c_loop (fun s : F8 => [(14, .slice s.oa s.n s.c), (73, .slice (some ⟨bi, 0, none⟩) M M), (74, iv M), (75, iv s.i)]) (fun s => s.blk ++ ((bi, bvs M S) :: hs))
        (fun s => s.i ≤ M ∧ RowOk s.oa s.c 1 (ivs (ls S s.i)) s.blk ∧ (ls S s.i).length = s.n) (fun s => M - s.i) ⟨0, none, 0, 0, []⟩ ⟨Nat.zero_le _, RowOk.nil, rfl⟩ (by repeat' first | trivial | rfl | apply And.intro)
        (List.sublist_append_of_sublist_right (List.sublist_append_of_sublist_right (.cons _ (.cons _ (.cons _ (.refl _)))))) ?_
      rintro ⟨i, oa, n, c, blk⟩ ⟨hi, hrow, hlen⟩
      dsimp only at hi hrow hlen ⊢
      have hln := ls_len S i
      have hlen' : (ivs (ls S i)).length = n * 1 := by rw [ivs_length]; omega
      by_cases hi' : i < M
      · have g1 := bvs_get? S hi'
        have hmem : (bi, bvs M S) ∈ blk ++ ((bi, bvs M S) :: hs) := List.mem_append_right _ (.head _)
        rcases hSi : S i with _ | _
        all_goals rw [hSi] at g1
        · have e : ls S (i + 1) = ls S i := by show ls S i ++ _ = _; rw [if_neg (by rw [hSi]; simp), List.append_nil]
          repeat' (first | (with_reducible first | refine c_seq ?_ | refine c_reg ?_ | refine c_region ?_ | refine c_block ?_ | refine c_skip ?_ | refine c_exit ?_ | refine c_ret ?_ | refine s_nil ?_ | refine x_then ?_ | refine x_then_exit ?_ | refine x_then_ret ?_ | refine x_block ?_ | refine x_block_ret ?_ | refine x_block_same ?_ | refine x_block_other (by rfl) ?_ | refine q_nil ?_ | refine k_nil ?_) | ((with_reducible apply kP (.makeFunc _ _ _)); refine sMF ?_) | ((with_reducible apply kG); first | refine gY1 ?_ | refine gN1 ?_ | refine gU1 ?_ | (refine gD1 (fun h => ?_) (fun h => ?_) <;> (try (exfalso; omega))) | refine gB1 (fun h => ?_) (fun h => ?_)) | ((with_reducible apply kN); first | refine stP ?_ | refine stI ?_ | refine st1 ?_ | refine stW ?_) | ((with_reducible apply kP (.alloc _)); refine sA (fun b => ?_)) | ((with_reducible apply kP (.box _ _)); first | refine sBA (fun b => ?_) | refine sB (fun b => ?_)) | ((with_reducible apply kP (.buildSlice _ 1 _)); first | refine sl1A (fun b => ?_) | refine sl1 (fun b => ?_)) | ((with_reducible apply kP (.buildSlice _ 2 _)); refine sl2 (fun b => ?_)) | ((with_reducible apply kP (.buildSlice _ 3 _)); refine sl3 (fun b => ?_)) | ((with_reducible apply kP (.buildSlice _ 4 _)); refine sl4 (fun b => ?_)) | ((with_reducible apply kP (.buildSlice _ 0 _)); refine s_bs0 (scTOf rfl) (zsTOf rfl) (by decide) (fun b => ?_)) | ((with_reducible apply kP (.makeSlice _ _ _)); refine sMk (fun b => ?_)) | ((with_reducible apply kP (.call ⟨.builtin .append, _, _⟩)); refine sAp (fun oa2 c2 blk2 hrow2 => ?_)) | ((with_reducible apply kP _); refine sP ?_) | ((with_reducible apply kP _); refine sX ?_) | ((with_reducible apply kQG); first | refine qY1 ?_ | refine qN1 ?_ | refine qU1 ?_ | (refine qD1 (fun h => ?_) (fun h => ?_) <;> (try (exfalso; omega))) | refine qB1 (fun h => ?_) (fun h => ?_)) | ((with_reducible apply kQP); refine qP ?_) | ((with_reducible apply kQP); refine qX ?_) | ((with_reducible apply kC); first | refine cT ?_ | refine cF ?_ | (refine cI (fun h => ?_) (fun h => ?_) <;> (try (exfalso; omega))) | refine cB (fun h => ?_) (fun h => ?_)) | ((with_reducible apply kR); refine cQ ?_))
          exact r_end ⟨i + 1, oa, n, c, blk⟩ ⟨hi', by simp only [e]; exact hrow, by simp only [e]; exact hlen⟩ (by simp only; omega) (by repeat' first | trivial | rfl | apply And.intro) (.refl _)
        · have e : ls S (i + 1) = ls S i ++ [(i : Int)] := by show ls S i ++ _ = _; rw [if_pos hSi]
          repeat' (first | (with_reducible first | refine c_seq ?_ | refine c_reg ?_ | refine c_region ?_ | refine c_block ?_ | refine c_skip ?_ | refine c_exit ?_ | refine c_ret ?_ | refine s_nil ?_ | refine x_then ?_ | refine x_then_exit ?_ | refine x_then_ret ?_ | refine x_block ?_ | refine x_block_ret ?_ | refine x_block_same ?_ | refine x_block_other (by rfl) ?_ | refine q_nil ?_ | refine k_nil ?_) | ((with_reducible apply kP (.makeFunc _ _ _)); refine sMF ?_) | ((with_reducible apply kG); first | refine gY1 ?_ | refine gN1 ?_ | refine gU1 ?_ | (refine gD1 (fun h => ?_) (fun h => ?_) <;> (try (exfalso; omega))) | refine gB1 (fun h => ?_) (fun h => ?_)) | ((with_reducible apply kN); first | refine stP ?_ | refine stI ?_ | refine st1 ?_ | refine stW ?_) | ((with_reducible apply kP (.alloc _)); refine sA (fun b => ?_)) | ((with_reducible apply kP (.box _ _)); first | refine sBA (fun b => ?_) | refine sB (fun b => ?_)) | ((with_reducible apply kP (.buildSlice _ 1 _)); first | refine sl1A (fun b => ?_) | refine sl1 (fun b => ?_)) | ((with_reducible apply kP (.buildSlice _ 2 _)); refine sl2 (fun b => ?_)) | ((with_reducible apply kP (.buildSlice _ 3 _)); refine sl3 (fun b => ?_)) | ((with_reducible apply kP (.buildSlice _ 4 _)); refine sl4 (fun b => ?_)) | ((with_reducible apply kP (.buildSlice _ 0 _)); refine s_bs0 (scTOf rfl) (zsTOf rfl) (by decide) (fun b => ?_)) | ((with_reducible apply kP (.makeSlice _ _ _)); refine sMk (fun b => ?_)) | ((with_reducible apply kP (.call ⟨.builtin .append, _, _⟩)); refine sAp (fun oa2 c2 blk2 hrow2 => ?_)) | ((with_reducible apply kP _); refine sP ?_) | ((with_reducible apply kP _); refine sX ?_) | ((with_reducible apply kQG); first | refine qY1 ?_ | refine qN1 ?_ | refine qU1 ?_ | (refine qD1 (fun h => ?_) (fun h => ?_) <;> (try (exfalso; omega))) | refine qB1 (fun h => ?_) (fun h => ?_)) | ((with_reducible apply kQP); refine qP ?_) | ((with_reducible apply kQP); refine qX ?_) | ((with_reducible apply kC); first | refine cT ?_ | refine cF ?_ | (refine cI (fun h => ?_) (fun h => ?_) <;> (try (exfalso; omega))) | refine cB (fun h => ?_) (fun h => ?_)) | ((with_reducible apply kR); refine cQ ?_))
          refine r_end ⟨i + 1, oa2, n + 1, c2, blk2⟩ ⟨hi', ?_, ?_⟩ (by simp only; omega) (by repeat' first | trivial | rfl | apply And.intro) SCt
          · simp only [e]
            have e2 : ivs (ls S i ++ [(i : Int)]) = ivs (ls S i) ++ [iv i] := by simp [ivs]
            rw [e2]; exact hrow2
          · simp only [e, List.length_append, hlen, List.length_cons, List.length_nil]
      · obtain rfl : M = i := by omega
        have hcap : n ≤ c := hrow.cap hlen' (by decide)
        have hS := Sl.row (B := B) (w0 := w0) hrow
        have hS2 := hS.part (c := n) (lo := 0) (hi := n) (Nat.zero_le _) (by omega) (by omega)
        rw [List.drop_zero, Nat.sub_zero, List.take_of_length_le (by omega)] at hS2
        rw [hlen] at q1 q2
        have g53 : isGo Try.prog 53 = true := by kernel_rfl
        repeat' (first | (with_reducible first | refine c_seq ?_ | refine c_reg ?_ | refine c_region ?_ | refine c_block ?_ | refine c_skip ?_ | refine c_exit ?_ | refine c_ret ?_ | refine s_nil ?_ | refine x_then ?_ | refine x_then_exit ?_ | refine x_then_ret ?_ | refine x_block ?_ | refine x_block_ret ?_ | refine x_block_same ?_ | refine x_block_other (by rfl) ?_ | refine q_nil ?_ | refine k_nil ?_) | ((with_reducible apply kP (.makeFunc _ _ _)); refine sMF ?_) | ((with_reducible apply kG); first | refine gY1 ?_ | refine gN1 ?_ | refine gU1 ?_ | (refine gD1 (fun h => ?_) (fun h => ?_) <;> (try (exfalso; omega))) | refine gB1 (fun h => ?_) (fun h => ?_)) | ((with_reducible apply kN); first | refine stP ?_ | refine stI ?_ | refine st1 ?_ | refine stW ?_) | ((with_reducible apply kP (.alloc _)); refine sA (fun b => ?_)) | ((with_reducible apply kP (.box _ _)); first | refine sBA (fun b => ?_) | refine sB (fun b => ?_)) | ((with_reducible apply kP (.buildSlice _ 1 _)); first | refine sl1A (fun b => ?_) | refine sl1 (fun b => ?_)) | ((with_reducible apply kP (.buildSlice _ 2 _)); refine sl2 (fun b => ?_)) | ((with_reducible apply kP (.buildSlice _ 3 _)); refine sl3 (fun b => ?_)) | ((with_reducible apply kP (.buildSlice _ 4 _)); refine sl4 (fun b => ?_)) | ((with_reducible apply kP (.buildSlice _ 0 _)); refine s_bs0 (scTOf rfl) (zsTOf rfl) (by decide) (fun b => ?_)) | ((with_reducible apply kP (.makeSlice _ _ _)); refine sMk (fun b => ?_)) | ((with_reducible apply kP (.call ⟨.builtin .append, _, _⟩)); refine sAp (fun oa2 c2 blk2 hrow2 => ?_)) | ((with_reducible apply kP _); refine sP ?_) | ((with_reducible apply kP _); refine sX ?_) | ((with_reducible apply kQG); first | refine qY1 ?_ | refine qN1 ?_ | refine qU1 ?_ | (refine qD1 (fun h => ?_) (fun h => ?_) <;> (try (exfalso; omega))) | refine qB1 (fun h => ?_) (fun h => ?_)) | ((with_reducible apply kQP); refine qP ?_) | ((with_reducible apply kQP); refine qX ?_) | ((with_reducible apply kC); first | refine cT ?_ | refine cF ?_ | (refine cI (fun h => ?_) (fun h => ?_) <;> (try (exfalso; omega))) | refine cB (fun h => ?_) (fun h => ?_)) | ((with_reducible apply kR); refine cQ ?_))
        refine s_callV (vs := [.slice oa n c]) g53 rfl (k_Clip oa n c hcap B w0 _) (by decide) ?_
        repeat' (first | (with_reducible first | refine c_seq ?_ | refine c_reg ?_ | refine c_region ?_ | refine c_block ?_ | refine c_skip ?_ | refine c_exit ?_ | refine c_ret ?_ | refine s_nil ?_ | refine x_then ?_ | refine x_then_exit ?_ | refine x_then_ret ?_ | refine x_block ?_ | refine x_block_ret ?_ | refine x_block_same ?_ | refine x_block_other (by rfl) ?_ | refine q_nil ?_ | refine k_nil ?_) | ((with_reducible apply kP (.makeFunc _ _ _)); refine sMF ?_) | ((with_reducible apply kG); first | refine gY1 ?_ | refine gN1 ?_ | refine gU1 ?_ | (refine gD1 (fun h => ?_) (fun h => ?_) <;> (try (exfalso; omega))) | refine gB1 (fun h => ?_) (fun h => ?_)) | ((with_reducible apply kN); first | refine stP ?_ | refine stI ?_ | refine st1 ?_ | refine stW ?_) | ((with_reducible apply kP (.alloc _)); refine sA (fun b => ?_)) | ((with_reducible apply kP (.box _ _)); first | refine sBA (fun b => ?_) | refine sB (fun b => ?_)) | ((with_reducible apply kP (.buildSlice _ 1 _)); first | refine sl1A (fun b => ?_) | refine sl1 (fun b => ?_)) | ((with_reducible apply kP (.buildSlice _ 2 _)); refine sl2 (fun b => ?_)) | ((with_reducible apply kP (.buildSlice _ 3 _)); refine sl3 (fun b => ?_)) | ((with_reducible apply kP (.buildSlice _ 4 _)); refine sl4 (fun b => ?_)) | ((with_reducible apply kP (.buildSlice _ 0 _)); refine s_bs0 (scTOf rfl) (zsTOf rfl) (by decide) (fun b => ?_)) | ((with_reducible apply kP (.makeSlice _ _ _)); refine sMk (fun b => ?_)) | ((with_reducible apply kP (.call ⟨.builtin .append, _, _⟩)); refine sAp (fun oa2 c2 blk2 hrow2 => ?_)) | ((with_reducible apply kP _); refine sP ?_) | ((with_reducible apply kP _); refine sX ?_) | ((with_reducible apply kQG); first | refine qY1 ?_ | refine qN1 ?_ | refine qU1 ?_ | (refine qD1 (fun h => ?_) (fun h => ?_) <;> (try (exfalso; omega))) | refine qB1 (fun h => ?_) (fun h => ?_)) | ((with_reducible apply kQP); refine qP ?_) | ((with_reducible apply kQP); refine qX ?_) | ((with_reducible apply kC); first | refine cT ?_ | refine cF ?_ | (refine cI (fun h => ?_) (fun h => ?_) <;> (try (exfalso; omega))) | refine cB (fun h => ?_) (fun h => ?_)) | ((with_reducible apply kR); refine cQ ?_))
        exact e_ret2 rfl rfl rfl ⟨subA oa n 0 1, n, n, blk, ls S M, by rw [hv]; rfl, hlen, by omega, hS2, rfl, fun _ => ⟨q1, q2⟩, fun h => absurd hv h⟩ (.append (.refl _) (.cons _ (.refl _)))
  · refine fn_enter Try.func38 rfl Try.ntmps38 (by simp) ?_
    repeat' (first | ((with_reducible apply kF 28); refine sC 28 (kv _ hL hW) ?_) | (with_reducible first | refine c_seq ?_ | refine c_reg ?_ | refine c_region ?_ | refine c_block ?_ | refine c_skip ?_ | refine c_exit ?_ | refine c_ret ?_ | refine s_nil ?_ | refine x_then ?_ | refine x_then_exit ?_ | refine x_then_ret ?_ | refine x_block ?_ | refine x_block_ret ?_ | refine x_block_same ?_ | refine x_block_other (by rfl) ?_ | refine q_nil ?_ | refine k_nil ?_) | ((with_reducible apply kP (.makeFunc _ _ _)); refine sMF ?_) | ((with_reducible apply kG); first | refine gY1 ?_ | refine gN1 ?_ | refine gU1 ?_ | (refine gD1 (fun h => ?_) (fun h => ?_) <;> (try (exfalso; omega))) | refine gB1 (fun h => ?_) (fun h => ?_)) | ((with_reducible apply kN); first | refine stP ?_ | refine stI ?_ | refine st1 ?_ | refine stW ?_) | ((with_reducible apply kP (.alloc _)); refine sA (fun b => ?_)) | ((with_reducible apply kP (.box _ _)); first | refine sBA (fun b => ?_) | refine sB (fun b => ?_)) | ((with_reducible apply kP (.buildSlice _ 1 _)); first | refine sl1A (fun b => ?_) | refine sl1 (fun b => ?_)) | ((with_reducible apply kP (.buildSlice _ 2 _)); refine sl2 (fun b => ?_)) | ((with_reducible apply kP (.buildSlice _ 3 _)); refine sl3 (fun b => ?_)) | ((with_reducible apply kP (.buildSlice _ 4 _)); refine sl4 (fun b => ?_)) | ((with_reducible apply kP (.buildSlice _ 0 _)); refine s_bs0 (scTOf rfl) (zsTOf rfl) (by decide) (fun b => ?_)) | ((with_reducible apply kP (.makeSlice _ _ _)); refine sMk (fun b => ?_)) | ((with_reducible apply kP (.call ⟨.builtin .append, _, _⟩)); refine sAp (fun oa2 c2 blk2 hrow2 => ?_)) | ((with_reducible apply kP _); refine sP ?_) | ((with_reducible apply kP _); refine sX ?_) | ((with_reducible apply kQG); first | refine qY1 ?_ | refine qN1 ?_ | refine qU1 ?_ | (refine qD1 (fun h => ?_) (fun h => ?_) <;> (try (exfalso; omega))) | refine qB1 (fun h => ?_) (fun h => ?_)) | ((with_reducible apply kQP); refine qP ?_) | ((with_reducible apply kQP); refine qX ?_) | ((with_reducible apply kC); first | refine cT ?_ | refine cF ?_ | (refine cI (fun h => ?_) (fun h => ?_) <;> (try (exfalso; omega))) | refine cB (fun h => ?_) (fun h => ?_)) | ((with_reducible apply kR); refine cQ ?_))
    exact e_ret2 rfl rfl rfl ⟨none, 0, 0, [], [], rfl, rfl, Nat.zero_le _, fun i hi => absurd hi (Nat.not_lt_zero i), rfl, fun h => absurd h hv, fun _ => rfl⟩ (.refl _)
end Go.Proofs.Ytbplmoidgobcpaa
