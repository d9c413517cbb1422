/- The table is filled: what it holds (plain). -/
import Derived.Test.YtphobgibcpmgdaaMD9
namespace Go.Proofs.Ytphobgibcpmgdaa
open Go.RowKit

theorem fw_ind {sv : Int → FS → Int × FS} (I : Int → FS → Prop) (step : ∀ L t, I L t → 0 < L → I (L - (sv L t).1) (sv L t).2) : ∀ f L t, I L t → I (fw sv f L t).1 (fw sv f L t).2
  | 0, L, t, h => h
  | f + 1, L, t, h => by
    unfold fw
    by_cases h0 : 0 < L
    · rw [if_pos h0]
      have h1 := step L t h h0
      by_cases h2 : (sv L t).1 = 0
      · rw [if_pos h2]
        rwa [h2, Int.sub_zero] at h1
      · rw [if_neg h2]
        exact fw_ind I step f _ _ h1
    · rw [if_neg h0]; exact h
theorem fw_end {sv : Int → FS → Int × FS} (I : Int → FS → Prop) (step : ∀ L t, I L t → 0 < L → I (L - (sv L t).1) (sv L t).2) (hlo : ∀ L t, I L t → 0 < L → 0 ≤ (sv L t).1) : ∀ (f : Nat) L t, I L t → L ≤ f → (fw sv f L t).1 ≤ 0 ∨ ∃ L' t', I L' t' ∧ 0 < L' ∧ (sv L' t').1 = 0 ∧ fw sv f L t = (L', (sv L' t').2)
  | 0, L, t, h, hf => .inl (by unfold fw; simp only; omega)
  | f + 1, L, t, h, hf => by
    unfold fw
    by_cases h0 : 0 < L
    · rw [if_pos h0]
      have h1 := step L t h h0
      have h3 := hlo L t h h0
      by_cases h2 : (sv L t).1 = 0
      · rw [if_pos h2]
        exact .inr ⟨L, t, h, h0, h2, rfl⟩
      · rw [if_neg h2]
        exact fw_end I step hlo f _ _ h1 (by omega)
    · rw [if_neg h0]; exact .inl (by simp only; omega)
/-! ### Sums -/
theorem sumTo_swap (F : Nat → Nat → Int) (n : Nat) : ∀ m, sumTo (fun i => sumTo (F i) n) m = sumTo (fun k => sumTo (fun i => F i k) m) n
  | 0 => by
    show (0 : Int) = _
    exact (sumTo_zero n fun _ _ => rfl).symm
  | m + 1 => by
    rw [sumTo_succ, sumTo_swap F n m, ← sumTo_add]
    exact sumTo_congr n fun k _ => (sumTo_succ (fun i => F i k) m).symm
theorem sumTo_mono {F G : Nat → Int} : ∀ n, (∀ i, i < n → F i ≤ G i) → sumTo F n ≤ sumTo G n
  | 0, _ => Int.le_refl _
  | n + 1, h => by
    rw [sumTo_succ, sumTo_succ]
    have := sumTo_mono n (fun i hi => h i (by omega))
    have := h n (by omega)
    omega
theorem sumTo_tight {F G : Nat → Int} : ∀ n, (∀ i, i < n → F i ≤ G i) → sumTo G n ≤ sumTo F n → ∀ i, i < n → F i = G i
  | n + 1, h, he, i, hi => by
    rw [sumTo_succ, sumTo_succ] at he
    have h1 := sumTo_mono n (fun i hi => h i (by omega))
    have h2 := h n (by omega)
    by_cases e : i = n
    · subst e; omega
    · exact sumTo_tight n (fun i hi => h i (by omega)) (by omega) i (by omega)
/-! ### What a table keeps -/
structure Fed (N M : Nat) (nr : Nat → Nat → Bool) (a b : Nat → Int) (lk : Nat → Int) (t : FS) : Prop where
  ok : t.Ok N M
  lot : ∀ k, k < N → t.s k + sumTo (fun o => t.g o k) M = a k
  want : ∀ o, o < M → sumTo (t.g o) N + lk o = b o
  lk : ∀ o, o < M → 0 ≤ lk o
  near : ∀ o k, o < M → k < N → t.g o k ≠ 0 → nr k o = true
section
variable {N M : Nat} {nr : Nat → Nat → Bool} {a b : Nat → Int} {lk : Nat → Int} {t t' : FS} {S : Nat → Bool}
theorem Fed.step (h : Fed N M nr a b lk t) {i : Nat} {m : Int} (hi : i < M) (hr : Res N M nr i (lk i) ⟨t.g, t.s, fun _ => false⟩ t' m) : Fed N M nr a b (upI lk i (lk i - m)) t' := by
  refine ⟨hr.ok, fun k hk => (hr.lot k hk).trans (h.lot k hk), fun o ho => ?_, fun o ho => ?_, fun o k ho hk hg => ?_⟩
  · have h1 := hr.want o ho
    have h2 := h.want o ho
    unfold upI
    by_cases e : o = i
    · subst e; rw [if_pos rfl] at h1 ⊢; simp only at h1; omega
    · rw [if_neg e] at h1 ⊢; simp only at h1; omega
  · have h1 := hr.hi
    have h2 := h.lk o ho
    unfold upI
    split
    · omega
    · exact h2
  · rcases hr.near o k ho hk hg with h1 | h1
    · exact h.near o k ho hk h1
    · exact h1
def nrS (M : Nat) (nr : Nat → Nat → Bool) (S : Nat → Bool) (k : Nat) : Bool := (List.range M).any fun i => S i && nr k i
theorem nrS_to {k : Nat} : nrS M nr S k = true ↔ ∃ i, i < M ∧ S i = true ∧ nr k i = true := by
  unfold nrS
  rw [List.any_eq_true]
  constructor
  · rintro ⟨i, hi, h⟩
    rw [Bool.and_eq_true] at h
    exact ⟨i, List.mem_range.1 hi, h.1, h.2⟩
  · rintro ⟨i, hi, h1, h2⟩
    exact ⟨i, List.mem_range.2 hi, by rw [h1, h2]; rfl⟩
def inS (S : Nat → Bool) (o : Nat) (x : Int) : Int := if S o = true then x else 0
def outS (S : Nat → Bool) (o : Nat) (x : Int) : Int := if S o = true then 0 else x
theorem inS_t {S : Nat → Bool} {o : Nat} {x : Int} (h : S o = true) : inS S o x = x := if_pos h
theorem inS_f {S : Nat → Bool} {o : Nat} {x : Int} (h : ¬ S o = true) : inS S o x = 0 := if_neg h
/-- Nothing leads out of the set. -/
def Cl (N M : Nat) (nr : Nat → Nat → Bool) (S : Nat → Bool) (t : FS) : Prop := ∀ i, i < M → S i = true → ∀ k, k < N → nr k i = true → t.s k ≤ 0 ∧ ∀ o, o < M → t.g o k ≠ 0 → S o = true
theorem col_le (h : Fed N M nr a b lk t) {k : Nat} (hk : k < N) : sumTo (fun o => inS S o (t.g o k)) M ≤ inS (nrS M nr S) k (a k) := by
  have h1 := h.lot k hk
  have h2 := h.ok k hk
  by_cases e : nrS M nr S k = true
  · rw [inS_t e]
    have : sumTo (fun o => inS S o (t.g o k)) M ≤ sumTo (fun o => t.g o k) M := sumTo_mono M fun o ho => by
      have := h2.2 o ho
      unfold inS
      split <;> omega
    omega
  · rw [inS_f e]
    have : sumTo (fun o => inS S o (t.g o k)) M = 0 := sumTo_zero M fun o ho => by
      by_cases e2 : S o = true
      · rw [inS_t e2]
        by_cases e3 : t.g o k = 0
        · exact e3
        · exact absurd (nrS_to.2 ⟨o, ho, e2, h.near o k ho hk e3⟩) e
      · rw [inS_f e2]
    omega
theorem set_sum : sumTo (fun o => inS S o (sumTo (t.g o) N)) M = sumTo (fun k => sumTo (fun o => inS S o (t.g o k)) M) N := by
  rw [← sumTo_swap (fun o k => inS S o (t.g o k))]
  refine sumTo_congr M fun o _ => ?_
  unfold inS
  by_cases e : S o = true
  · rw [if_pos e]
    exact sumTo_congr N fun k _ => (if_pos e).symm
  · rw [if_neg e]
    exact (sumTo_zero N fun k _ => if_neg e).symm
theorem set_le (h : Fed N M nr a b lk t) : sumTo (fun o => inS S o (sumTo (t.g o) N)) M ≤ sumTo (fun k => inS (nrS M nr S) k (a k)) N := by
  rw [set_sum]
  exact sumTo_mono N fun k hk => col_le h hk
theorem set_eq (h : Fed N M nr a b lk t) (hc : Cl N M nr S t) : sumTo (fun o => inS S o (sumTo (t.g o) N)) M = sumTo (fun k => inS (nrS M nr S) k (a k)) N := by
  rw [set_sum]
  refine sumTo_congr N fun k hk => ?_
  have h1 := h.lot k hk
  have h2 := h.ok k hk
  by_cases e : nrS M nr S k = true
  · obtain ⟨i, hi, hs, hn⟩ := nrS_to.1 e
    obtain ⟨h3, h4⟩ := hc i hi hs k hk hn
    rw [inS_t e]
    have : sumTo (fun o => inS S o (t.g o k)) M = sumTo (fun o => t.g o k) M := sumTo_congr M fun o ho => by
      by_cases e2 : S o = true
      · rw [inS_t e2]
      · rw [inS_f e2]
        by_cases e3 : t.g o k = 0
        · exact e3.symm
        · exact absurd (h4 o ho e3) e2
    omega
  · have h3 := col_le (S := S) h hk
    have h4 : 0 ≤ sumTo (fun o => inS S o (t.g o k)) M := sumTo_nonneg M fun o ho => by
      have := h2.2 o ho
      unfold inS
      split <;> omega
    have h5 : inS (nrS M nr S) k (a k) = 0 := inS_f e
    omega
theorem cl_of_eq (h : Fed N M nr a b lk t) (he : sumTo (fun k => inS (nrS M nr S) k (a k)) N ≤ sumTo (fun o => inS S o (sumTo (t.g o) N)) M) : Cl N M nr S t := by
  rw [set_sum] at he
  intro i hi hs k hk hn
  have h1 := sumTo_tight N (fun k hk => col_le h hk) he k hk
  have h2 := h.lot k hk
  have h3 := h.ok k hk
  have e : nrS M nr S k = true := nrS_to.2 ⟨i, hi, hs, hn⟩
  have h5 : inS (nrS M nr S) k (a k) = a k := inS_t e
  rw [h5] at h1
  have hle : ∀ o, o < M → inS S o (t.g o k) ≤ t.g o k := fun o ho => by
    have := h3.2 o ho
    unfold inS
    split <;> omega
  have h6 : sumTo (fun o => inS S o (t.g o k)) M ≤ sumTo (fun o => t.g o k) M := sumTo_mono M hle
  refine ⟨by omega, fun o ho hg => ?_⟩
  have h7 := sumTo_tight M hle (by omega) o ho
  unfold inS at h7
  by_cases e2 : S o = true
  · exact e2
  · rw [if_neg e2] at h7; exact absurd h7.symm hg
theorem sum_put1 {F G : Nat → Int} {i : Nat} {m : Int} {n : Nat} (h : ∀ o, o < n → G o = F o + if o = i then m else 0) : sumTo G n = sumTo F n + if i < n then m else 0 := by
  rw [sumTo_congr (G := fun o => F o + if o = i then m else 0) n h, sumTo_add, sumTo_put (fun _ => 0) i m n]
  rw [sumTo_zero n fun _ _ => rfl]
  by_cases e : i < n
  · rw [if_pos e, if_pos e]; omega
  · rw [if_neg e, if_neg e]; omega
/-- A closed set stays closed. -/
theorem Cl.step (h : Fed N M nr a b lk t) (hc : Cl N M nr S t) {i : Nat} {m : Int} (hi : i < M) (hr : Res N M nr i (lk i) ⟨t.g, t.s, fun _ => false⟩ t' m) : Cl N M nr S t' := by
  have h' := h.step hi hr
  have e1 := set_eq h hc
  have e2 := set_le (S := S) h'
  have e3 : sumTo (fun o => inS S o (sumTo (t'.g o) N)) M = sumTo (fun o => inS S o (sumTo (t.g o) N)) M + if i < M then (if S i = true then m else 0) else 0 := sum_put1 fun o ho => by
    have := hr.want o ho
    unfold inS
    by_cases e : o = i
    · subst e
      rw [if_pos rfl] at this ⊢
      split <;> omega
    · rw [if_neg e] at this ⊢
      split <;> omega
  rw [if_pos hi] at e3
  have h0 := hr.lo
  refine cl_of_eq h' ?_
  by_cases e : S i = true
  · rw [if_pos e] at e3; omega
  · rw [if_neg e] at e3; omega
/-- A failed search leaves a closed set. -/
theorem Cl.fail {i : Nat} {n m : Int} (hr : Res N M nr i n ⟨t.g, t.s, fun _ => false⟩ t' m) (hm : m = 0) : Cl N M nr t'.md t' := by
  obtain ⟨e1, e2⟩ := hr.same (by omega)
  intro j hj hs k hk hn
  rcases hr.cl (by omega) j hj hs with h | h
  · cases h
  · rw [e1, e2]
    exact h k hk hn
/-- What lacks something lies in a closed set. -/
def Lk (N M : Nat) (nr : Nat → Nat → Bool) (lk : Nat → Int) (t : FS) (o : Nat) : Prop := lk o ≤ 0 ∨ ∃ S, Cl N M nr S t ∧ S o = true
theorem Lk.step (h : Fed N M nr a b lk t) {i o : Nat} {m : Int} (ho : o ≠ i) (hl : Lk N M nr lk t o) (hi : i < M) (hr : Res N M nr i (lk i) ⟨t.g, t.s, fun _ => false⟩ t' m) : Lk N M nr (upI lk i (lk i - m)) t' o := by
  rcases hl with h1 | ⟨S, h1, h2⟩
  · exact .inl (by unfold upI; rw [if_neg ho]; exact h1)
  · exact .inr ⟨S, h1.step h hi hr, h2⟩
/-- The whole filling. -/
theorem ff_fed (hb : ∀ o, o < M → b o ≤ 1000) : ∀ d lk t, d ≤ M → Fed N M nr a b lk t → (∀ o, o < M - d → Lk N M nr lk t o) →
    Fed N M nr a b (ff M (srv N M nr) d lk t).1 (ff M (srv N M nr) d lk t).2 ∧ ∀ o, o < M → Lk N M nr (ff M (srv N M nr) d lk t).1 (ff M (srv N M nr) d lk t).2 o
  | 0, lk, t, _, h, hl => ⟨h, fun o ho => hl o (by omega)⟩
  | d + 1, lk, t, hd, h, hl => by
    unfold ff
    generalize hi : M - (d + 1) = i
    have hiM : i < M := by omega
    have hI : ∀ L t', Fed N M nr a b (upI lk i L) t' ∧ (∀ o, o < i → Lk N M nr (upI lk i L) t' o) → 0 < L → Res N M nr i L ⟨t'.g, t'.s, fun _ => false⟩ (srv N M nr i L t').2 (srv N M nr i L t').1 := fun L t' h h0 => r_srv hiM h.1.ok h0
    have step : ∀ L t', Fed N M nr a b (upI lk i L) t' ∧ (∀ o, o < i → Lk N M nr (upI lk i L) t' o) → 0 < L →
        Fed N M nr a b (upI lk i (L - (srv N M nr i L t').1)) (srv N M nr i L t').2 ∧ ∀ o, o < i → Lk N M nr (upI lk i (L - (srv N M nr i L t').1)) (srv N M nr i L t').2 o := fun L t' h h0 => by
      have hr := hI L t' h h0
      have e : upI lk i L i = L := upI_at _ _ _
      have h1 := h.1.step hiM (m := (srv N M nr i L t').1) (t' := (srv N M nr i L t').2) (by rw [e]; exact hr)
      rw [e, upI_upI] at h1
      refine ⟨h1, fun o ho => ?_⟩
      have h2 := Lk.step h.1 (show o ≠ i by omega) (h.2 o ho) hiM (m := (srv N M nr i L t').1) (t' := (srv N M nr i L t').2) (by rw [e]; exact hr)
      rwa [e, upI_upI] at h2
    have start : Fed N M nr a b (upI lk i (lk i)) t ∧ ∀ o, o < i → Lk N M nr (upI lk i (lk i)) t o := by
      rw [upI_self]
      exact ⟨h, fun o ho => hl o (by omega)⟩
    have hlk : lk i ≤ 1000 := by
      have h1 := h.want i hiM
      have h2 := hb i hiM
      have h3 := sumTo_nonneg N (F := t.g i) (fun k hk => (h.ok k hk).2 i hiM)
      omega
    have hfin := fw_ind (sv := srv N M nr i) (fun L t' => Fed N M nr a b (upI lk i L) t' ∧ ∀ o, o < i → Lk N M nr (upI lk i L) t' o) step 1000 (lk i) t start
    have hend := fw_end (sv := srv N M nr i) (fun L t' => Fed N M nr a b (upI lk i L) t' ∧ ∀ o, o < i → Lk N M nr (upI lk i L) t' o) step (fun L t' h h0 => (hI L t' h h0).lo) 1000 (lk i) t start (by omega)
    refine ff_fed hb d _ _ (by omega) hfin.1 fun o ho => ?_
    by_cases e : o = i
    · subst e
      rcases hend with h1 | ⟨L, t', h1, h2, h3, h4⟩
      · exact .inl (by rw [upI_at]; exact h1)
      · rw [h4]
        have hr := hI L t' h1 h2
        exact .inr ⟨_, Cl.fail hr h3, hr.own⟩
    · exact hfin.2 o (by omega)
/-! ### Bounds -/
def tot (N M : Nat) (t : FS) : Int := sumTo (fun o => sumTo (t.g o) N) M
def bndS (N M : Nat) (nr : Nat → Nat → Bool) (a b : Nat → Int) (S : Nat → Bool) : Int := sumTo (fun o => outS S o (b o)) M + sumTo (fun k => inS (nrS M nr S) k (a k)) N
theorem tot_split : tot N M t = sumTo (fun o => outS S o (sumTo (t.g o) N)) M + sumTo (fun o => inS S o (sumTo (t.g o) N)) M := by
  unfold tot
  rw [← sumTo_add]
  refine sumTo_congr M fun o _ => ?_
  unfold outS inS
  split <;> omega
theorem tot_le (h : Fed N M nr a b lk t) (S : Nat → Bool) : tot N M t ≤ bndS N M nr a b S := by
  rw [tot_split (S := S)]
  unfold bndS
  have h1 := set_le (S := S) h
  have h2 : sumTo (fun o => outS S o (sumTo (t.g o) N)) M ≤ sumTo (fun o => outS S o (b o)) M := sumTo_mono M fun o ho => by
    have h1 := h.want o ho
    have h2 := h.lk o ho
    unfold outS
    split <;> omega
  omega
theorem tot_eq (h : Fed N M nr a b lk t) (hc : Cl N M nr S t) (hl : ∀ o, o < M → S o = true ∨ lk o ≤ 0) : tot N M t = bndS N M nr a b S := by
  rw [tot_split (S := S), set_eq h hc]
  unfold bndS
  congr 1
  refine sumTo_congr M fun o ho => ?_
  have h1 := h.want o ho
  have h2 := h.lk o ho
  unfold outS
  rcases hl o ho with h3 | h3
  · rw [if_pos h3, if_pos h3]
  · split <;> omega
theorem Cl.union {ι : Type} {F : ι → Nat → Bool} (h : ∀ j, Cl N M nr (F j) t) (S : Nat → Bool) (hS : ∀ o, S o = true ↔ ∃ j, F j o = true) : Cl N M nr S t := by
  intro i hi hs k hk hn
  obtain ⟨j, hj⟩ := (hS i).1 hs
  obtain ⟨h1, h2⟩ := h j i hi hj k hk hn
  exact ⟨h1, fun o ho hg => (hS o).2 ⟨j, h2 o ho hg⟩⟩
theorem tot_meets (h : Fed N M nr a b lk t) (hl : ∀ o, o < M → Lk N M nr lk t o) : ∃ S, tot N M t = bndS N M nr a b S := by
  classical
  refine ⟨fun o => decide (∃ S', Cl N M nr S' t ∧ S' o = true), tot_eq h (Cl.union (ι := {S' // Cl N M nr S' t}) (F := fun j => j.1) (fun j => j.2) _ fun o => ?_) fun o ho => ?_⟩
  · rw [decide_eq_true_iff]
    exact ⟨fun ⟨S', h1, h2⟩ => ⟨⟨S', h1⟩, h2⟩, fun ⟨j, hj⟩ => ⟨j.1, j.2, hj⟩⟩
  · rcases hl o ho with h1 | ⟨S, h1, h2⟩
    · exact .inr h1
    · exact .inl (decide_eq_true ⟨S, h1, h2⟩)
end
/-- A valid trade's table. -/
theorem fed_start {N M : Nat} {lz wz : List Int} (hv : vlE N M lz wz = 0) : Fed N M (nrF lz wz) (wt 4 lz) (wt 5 wz) (wt 5 wz) ⟨z0, wt 4 lz, fun _ => false⟩ ∧ (∀ k, k < N → 0 ≤ wt 4 lz k ∧ wt 4 lz k ≤ 1000) ∧ (∀ o, o < M → 0 ≤ wt 5 wz o ∧ wt 5 wz o ≤ 1000) ∧ N ≤ 6 ∧ M ≤ 6 := by
  unfold vlE at hv
  by_cases h1 : 6 < N ∨ 6 < M
  · rw [if_pos h1] at hv; cases hv
  · rw [if_neg h1] at hv
    by_cases h2 : allB (lotB lz) N = true ∧ allB (wntB wz) M = true
    · have a1 : ∀ k, k < N → 0 ≤ wt 4 lz k ∧ wt 4 lz k ≤ 1000 := fun k hk => by
        have := allB_to.1 h2.1 k hk
        unfold lotB at this
        rw [Bool.and_eq_true] at this
        exact wB_to.1 this.2
      have a2 : ∀ k, k < M → 0 ≤ wt 5 wz k ∧ wt 5 wz k ≤ 1000 := fun k hk => by
        have := allB_to.1 h2.2 k hk
        unfold wntB at this
        rw [Bool.and_eq_true, Bool.and_eq_true] at this
        exact wB_to.1 this.1.2
      refine ⟨⟨fun k hk => ⟨(a1 k hk).1, fun _ _ => Int.le_refl _⟩, fun k hk => ?_, fun o ho => ?_, fun o ho => (a2 o ho).1, fun o k _ _ h => absurd rfl h⟩, a1, a2, by omega, by omega⟩
      · show wt 4 lz k + sumTo (fun _ => 0) M = _
        rw [sumTo_z]; omega
      · show sumTo (fun _ => 0) N + _ = _
        rw [sumTo_z]; omega
    · rw [if_neg h2] at hv; cases hv
theorem fill_fed {N M : Nat} {lz wz : List Int} (hv : vlE N M lz wz = 0) : Fed N M (nrF lz wz) (wt 4 lz) (wt 5 wz) (fillR N M lz wz).1 (fillR N M lz wz).2 ∧ ∀ o, o < M → Lk N M (nrF lz wz) (fillR N M lz wz).1 (fillR N M lz wz).2 o := by
  obtain ⟨h1, _, h3, _⟩ := fed_start hv
  exact ff_fed (fun o ho => (h3 o ho).2) M _ _ (Nat.le_refl _) h1 fun o ho => by omega
end Go.Proofs.Ytphobgibcpmgdaa
