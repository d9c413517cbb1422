/- Numbers in ascending order, by exchanges; sorted of the law. -/
import Derived.Test.YtnbickholedckaaMB7
import Derived.Test.YtnbickholedckaaMB4
import Derived.Test.YtnbickholedckaaMC79
namespace Go.Proofs.Ytnbickholedckaa
open Go.RowKit
def swL (l : List Int) (i k : Nat) : List Int := if l.getD i 0 < l.getD k 0 then (l.set i (l.getD k 0)).set k (l.getD i 0) else l
def inL (l : List Int) (i : Nat) : Nat → List Int
  | 0 => l
  | k + 1 => swL (inL l i k) i k
def soL (l : List Int) : Nat → List Int
  | 0 => l
  | i + 1 => inL (soL l i) i i
theorem swL_len (l : List Int) (i k : Nat) : (swL l i k).length = l.length := by
  unfold swL
  split
  · rw [List.length_set, List.length_set]
  · rfl
theorem inL_len (l : List Int) (i : Nat) : ∀ k, (inL l i k).length = l.length
  | 0 => rfl
  | k + 1 => (swL_len _ _ _).trans (inL_len l i k)
theorem soL_len (l : List Int) : ∀ i, (soL l i).length = l.length
  | 0 => rfl
  | i + 1 => (inL_len _ _ _).trans (soL_len l i)
theorem set_count {l : List Int} {i : Nat} (v a : Int) (h : i < l.length) : (l.set i v).count a + (if l.getD i 0 = a then 1 else 0) = l.count a + (if v = a then 1 else 0) := by
  induction l generalizing i with
  | nil => simp at h
  | cons x l ih =>
    cases i with
    | zero =>
      simp only [List.set_cons_zero, List.count_cons, List.getD_cons_zero, beq_iff_eq]
      omega
    | succ i =>
      have := ih (i := i) (by simpa using h)
      simp only [List.set_cons_succ, List.count_cons, List.getD_cons_succ]
      omega
theorem swL_perm {l : List Int} {i k : Nat} (hi : i < l.length) (hk : k < l.length) : (swL l i k).Perm l := by
  unfold swL
  split
  · rw [List.perm_iff_count]
    intro a
    have h1 := set_count (l.getD k 0) a hi
    have h2 := set_count (l := l.set i (l.getD k 0)) (i := k) (l.getD i 0) a (by rw [List.length_set]; exact hk)
    rw [getD_set hi] at h2
    by_cases e : k = i
    · rw [if_pos e] at h2
      omega
    · rw [if_neg e] at h2
      omega
  · exact .refl _
theorem inL_perm {l : List Int} {i : Nat} (hi : i < l.length) : ∀ k, k ≤ i → (inL l i k).Perm l
  | 0, _ => .refl _
  | k + 1, h => (swL_perm (by rw [inL_len]; exact hi) (by rw [inL_len]; omega)).trans (inL_perm hi k (by omega))
theorem soL_perm {l : List Int} : ∀ i, i ≤ l.length → (soL l i).Perm l
  | 0, _ => .refl _
  | i + 1, h => (inL_perm (by rw [soL_len]; omega) i (Nat.le_refl _)).trans (soL_perm i (by omega))
theorem swL_at {l : List Int} {i k : Nat} (hi : i < l.length) (hk : k < i) (j : Nat) : (swL l i k).getD j 0 = if j = k then min (l.getD i 0) (l.getD k 0) else if j = i then max (l.getD i 0) (l.getD k 0) else l.getD j 0 := by
  unfold swL
  split
  · rename_i h
    rw [getD_set (by rw [List.length_set]; omega), getD_set hi]
    split
    · omega
    · split
      · omega
      · rfl
  · split
    · rename_i h h2; rw [h2]; omega
    · split
      · rename_i h h2 h3; rw [h3]; omega
      · rfl
/-- The first i are in order. -/
def AscT (l : List Int) (i : Nat) : Prop := ∀ a b, a < b → b < i → l.getD a 0 ≤ l.getD b 0
theorem inL_at {l : List Int} {i : Nat} (hi : i < l.length) (h : AscT l i) : ∀ k, k ≤ i →
    (∀ a b, a < b → b < k → (inL l i k).getD a 0 ≤ (inL l i k).getD b 0) ∧ (∀ a, a < k → (inL l i k).getD a 0 ≤ (inL l i k).getD i 0 ∧ (inL l i k).getD a 0 ≤ l.getD a 0) ∧ (∀ a, k ≤ a → a < i → (inL l i k).getD a 0 = l.getD a 0)
  | 0, _ => ⟨fun _ _ _ h => absurd h (Nat.not_lt_zero _), fun _ h => absurd h (Nat.not_lt_zero _), fun _ _ _ => rfl⟩
  | k + 1, hk => by
    obtain ⟨h1, h2, h3⟩ := inL_at hi h k (by omega)
    have e := swL_at (l := inL l i k) (i := i) (k := k) (by rw [inL_len]; exact hi) (by omega)
    have hk3 := h3 k (Nat.le_refl _) (by omega)
    show (∀ a b, a < b → b < k + 1 → (swL (inL l i k) i k).getD a 0 ≤ (swL (inL l i k) i k).getD b 0) ∧ (∀ a, a < k + 1 → (swL (inL l i k) i k).getD a 0 ≤ (swL (inL l i k) i k).getD i 0 ∧ (swL (inL l i k) i k).getD a 0 ≤ l.getD a 0) ∧ (∀ a, k + 1 ≤ a → a < i → (swL (inL l i k) i k).getD a 0 = l.getD a 0)
    refine ⟨fun a b hab hb => ?_, fun a ha => ?_, fun a ha hai => ?_⟩
    · rw [e a, e b, if_neg (by omega), if_neg (by omega)]
      by_cases hbk : b = k
      · rw [if_pos hbk]
        obtain ⟨g1, g2⟩ := h2 a (by omega)
        have := h a k (by omega) (by omega)
        omega
      · rw [if_neg hbk, if_neg (by omega)]
        exact h1 a b hab (by omega)
    · rw [e a, e i, if_neg (by omega : ¬ i = k), if_pos rfl]
      by_cases hak : a = k
      · rw [if_pos hak, hak]
        omega
      · rw [if_neg hak, if_neg (by omega)]
        obtain ⟨g1, g2⟩ := h2 a (by omega)
        omega
    · rw [e a, if_neg (by omega), if_neg (by omega)]
      exact h3 a (by omega) hai
theorem soL_asc {l : List Int} : ∀ i, i ≤ l.length → AscT (soL l i) i
  | 0, _ => fun _ _ _ h => absurd h (Nat.not_lt_zero _)
  | i + 1, h => fun a b hab hb => by
    have ih := soL_asc i (by omega : i ≤ l.length)
    obtain ⟨h1, h2, _⟩ := inL_at (l := soL l i) (i := i) (by rw [soL_len]; omega) ih i (Nat.le_refl _)
    show (inL (soL l i) i i).getD a 0 ≤ (inL (soL l i) i i).getD b 0
    by_cases hbi : b = i
    · rw [hbi]; exact (h2 a (by omega)).1
    · exact h1 a b hab (by omega)
/-- Lists of the same numbers are the same in order. -/
theorem soL_eq {l l' : List Int} (h : l.Perm l') : soL l l.length = soL l' l'.length := by
  have pw : ∀ l : List Int, (soL l l.length).Pairwise (· ≤ ·) := fun l => by
    rw [List.pairwise_iff_getElem]
    intro a b ha hb hab
    have := soL_asc l.length (Nat.le_refl _) a b hab (by rw [soL_len] at hb; exact hb)
    rwa [List.getD_eq_getElem?_getD, List.getD_eq_getElem?_getD, List.getElem?_eq_getElem ha, List.getElem?_eq_getElem hb] at this
  exact List.Perm.eq_of_pairwise (fun a b _ _ h1 h2 => Int.le_antisymm h1 h2) (pw l) (pw l') (((soL_perm l.length (Nat.le_refl _)).trans h).trans (soL_perm l'.length (Nat.le_refl _)).symm)
attribute [local irreducible] OpF Ld CellAt Sl Sv pcA usP
set_option maxRecDepth 100000 in
set_option maxHeartbeats 8000000 in
theorem k_sorted (oa : Option Addr) (c : Nat) (l : List Int) (hl : l.length ≤ 100) (B : Nat) (w0 : Wd) (hs : HS) (h1 : Sl B w0 hs oa l) :
    Fn Try.prog 50 #[.slice oa l.length c] B w0 hs (fun v h => ∃ oa' c' blk, RowOk oa' c' 1 (ivs (soL l l.length)) blk ∧ v = .slice oa' l.length c' ∧ h = blk ++ hs) := by
  have kc := fun hs' (h : hs.Sublist hs') => r_copyInts oa c l (by omega) B w0 hs' (h1.sub h)
  by_cases hl0 : l.length = 0
  · obtain rfl : l = [] := List.length_eq_zero_iff.1 hl0
    refine fn_enter Try.func50 rfl Try.ntmps50 (by simp) ?_
    repeat' (first | ((with_reducible apply kF 86); refine sR 86 (kc _ SBt) ?_; rintro v7 h7 ⟨blk7, ⟨o7, c7, rfl, hr7⟩, rfl⟩) | ((with_reducible apply kRg 9); refine cD [1, 1, 0, 0, 1, 1, 1, 1, 1, 1, 1, 1, 1, 3, 1, 4] ?_) | (with_reducible first | refine c_seq ?_ | refine c_reg ?_ | refine c_region ?_ | refine c_block ?_ | refine c_skip ?_ | refine c_exit ?_ | refine c_ret ?_ | refine s_nil ?_ | refine x_then ?_ | refine x_then_exit ?_ | refine x_then_ret ?_ | refine x_block ?_ | refine x_block_ret ?_ | refine x_block_same ?_ | refine x_block_other (by first | rfl | decide) ?_ | refine q_nil ?_ | refine k_nil ?_) | ((with_reducible apply kP _); refine sP ?_) | ((with_reducible apply kP _); refine sX ?_) | ((with_reducible apply kQP); refine qP ?_) | ((with_reducible apply kQP); refine qX ?_) | ((with_reducible apply kC); first | refine cT ?_ | refine cF ?_ | (refine cI (fun h => ?_) (fun h => ?_) <;> (try (exfalso; omega))) | refine cB (fun h => ?_) (fun h => ?_)) | ((with_reducible apply kR); refine cQ ?_) | ((with_reducible apply kDN); first | refine dtI ?_ | refine dt1 ?_ | refine dtW ?_) | ((with_reducible apply kDP _); refine dP ?_) | ((with_reducible apply kDP _); refine dX ?_))
    refine c_loop (fun i : Nat => [(3, .slice o7 (([] : List Int).length) c7), (4, iv i)]) (fun _ => blk7 ++ hs) (fun i => i = 0) (fun i => 0) 0 rfl (by repeat' first | trivial | rfl | apply And.intro) (.refl _) ?_
    rintro i rfl
    repeat' (first | ((with_reducible apply kRg 9); refine cD [1, 1, 0, 0, 1, 1, 1, 1, 1, 1, 1, 1, 1, 3, 1, 4] ?_) | (with_reducible first | refine c_seq ?_ | refine c_reg ?_ | refine c_region ?_ | refine c_block ?_ | refine c_skip ?_ | refine c_exit ?_ | refine c_ret ?_ | refine s_nil ?_ | refine x_then ?_ | refine x_then_exit ?_ | refine x_then_ret ?_ | refine x_block ?_ | refine x_block_ret ?_ | refine x_block_same ?_ | refine x_block_other (by first | rfl | decide) ?_ | refine q_nil ?_ | refine k_nil ?_) | ((with_reducible apply kP _); refine sP ?_) | ((with_reducible apply kP _); refine sX ?_) | ((with_reducible apply kQP); refine qP ?_) | ((with_reducible apply kQP); refine qX ?_) | ((with_reducible apply kC); first | refine cT ?_ | refine cF ?_ | (refine cI (fun h => ?_) (fun h => ?_) <;> (try (exfalso; omega))) | refine cB (fun h => ?_) (fun h => ?_)) | ((with_reducible apply kR); refine cQ ?_) | ((with_reducible apply kDN); first | refine dtI ?_ | refine dt1 ?_ | refine dtW ?_) | ((with_reducible apply kDP _); refine dP ?_) | ((with_reducible apply kDP _); refine dX ?_))
    all_goals first
      | (exfalso; simp only [List.length_nil] at *; omega)
      | exact e_ret1 rfl rfl ⟨o7, c7, blk7, hr7, rfl, rfl⟩ (.refl _)
  · refine fn_enter Try.func50 rfl Try.ntmps50 (by simp) ?_
    repeat' (first | ((with_reducible apply kF 86); refine sR 86 (kc _ SBt) ?_; rintro v7 h7 ⟨blk7, ⟨o7, c7, rfl, hr7⟩, rfl⟩) | ((with_reducible apply kRg 9); refine cD [1, 1, 0, 0, 1, 1, 1, 1, 1, 1, 1, 1, 1, 3, 1, 4] ?_) | (with_reducible first | refine c_seq ?_ | refine c_reg ?_ | refine c_region ?_ | refine c_block ?_ | refine c_skip ?_ | refine c_exit ?_ | refine c_ret ?_ | refine s_nil ?_ | refine x_then ?_ | refine x_then_exit ?_ | refine x_then_ret ?_ | refine x_block ?_ | refine x_block_ret ?_ | refine x_block_same ?_ | refine x_block_other (by first | rfl | decide) ?_ | refine q_nil ?_ | refine k_nil ?_) | ((with_reducible apply kP _); refine sP ?_) | ((with_reducible apply kP _); refine sX ?_) | ((with_reducible apply kQP); refine qP ?_) | ((with_reducible apply kQP); refine qX ?_) | ((with_reducible apply kC); first | refine cT ?_ | refine cF ?_ | (refine cI (fun h => ?_) (fun h => ?_) <;> (try (exfalso; omega))) | refine cB (fun h => ?_) (fun h => ?_)) | ((with_reducible apply kR); refine cQ ?_) | ((with_reducible apply kDN); first | refine dtI ?_ | refine dt1 ?_ | refine dtW ?_) | ((with_reducible apply kDP _); refine dP ?_) | ((with_reducible apply kDP _); refine dX ?_))
    rcases hr7 with ⟨_, _, hh, _⟩ | ⟨b7, z7, rfl, rfl, hz7, hc7⟩
    · exfalso
      have := congrArg List.length hh
      rw [ivs_length] at this
      exact hl0 this
    refine c_loop (fun i : Nat => [(3, .slice (some ⟨b7, 0, none⟩) l.length c7), (4, iv i)]) (fun i => (b7, ivs (soL l i) ++ z7) :: hs) (fun i => i ≤ l.length) (fun i => l.length - i) 0 (Nat.zero_le _) (by repeat' first | trivial | rfl | apply And.intro) (.refl _) ?_
    intro i hi
    by_cases hi' : i < l.length
    · repeat' (first | ((with_reducible apply kRg 9); refine cD [1, 1, 0, 0, 1, 1, 1, 1, 1, 1, 1, 1, 1, 3, 1, 4] ?_) | (with_reducible first | refine c_seq ?_ | refine c_reg ?_ | refine c_region ?_ | refine c_block ?_ | refine c_skip ?_ | refine c_exit ?_ | refine c_ret ?_ | refine s_nil ?_ | refine x_then ?_ | refine x_then_exit ?_ | refine x_then_ret ?_ | refine x_block ?_ | refine x_block_ret ?_ | refine x_block_same ?_ | refine x_block_other (by first | rfl | decide) ?_ | refine q_nil ?_ | refine k_nil ?_) | ((with_reducible apply kP _); refine sP ?_) | ((with_reducible apply kP _); refine sX ?_) | ((with_reducible apply kQP); refine qP ?_) | ((with_reducible apply kQP); refine qX ?_) | ((with_reducible apply kC); first | refine cT ?_ | refine cF ?_ | (refine cI (fun h => ?_) (fun h => ?_) <;> (try (exfalso; omega))) | refine cB (fun h => ?_) (fun h => ?_)) | ((with_reducible apply kR); refine cQ ?_) | ((with_reducible apply kDN); first | refine dtI ?_ | refine dt1 ?_ | refine dtW ?_) | ((with_reducible apply kDP _); refine dP ?_) | ((with_reducible apply kDP _); refine dX ?_))
      refine c_loop (fun k : Nat => [(3, .slice (some ⟨b7, 0, none⟩) l.length c7), (4, iv i), (5, iv k)]) (fun k => (b7, ivs (inL (soL l i) i k) ++ z7) :: hs) (fun k => k ≤ i) (fun k => i - k) 0 (Nat.zero_le _) (by repeat' first | trivial | rfl | apply And.intro) (.refl _) ?_
      intro k hk
      have hlen : (inL (soL l i) i k).length = l.length := by rw [inL_len, soL_len]
      generalize hL : inL (soL l i) i k = L at *
      by_cases hk' : k < i
      · have g : ∀ j, j < l.length → (ivs L ++ z7)[j]? = some (iv (L.getD j 0)) := fun j h => by
          rw [List.getElem?_append_left (by rw [ivs_length]; omega), ivs_get (by omega)]
        have gi := g i hi'
        have gk := g k (by omega)
        have hnx : inL (soL l i) i (k + 1) = swL L i k := by rw [← hL]; rfl
        have ll0 : i < L.length := by omega
        have ll1 : ∀ u : Int, k < (L.set i u).length := fun u => by rw [List.length_set]; omega
        by_cases hlt : L.getD i 0 < L.getD k 0
        · have hsw : swL L i k = (L.set i (L.getD k 0)).set k (L.getD i 0) := if_pos hlt
          repeat' (first | ((with_reducible apply kP (.load 3 (.tmp 21))); refine sP ?_ (o_load rfl (ld_one (shTOf rfl) (own MMt gi)))) | ((with_reducible apply kDP (.load 3 (.tmp 21))); refine dP ?_ (hX := rfl) (hv := o_load rfl (ld_one (shTOf rfl) (own MMt gi)))) | ((with_reducible apply kQO (.load 3 (.tmp 21))); refine qP ?_ (o_load rfl (ld_one (shTOf rfl) (own MMt gi)))) | ((with_reducible apply kP (.load 3 (.tmp 25))); refine sP ?_ (o_load rfl (ld_one (shTOf rfl) (own MMt gk)))) | ((with_reducible apply kDP (.load 3 (.tmp 25))); refine dP ?_ (hX := rfl) (hv := o_load rfl (ld_one (shTOf rfl) (own MMt gk)))) | ((with_reducible apply kQO (.load 3 (.tmp 25))); refine qP ?_ (o_load rfl (ld_one (shTOf rfl) (own MMt gk)))) | ((with_reducible apply kP (.load 3 (.tmp 34))); refine sP ?_ (o_load rfl (ld_one (shTOf rfl) (own MMt gk)))) | ((with_reducible apply kDP (.load 3 (.tmp 34))); refine dP ?_ (hX := rfl) (hv := o_load rfl (ld_one (shTOf rfl) (own MMt gk)))) | ((with_reducible apply kQO (.load 3 (.tmp 34))); refine qP ?_ (o_load rfl (ld_one (shTOf rfl) (own MMt gk)))) | ((with_reducible apply kP (.load 3 (.tmp 38))); refine sP ?_ (o_load rfl (ld_one (shTOf rfl) (own MMt gi)))) | ((with_reducible apply kDP (.load 3 (.tmp 38))); refine dP ?_ (hX := rfl) (hv := o_load rfl (ld_one (shTOf rfl) (own MMt gi)))) | ((with_reducible apply kQO (.load 3 (.tmp 38))); refine qP ?_ (o_load rfl (ld_one (shTOf rfl) (own MMt gi)))) | ((with_reducible apply kRg 9); refine cDS [1, 1, 0, 0, 1, 1, 1, 1, 1, 1, 1, 1, 1, 3, 1, 4] [] ?_ (hS := List.nil_sublist _)) | ((with_reducible apply kDN); refine dtZ ?_ rfl (by exact MMt) ll0) | ((with_reducible apply kDN); refine dtZ ?_ rfl (by exact MMt) (ll1 _)) | (with_reducible first | refine c_seq ?_ | refine c_reg ?_ | refine c_region ?_ | refine c_block ?_ | refine c_skip ?_ | refine c_exit ?_ | refine c_ret ?_ | refine s_nil ?_ | refine x_then ?_ | refine x_then_exit ?_ | refine x_then_ret ?_ | refine x_block ?_ | refine x_block_ret ?_ | refine x_block_same ?_ | refine x_block_other (by first | rfl | decide) ?_ | refine q_nil ?_ | refine k_nil ?_) | ((with_reducible apply kP _); refine sP ?_) | ((with_reducible apply kP _); refine sX ?_) | ((with_reducible apply kQP); refine qP ?_) | ((with_reducible apply kQP); refine qX ?_) | ((with_reducible apply kC); first | refine cT ?_ | refine cF ?_ | (refine cI (fun h => ?_) (fun h => ?_) <;> (try (exfalso; omega))) | refine cB (fun h => ?_) (fun h => ?_)) | ((with_reducible apply kR); refine cQ ?_) | ((with_reducible apply kDN); first | refine dtI ?_ | refine dt1 ?_ | refine dtW ?_) | ((with_reducible apply kDP _); refine dP ?_) | ((with_reducible apply kDP _); refine dX ?_))
          all_goals try (exfalso; omega)
          refine r_end (k + 1) hk' (by omega) (by repeat' first | trivial | rfl | apply And.intro) ?_
          rw [hnx, hsw]
          exact .refl _
        · have hsw : swL L i k = L := if_neg hlt
          repeat' (first | ((with_reducible apply kP (.load 3 (.tmp 21))); refine sP ?_ (o_load rfl (ld_one (shTOf rfl) (own MMt gi)))) | ((with_reducible apply kDP (.load 3 (.tmp 21))); refine dP ?_ (hX := rfl) (hv := o_load rfl (ld_one (shTOf rfl) (own MMt gi)))) | ((with_reducible apply kQO (.load 3 (.tmp 21))); refine qP ?_ (o_load rfl (ld_one (shTOf rfl) (own MMt gi)))) | ((with_reducible apply kP (.load 3 (.tmp 25))); refine sP ?_ (o_load rfl (ld_one (shTOf rfl) (own MMt gk)))) | ((with_reducible apply kDP (.load 3 (.tmp 25))); refine dP ?_ (hX := rfl) (hv := o_load rfl (ld_one (shTOf rfl) (own MMt gk)))) | ((with_reducible apply kQO (.load 3 (.tmp 25))); refine qP ?_ (o_load rfl (ld_one (shTOf rfl) (own MMt gk)))) | ((with_reducible apply kRg 9); refine cD [1, 1, 0, 0, 1, 1, 1, 1, 1, 1, 1, 1, 1, 3, 1, 4] ?_) | (with_reducible first | refine c_seq ?_ | refine c_reg ?_ | refine c_region ?_ | refine c_block ?_ | refine c_skip ?_ | refine c_exit ?_ | refine c_ret ?_ | refine s_nil ?_ | refine x_then ?_ | refine x_then_exit ?_ | refine x_then_ret ?_ | refine x_block ?_ | refine x_block_ret ?_ | refine x_block_same ?_ | refine x_block_other (by first | rfl | decide) ?_ | refine q_nil ?_ | refine k_nil ?_) | ((with_reducible apply kP _); refine sP ?_) | ((with_reducible apply kP _); refine sX ?_) | ((with_reducible apply kQP); refine qP ?_) | ((with_reducible apply kQP); refine qX ?_) | ((with_reducible apply kC); first | refine cT ?_ | refine cF ?_ | (refine cI (fun h => ?_) (fun h => ?_) <;> (try (exfalso; omega))) | refine cB (fun h => ?_) (fun h => ?_)) | ((with_reducible apply kR); refine cQ ?_) | ((with_reducible apply kDN); first | refine dtI ?_ | refine dt1 ?_ | refine dtW ?_) | ((with_reducible apply kDP _); refine dP ?_) | ((with_reducible apply kDP _); refine dX ?_))
          all_goals try (exfalso; omega)
          refine r_end (k + 1) hk' (by omega) (by repeat' first | trivial | rfl | apply And.intro) ?_
          rw [hnx, hsw]
          exact .refl _
      · obtain rfl : i = k := by omega
        repeat' (first | ((with_reducible apply kRg 9); refine cD [1, 1, 0, 0, 1, 1, 1, 1, 1, 1, 1, 1, 1, 3, 1, 4] ?_) | (with_reducible first | refine c_seq ?_ | refine c_reg ?_ | refine c_region ?_ | refine c_block ?_ | refine c_skip ?_ | refine c_exit ?_ | refine c_ret ?_ | refine s_nil ?_ | refine x_then ?_ | refine x_then_exit ?_ | refine x_then_ret ?_ | refine x_block ?_ | refine x_block_ret ?_ | refine x_block_same ?_ | refine x_block_other (by first | rfl | decide) ?_ | refine q_nil ?_ | refine k_nil ?_) | ((with_reducible apply kP _); refine sP ?_) | ((with_reducible apply kP _); refine sX ?_) | ((with_reducible apply kQP); refine qP ?_) | ((with_reducible apply kQP); refine qX ?_) | ((with_reducible apply kC); first | refine cT ?_ | refine cF ?_ | (refine cI (fun h => ?_) (fun h => ?_) <;> (try (exfalso; omega))) | refine cB (fun h => ?_) (fun h => ?_)) | ((with_reducible apply kR); refine cQ ?_) | ((with_reducible apply kDN); first | refine dtI ?_ | refine dt1 ?_ | refine dtW ?_) | ((with_reducible apply kDP _); refine dP ?_) | ((with_reducible apply kDP _); refine dX ?_))
        all_goals try (exfalso; omega)
        refine r_end (i + 1) hi' (by omega) (by repeat' first | trivial | rfl | apply And.intro) ?_
        rw [show soL l (i + 1) = L by rw [← hL]; rfl]
        exact .refl _
    · obtain rfl : i = l.length := by omega
      repeat' (first | ((with_reducible apply kRg 9); refine cD [1, 1, 0, 0, 1, 1, 1, 1, 1, 1, 1, 1, 1, 3, 1, 4] ?_) | (with_reducible first | refine c_seq ?_ | refine c_reg ?_ | refine c_region ?_ | refine c_block ?_ | refine c_skip ?_ | refine c_exit ?_ | refine c_ret ?_ | refine s_nil ?_ | refine x_then ?_ | refine x_then_exit ?_ | refine x_then_ret ?_ | refine x_block ?_ | refine x_block_ret ?_ | refine x_block_same ?_ | refine x_block_other (by first | rfl | decide) ?_ | refine q_nil ?_ | refine k_nil ?_) | ((with_reducible apply kP _); refine sP ?_) | ((with_reducible apply kP _); refine sX ?_) | ((with_reducible apply kQP); refine qP ?_) | ((with_reducible apply kQP); refine qX ?_) | ((with_reducible apply kC); first | refine cT ?_ | refine cF ?_ | (refine cI (fun h => ?_) (fun h => ?_) <;> (try (exfalso; omega))) | refine cB (fun h => ?_) (fun h => ?_)) | ((with_reducible apply kR); refine cQ ?_) | ((with_reducible apply kDN); first | refine dtI ?_ | refine dt1 ?_ | refine dtW ?_) | ((with_reducible apply kDP _); refine dP ?_) | ((with_reducible apply kDP _); refine dX ?_))
      all_goals try (exfalso; omega)
      exact e_ret1 rfl rfl ⟨_, c7, [(b7, ivs (soL l l.length) ++ z7)], .inr ⟨b7, z7, rfl, rfl, by rw [List.length_append, ivs_length] at hz7 ⊢; rw [soL_len]; exact hz7, hc7⟩, rfl, rfl⟩ (.refl _)
end Go.Proofs.Ytnbickholedckaa
