/- Which bundles are valid: hair's and the reference's examinations. -/
import Derived.Test.YtiopaodiaokfdaaH1
namespace Go.Proofs.Ytiopaodiaokfdaa
open Go.RowKit

/-! ### Validity -/
theorem negA_append (a b : List Int) : negA (a ++ b) = (negA a || negA b) := by simp [negA]
theorem bigA_append (a b : List Int) : bigA (a ++ b) = (bigA a || bigA b) := by simp [bigA]
theorem negA_take {l : List Int} {k : Nat} (h : k < l.length) : negA (l.take (k + 1)) = (negA (l.take k) || decide (l.getD k 0 < 0)) := by
  rw [List.take_succ_eq_append_getElem h, negA_append]
  simp [negA, List.getD, h]
theorem bigA_take {l : List Int} {k : Nat} (h : k < l.length) : bigA (l.take (k + 1)) = (bigA (l.take k) || decide (1000000 < l.getD k 0)) := by
  rw [List.take_succ_eq_append_getElem h, bigA_append]
  simp [bigA, List.getD, h]
theorem negA_of {l : List Int} {k : Nat} (h : k < l.length) (hn : l.getD k 0 < 0) : negA l = true := by
  simp only [negA, List.any_eq_true, decide_eq_true_eq]
  exact ⟨l[k], List.getElem_mem h, by simpa [List.getD, h] using hn⟩
theorem negA_no {l : List Int} (h : negA l = false) {i : Nat} : 0 ≤ l.getD i 0 := by
  by_cases hi : i < l.length
  · by_cases hx : l.getD i 0 < 0
    · rw [negA_of hi hx] at h; cases h
    · omega
  · simp [List.getD, hi]
theorem bigA_no {l : List Int} (h : bigA l = false) {i : Nat} : l.getD i 0 ≤ 1000000 := by
  by_cases hi : i < l.length
  · by_cases hx : 1000000 < l.getD i 0
    · have : bigA l = true := by
        simp only [bigA, List.any_eq_true, decide_eq_true_eq]
        exact ⟨l[i], List.getElem_mem hi, by simpa [List.getD, hi] using hx⟩
      rw [this] at h; cases h
    · omega
  · simp [List.getD, hi]
/-- A bundle in memory. -/
def bv (o1 o2 : Option Addr) (n1 n2 c1 c2 : Nat) : Value := .agg #[.slice o1 n1 c1, .slice o2 n2 c2]

theorem vErr_long1 {r g : List Int} (h : 24 < r.length) : vErr r g = 4 := by unfold vErr; rw [if_pos (Or.inl h)]
theorem vErr_long2 {r g : List Int} (h : 24 < g.length) : vErr r g = 4 := by unfold vErr; rw [if_pos (Or.inr h)]
theorem vErr_neg {r g : List Int} (h1 : r.length ≤ 24) (h2 : g.length ≤ 24) (h : negA r = true ∨ negA g = true) : vErr r g = 1 := by
  unfold vErr
  rw [if_neg (by omega), if_pos (by rw [negA_append]; simpa using h)]
theorem vErr_big {r g : List Int} (h1 : r.length ≤ 24) (h2 : g.length ≤ 24) (h3 : negA r = false) (h4 : negA g = false) (h : (bigA r || bigA g) = true) : vErr r g = 4 := by
  unfold vErr
  rw [if_neg (by omega), if_neg (by rw [negA_append, h3, h4]; simp), if_pos (by rw [bigA_append]; exact h)]
theorem vErr_ok {r g : List Int} (h1 : r.length ≤ 24) (h2 : g.length ≤ 24) (h3 : negA r = false) (h4 : negA g = false) (h : (bigA r || bigA g) = false) : vErr r g = 0 := by
  unfold vErr
  rw [if_neg (by omega), if_neg (by rw [negA_append, h3, h4]; simp), if_neg (by rw [bigA_append, h]; simp)]
set_option maxRecDepth 100000 in
theorem r_listError (o1 o2 : Option Addr) (c1 c2 : Nat) (r g : List Int) (B : Nat) (w0 : World) (hs : HS) (h1 : Sl B w0 hs o1 r) (h2 : Sl B w0 hs o2 g) :
    Fn Try.prog 75 #[.slice o1 r.length c1, .slice o2 g.length c2] B w0 hs (fun v hs' => v = iv (vErr r g) ∧ hs' = hs) := by
  refine fn_enter Try.func75 rfl Try.ntmps75 (by simp) ?_
  repeat' (first | (with_reducible first | refine c_seq ?_ | refine c_reg ?_ | refine c_region ?_ | refine c_block ?_ | refine c_skip ?_ | refine c_exit ?_ | refine c_ret ?_ | refine s_nil ?_ | refine x_then ?_ | refine x_then_exit ?_ | refine x_then_ret ?_ | refine x_block ?_ | refine x_block_ret ?_ | refine x_block_same ?_ | refine x_block_other (by rfl) ?_ | refine q_nil ?_) | ((with_reducible apply kG); first | refine gY1 ?_ | refine gN1 ?_ | refine gU1 ?_ | (refine gD1 (fun h => ?_) (fun h => ?_) <;> (try (exfalso; omega))) | refine gB1 (fun h => ?_) (fun h => ?_)) | ((with_reducible apply kN); first | refine stP ?_ | refine stI ?_ | refine st1 ?_ | refine stW ?_) | ((with_reducible apply kP (.alloc _)); refine sA (fun b => ?_)) | ((with_reducible apply kP (.box _ _)); first | refine sBA (fun b => ?_) | refine sB (fun b => ?_)) | ((with_reducible apply kP (.buildSlice _ 1 _)); first | refine sl1A (fun b => ?_) | refine sl1 (fun b => ?_)) | ((with_reducible apply kP (.buildSlice _ 2 _)); refine sl2 (fun b => ?_)) | ((with_reducible apply kP (.buildSlice _ 3 _)); refine sl3 (fun b => ?_)) | ((with_reducible apply kP (.buildSlice _ 4 _)); refine sl4 (fun b => ?_)) | ((with_reducible apply kP _); refine sP ?_) | ((with_reducible apply kQG); first | refine qY1 ?_ | refine qN1 ?_ | refine qU1 ?_ | (refine qD1 (fun h => ?_) (fun h => ?_) <;> (try (exfalso; omega))) | refine qB1 (fun h => ?_) (fun h => ?_)) | ((with_reducible apply kQP); refine qP ?_) | ((with_reducible apply kC); first | refine cT ?_ | refine cF ?_ | (refine cI (fun h => ?_) (fun h => ?_) <;> (try (exfalso; omega))) | refine cB (fun h => ?_) (fun h => ?_)) | ((with_reducible apply kR); refine cQ ?_))
  · exact e_ret1 rfl rfl ⟨by rw [vErr_long1 (by omega)]; rfl, rfl⟩ sb0
  · exact e_ret1 rfl rfl ⟨by rw [vErr_long2 (by omega)]; rfl, rfl⟩ sb0
  refine c_loop (fun k : Nat => [(6, iv k), (5, .bool (bigA (r.take k))), (0, .slice o1 r.length c1), (1, .slice o2 g.length c2)]) (fun _ => hs) (fun k => k ≤ r.length ∧ negA (r.take k) = false) (fun k => r.length - k) 0 ⟨by omega, by simp [negA]⟩ (by repeat' first | trivial | rfl | apply And.intro) sb0 ?_
  rintro k ⟨hk, hn⟩
  by_cases hk' : k < r.length
  · have hb := bigA_take hk'; have hb2 := negA_take hk'
    repeat' (first | (with_reducible first | refine c_seq ?_ | refine c_reg ?_ | refine c_region ?_ | refine c_block ?_ | refine c_skip ?_ | refine c_exit ?_ | refine c_ret ?_ | refine s_nil ?_ | refine x_then ?_ | refine x_then_exit ?_ | refine x_then_ret ?_ | refine x_block ?_ | refine x_block_ret ?_ | refine x_block_same ?_ | refine x_block_other (by rfl) ?_ | refine q_nil ?_) | ((with_reducible apply kG); first | refine gY1 ?_ | refine gN1 ?_ | refine gU1 ?_ | (refine gD1 (fun h => ?_) (fun h => ?_) <;> (try (exfalso; omega))) | refine gB1 (fun h => ?_) (fun h => ?_)) | ((with_reducible apply kN); first | refine stP ?_ | refine stI ?_ | refine st1 ?_ | refine stW ?_) | ((with_reducible apply kP (.alloc _)); refine sA (fun b => ?_)) | ((with_reducible apply kP (.box _ _)); first | refine sBA (fun b => ?_) | refine sB (fun b => ?_)) | ((with_reducible apply kP (.buildSlice _ 1 _)); first | refine sl1A (fun b => ?_) | refine sl1 (fun b => ?_)) | ((with_reducible apply kP (.buildSlice _ 2 _)); refine sl2 (fun b => ?_)) | ((with_reducible apply kP (.buildSlice _ 3 _)); refine sl3 (fun b => ?_)) | ((with_reducible apply kP (.buildSlice _ 4 _)); refine sl4 (fun b => ?_)) | ((with_reducible apply kP _); refine sP ?_) | ((with_reducible apply kQG); first | refine qY1 ?_ | refine qN1 ?_ | refine qU1 ?_ | (refine qD1 (fun h => ?_) (fun h => ?_) <;> (try (exfalso; omega))) | refine qB1 (fun h => ?_) (fun h => ?_)) | ((with_reducible apply kQP); refine qP ?_) | ((with_reducible apply kC); first | refine cT ?_ | refine cF ?_ | (refine cI (fun h => ?_) (fun h => ?_) <;> (try (exfalso; omega))) | refine cB (fun h => ?_) (fun h => ?_)) | ((with_reducible apply kR); refine cQ ?_))
    · exact e_ret1 rfl rfl ⟨by rw [vErr_neg (by omega) (by omega) (Or.inl (negA_of hk' (by assumption)))]; rfl, rfl⟩ sb0
    · refine r_end (k + 1) ⟨by omega, by rw [hb2, hn]; exact ff_dec (by omega)⟩ (by omega) ⟨rfl, ?_, rfl, rfl, trivial⟩ sb0
      show some _ = some _
      rw [hb, h]; rfl
    · refine r_end (k + 1) ⟨by omega, by rw [hb2, hn]; exact ff_dec (by omega)⟩ (by omega) ⟨rfl, ?_, rfl, rfl, trivial⟩ sb0
      show some _ = some _
      rw [hb, h]; rfl
  obtain rfl : k = r.length := by omega
  rw [List.take_length] at hn
  clear hk hk'
  repeat' (first | (with_reducible first | refine c_seq ?_ | refine c_reg ?_ | refine c_region ?_ | refine c_block ?_ | refine c_skip ?_ | refine c_exit ?_ | refine c_ret ?_ | refine s_nil ?_ | refine x_then ?_ | refine x_then_exit ?_ | refine x_then_ret ?_ | refine x_block ?_ | refine x_block_ret ?_ | refine x_block_same ?_ | refine x_block_other (by rfl) ?_ | refine q_nil ?_) | ((with_reducible apply kG); first | refine gY1 ?_ | refine gN1 ?_ | refine gU1 ?_ | (refine gD1 (fun h => ?_) (fun h => ?_) <;> (try (exfalso; omega))) | refine gB1 (fun h => ?_) (fun h => ?_)) | ((with_reducible apply kN); first | refine stP ?_ | refine stI ?_ | refine st1 ?_ | refine stW ?_) | ((with_reducible apply kP (.alloc _)); refine sA (fun b => ?_)) | ((with_reducible apply kP (.box _ _)); first | refine sBA (fun b => ?_) | refine sB (fun b => ?_)) | ((with_reducible apply kP (.buildSlice _ 1 _)); first | refine sl1A (fun b => ?_) | refine sl1 (fun b => ?_)) | ((with_reducible apply kP (.buildSlice _ 2 _)); refine sl2 (fun b => ?_)) | ((with_reducible apply kP (.buildSlice _ 3 _)); refine sl3 (fun b => ?_)) | ((with_reducible apply kP (.buildSlice _ 4 _)); refine sl4 (fun b => ?_)) | ((with_reducible apply kP _); refine sP ?_) | ((with_reducible apply kQG); first | refine qY1 ?_ | refine qN1 ?_ | refine qU1 ?_ | (refine qD1 (fun h => ?_) (fun h => ?_) <;> (try (exfalso; omega))) | refine qB1 (fun h => ?_) (fun h => ?_)) | ((with_reducible apply kQP); refine qP ?_) | ((with_reducible apply kC); first | refine cT ?_ | refine cF ?_ | (refine cI (fun h => ?_) (fun h => ?_) <;> (try (exfalso; omega))) | refine cB (fun h => ?_) (fun h => ?_)) | ((with_reducible apply kR); refine cQ ?_))
  refine c_loop (fun k : Nat => [(7, iv k), (5, .bool (bigA r || bigA (g.take k))), (1, .slice o2 g.length c2)]) (fun _ => hs) (fun k => k ≤ g.length ∧ negA (g.take k) = false) (fun k => g.length - k) 0 ⟨by omega, by simp [negA]⟩ ⟨rfl, ?_, rfl, trivial⟩ sb0 ?_
  · show some _ = some _
    simp [bigA]
  rintro k ⟨hk, hn2⟩
  by_cases hk' : k < g.length
  · have hb := bigA_take hk'; have hb2 := negA_take hk'
    repeat' (first | (with_reducible first | refine c_seq ?_ | refine c_reg ?_ | refine c_region ?_ | refine c_block ?_ | refine c_skip ?_ | refine c_exit ?_ | refine c_ret ?_ | refine s_nil ?_ | refine x_then ?_ | refine x_then_exit ?_ | refine x_then_ret ?_ | refine x_block ?_ | refine x_block_ret ?_ | refine x_block_same ?_ | refine x_block_other (by rfl) ?_ | refine q_nil ?_) | ((with_reducible apply kG); first | refine gY1 ?_ | refine gN1 ?_ | refine gU1 ?_ | (refine gD1 (fun h => ?_) (fun h => ?_) <;> (try (exfalso; omega))) | refine gB1 (fun h => ?_) (fun h => ?_)) | ((with_reducible apply kN); first | refine stP ?_ | refine stI ?_ | refine st1 ?_ | refine stW ?_) | ((with_reducible apply kP (.alloc _)); refine sA (fun b => ?_)) | ((with_reducible apply kP (.box _ _)); first | refine sBA (fun b => ?_) | refine sB (fun b => ?_)) | ((with_reducible apply kP (.buildSlice _ 1 _)); first | refine sl1A (fun b => ?_) | refine sl1 (fun b => ?_)) | ((with_reducible apply kP (.buildSlice _ 2 _)); refine sl2 (fun b => ?_)) | ((with_reducible apply kP (.buildSlice _ 3 _)); refine sl3 (fun b => ?_)) | ((with_reducible apply kP (.buildSlice _ 4 _)); refine sl4 (fun b => ?_)) | ((with_reducible apply kP _); refine sP ?_) | ((with_reducible apply kQG); first | refine qY1 ?_ | refine qN1 ?_ | refine qU1 ?_ | (refine qD1 (fun h => ?_) (fun h => ?_) <;> (try (exfalso; omega))) | refine qB1 (fun h => ?_) (fun h => ?_)) | ((with_reducible apply kQP); refine qP ?_) | ((with_reducible apply kC); first | refine cT ?_ | refine cF ?_ | (refine cI (fun h => ?_) (fun h => ?_) <;> (try (exfalso; omega))) | refine cB (fun h => ?_) (fun h => ?_)) | ((with_reducible apply kR); refine cQ ?_))
    · exact e_ret1 rfl rfl ⟨by rw [vErr_neg (by omega) (by omega) (Or.inr (negA_of hk' (by assumption)))]; rfl, rfl⟩ sb0
    · refine r_end (k + 1) ⟨by omega, by rw [hb2, hn2]; exact ff_dec (by omega)⟩ (by omega) ⟨rfl, ?_, rfl, trivial⟩ sb0
      show some _ = some _
      rw [hb, ← Bool.or_assoc, h]; rfl
    · refine r_end (k + 1) ⟨by omega, by rw [hb2, hn2]; exact ff_dec (by omega)⟩ (by omega) ⟨rfl, ?_, rfl, trivial⟩ sb0
      show some _ = some _
      rw [hb, ← Bool.or_assoc, h]; rfl
  obtain rfl : k = g.length := by omega
  rw [List.take_length] at hn2 ⊢
  clear hk hk'
  repeat' (first | (with_reducible first | refine c_seq ?_ | refine c_reg ?_ | refine c_region ?_ | refine c_block ?_ | refine c_skip ?_ | refine c_exit ?_ | refine c_ret ?_ | refine s_nil ?_ | refine x_then ?_ | refine x_then_exit ?_ | refine x_then_ret ?_ | refine x_block ?_ | refine x_block_ret ?_ | refine x_block_same ?_ | refine x_block_other (by rfl) ?_ | refine q_nil ?_) | ((with_reducible apply kG); first | refine gY1 ?_ | refine gN1 ?_ | refine gU1 ?_ | (refine gD1 (fun h => ?_) (fun h => ?_) <;> (try (exfalso; omega))) | refine gB1 (fun h => ?_) (fun h => ?_)) | ((with_reducible apply kN); first | refine stP ?_ | refine stI ?_ | refine st1 ?_ | refine stW ?_) | ((with_reducible apply kP (.alloc _)); refine sA (fun b => ?_)) | ((with_reducible apply kP (.box _ _)); first | refine sBA (fun b => ?_) | refine sB (fun b => ?_)) | ((with_reducible apply kP (.buildSlice _ 1 _)); first | refine sl1A (fun b => ?_) | refine sl1 (fun b => ?_)) | ((with_reducible apply kP (.buildSlice _ 2 _)); refine sl2 (fun b => ?_)) | ((with_reducible apply kP (.buildSlice _ 3 _)); refine sl3 (fun b => ?_)) | ((with_reducible apply kP (.buildSlice _ 4 _)); refine sl4 (fun b => ?_)) | ((with_reducible apply kP _); refine sP ?_) | ((with_reducible apply kQG); first | refine qY1 ?_ | refine qN1 ?_ | refine qU1 ?_ | (refine qD1 (fun h => ?_) (fun h => ?_) <;> (try (exfalso; omega))) | refine qB1 (fun h => ?_) (fun h => ?_)) | ((with_reducible apply kQP); refine qP ?_) | ((with_reducible apply kC); first | refine cT ?_ | refine cF ?_ | (refine cI (fun h => ?_) (fun h => ?_) <;> (try (exfalso; omega))) | refine cB (fun h => ?_) (fun h => ?_)) | ((with_reducible apply kR); refine cQ ?_))
  · exact e_ret1 rfl rfl ⟨by rw [vErr_big (by omega) (by omega) hn hn2 h]; rfl, rfl⟩ sb0
  · exact e_ret1 rfl rfl ⟨by rw [vErr_ok (by omega) (by omega) hn hn2 h]; rfl, rfl⟩ sb0

set_option maxRecDepth 100000 in
theorem r_validate (o1 o2 : Option Addr) (c1 c2 : Nat) (r g : List Int) (B : Nat) (w0 : World) (hs : HS) (h1 : Sl B w0 hs o1 r) (h2 : Sl B w0 hs o2 g) :
    Fn Try.prog 33 #[bv o1 o2 r.length g.length c1 c2] B w0 hs (fun v hs' => v = iv (vErr r g) ∧ hs' = hs) := by
  refine fn_enter Try.func33 rfl Try.ntmps33 (by simp) ?_
  repeat' (first | ((with_reducible apply kF 75); refine sC 75 (r_listError o1 o2 c1 c2 r g B w0 _ (h1.sub sb1) (h2.sub sb1)) ?_) | (with_reducible first | refine c_seq ?_ | refine c_reg ?_ | refine c_region ?_ | refine c_block ?_ | refine c_skip ?_ | refine c_exit ?_ | refine c_ret ?_ | refine s_nil ?_ | refine x_then ?_ | refine x_then_exit ?_ | refine x_then_ret ?_ | refine x_block ?_ | refine x_block_ret ?_ | refine x_block_same ?_ | refine x_block_other (by rfl) ?_ | refine q_nil ?_) | ((with_reducible apply kG); first | refine gY1 ?_ | refine gN1 ?_ | refine gU1 ?_ | (refine gD1 (fun h => ?_) (fun h => ?_) <;> (try (exfalso; omega))) | refine gB1 (fun h => ?_) (fun h => ?_)) | ((with_reducible apply kN); first | refine stP ?_ | refine stI ?_ | refine st1 ?_ | refine stW ?_) | ((with_reducible apply kP (.alloc _)); refine sA (fun b => ?_)) | ((with_reducible apply kP (.box _ _)); first | refine sBA (fun b => ?_) | refine sB (fun b => ?_)) | ((with_reducible apply kP (.buildSlice _ 1 _)); first | refine sl1A (fun b => ?_) | refine sl1 (fun b => ?_)) | ((with_reducible apply kP (.buildSlice _ 2 _)); refine sl2 (fun b => ?_)) | ((with_reducible apply kP (.buildSlice _ 3 _)); refine sl3 (fun b => ?_)) | ((with_reducible apply kP (.buildSlice _ 4 _)); refine sl4 (fun b => ?_)) | ((with_reducible apply kP _); refine sP ?_) | ((with_reducible apply kQG); first | refine qY1 ?_ | refine qN1 ?_ | refine qU1 ?_ | (refine qD1 (fun h => ?_) (fun h => ?_) <;> (try (exfalso; omega))) | refine qB1 (fun h => ?_) (fun h => ?_)) | ((with_reducible apply kQP); refine qP ?_) | ((with_reducible apply kC); first | refine cT ?_ | refine cF ?_ | (refine cI (fun h => ?_) (fun h => ?_) <;> (try (exfalso; omega))) | refine cB (fun h => ?_) (fun h => ?_)) | ((with_reducible apply kR); refine cQ ?_))
  exact e_ret1 rfl rfl ⟨rfl, rfl⟩ sb1

def mxA (l : List Int) : Int := l.foldl max 0
theorem mxA_snoc (l : List Int) (x : Int) : mxA (l ++ [x]) = max (mxA l) x := by simp [mxA]
theorem mxA_take {p l : List Int} {k : Nat} (h : k < l.length) : mxA (p ++ l.take (k + 1)) = max (mxA (p ++ l.take k)) (l.getD k 0) := by
  rw [List.take_succ_eq_append_getElem h, ← List.append_assoc, mxA_snoc]
  simp [List.getD, h]
theorem mxA_big (l : List Int) : ∀ m : Int, 1000000 < l.foldl max m ↔ (1000000 < m ∨ bigA l = true) := by
  induction l with
  | nil => intro m; simp [bigA]
  | cons x l ih =>
    intro m
    rw [List.foldl_cons, ih]
    simp only [bigA, List.any_cons, Bool.or_eq_true, decide_eq_true_eq]
    constructor
    · rintro (h | h)
      · by_cases h1 : 1000000 < m
        · exact .inl h1
        · exact .inr (.inl (by omega))
      · exact .inr (.inr h)
    · rintro (h | h | h)
      · exact .inl (by omega)
      · exact .inl (by omega)
      · exact .inr h
theorem mxA_iff (l : List Int) : 1000000 < mxA l ↔ bigA l = true := by unfold mxA; rw [mxA_big]; simp
def fl (r g : List Int) (k : Nat) : List Int := if k = 0 then [] else if k = 1 then r else r ++ g
set_option maxRecDepth 100000 in
theorem h_validate (o1 o2 : Option Addr) (c1 c2 : Nat) (r g : List Int) (B : Nat) (w0 : World) (hs : HS) (h1 : Sl B w0 hs o1 r) (h2 : Sl B w0 hs o2 g) :
    Fn Try.prog 32 #[bv o1 o2 r.length g.length c1 c2] B w0 hs (fun v hs' => v = iv (vErr r g) ∧ hs' = hs) := by
  refine fn_enter Try.func32 rfl Try.ntmps32 (by simp) ?_
  repeat' (first | (with_reducible first | refine c_seq ?_ | refine c_reg ?_ | refine c_region ?_ | refine c_block ?_ | refine c_skip ?_ | refine c_exit ?_ | refine c_ret ?_ | refine s_nil ?_ | refine x_then ?_ | refine x_then_exit ?_ | refine x_then_ret ?_ | refine x_block ?_ | refine x_block_ret ?_ | refine x_block_same ?_ | refine x_block_other (by rfl) ?_ | refine q_nil ?_) | ((with_reducible apply kG); first | refine gY1 ?_ | refine gN1 ?_ | refine gU1 ?_ | (refine gD1 (fun h => ?_) (fun h => ?_) <;> (try (exfalso; omega))) | refine gB1 (fun h => ?_) (fun h => ?_)) | ((with_reducible apply kN); first | refine stP ?_ | refine stI ?_ | refine st1 ?_ | refine stW ?_) | ((with_reducible apply kP (.alloc _)); refine sA (fun b => ?_)) | ((with_reducible apply kP (.box _ _)); first | refine sBA (fun b => ?_) | refine sB (fun b => ?_)) | ((with_reducible apply kP (.buildSlice _ 1 _)); first | refine sl1A (fun b => ?_) | refine sl1 (fun b => ?_)) | ((with_reducible apply kP (.buildSlice _ 2 _)); refine sl2 (fun b => ?_)) | ((with_reducible apply kP (.buildSlice _ 3 _)); refine sl3 (fun b => ?_)) | ((with_reducible apply kP (.buildSlice _ 4 _)); refine sl4 (fun b => ?_)) | ((with_reducible apply kP _); refine sP ?_) | ((with_reducible apply kQG); first | refine qY1 ?_ | refine qN1 ?_ | refine qU1 ?_ | (refine qD1 (fun h => ?_) (fun h => ?_) <;> (try (exfalso; omega))) | refine qB1 (fun h => ?_) (fun h => ?_)) | ((with_reducible apply kQP); refine qP ?_) | ((with_reducible apply kC); first | refine cT ?_ | refine cF ?_ | (refine cI (fun h => ?_) (fun h => ?_) <;> (try (exfalso; omega))) | refine cB (fun h => ?_) (fun h => ?_)) | ((with_reducible apply kR); refine cQ ?_))
  · exact e_ret1 rfl rfl ⟨by rw [vErr_long1 (by omega)]; rfl, rfl⟩ sb1
  · exact e_ret1 rfl rfl ⟨by rw [vErr_long2 (by omega)]; rfl, rfl⟩ sb1
  refine c_loop (fun k : Nat => [(24, iv k), (3, iv (mxA (fl r g k))), (22, .slice (some ⟨b, 0, none⟩) 2 2), (23, iv 2)]) (fun _ => (b, [.slice o1 r.length c1, .slice o2 g.length c2]) :: hs) (fun k => k ≤ 2 ∧ negA (fl r g k) = false) (fun k => 2 - k) 0 ⟨by omega, rfl⟩ (by repeat' first | trivial | rfl | apply And.intro) (.cons_cons _ (.cons _ sb0)) ?_
  rintro k ⟨hk, hn⟩
  obtain rfl | rfl | rfl : k = 0 ∨ k = 1 ∨ k = 2 := by omega
  · -- list 0
    rw [show fl r g 0 = [] from rfl] at hn ⊢
    repeat' (first | (with_reducible first | refine c_seq ?_ | refine c_reg ?_ | refine c_region ?_ | refine c_block ?_ | refine c_skip ?_ | refine c_exit ?_ | refine c_ret ?_ | refine s_nil ?_ | refine x_then ?_ | refine x_then_exit ?_ | refine x_then_ret ?_ | refine x_block ?_ | refine x_block_ret ?_ | refine x_block_same ?_ | refine x_block_other (by rfl) ?_ | refine q_nil ?_) | ((with_reducible apply kG); first | refine gY1 ?_ | refine gN1 ?_ | refine gU1 ?_ | (refine gD1 (fun h => ?_) (fun h => ?_) <;> (try (exfalso; omega))) | refine gB1 (fun h => ?_) (fun h => ?_)) | ((with_reducible apply kN); first | refine stP ?_ | refine stI ?_ | refine st1 ?_ | refine stW ?_) | ((with_reducible apply kP (.alloc _)); refine sA (fun b => ?_)) | ((with_reducible apply kP (.box _ _)); first | refine sBA (fun b => ?_) | refine sB (fun b => ?_)) | ((with_reducible apply kP (.buildSlice _ 1 _)); first | refine sl1A (fun b => ?_) | refine sl1 (fun b => ?_)) | ((with_reducible apply kP (.buildSlice _ 2 _)); refine sl2 (fun b => ?_)) | ((with_reducible apply kP (.buildSlice _ 3 _)); refine sl3 (fun b => ?_)) | ((with_reducible apply kP (.buildSlice _ 4 _)); refine sl4 (fun b => ?_)) | ((with_reducible apply kP _); refine sP ?_) | ((with_reducible apply kQG); first | refine qY1 ?_ | refine qN1 ?_ | refine qU1 ?_ | (refine qD1 (fun h => ?_) (fun h => ?_) <;> (try (exfalso; omega))) | refine qB1 (fun h => ?_) (fun h => ?_)) | ((with_reducible apply kQP); refine qP ?_) | ((with_reducible apply kC); first | refine cT ?_ | refine cF ?_ | (refine cI (fun h => ?_) (fun h => ?_) <;> (try (exfalso; omega))) | refine cB (fun h => ?_) (fun h => ?_)) | ((with_reducible apply kR); refine cQ ?_))
    refine c_loop (fun i : Nat => [(30, iv i), (29, iv r.length), (28, .slice o1 r.length c1), (3, iv (mxA ([] ++ r.take i))), (24, iv 0), (22, .slice (some ⟨b, 0, none⟩) 2 2), (23, iv 2)]) (fun _ => (b, [.slice o1 r.length c1, .slice o2 g.length c2]) :: hs) (fun i => i ≤ r.length ∧ negA (r.take i) = false) (fun i => r.length - i) 0 ⟨by omega, by simp [negA]⟩ ⟨rfl, rfl, rfl, ?_, rfl, rfl, rfl, trivial⟩ sb0 ?_
    · show some (iv _) = some (iv _)
      simp
    rintro i ⟨hi, hni⟩
    by_cases hi' : i < r.length
    · have hb2 := negA_take hi'
      repeat' (first | (with_reducible first | refine c_seq ?_ | refine c_reg ?_ | refine c_region ?_ | refine c_block ?_ | refine c_skip ?_ | refine c_exit ?_ | refine c_ret ?_ | refine s_nil ?_ | refine x_then ?_ | refine x_then_exit ?_ | refine x_then_ret ?_ | refine x_block ?_ | refine x_block_ret ?_ | refine x_block_same ?_ | refine x_block_other (by rfl) ?_ | refine q_nil ?_) | ((with_reducible apply kG); first | refine gY1 ?_ | refine gN1 ?_ | refine gU1 ?_ | (refine gD1 (fun h => ?_) (fun h => ?_) <;> (try (exfalso; omega))) | refine gB1 (fun h => ?_) (fun h => ?_)) | ((with_reducible apply kN); first | refine stP ?_ | refine stI ?_ | refine st1 ?_ | refine stW ?_) | ((with_reducible apply kP (.alloc _)); refine sA (fun b => ?_)) | ((with_reducible apply kP (.box _ _)); first | refine sBA (fun b => ?_) | refine sB (fun b => ?_)) | ((with_reducible apply kP (.buildSlice _ 1 _)); first | refine sl1A (fun b => ?_) | refine sl1 (fun b => ?_)) | ((with_reducible apply kP (.buildSlice _ 2 _)); refine sl2 (fun b => ?_)) | ((with_reducible apply kP (.buildSlice _ 3 _)); refine sl3 (fun b => ?_)) | ((with_reducible apply kP (.buildSlice _ 4 _)); refine sl4 (fun b => ?_)) | ((with_reducible apply kP _); refine sP ?_) | ((with_reducible apply kQG); first | refine qY1 ?_ | refine qN1 ?_ | refine qU1 ?_ | (refine qD1 (fun h => ?_) (fun h => ?_) <;> (try (exfalso; omega))) | refine qB1 (fun h => ?_) (fun h => ?_)) | ((with_reducible apply kQP); refine qP ?_) | ((with_reducible apply kC); first | refine cT ?_ | refine cF ?_ | (refine cI (fun h => ?_) (fun h => ?_) <;> (try (exfalso; omega))) | refine cB (fun h => ?_) (fun h => ?_)) | ((with_reducible apply kR); refine cQ ?_))
      · exact e_ret1 rfl rfl ⟨by rw [vErr_neg (by omega) (by omega) (Or.inl (negA_of hi' (by assumption)))]; rfl, rfl⟩ sb1
      · refine r_end (i + 1) ⟨by omega, by rw [hb2, hni]; exact ff_dec (by omega)⟩ (by omega) ⟨rfl, rfl, rfl, ?_, rfl, rfl, rfl, trivial⟩ sb0
        show some (iv _) = some (iv _)
        rw [mxA_take hi']
    · obtain rfl : i = r.length := by omega
      rw [List.take_length] at hni ⊢
      clear hi hi'
      repeat' (first | (with_reducible first | refine c_seq ?_ | refine c_reg ?_ | refine c_region ?_ | refine c_block ?_ | refine c_skip ?_ | refine c_exit ?_ | refine c_ret ?_ | refine s_nil ?_ | refine x_then ?_ | refine x_then_exit ?_ | refine x_then_ret ?_ | refine x_block ?_ | refine x_block_ret ?_ | refine x_block_same ?_ | refine x_block_other (by rfl) ?_ | refine q_nil ?_) | ((with_reducible apply kG); first | refine gY1 ?_ | refine gN1 ?_ | refine gU1 ?_ | (refine gD1 (fun h => ?_) (fun h => ?_) <;> (try (exfalso; omega))) | refine gB1 (fun h => ?_) (fun h => ?_)) | ((with_reducible apply kN); first | refine stP ?_ | refine stI ?_ | refine st1 ?_ | refine stW ?_) | ((with_reducible apply kP (.alloc _)); refine sA (fun b => ?_)) | ((with_reducible apply kP (.box _ _)); first | refine sBA (fun b => ?_) | refine sB (fun b => ?_)) | ((with_reducible apply kP (.buildSlice _ 1 _)); first | refine sl1A (fun b => ?_) | refine sl1 (fun b => ?_)) | ((with_reducible apply kP (.buildSlice _ 2 _)); refine sl2 (fun b => ?_)) | ((with_reducible apply kP (.buildSlice _ 3 _)); refine sl3 (fun b => ?_)) | ((with_reducible apply kP (.buildSlice _ 4 _)); refine sl4 (fun b => ?_)) | ((with_reducible apply kP _); refine sP ?_) | ((with_reducible apply kQG); first | refine qY1 ?_ | refine qN1 ?_ | refine qU1 ?_ | (refine qD1 (fun h => ?_) (fun h => ?_) <;> (try (exfalso; omega))) | refine qB1 (fun h => ?_) (fun h => ?_)) | ((with_reducible apply kQP); refine qP ?_) | ((with_reducible apply kC); first | refine cT ?_ | refine cF ?_ | (refine cI (fun h => ?_) (fun h => ?_) <;> (try (exfalso; omega))) | refine cB (fun h => ?_) (fun h => ?_)) | ((with_reducible apply kR); refine cQ ?_))
      refine r_end 1 ⟨by omega, hni⟩ (by omega) ⟨rfl, rfl, rfl, rfl, trivial⟩ sb0
  · -- list 1
    rw [show fl r g 1 = r from rfl] at hn ⊢
    repeat' (first | (with_reducible first | refine c_seq ?_ | refine c_reg ?_ | refine c_region ?_ | refine c_block ?_ | refine c_skip ?_ | refine c_exit ?_ | refine c_ret ?_ | refine s_nil ?_ | refine x_then ?_ | refine x_then_exit ?_ | refine x_then_ret ?_ | refine x_block ?_ | refine x_block_ret ?_ | refine x_block_same ?_ | refine x_block_other (by rfl) ?_ | refine q_nil ?_) | ((with_reducible apply kG); first | refine gY1 ?_ | refine gN1 ?_ | refine gU1 ?_ | (refine gD1 (fun h => ?_) (fun h => ?_) <;> (try (exfalso; omega))) | refine gB1 (fun h => ?_) (fun h => ?_)) | ((with_reducible apply kN); first | refine stP ?_ | refine stI ?_ | refine st1 ?_ | refine stW ?_) | ((with_reducible apply kP (.alloc _)); refine sA (fun b => ?_)) | ((with_reducible apply kP (.box _ _)); first | refine sBA (fun b => ?_) | refine sB (fun b => ?_)) | ((with_reducible apply kP (.buildSlice _ 1 _)); first | refine sl1A (fun b => ?_) | refine sl1 (fun b => ?_)) | ((with_reducible apply kP (.buildSlice _ 2 _)); refine sl2 (fun b => ?_)) | ((with_reducible apply kP (.buildSlice _ 3 _)); refine sl3 (fun b => ?_)) | ((with_reducible apply kP (.buildSlice _ 4 _)); refine sl4 (fun b => ?_)) | ((with_reducible apply kP _); refine sP ?_) | ((with_reducible apply kQG); first | refine qY1 ?_ | refine qN1 ?_ | refine qU1 ?_ | (refine qD1 (fun h => ?_) (fun h => ?_) <;> (try (exfalso; omega))) | refine qB1 (fun h => ?_) (fun h => ?_)) | ((with_reducible apply kQP); refine qP ?_) | ((with_reducible apply kC); first | refine cT ?_ | refine cF ?_ | (refine cI (fun h => ?_) (fun h => ?_) <;> (try (exfalso; omega))) | refine cB (fun h => ?_) (fun h => ?_)) | ((with_reducible apply kR); refine cQ ?_))
    refine c_loop (fun i : Nat => [(30, iv i), (29, iv g.length), (28, .slice o2 g.length c2), (3, iv (mxA (r ++ g.take i))), (24, iv 1), (22, .slice (some ⟨b, 0, none⟩) 2 2), (23, iv 2)]) (fun _ => (b, [.slice o1 r.length c1, .slice o2 g.length c2]) :: hs) (fun i => i ≤ g.length ∧ negA (g.take i) = false) (fun i => g.length - i) 0 ⟨by omega, by simp [negA]⟩ ⟨rfl, rfl, rfl, ?_, rfl, rfl, rfl, trivial⟩ sb0 ?_
    · show some (iv _) = some (iv _)
      simp
    rintro i ⟨hi, hni⟩
    by_cases hi' : i < g.length
    · have hb2 := negA_take hi'
      repeat' (first | (with_reducible first | refine c_seq ?_ | refine c_reg ?_ | refine c_region ?_ | refine c_block ?_ | refine c_skip ?_ | refine c_exit ?_ | refine c_ret ?_ | refine s_nil ?_ | refine x_then ?_ | refine x_then_exit ?_ | refine x_then_ret ?_ | refine x_block ?_ | refine x_block_ret ?_ | refine x_block_same ?_ | refine x_block_other (by rfl) ?_ | refine q_nil ?_) | ((with_reducible apply kG); first | refine gY1 ?_ | refine gN1 ?_ | refine gU1 ?_ | (refine gD1 (fun h => ?_) (fun h => ?_) <;> (try (exfalso; omega))) | refine gB1 (fun h => ?_) (fun h => ?_)) | ((with_reducible apply kN); first | refine stP ?_ | refine stI ?_ | refine st1 ?_ | refine stW ?_) | ((with_reducible apply kP (.alloc _)); refine sA (fun b => ?_)) | ((with_reducible apply kP (.box _ _)); first | refine sBA (fun b => ?_) | refine sB (fun b => ?_)) | ((with_reducible apply kP (.buildSlice _ 1 _)); first | refine sl1A (fun b => ?_) | refine sl1 (fun b => ?_)) | ((with_reducible apply kP (.buildSlice _ 2 _)); refine sl2 (fun b => ?_)) | ((with_reducible apply kP (.buildSlice _ 3 _)); refine sl3 (fun b => ?_)) | ((with_reducible apply kP (.buildSlice _ 4 _)); refine sl4 (fun b => ?_)) | ((with_reducible apply kP _); refine sP ?_) | ((with_reducible apply kQG); first | refine qY1 ?_ | refine qN1 ?_ | refine qU1 ?_ | (refine qD1 (fun h => ?_) (fun h => ?_) <;> (try (exfalso; omega))) | refine qB1 (fun h => ?_) (fun h => ?_)) | ((with_reducible apply kQP); refine qP ?_) | ((with_reducible apply kC); first | refine cT ?_ | refine cF ?_ | (refine cI (fun h => ?_) (fun h => ?_) <;> (try (exfalso; omega))) | refine cB (fun h => ?_) (fun h => ?_)) | ((with_reducible apply kR); refine cQ ?_))
      · exact e_ret1 rfl rfl ⟨by rw [vErr_neg (by omega) (by omega) (Or.inr (negA_of hi' (by assumption)))]; rfl, rfl⟩ sb1
      · refine r_end (i + 1) ⟨by omega, by rw [hb2, hni]; exact ff_dec (by omega)⟩ (by omega) ⟨rfl, rfl, rfl, ?_, rfl, rfl, rfl, trivial⟩ sb0
        show some (iv _) = some (iv _)
        rw [mxA_take hi']
    · obtain rfl : i = g.length := by omega
      rw [List.take_length] at hni ⊢
      clear hi hi'
      repeat' (first | (with_reducible first | refine c_seq ?_ | refine c_reg ?_ | refine c_region ?_ | refine c_block ?_ | refine c_skip ?_ | refine c_exit ?_ | refine c_ret ?_ | refine s_nil ?_ | refine x_then ?_ | refine x_then_exit ?_ | refine x_then_ret ?_ | refine x_block ?_ | refine x_block_ret ?_ | refine x_block_same ?_ | refine x_block_other (by rfl) ?_ | refine q_nil ?_) | ((with_reducible apply kG); first | refine gY1 ?_ | refine gN1 ?_ | refine gU1 ?_ | (refine gD1 (fun h => ?_) (fun h => ?_) <;> (try (exfalso; omega))) | refine gB1 (fun h => ?_) (fun h => ?_)) | ((with_reducible apply kN); first | refine stP ?_ | refine stI ?_ | refine st1 ?_ | refine stW ?_) | ((with_reducible apply kP (.alloc _)); refine sA (fun b => ?_)) | ((with_reducible apply kP (.box _ _)); first | refine sBA (fun b => ?_) | refine sB (fun b => ?_)) | ((with_reducible apply kP (.buildSlice _ 1 _)); first | refine sl1A (fun b => ?_) | refine sl1 (fun b => ?_)) | ((with_reducible apply kP (.buildSlice _ 2 _)); refine sl2 (fun b => ?_)) | ((with_reducible apply kP (.buildSlice _ 3 _)); refine sl3 (fun b => ?_)) | ((with_reducible apply kP (.buildSlice _ 4 _)); refine sl4 (fun b => ?_)) | ((with_reducible apply kP _); refine sP ?_) | ((with_reducible apply kQG); first | refine qY1 ?_ | refine qN1 ?_ | refine qU1 ?_ | (refine qD1 (fun h => ?_) (fun h => ?_) <;> (try (exfalso; omega))) | refine qB1 (fun h => ?_) (fun h => ?_)) | ((with_reducible apply kQP); refine qP ?_) | ((with_reducible apply kC); first | refine cT ?_ | refine cF ?_ | (refine cI (fun h => ?_) (fun h => ?_) <;> (try (exfalso; omega))) | refine cB (fun h => ?_) (fun h => ?_)) | ((with_reducible apply kR); refine cQ ?_))
      refine r_end 2 ⟨by omega, (by show negA (r ++ g) = false; rw [negA_append, hn, hni]; rfl)⟩ (by omega) ⟨rfl, rfl, rfl, rfl, trivial⟩ sb0
  · rw [show fl r g 2 = r ++ g from rfl] at hn ⊢
    rw [negA_append, Bool.or_eq_false_iff] at hn
    have hd := mxA_iff (r ++ g)
    rw [bigA_append] at hd
    repeat' (first | (with_reducible first | refine c_seq ?_ | refine c_reg ?_ | refine c_region ?_ | refine c_block ?_ | refine c_skip ?_ | refine c_exit ?_ | refine c_ret ?_ | refine s_nil ?_ | refine x_then ?_ | refine x_then_exit ?_ | refine x_then_ret ?_ | refine x_block ?_ | refine x_block_ret ?_ | refine x_block_same ?_ | refine x_block_other (by rfl) ?_ | refine q_nil ?_) | ((with_reducible apply kG); first | refine gY1 ?_ | refine gN1 ?_ | refine gU1 ?_ | (refine gD1 (fun h => ?_) (fun h => ?_) <;> (try (exfalso; omega))) | refine gB1 (fun h => ?_) (fun h => ?_)) | ((with_reducible apply kN); first | refine stP ?_ | refine stI ?_ | refine st1 ?_ | refine stW ?_) | ((with_reducible apply kP (.alloc _)); refine sA (fun b => ?_)) | ((with_reducible apply kP (.box _ _)); first | refine sBA (fun b => ?_) | refine sB (fun b => ?_)) | ((with_reducible apply kP (.buildSlice _ 1 _)); first | refine sl1A (fun b => ?_) | refine sl1 (fun b => ?_)) | ((with_reducible apply kP (.buildSlice _ 2 _)); refine sl2 (fun b => ?_)) | ((with_reducible apply kP (.buildSlice _ 3 _)); refine sl3 (fun b => ?_)) | ((with_reducible apply kP (.buildSlice _ 4 _)); refine sl4 (fun b => ?_)) | ((with_reducible apply kP _); refine sP ?_) | ((with_reducible apply kQG); first | refine qY1 ?_ | refine qN1 ?_ | refine qU1 ?_ | (refine qD1 (fun h => ?_) (fun h => ?_) <;> (try (exfalso; omega))) | refine qB1 (fun h => ?_) (fun h => ?_)) | ((with_reducible apply kQP); refine qP ?_) | ((with_reducible apply kC); first | refine cT ?_ | refine cF ?_ | (refine cI (fun h => ?_) (fun h => ?_) <;> (try (exfalso; omega))) | refine cB (fun h => ?_) (fun h => ?_)) | ((with_reducible apply kR); refine cQ ?_))
    · exact e_ret1 rfl rfl ⟨by rw [vErr_big (by omega) (by omega) hn.1 hn.2 (hd.1 h)]; rfl, rfl⟩ sb1
    · exact e_ret1 rfl rfl ⟨by rw [vErr_ok (by omega) (by omega) hn.1 hn.2 (by simpa using fun e => h (hd.2 e))]; rfl, rfl⟩ sb1
end Go.Proofs.Ytiopaodiaokfdaa
