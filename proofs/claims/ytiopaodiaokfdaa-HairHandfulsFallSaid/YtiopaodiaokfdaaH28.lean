/- Handfuls. -/
import Derived.Test.YtiopaodiaokfdaaH20
namespace Go.Proofs.Ytiopaodiaokfdaa
open Go.RowKit

/-- What is left after some handfuls, and how many hairs the next one has. -/
def hfS (f g : Nat → Int) (n : Int) : Nat → (Nat → Int) × (Nat → Int)
  | 0 => (f, g)
  | i + 1 => (fun x => (hfS f g n i).1 x - oF (hfS f g n i).1 (hfS f g n i).2 (min n (cnt (hfS f g n i).1 (hfS f g n i).2 1)) x, fun x => (hfS f g n i).2 x - oG (hfS f g n i).1 (hfS f g n i).2 (min n (cnt (hfS f g n i).1 (hfS f g n i).2 1)) x)
def hfN (f g : Nat → Int) (n : Int) (i : Nat) : Int := min n (cnt (hfS f g n i).1 (hfS f g n i).2 1)
def hfF (f g : Nat → Int) (n : Int) (i : Nat) : Nat → Int := oF (hfS f g n i).1 (hfS f g n i).2 (hfN f g n i)
def hfG (f g : Nat → Int) (n : Int) (i : Nat) : Nat → Int := oG (hfS f g n i).1 (hfS f g n i).2 (hfN f g n i)
theorem hf_ok {f g : Nat → Int} {n : Int} (hf : Okh f) (hg : Okh g) (hn : 1 ≤ n) : ∀ i, Okh (hfS f g n i).1 ∧ Okh (hfS f g n i).2
  | 0 => ⟨hf, hg⟩
  | i + 1 => by
    obtain ⟨a, b⟩ := hf_ok hf hg hn i
    have hc := cnt_nn a b 1
    obtain ⟨_, _, c, d⟩ := oF_ok (n := min n (cnt (hfS f g n i).1 (hfS f g n i).2 1)) a b (by omega)
    exact ⟨c, d⟩
/-- How many hairs are left. -/
theorem hf_left {f g : Nat → Int} {n : Int} (hf : Okh f) (hg : Okh g) (hn : 1 ≤ n) : ∀ i : Nat, cnt (hfS f g n i).1 (hfS f g n i).2 1 = max 0 (cnt f g 1 - i * n)
  | 0 => by
    have := cnt_nn hf hg 1
    show cnt f g 1 = max 0 (cnt f g 1 - ((0 : Nat) : Int) * n)
    rw [show ((0 : Nat) : Int) * n = 0 by simp]; omega
  | i + 1 => by
    obtain ⟨a, b⟩ := hf_ok hf hg hn i
    have ih := hf_left hf hg hn i
    have hc := cnt_nn a b 1
    have e1 := cnt_sub (hfS f g n i).1 (hfS f g n i).2 (oF (hfS f g n i).1 (hfS f g n i).2 (min n (cnt (hfS f g n i).1 (hfS f g n i).2 1))) (oG (hfS f g n i).1 (hfS f g n i).2 (min n (cnt (hfS f g n i).1 (hfS f g n i).2 1))) 1
    have e2 := cnt_draw (n := min n (cnt (hfS f g n i).1 (hfS f g n i).2 1)) a b (by omega) (i := 1) (by omega) (by omega)
    have e3 : cnt (oF (hfS f g n i).1 (hfS f g n i).2 (min n (cnt (hfS f g n i).1 (hfS f g n i).2 1))) (oG (hfS f g n i).1 (hfS f g n i).2 (min n (cnt (hfS f g n i).1 (hfS f g n i).2 1))) 1 = min (min n (cnt (hfS f g n i).1 (hfS f g n i).2 1)) (cnt (hfS f g n i).1 (hfS f g n i).2 1) := e2
    have e4 : ((i + 1 : Nat) : Int) * n = i * n + n := by rw [show ((i + 1 : Nat) : Int) = (i : Int) + 1 by omega, Int.add_mul, Int.one_mul]
    show cnt (fun x => (hfS f g n i).1 x - _) (fun x => (hfS f g n i).2 x - _) 1 = _
    rw [e1, e3, e4]
    omega
/-- How many handfuls there are. -/
def hfC (f g : Nat → Int) (n : Int) : Nat := ((cnt f g 1 + n - 1) / n).toNat
theorem hfC_lt {f g : Nat → Int} {n : Int} (hn : 1 ≤ n) (hc : 0 ≤ cnt f g 1) (i : Nat) : i < hfC f g n ↔ 0 < cnt f g 1 - i * n := by
  have h1 : ((i : Int) + 1 ≤ (cnt f g 1 + n - 1) / n) ↔ ((i : Int) + 1) * n ≤ cnt f g 1 + n - 1 := Int.le_ediv_iff_mul_le (by omega)
  have h2 : 0 ≤ (cnt f g 1 + n - 1) / n := Int.ediv_nonneg (by omega) (by omega)
  rw [Int.add_mul, Int.one_mul] at h1
  unfold hfC
  omega
theorem hf_next {f g : Nat → Int} {n : Int} (hf : Okh f) (hg : Okh g) (hn : 1 ≤ n) (i : Nat) : cnt (hfS f g n (i + 1)).1 (hfS f g n (i + 1)).2 1 = cnt (hfS f g n i).1 (hfS f g n i).2 1 - hfN f g n i := by
  have a := hf_left hf hg hn i
  have b := hf_left hf hg hn (i + 1)
  have e4 : ((i + 1 : Nat) : Int) * n = i * n + n := by rw [show ((i + 1 : Nat) : Int) = (i : Int) + 1 by omega, Int.add_mul, Int.one_mul]
  unfold hfN
  rw [b, a, e4]
  omega
/-- The cells of a list of bundles, and what their slices hold. -/
def BC (R G : Nat → List Int) (cells : List Value) (n : Nat) (X : HS) : Prop := cells.length = n * 2 ∧ ∀ j, j < n → ∃ o1 o2 c1 c2, cells[j * 2]? = some (.slice o1 (R j).length c1) ∧ cells[j * 2 + 1]? = some (.slice o2 (G j).length c2) ∧ (∀ B w0, Sl B w0 X o1 (R j)) ∧ (∀ B w0, Sl B w0 X o2 (G j))
theorem BC.nil (R G : Nat → List Int) : BC R G [] 0 [] := ⟨rfl, fun j hj => absurd hj (by omega)⟩
theorem BC.snoc {R G : Nat → List Int} {cells : List Value} {n : Nat} {X k : HS} (h : BC R G cells n X) {o1 o2 : Option Addr} {c1 c2 : Nat} (h1 : ∀ B w0, Sl B w0 k o1 (R n)) (h2 : ∀ B w0, Sl B w0 k o2 (G n)) : BC R G (cells ++ [.slice o1 (R n).length c1, .slice o2 (G n).length c2]) (n + 1) (k ++ X) := by
  refine ⟨by rw [List.length_append, h.1]; show n * 2 + 2 = _; omega, fun j hj => ?_⟩
  by_cases e : j = n
  · subst e
    refine ⟨o1, o2, c1, c2, ?_, ?_, fun B w0 => (h1 B w0).sub sbL, fun B w0 => (h2 B w0).sub sbL⟩
    · rw [List.getElem?_append_right (by rw [h.1]; omega), h.1, Nat.sub_self]; rfl
    · rw [List.getElem?_append_right (by rw [h.1]; omega), h.1, show j * 2 + 1 - j * 2 = 1 by omega]; rfl
  · obtain ⟨p1, p2, d1, d2, a, b, c, d⟩ := h.2 j (by omega)
    exact ⟨p1, p2, d1, d2, by rw [List.getElem?_append_left (by rw [h.1]; omega)]; exact a, by rw [List.getElem?_append_left (by rw [h.1]; omega)]; exact b, fun B w0 => (c B w0).sub (sbA sb0), fun B w0 => (d B w0).sub (sbA sb0)⟩
/-- A new list of bundles, and an error. -/
def NewBs (R G : Nat → List Int) (n : Nat) (e : Int) (u : Value) (blk : HS) : Prop := ∃ oa c cells Y X, u = .tuple #[.slice oa n c, iv e] ∧ RowOk oa c 2 cells Y ∧ BC R G cells n X ∧ blk = Y ++ X
theorem NewBs.none (R G : Nat → List Int) (e : Int) : NewBs R G 0 e (.tuple #[.slice none 0 0, iv e]) [] := ⟨_, _, _, _, _, rfl, RowOk.nil, BC.nil R G, rfl⟩
def hfE (r g : List Int) (n : Int) : Int := if vErr r g = 0 then if n < 1 then 1 else if 200 < hfC (cn r) (cn g) n then 4 else 0 else vErr r g
def hfM (r g : List Int) (n : Int) : Nat := if hfE r g n = 0 then hfC (cn r) (cn g) n else 0
def hfR (r g : List Int) (n : Int) (i : Nat) : List Int := trm (hfF (cn r) (cn g) n i)
def hfL (r g : List Int) (n : Int) (i : Nat) : List Int := trm (hfG (cn r) (cn g) n i)
structure HF where
  i : Nat
  oa : Option Addr
  c : Nat
  cells : List Value
  Y : HS
  X : HS
set_option maxRecDepth 100000 in
set_option maxHeartbeats 8000000 in
theorem h_Handfuls (o1 o2 : Option Addr) (c1 c2 : Nat) (r g : List Int) (n : Int) (B : Nat) (w0 : World) (hs : HS) (h1 : Sl B w0 hs o1 r) (h2 : Sl B w0 hs o2 g) :
    Fn Try.prog 52 #[bv o1 o2 r.length g.length c1 c2, iv n] B w0 hs (fun u hs' => ∃ blk, NewBs (hfR r g n) (hfL r g n) (hfM r g n) (hfE r g n) u blk ∧ hs' = blk ++ hs) := by
  have hV := fun hs a b => h_validate o1 o2 c1 c2 r g B w0 hs a b
  by_cases hv : vErr r g = 0
  · rw [hv] at hV
    obtain ⟨hr, hg, q3, q4, q5, q6⟩ := vErr_zero hv
    have k1 := okh_cn q3 q5; have k2 := okh_cn q4 q6
    have hl1 := lockC_length (cn r) (cn g)
    have hcb := cnt_to (cn r) (cn g) 1 (okh_okf k1) (okh_okf k2) 25 (by omega)
    have hcb2 : cnt (cn r) (cn g) 1 = sumTo (fun i => if 1 ≤ i ∧ (1 : Int) ≤ i then cn r i + cn g i else 0) 25 := rfl
    rw [← hcb2] at hcb
    have hE : hfE r g n = if n < 1 then 1 else if 200 < hfC (cn r) (cn g) n then 4 else 0 := if_pos hv
    have kc := fun hs => h_count (cn r) (cn g) 1 (okh_okf k1) (okh_okf k2) B w0 hs
    by_cases hn : n < 1
    · rw [if_pos hn] at hE
      rw [show hfM r g n = 0 from if_neg (by omega), hE]
      refine fn_enter Try.func52 rfl Try.ntmps52 (by simp) ?_
      repeat' (first | ((with_reducible apply kF 32); refine sC 32 (hV _ (h1.sub SBt) (h2.sub SBt)) ?_) | (with_reducible first | refine c_seq ?_ | refine c_reg ?_ | refine c_region ?_ | refine c_block ?_ | refine c_skip ?_ | refine c_exit ?_ | refine c_ret ?_ | refine s_nil ?_ | refine x_then ?_ | refine x_then_exit ?_ | refine x_then_ret ?_ | refine x_block ?_ | refine x_block_ret ?_ | refine x_block_same ?_ | refine x_block_other (by rfl) ?_ | refine q_nil ?_ | refine k_nil ?_) | ((with_reducible apply kP (.makeFunc _ _ _)); refine sMF ?_) | ((with_reducible apply kG); first | refine gY1 ?_ | refine gN1 ?_ | refine gU1 ?_ | (refine gD1 (fun h => ?_) (fun h => ?_) <;> (try (exfalso; omega))) | refine gB1 (fun h => ?_) (fun h => ?_)) | ((with_reducible apply kN); first | refine stP ?_ | refine stI ?_ | refine st1 ?_ | refine stW ?_) | ((with_reducible apply kP (.alloc _)); refine sA (fun b => ?_)) | ((with_reducible apply kP (.box _ _)); first | refine sBA (fun b => ?_) | refine sB (fun b => ?_)) | ((with_reducible apply kP (.buildSlice _ 1 _)); first | refine sl1A (fun b => ?_) | refine sl1 (fun b => ?_)) | ((with_reducible apply kP (.buildSlice _ 2 _)); refine sl2 (fun b => ?_)) | ((with_reducible apply kP (.buildSlice _ 3 _)); refine sl3 (fun b => ?_)) | ((with_reducible apply kP (.buildSlice _ 4 _)); refine sl4 (fun b => ?_)) | ((with_reducible apply kP (.buildSlice _ 0 _)); refine s_bs0 (scTOf rfl) (zsTOf rfl) (by decide) (fun b => ?_)) | ((with_reducible apply kP (.makeSlice _ _ _)); refine sMk (fun b => ?_)) | ((with_reducible apply kP (.call ⟨.builtin .append, _, _⟩)); refine sAp (fun oa2 c2 blk2 hrow2 => ?_)) | ((with_reducible apply kP _); refine sP ?_) | ((with_reducible apply kP _); refine sX ?_) | ((with_reducible apply kQG); first | refine qY1 ?_ | refine qN1 ?_ | refine qU1 ?_ | (refine qD1 (fun h => ?_) (fun h => ?_) <;> (try (exfalso; omega))) | refine qB1 (fun h => ?_) (fun h => ?_)) | ((with_reducible apply kQP); refine qP ?_) | ((with_reducible apply kQP); refine qX ?_) | ((with_reducible apply kC); first | refine cT ?_ | refine cF ?_ | (refine cI (fun h => ?_) (fun h => ?_) <;> (try (exfalso; omega))) | refine cB (fun h => ?_) (fun h => ?_)) | ((with_reducible apply kR); refine cQ ?_))
      all_goals first
        | exact e_ret2 (hs' := hs) rfl rfl rfl ⟨[], .none _ _ _, rfl⟩ SCt
        | (exfalso; omega)
    rw [if_neg hn] at hE
    have hq : 0 ≤ (cnt (cn r) (cn g) 1 + n - 1) / n := Int.ediv_nonneg (by omega) (by omega)
    have hC : hfC (cn r) (cn g) n = ((cnt (cn r) (cn g) 1 + n - 1) / n).toNat := rfl
    have hq2 : cnt (cn r) (cn g) 1 ≤ n → (cnt (cn r) (cn g) 1 + n - 1) / n ≤ 1 := fun h => by
      have : (cnt (cn r) (cn g) 1 + n - 1) / n < 2 := (Int.ediv_lt_iff_lt_mul (by omega)).2 (by omega)
      omega
    by_cases h200 : 200 < hfC (cn r) (cn g) n
    · rw [if_pos h200] at hE
      rw [show hfM r g n = 0 from if_neg (by omega), hE]
      have hnl : n < cnt (cn r) (cn g) 1 := by
        by_cases h : n < cnt (cn r) (cn g) 1
        · exact h
        · have := hq2 (by omega); omega
      refine fn_enter Try.func52 rfl Try.ntmps52 (by simp) ?_
      repeat' (first | ((with_reducible apply kF 32); refine sC 32 (hV _ (h1.sub SBt) (h2.sub SBt)) ?_) | ((with_reducible apply kF 65); refine sC 65 (h_open o1 o2 c1 c2 r g B w0 _ (h1.sub SBt) (h2.sub SBt) hr hg) ?_) | ((with_reducible apply kF 69); refine sC 69 (kc _) ?_) | (with_reducible first | refine c_seq ?_ | refine c_reg ?_ | refine c_region ?_ | refine c_block ?_ | refine c_skip ?_ | refine c_exit ?_ | refine c_ret ?_ | refine s_nil ?_ | refine x_then ?_ | refine x_then_exit ?_ | refine x_then_ret ?_ | refine x_block ?_ | refine x_block_ret ?_ | refine x_block_same ?_ | refine x_block_other (by rfl) ?_ | refine q_nil ?_ | refine k_nil ?_) | ((with_reducible apply kP (.makeFunc _ _ _)); refine sMF ?_) | ((with_reducible apply kG); first | refine gY1 ?_ | refine gN1 ?_ | refine gU1 ?_ | (refine gD1 (fun h => ?_) (fun h => ?_) <;> (try (exfalso; omega))) | refine gB1 (fun h => ?_) (fun h => ?_)) | ((with_reducible apply kN); first | refine stP ?_ | refine stI ?_ | refine st1 ?_ | refine stW ?_) | ((with_reducible apply kP (.alloc _)); refine sA (fun b => ?_)) | ((with_reducible apply kP (.box _ _)); first | refine sBA (fun b => ?_) | refine sB (fun b => ?_)) | ((with_reducible apply kP (.buildSlice _ 1 _)); first | refine sl1A (fun b => ?_) | refine sl1 (fun b => ?_)) | ((with_reducible apply kP (.buildSlice _ 2 _)); refine sl2 (fun b => ?_)) | ((with_reducible apply kP (.buildSlice _ 3 _)); refine sl3 (fun b => ?_)) | ((with_reducible apply kP (.buildSlice _ 4 _)); refine sl4 (fun b => ?_)) | ((with_reducible apply kP (.buildSlice _ 0 _)); refine s_bs0 (scTOf rfl) (zsTOf rfl) (by decide) (fun b => ?_)) | ((with_reducible apply kP (.makeSlice _ _ _)); refine sMk (fun b => ?_)) | ((with_reducible apply kP (.call ⟨.builtin .append, _, _⟩)); refine sAp (fun oa2 c2 blk2 hrow2 => ?_)) | ((with_reducible apply kP _); refine sP ?_) | ((with_reducible apply kP _); refine sX ?_) | ((with_reducible apply kQG); first | refine qY1 ?_ | refine qN1 ?_ | refine qU1 ?_ | (refine qD1 (fun h => ?_) (fun h => ?_) <;> (try (exfalso; omega))) | refine qB1 (fun h => ?_) (fun h => ?_)) | ((with_reducible apply kQP); refine qP ?_) | ((with_reducible apply kQP); refine qX ?_) | ((with_reducible apply kC); first | refine cT ?_ | refine cF ?_ | (refine cI (fun h => ?_) (fun h => ?_) <;> (try (exfalso; omega))) | refine cB (fun h => ?_) (fun h => ?_)) | ((with_reducible apply kR); refine cQ ?_))
      all_goals first
        | exact e_ret2 (hs' := hs) rfl rfl rfl ⟨[], .none _ _ _, rfl⟩ SCt
        | (exfalso; omega)
    rw [if_neg h200] at hE
    rw [show hfM r g n = hfC (cn r) (cn g) n from if_pos hE, hE]
    refine fn_enter Try.func52 rfl Try.ntmps52 (by simp) ?_
    repeat' (first | ((with_reducible apply kF 32); refine sC 32 (hV _ (h1.sub SBt) (h2.sub SBt)) ?_) | ((with_reducible apply kF 65); refine sC 65 (h_open o1 o2 c1 c2 r g B w0 _ (h1.sub SBt) (h2.sub SBt) hr hg) ?_) | ((with_reducible apply kF 69); refine sC 69 (kc _) ?_) | (with_reducible first | refine c_seq ?_ | refine c_reg ?_ | refine c_region ?_ | refine c_block ?_ | refine c_skip ?_ | refine c_exit ?_ | refine c_ret ?_ | refine s_nil ?_ | refine x_then ?_ | refine x_then_exit ?_ | refine x_then_ret ?_ | refine x_block ?_ | refine x_block_ret ?_ | refine x_block_same ?_ | refine x_block_other (by rfl) ?_ | refine q_nil ?_ | refine k_nil ?_) | ((with_reducible apply kP (.makeFunc _ _ _)); refine sMF ?_) | ((with_reducible apply kG); first | refine gY1 ?_ | refine gN1 ?_ | refine gU1 ?_ | (refine gD1 (fun h => ?_) (fun h => ?_) <;> (try (exfalso; omega))) | refine gB1 (fun h => ?_) (fun h => ?_)) | ((with_reducible apply kN); first | refine stP ?_ | refine stI ?_ | refine st1 ?_ | refine stW ?_) | ((with_reducible apply kP (.alloc _)); refine sA (fun b => ?_)) | ((with_reducible apply kP (.box _ _)); first | refine sBA (fun b => ?_) | refine sB (fun b => ?_)) | ((with_reducible apply kP (.buildSlice _ 1 _)); first | refine sl1A (fun b => ?_) | refine sl1 (fun b => ?_)) | ((with_reducible apply kP (.buildSlice _ 2 _)); refine sl2 (fun b => ?_)) | ((with_reducible apply kP (.buildSlice _ 3 _)); refine sl3 (fun b => ?_)) | ((with_reducible apply kP (.buildSlice _ 4 _)); refine sl4 (fun b => ?_)) | ((with_reducible apply kP (.buildSlice _ 0 _)); refine s_bs0 (scTOf rfl) (zsTOf rfl) (by decide) (fun b => ?_)) | ((with_reducible apply kP (.makeSlice _ _ _)); refine sMk (fun b => ?_)) | ((with_reducible apply kP (.call ⟨.builtin .append, _, _⟩)); refine sAp (fun oa2 c2 blk2 hrow2 => ?_)) | ((with_reducible apply kP _); refine sP ?_) | ((with_reducible apply kP _); refine sX ?_) | ((with_reducible apply kQG); first | refine qY1 ?_ | refine qN1 ?_ | refine qU1 ?_ | (refine qD1 (fun h => ?_) (fun h => ?_) <;> (try (exfalso; omega))) | refine qB1 (fun h => ?_) (fun h => ?_)) | ((with_reducible apply kQP); refine qP ?_) | ((with_reducible apply kQP); refine qX ?_) | ((with_reducible apply kC); first | refine cT ?_ | refine cF ?_ | (refine cI (fun h => ?_) (fun h => ?_) <;> (try (exfalso; omega))) | refine cB (fun h => ?_) (fun h => ?_)) | ((with_reducible apply kR); refine cQ ?_))
    all_goals try (exfalso; omega)
    all_goals
      refine c_loop (fun s : HF => [(1, iv n), (7, .pointer (some ⟨b, 0, none⟩)), (8, iv (cnt (hfS (cn r) (cn g) n s.i).1 (hfS (cn r) (cn g) n s.i).2 1)), (9, .slice s.oa s.i s.c)]) (fun s => s.Y ++ (b, ivs (lockC (hfS (cn r) (cn g) n s.i).1 (hfS (cn r) (cn g) n s.i).2)) :: (s.X ++ hs))
        (fun s => s.i ≤ hfC (cn r) (cn g) n ∧ RowOk s.oa s.c 2 s.cells s.Y ∧ BC (hfR r g n) (hfL r g n) s.cells s.i s.X) (fun s => hfC (cn r) (cn g) n - s.i) ⟨0, none, 0, [], [], []⟩ ⟨by simp only; omega, RowOk.nil, BC.nil _ _⟩ ⟨rfl, rfl, rfl, rfl, trivial⟩ (by show List.Sublist ((b, ivs (lockC (cn r) (cn g))) :: hs) _; exact SCt) ?_
      rintro ⟨i, oa, c, cells, Y, X⟩ ⟨hi, hrow, hbc⟩
      simp only at hi hrow hbc ⊢
      obtain ⟨w1, w2⟩ := hf_ok k1 k2 (show 1 ≤ n by omega) i
      have wl := hf_left k1 k2 (show 1 ≤ n by omega) i
      have wc := hfC_lt (f := cn r) (g := cn g) (n := n) (by omega) (by omega) i
      have hlk := lockC_length (hfS (cn r) (cn g) n i).1 (hfS (cn r) (cn g) n i).2
      by_cases hi' : i < hfC (cn r) (cn g) n
      · have hpos := wc.1 hi'
        have wn := hf_next k1 k2 (show 1 ≤ n by omega) i
        have hN : hfN (cn r) (cn g) n i = min n (cnt (hfS (cn r) (cn g) n i).1 (hfS (cn r) (cn g) n i).2 1) := rfl
        have dw := fun b hs => h_draw (hfS (cn r) (cn g) n i).1 (hfS (cn r) (cn g) n i).2 (hfN (cn r) (cn g) n i) (okh_okf w1) (okh_okf w2) (by omega) (by have := Int.mul_nonneg (show (0 : Int) ≤ i by omega) (show 0 ≤ n by omega); omega) b B w0 hs
        obtain ⟨y1, y2, _⟩ := oF_ok (n := hfN (cn r) (cn g) n i) w1 w2 (by omega)
        have hl2 := lockC_length (hfF (cn r) (cn g) n i) (hfG (cn r) (cn g) n i)
        have hcl := hbc.1
        have tl1 := trm_length (hfF (cn r) (cn g) n i)
        have hcap : cnt (hfS (cn r) (cn g) n i).1 (hfS (cn r) (cn g) n i).2 1 ≤ 1000000000 := by have := Int.mul_nonneg (show (0 : Int) ≤ i by omega) (show 0 ≤ n by omega); omega
        repeat' (first | ((with_reducible apply kF 87); refine s_mut1 (goTOf rfl) rfl (by with_reducible ((repeat (first | exact Take.head | exact Take.one | apply Take.tail | apply Take.app)); done)) (dw _ _) (by decide) ?_) | ((with_reducible apply kF 73); refine sN 73 (h_tieO (hfF (cn r) (cn g) n i) (hfG (cn r) (cn g) n i) y1 y2 B w0 _) ?_; rintro u ka hN2; obtain ⟨p1, p2, ca1, ca2, rfl, hp1, hp2, _⟩ := hN2.use) | (with_reducible first | refine c_seq ?_ | refine c_reg ?_ | refine c_region ?_ | refine c_block ?_ | refine c_skip ?_ | refine c_exit ?_ | refine c_ret ?_ | refine s_nil ?_ | refine x_then ?_ | refine x_then_exit ?_ | refine x_then_ret ?_ | refine x_block ?_ | refine x_block_ret ?_ | refine x_block_same ?_ | refine x_block_other (by rfl) ?_ | refine q_nil ?_ | refine k_nil ?_) | ((with_reducible apply kP (.makeFunc _ _ _)); refine sMF ?_) | ((with_reducible apply kG); first | refine gY1 ?_ | refine gN1 ?_ | refine gU1 ?_ | (refine gD1 (fun h => ?_) (fun h => ?_) <;> (try (exfalso; omega))) | refine gB1 (fun h => ?_) (fun h => ?_)) | ((with_reducible apply kN); first | refine stP ?_ | refine stI ?_ | refine st1 ?_ | refine stW ?_) | ((with_reducible apply kP (.alloc _)); refine sA (fun b => ?_)) | ((with_reducible apply kP (.box _ _)); first | refine sBA (fun b => ?_) | refine sB (fun b => ?_)) | ((with_reducible apply kP (.buildSlice _ 1 _)); first | refine sl1A (fun b => ?_) | refine sl1 (fun b => ?_)) | ((with_reducible apply kP (.buildSlice _ 2 _)); refine sl2 (fun b => ?_)) | ((with_reducible apply kP (.buildSlice _ 3 _)); refine sl3 (fun b => ?_)) | ((with_reducible apply kP (.buildSlice _ 4 _)); refine sl4 (fun b => ?_)) | ((with_reducible apply kP (.buildSlice _ 0 _)); refine s_bs0 (scTOf rfl) (zsTOf rfl) (by decide) (fun b => ?_)) | ((with_reducible apply kP (.makeSlice _ _ _)); refine sMk (fun b => ?_)) | ((with_reducible apply kP (.call ⟨.builtin .append, _, _⟩)); refine sAp (fun oa2 c2 blk2 hrow2 => ?_)) | ((with_reducible apply kP _); refine sP ?_) | ((with_reducible apply kP _); refine sX ?_) | ((with_reducible apply kQG); first | refine qY1 ?_ | refine qN1 ?_ | refine qU1 ?_ | (refine qD1 (fun h => ?_) (fun h => ?_) <;> (try (exfalso; omega))) | refine qB1 (fun h => ?_) (fun h => ?_)) | ((with_reducible apply kQP); refine qP ?_) | ((with_reducible apply kQP); refine qX ?_) | ((with_reducible apply kC); first | refine cT ?_ | refine cF ?_ | (refine cI (fun h => ?_) (fun h => ?_) <;> (try (exfalso; omega))) | refine cB (fun h => ?_) (fun h => ?_)) | ((with_reducible apply kR); refine cQ ?_))
        refine Sat.perm (List.Perm.append_left _ (.cons _ (.cons _ ((List.perm_middle).trans (.cons _ List.perm_middle))))) ?_
        exact r_end ⟨i + 1, oa2, c2, _, blk2, ka ++ X⟩ ⟨by simp only; omega, hrow2, hbc.snoc hp1 hp2⟩ (by simp only; omega) ⟨rfl, rfl, congrArg (fun x => some (iv x)) wn.symm, rfl, trivial⟩ (by simp only [List.append_assoc]; exact .append (.refl _) (.cons _ (.cons _ (.cons _ (.refl _)))))
      · have hz : ¬ 0 < cnt (cn r) (cn g) 1 - i * n := fun h => hi' (wc.2 h)
        have hic : i = hfC (cn r) (cn g) n := by omega
        repeat' (first | (with_reducible first | refine c_seq ?_ | refine c_reg ?_ | refine c_region ?_ | refine c_block ?_ | refine c_skip ?_ | refine c_exit ?_ | refine c_ret ?_ | refine s_nil ?_ | refine x_then ?_ | refine x_then_exit ?_ | refine x_then_ret ?_ | refine x_block ?_ | refine x_block_ret ?_ | refine x_block_same ?_ | refine x_block_other (by rfl) ?_ | refine q_nil ?_ | refine k_nil ?_) | ((with_reducible apply kP (.makeFunc _ _ _)); refine sMF ?_) | ((with_reducible apply kG); first | refine gY1 ?_ | refine gN1 ?_ | refine gU1 ?_ | (refine gD1 (fun h => ?_) (fun h => ?_) <;> (try (exfalso; omega))) | refine gB1 (fun h => ?_) (fun h => ?_)) | ((with_reducible apply kN); first | refine stP ?_ | refine stI ?_ | refine st1 ?_ | refine stW ?_) | ((with_reducible apply kP (.alloc _)); refine sA (fun b => ?_)) | ((with_reducible apply kP (.box _ _)); first | refine sBA (fun b => ?_) | refine sB (fun b => ?_)) | ((with_reducible apply kP (.buildSlice _ 1 _)); first | refine sl1A (fun b => ?_) | refine sl1 (fun b => ?_)) | ((with_reducible apply kP (.buildSlice _ 2 _)); refine sl2 (fun b => ?_)) | ((with_reducible apply kP (.buildSlice _ 3 _)); refine sl3 (fun b => ?_)) | ((with_reducible apply kP (.buildSlice _ 4 _)); refine sl4 (fun b => ?_)) | ((with_reducible apply kP (.buildSlice _ 0 _)); refine s_bs0 (scTOf rfl) (zsTOf rfl) (by decide) (fun b => ?_)) | ((with_reducible apply kP (.makeSlice _ _ _)); refine sMk (fun b => ?_)) | ((with_reducible apply kP (.call ⟨.builtin .append, _, _⟩)); refine sAp (fun oa2 c2 blk2 hrow2 => ?_)) | ((with_reducible apply kP _); refine sP ?_) | ((with_reducible apply kP _); refine sX ?_) | ((with_reducible apply kQG); first | refine qY1 ?_ | refine qN1 ?_ | refine qU1 ?_ | (refine qD1 (fun h => ?_) (fun h => ?_) <;> (try (exfalso; omega))) | refine qB1 (fun h => ?_) (fun h => ?_)) | ((with_reducible apply kQP); refine qP ?_) | ((with_reducible apply kQP); refine qX ?_) | ((with_reducible apply kC); first | refine cT ?_ | refine cF ?_ | (refine cI (fun h => ?_) (fun h => ?_) <;> (try (exfalso; omega))) | refine cB (fun h => ?_) (fun h => ?_)) | ((with_reducible apply kR); refine cQ ?_))
        all_goals try (exfalso; omega)
        rw [← hic]
        exact e_ret2 rfl rfl rfl ⟨Y ++ X, ⟨oa, c, cells, Y, X, rfl, hrow, hbc, rfl⟩, rfl⟩ (by rw [List.append_assoc]; exact .append (.refl _) (.cons _ (.refl _)))
  · have hE : hfE r g n = vErr r g := if_neg hv
    have hE' : ¬ hfE r g n = 0 := by rw [hE]; exact hv
    rw [show hfM r g n = 0 from if_neg hE', hE]
    refine fn_enter Try.func52 rfl Try.ntmps52 (by simp) ?_
    repeat' (first | ((with_reducible apply kF 32); refine sC 32 (hV _ (h1.sub SBt) (h2.sub SBt)) ?_) | (with_reducible first | refine c_seq ?_ | refine c_reg ?_ | refine c_region ?_ | refine c_block ?_ | refine c_skip ?_ | refine c_exit ?_ | refine c_ret ?_ | refine s_nil ?_ | refine x_then ?_ | refine x_then_exit ?_ | refine x_then_ret ?_ | refine x_block ?_ | refine x_block_ret ?_ | refine x_block_same ?_ | refine x_block_other (by rfl) ?_ | refine q_nil ?_ | refine k_nil ?_) | ((with_reducible apply kP (.makeFunc _ _ _)); refine sMF ?_) | ((with_reducible apply kG); first | refine gY1 ?_ | refine gN1 ?_ | refine gU1 ?_ | (refine gD1 (fun h => ?_) (fun h => ?_) <;> (try (exfalso; omega))) | refine gB1 (fun h => ?_) (fun h => ?_)) | ((with_reducible apply kN); first | refine stP ?_ | refine stI ?_ | refine st1 ?_ | refine stW ?_) | ((with_reducible apply kP (.alloc _)); refine sA (fun b => ?_)) | ((with_reducible apply kP (.box _ _)); first | refine sBA (fun b => ?_) | refine sB (fun b => ?_)) | ((with_reducible apply kP (.buildSlice _ 1 _)); first | refine sl1A (fun b => ?_) | refine sl1 (fun b => ?_)) | ((with_reducible apply kP (.buildSlice _ 2 _)); refine sl2 (fun b => ?_)) | ((with_reducible apply kP (.buildSlice _ 3 _)); refine sl3 (fun b => ?_)) | ((with_reducible apply kP (.buildSlice _ 4 _)); refine sl4 (fun b => ?_)) | ((with_reducible apply kP (.buildSlice _ 0 _)); refine s_bs0 (scTOf rfl) (zsTOf rfl) (by decide) (fun b => ?_)) | ((with_reducible apply kP (.makeSlice _ _ _)); refine sMk (fun b => ?_)) | ((with_reducible apply kP (.call ⟨.builtin .append, _, _⟩)); refine sAp (fun oa2 c2 blk2 hrow2 => ?_)) | ((with_reducible apply kP _); refine sP ?_) | ((with_reducible apply kP _); refine sX ?_) | ((with_reducible apply kQG); first | refine qY1 ?_ | refine qN1 ?_ | refine qU1 ?_ | (refine qD1 (fun h => ?_) (fun h => ?_) <;> (try (exfalso; omega))) | refine qB1 (fun h => ?_) (fun h => ?_)) | ((with_reducible apply kQP); refine qP ?_) | ((with_reducible apply kQP); refine qX ?_) | ((with_reducible apply kC); first | refine cT ?_ | refine cF ?_ | (refine cI (fun h => ?_) (fun h => ?_) <;> (try (exfalso; omega))) | refine cB (fun h => ?_) (fun h => ?_)) | ((with_reducible apply kR); refine cQ ?_))
    all_goals first
      | exact e_ret2 (hs' := hs) rfl rfl rfl ⟨[], .none _ _ _, rfl⟩ SCt
      | (exfalso; omega)
set_option maxRecDepth 100000 in
set_option maxHeartbeats 8000000 in
theorem r_Handfuls (o1 o2 : Option Addr) (c1 c2 : Nat) (r g : List Int) (n : Int) (B : Nat) (w0 : World) (hs : HS) (h1 : Sl B w0 hs o1 r) (h2 : Sl B w0 hs o2 g) :
    Fn Try.prog 53 #[bv o1 o2 r.length g.length c1 c2, iv n] B w0 hs (fun u hs' => ∃ blk, NewBs (hfR r g n) (hfL r g n) (hfM r g n) (hfE r g n) u blk ∧ hs' = blk ++ hs) := by
  have hV := fun hs a b => r_validate o1 o2 c1 c2 r g B w0 hs a b
  by_cases hv : vErr r g = 0
  · rw [hv] at hV
    obtain ⟨hr, hg, q3, q4, q5, q6⟩ := vErr_zero hv
    have k1 := okh_cn q3 q5; have k2 := okh_cn q4 q6
    have hl1 := hairC_length (cn r) (cn g)
    have hcb := cnt_to (cn r) (cn g) 1 (okh_okf k1) (okh_okf k2) 25 (by omega)
    have hcb2 : cnt (cn r) (cn g) 1 = sumTo (fun i => if 1 ≤ i ∧ (1 : Int) ≤ i then cn r i + cn g i else 0) 25 := rfl
    rw [← hcb2] at hcb
    have hE : hfE r g n = if n < 1 then 1 else if 200 < hfC (cn r) (cn g) n then 4 else 0 := if_pos hv
    have kc := fun hs => r_above (cn r) (cn g) 0 (okh_okf k1) (okh_okf k2) B w0 hs
    rw [cnt_01] at kc
    by_cases hn : n < 1
    · rw [if_pos hn] at hE
      rw [show hfM r g n = 0 from if_neg (by omega), hE]
      refine fn_enter Try.func53 rfl Try.ntmps53 (by simp) ?_
      repeat' (first | ((with_reducible apply kF 33); refine sC 33 (hV _ (h1.sub SBt) (h2.sub SBt)) ?_) | (with_reducible first | refine c_seq ?_ | refine c_reg ?_ | refine c_region ?_ | refine c_block ?_ | refine c_skip ?_ | refine c_exit ?_ | refine c_ret ?_ | refine s_nil ?_ | refine x_then ?_ | refine x_then_exit ?_ | refine x_then_ret ?_ | refine x_block ?_ | refine x_block_ret ?_ | refine x_block_same ?_ | refine x_block_other (by rfl) ?_ | refine q_nil ?_ | refine k_nil ?_) | ((with_reducible apply kP (.makeFunc _ _ _)); refine sMF ?_) | ((with_reducible apply kG); first | refine gY1 ?_ | refine gN1 ?_ | refine gU1 ?_ | (refine gD1 (fun h => ?_) (fun h => ?_) <;> (try (exfalso; omega))) | refine gB1 (fun h => ?_) (fun h => ?_)) | ((with_reducible apply kN); first | refine stP ?_ | refine stI ?_ | refine st1 ?_ | refine stW ?_) | ((with_reducible apply kP (.alloc _)); refine sA (fun b => ?_)) | ((with_reducible apply kP (.box _ _)); first | refine sBA (fun b => ?_) | refine sB (fun b => ?_)) | ((with_reducible apply kP (.buildSlice _ 1 _)); first | refine sl1A (fun b => ?_) | refine sl1 (fun b => ?_)) | ((with_reducible apply kP (.buildSlice _ 2 _)); refine sl2 (fun b => ?_)) | ((with_reducible apply kP (.buildSlice _ 3 _)); refine sl3 (fun b => ?_)) | ((with_reducible apply kP (.buildSlice _ 4 _)); refine sl4 (fun b => ?_)) | ((with_reducible apply kP (.buildSlice _ 0 _)); refine s_bs0 (scTOf rfl) (zsTOf rfl) (by decide) (fun b => ?_)) | ((with_reducible apply kP (.makeSlice _ _ _)); refine sMk (fun b => ?_)) | ((with_reducible apply kP (.call ⟨.builtin .append, _, _⟩)); refine sAp (fun oa2 c2 blk2 hrow2 => ?_)) | ((with_reducible apply kP _); refine sP ?_) | ((with_reducible apply kP _); refine sX ?_) | ((with_reducible apply kQG); first | refine qY1 ?_ | refine qN1 ?_ | refine qU1 ?_ | (refine qD1 (fun h => ?_) (fun h => ?_) <;> (try (exfalso; omega))) | refine qB1 (fun h => ?_) (fun h => ?_)) | ((with_reducible apply kQP); refine qP ?_) | ((with_reducible apply kQP); refine qX ?_) | ((with_reducible apply kC); first | refine cT ?_ | refine cF ?_ | (refine cI (fun h => ?_) (fun h => ?_) <;> (try (exfalso; omega))) | refine cB (fun h => ?_) (fun h => ?_)) | ((with_reducible apply kR); refine cQ ?_))
      all_goals first
        | exact e_ret2 (hs' := hs) rfl rfl rfl ⟨[], .none _ _ _, rfl⟩ SCt
        | (exfalso; omega)
    rw [if_neg hn] at hE
    refine fn_enter Try.func53 rfl Try.ntmps53 (by simp) ?_
    repeat' (first | ((with_reducible apply kF 33); refine sC 33 (hV _ (h1.sub SBt) (h2.sub SBt)) ?_) | ((with_reducible apply kF 67); refine sC 67 (r_open o1 o2 c1 c2 r g B w0 _ (h1.sub SBt) (h2.sub SBt) hr hg) ?_) | ((with_reducible apply kF 70); refine sC 70 (kc _) ?_) | (with_reducible first | refine c_seq ?_ | refine c_reg ?_ | refine c_region ?_ | refine c_block ?_ | refine c_skip ?_ | refine c_exit ?_ | refine c_ret ?_ | refine s_nil ?_ | refine x_then ?_ | refine x_then_exit ?_ | refine x_then_ret ?_ | refine x_block ?_ | refine x_block_ret ?_ | refine x_block_same ?_ | refine x_block_other (by rfl) ?_ | refine q_nil ?_ | refine k_nil ?_) | ((with_reducible apply kP (.makeFunc _ _ _)); refine sMF ?_) | ((with_reducible apply kG); first | refine gY1 ?_ | refine gN1 ?_ | refine gU1 ?_ | (refine gD1 (fun h => ?_) (fun h => ?_) <;> (try (exfalso; omega))) | refine gB1 (fun h => ?_) (fun h => ?_)) | ((with_reducible apply kN); first | refine stP ?_ | refine stI ?_ | refine st1 ?_ | refine stW ?_) | ((with_reducible apply kP (.alloc _)); refine sA (fun b => ?_)) | ((with_reducible apply kP (.box _ _)); first | refine sBA (fun b => ?_) | refine sB (fun b => ?_)) | ((with_reducible apply kP (.buildSlice _ 1 _)); first | refine sl1A (fun b => ?_) | refine sl1 (fun b => ?_)) | ((with_reducible apply kP (.buildSlice _ 2 _)); refine sl2 (fun b => ?_)) | ((with_reducible apply kP (.buildSlice _ 3 _)); refine sl3 (fun b => ?_)) | ((with_reducible apply kP (.buildSlice _ 4 _)); refine sl4 (fun b => ?_)) | ((with_reducible apply kP (.buildSlice _ 0 _)); refine s_bs0 (scTOf rfl) (zsTOf rfl) (by decide) (fun b => ?_)) | ((with_reducible apply kP (.makeSlice _ _ _)); refine sMk (fun b => ?_)) | ((with_reducible apply kP (.call ⟨.builtin .append, _, _⟩)); refine sAp (fun oa2 c2 blk2 hrow2 => ?_)) | ((with_reducible apply kP _); refine sP ?_) | ((with_reducible apply kP _); refine sX ?_) | ((with_reducible apply kQG); first | refine qY1 ?_ | refine qN1 ?_ | refine qU1 ?_ | (refine qD1 (fun h => ?_) (fun h => ?_) <;> (try (exfalso; omega))) | refine qB1 (fun h => ?_) (fun h => ?_)) | ((with_reducible apply kQP); refine qP ?_) | ((with_reducible apply kQP); refine qX ?_) | ((with_reducible apply kC); first | refine cT ?_ | refine cF ?_ | (refine cI (fun h => ?_) (fun h => ?_) <;> (try (exfalso; omega))) | refine cB (fun h => ?_) (fun h => ?_)) | ((with_reducible apply kR); refine cQ ?_))
    all_goals try (exfalso; omega)
    refine c_loop (fun s : HF => [(1, iv n), (7, .pointer (some ⟨b, 0, none⟩)), (9, iv (cnt (hfS (cn r) (cn g) n s.i).1 (hfS (cn r) (cn g) n s.i).2 1)), (8, .slice s.oa s.i s.c)]) (fun s => s.Y ++ (b, ivs (hairC (hfS (cn r) (cn g) n s.i).1 (hfS (cn r) (cn g) n s.i).2)) :: (s.X ++ hs))
      (fun s => s.i ≤ hfC (cn r) (cn g) n ∧ s.i ≤ 200 ∧ RowOk s.oa s.c 2 s.cells s.Y ∧ BC (hfR r g n) (hfL r g n) s.cells s.i s.X) (fun s => hfC (cn r) (cn g) n - s.i) ⟨0, none, 0, [], [], []⟩ ⟨by simp only; omega, by simp only; omega, RowOk.nil, BC.nil _ _⟩ ⟨rfl, rfl, rfl, rfl, trivial⟩ (by show List.Sublist ((b, ivs (hairC (cn r) (cn g))) :: hs) _; exact SCt) ?_
    rintro ⟨i, oa, c, cells, Y, X⟩ ⟨hi, hi200, hrow, hbc⟩
    simp only at hi hi200 hrow hbc ⊢
    obtain ⟨w1, w2⟩ := hf_ok k1 k2 (show 1 ≤ n by omega) i
    have wl := hf_left k1 k2 (show 1 ≤ n by omega) i
    have wc := hfC_lt (f := cn r) (g := cn g) (n := n) (by omega) (by omega) i
    have hlk := hairC_length (hfS (cn r) (cn g) n i).1 (hfS (cn r) (cn g) n i).2
    by_cases hi' : i < hfC (cn r) (cn g) n
    · have hpos := wc.1 hi'
      by_cases h2' : i = 200
      · rw [if_pos (by omega)] at hE
        rw [show hfM r g n = 0 from if_neg (by omega), hE]
        repeat' (first | (with_reducible first | refine c_seq ?_ | refine c_reg ?_ | refine c_region ?_ | refine c_block ?_ | refine c_skip ?_ | refine c_exit ?_ | refine c_ret ?_ | refine s_nil ?_ | refine x_then ?_ | refine x_then_exit ?_ | refine x_then_ret ?_ | refine x_block ?_ | refine x_block_ret ?_ | refine x_block_same ?_ | refine x_block_other (by rfl) ?_ | refine q_nil ?_ | refine k_nil ?_) | ((with_reducible apply kP (.makeFunc _ _ _)); refine sMF ?_) | ((with_reducible apply kG); first | refine gY1 ?_ | refine gN1 ?_ | refine gU1 ?_ | (refine gD1 (fun h => ?_) (fun h => ?_) <;> (try (exfalso; omega))) | refine gB1 (fun h => ?_) (fun h => ?_)) | ((with_reducible apply kN); first | refine stP ?_ | refine stI ?_ | refine st1 ?_ | refine stW ?_) | ((with_reducible apply kP (.alloc _)); refine sA (fun b => ?_)) | ((with_reducible apply kP (.box _ _)); first | refine sBA (fun b => ?_) | refine sB (fun b => ?_)) | ((with_reducible apply kP (.buildSlice _ 1 _)); first | refine sl1A (fun b => ?_) | refine sl1 (fun b => ?_)) | ((with_reducible apply kP (.buildSlice _ 2 _)); refine sl2 (fun b => ?_)) | ((with_reducible apply kP (.buildSlice _ 3 _)); refine sl3 (fun b => ?_)) | ((with_reducible apply kP (.buildSlice _ 4 _)); refine sl4 (fun b => ?_)) | ((with_reducible apply kP (.buildSlice _ 0 _)); refine s_bs0 (scTOf rfl) (zsTOf rfl) (by decide) (fun b => ?_)) | ((with_reducible apply kP (.makeSlice _ _ _)); refine sMk (fun b => ?_)) | ((with_reducible apply kP (.call ⟨.builtin .append, _, _⟩)); refine sAp (fun oa2 c2 blk2 hrow2 => ?_)) | ((with_reducible apply kP _); refine sP ?_) | ((with_reducible apply kP _); refine sX ?_) | ((with_reducible apply kQG); first | refine qY1 ?_ | refine qN1 ?_ | refine qU1 ?_ | (refine qD1 (fun h => ?_) (fun h => ?_) <;> (try (exfalso; omega))) | refine qB1 (fun h => ?_) (fun h => ?_)) | ((with_reducible apply kQP); refine qP ?_) | ((with_reducible apply kQP); refine qX ?_) | ((with_reducible apply kC); first | refine cT ?_ | refine cF ?_ | (refine cI (fun h => ?_) (fun h => ?_) <;> (try (exfalso; omega))) | refine cB (fun h => ?_) (fun h => ?_)) | ((with_reducible apply kR); refine cQ ?_))
        all_goals first
          | exact e_ret2 (hs' := hs) rfl rfl rfl ⟨[], .none _ _ _, rfl⟩ (sbA (.cons _ (sbA (.refl _))))
          | (exfalso; omega)
      have wn := hf_next k1 k2 (show 1 ≤ n by omega) i
      have hN : hfN (cn r) (cn g) n i = min n (cnt (hfS (cn r) (cn g) n i).1 (hfS (cn r) (cn g) n i).2 1) := rfl
      have hcap : cnt (hfS (cn r) (cn g) n i).1 (hfS (cn r) (cn g) n i).2 1 ≤ 1000000000 := by have := Int.mul_nonneg (show (0 : Int) ≤ i by omega) (show 0 ≤ n by omega); omega
      have dw : ∀ hs, Fn Try.prog 88 #[hairV (hfS (cn r) (cn g) n i).1 (hfS (cn r) (cn g) n i).2, iv (hfN (cn r) (cn g) n i)] B w0 hs (fun u hs' => u = .tuple #[hairV (hfF (cn r) (cn g) n i) (hfG (cn r) (cn g) n i), hairV (hfS (cn r) (cn g) n (i + 1)).1 (hfS (cn r) (cn g) n (i + 1)).2] ∧ hs' = hs) := fun hs => r_draw (hfS (cn r) (cn g) n i).1 (hfS (cn r) (cn g) n i).2 (hfN (cn r) (cn g) n i) (okh_okf w1) (okh_okf w2) (by omega) (by omega) B w0 hs
      have hl2 := hairC_length (hfF (cn r) (cn g) n i) (hfG (cn r) (cn g) n i)
      have hl3 := hairC_length (hfS (cn r) (cn g) n (i + 1)).1 (hfS (cn r) (cn g) n (i + 1)).2
      have hcl := hbc.1
      obtain ⟨v1, v2⟩ := hf_ok k1 k2 (show 1 ≤ n by omega) (i + 1)
      have kc2 := fun hs => r_above (hfS (cn r) (cn g) n (i + 1)).1 (hfS (cn r) (cn g) n (i + 1)).2 0 (okh_okf v1) (okh_okf v2) B w0 hs
      rw [cnt_01] at kc2
      have tie := fun hs => r_tie (hfF (cn r) (cn g) n i) (hfG (cn r) (cn g) n i) B w0 hs
      have sn := fun o1 o2 c1 c2 k h1 h2 => BC.snoc (k := k) hbc (o1 := o1) (o2 := o2) (c1 := c1) (c2 := c2) h1 h2
      have e9 : iv (cnt (hfS (cn r) (cn g) n i).1 (hfS (cn r) (cn g) n i).2 1) = iv (cnt (hfS (cn r) (cn g) n i).1 (hfS (cn r) (cn g) n i).2 1) := rfl
      have hR : hfR r g n i = trm (hfF (cn r) (cn g) n i) := rfl
      have hG : hfL r g n i = trm (hfG (cn r) (cn g) n i) := rfl
      rw [hR, hG] at sn
      generalize hfN (cn r) (cn g) n i = m at *
      generalize hfF (cn r) (cn g) n i = F at *
      generalize hfG (cn r) (cn g) n i = G at *
      generalize hfS (cn r) (cn g) n i = S at *
      generalize hS1 : hfS (cn r) (cn g) n (i + 1) = S' at *
      by_cases hnl : n < cnt S.1 S.2 1
      · have em : n = m := by omega
        repeat' (first | (with_reducible refine f_eq (t := 36) (v := iv n) rfl (congrArg iv em) ?_) | ((with_reducible apply kF 88); refine sC 88 (dw _) ?_) | ((with_reducible apply kF 74); refine sN 74 (tie _) ?_; rintro u ka hN2; obtain ⟨p1, p2, ca1, ca2, rfl, hp1, hp2, _⟩ := hN2.use) | ((with_reducible apply kF 70); refine sC 70 (kc2 _) ?_) | (with_reducible first | refine c_seq ?_ | refine c_reg ?_ | refine c_region ?_ | refine c_block ?_ | refine c_skip ?_ | refine c_exit ?_ | refine c_ret ?_ | refine s_nil ?_ | refine x_then ?_ | refine x_then_exit ?_ | refine x_then_ret ?_ | refine x_block ?_ | refine x_block_ret ?_ | refine x_block_same ?_ | refine x_block_other (by rfl) ?_ | refine q_nil ?_ | refine k_nil ?_) | ((with_reducible apply kP (.makeFunc _ _ _)); refine sMF ?_) | ((with_reducible apply kG); first | refine gY1 ?_ | refine gN1 ?_ | refine gU1 ?_ | (refine gD1 (fun h => ?_) (fun h => ?_) <;> (try (exfalso; omega))) | refine gB1 (fun h => ?_) (fun h => ?_)) | ((with_reducible apply kN); first | refine stP ?_ | refine stI ?_ | refine st1 ?_ | refine stW ?_) | ((with_reducible apply kP (.alloc _)); refine sA (fun b => ?_)) | ((with_reducible apply kP (.box _ _)); first | refine sBA (fun b => ?_) | refine sB (fun b => ?_)) | ((with_reducible apply kP (.buildSlice _ 1 _)); first | refine sl1A (fun b => ?_) | refine sl1 (fun b => ?_)) | ((with_reducible apply kP (.buildSlice _ 2 _)); refine sl2 (fun b => ?_)) | ((with_reducible apply kP (.buildSlice _ 3 _)); refine sl3 (fun b => ?_)) | ((with_reducible apply kP (.buildSlice _ 4 _)); refine sl4 (fun b => ?_)) | ((with_reducible apply kP (.buildSlice _ 0 _)); refine s_bs0 (scTOf rfl) (zsTOf rfl) (by decide) (fun b => ?_)) | ((with_reducible apply kP (.makeSlice _ _ _)); refine sMk (fun b => ?_)) | ((with_reducible apply kP (.call ⟨.builtin .append, _, _⟩)); refine sAp (fun oa2 c2 blk2 hrow2 => ?_)) | ((with_reducible apply kP _); refine sP ?_) | ((with_reducible apply kP _); refine sX ?_) | ((with_reducible apply kQG); first | refine qY1 ?_ | refine qN1 ?_ | refine qU1 ?_ | (refine qD1 (fun h => ?_) (fun h => ?_) <;> (try (exfalso; omega))) | refine qB1 (fun h => ?_) (fun h => ?_)) | ((with_reducible apply kQP); refine qP ?_) | ((with_reducible apply kQP); refine qX ?_) | ((with_reducible apply kC); first | refine cT ?_ | refine cF ?_ | (refine cI (fun h => ?_) (fun h => ?_) <;> (try (exfalso; omega))) | refine cB (fun h => ?_) (fun h => ?_)) | ((with_reducible apply kR); refine cQ ?_))
        refine Sat.perm (List.Perm.append_left _ (.cons _ ((List.perm_middle).trans (.cons _ ((List.perm_middle).trans (.cons _ List.perm_middle)))))) ?_
        exact r_end ⟨i + 1, oa2, c2, _, blk2, ka ++ X⟩ ⟨by simp only; omega, by simp only; omega, hrow2, sn _ _ _ _ ka hp1 hp2⟩ (by simp only; omega) ⟨rfl, rfl, congrArg (fun s : (Nat → Int) × (Nat → Int) => some (iv (cnt s.1 s.2 1))) hS1.symm, rfl, trivial⟩ (by simp only [List.append_assoc, hS1]; exact .append (.refl _) (.cons _ (.cons _ (.cons _ (.refl _)))))
      · have em : cnt S.1 S.2 1 = m := by omega
        repeat' (first | (with_reducible refine f_eq (t := 36) (v := iv (cnt S.1 S.2 1)) rfl (congrArg iv em) ?_) | ((with_reducible apply kF 88); refine sC 88 (dw _) ?_) | ((with_reducible apply kF 74); refine sN 74 (tie _) ?_; rintro u ka hN2; obtain ⟨p1, p2, ca1, ca2, rfl, hp1, hp2, _⟩ := hN2.use) | ((with_reducible apply kF 70); refine sC 70 (kc2 _) ?_) | (with_reducible first | refine c_seq ?_ | refine c_reg ?_ | refine c_region ?_ | refine c_block ?_ | refine c_skip ?_ | refine c_exit ?_ | refine c_ret ?_ | refine s_nil ?_ | refine x_then ?_ | refine x_then_exit ?_ | refine x_then_ret ?_ | refine x_block ?_ | refine x_block_ret ?_ | refine x_block_same ?_ | refine x_block_other (by rfl) ?_ | refine q_nil ?_ | refine k_nil ?_) | ((with_reducible apply kP (.makeFunc _ _ _)); refine sMF ?_) | ((with_reducible apply kG); first | refine gY1 ?_ | refine gN1 ?_ | refine gU1 ?_ | (refine gD1 (fun h => ?_) (fun h => ?_) <;> (try (exfalso; omega))) | refine gB1 (fun h => ?_) (fun h => ?_)) | ((with_reducible apply kN); first | refine stP ?_ | refine stI ?_ | refine st1 ?_ | refine stW ?_) | ((with_reducible apply kP (.alloc _)); refine sA (fun b => ?_)) | ((with_reducible apply kP (.box _ _)); first | refine sBA (fun b => ?_) | refine sB (fun b => ?_)) | ((with_reducible apply kP (.buildSlice _ 1 _)); first | refine sl1A (fun b => ?_) | refine sl1 (fun b => ?_)) | ((with_reducible apply kP (.buildSlice _ 2 _)); refine sl2 (fun b => ?_)) | ((with_reducible apply kP (.buildSlice _ 3 _)); refine sl3 (fun b => ?_)) | ((with_reducible apply kP (.buildSlice _ 4 _)); refine sl4 (fun b => ?_)) | ((with_reducible apply kP (.buildSlice _ 0 _)); refine s_bs0 (scTOf rfl) (zsTOf rfl) (by decide) (fun b => ?_)) | ((with_reducible apply kP (.makeSlice _ _ _)); refine sMk (fun b => ?_)) | ((with_reducible apply kP (.call ⟨.builtin .append, _, _⟩)); refine sAp (fun oa2 c2 blk2 hrow2 => ?_)) | ((with_reducible apply kP _); refine sP ?_) | ((with_reducible apply kP _); refine sX ?_) | ((with_reducible apply kQG); first | refine qY1 ?_ | refine qN1 ?_ | refine qU1 ?_ | (refine qD1 (fun h => ?_) (fun h => ?_) <;> (try (exfalso; omega))) | refine qB1 (fun h => ?_) (fun h => ?_)) | ((with_reducible apply kQP); refine qP ?_) | ((with_reducible apply kQP); refine qX ?_) | ((with_reducible apply kC); first | refine cT ?_ | refine cF ?_ | (refine cI (fun h => ?_) (fun h => ?_) <;> (try (exfalso; omega))) | refine cB (fun h => ?_) (fun h => ?_)) | ((with_reducible apply kR); refine cQ ?_))
        refine Sat.perm (List.Perm.append_left _ (.cons _ ((List.perm_middle).trans (.cons _ ((List.perm_middle).trans (.cons _ List.perm_middle)))))) ?_
        exact r_end ⟨i + 1, oa2, c2, _, blk2, ka ++ X⟩ ⟨by simp only; omega, by simp only; omega, hrow2, sn _ _ _ _ ka hp1 hp2⟩ (by simp only; omega) ⟨rfl, rfl, congrArg (fun s : (Nat → Int) × (Nat → Int) => some (iv (cnt s.1 s.2 1))) hS1.symm, rfl, trivial⟩ (by simp only [List.append_assoc, hS1]; exact .append (.refl _) (.cons _ (.cons _ (.cons _ (.refl _)))))
    · have hz : ¬ 0 < cnt (cn r) (cn g) 1 - i * n := fun h => hi' (wc.2 h)
      have hic : i = hfC (cn r) (cn g) n := by omega
      rw [if_neg (by omega)] at hE
      rw [show hfM r g n = hfC (cn r) (cn g) n from if_pos hE, hE]
      repeat' (first | (with_reducible first | refine c_seq ?_ | refine c_reg ?_ | refine c_region ?_ | refine c_block ?_ | refine c_skip ?_ | refine c_exit ?_ | refine c_ret ?_ | refine s_nil ?_ | refine x_then ?_ | refine x_then_exit ?_ | refine x_then_ret ?_ | refine x_block ?_ | refine x_block_ret ?_ | refine x_block_same ?_ | refine x_block_other (by rfl) ?_ | refine q_nil ?_ | refine k_nil ?_) | ((with_reducible apply kP (.makeFunc _ _ _)); refine sMF ?_) | ((with_reducible apply kG); first | refine gY1 ?_ | refine gN1 ?_ | refine gU1 ?_ | (refine gD1 (fun h => ?_) (fun h => ?_) <;> (try (exfalso; omega))) | refine gB1 (fun h => ?_) (fun h => ?_)) | ((with_reducible apply kN); first | refine stP ?_ | refine stI ?_ | refine st1 ?_ | refine stW ?_) | ((with_reducible apply kP (.alloc _)); refine sA (fun b => ?_)) | ((with_reducible apply kP (.box _ _)); first | refine sBA (fun b => ?_) | refine sB (fun b => ?_)) | ((with_reducible apply kP (.buildSlice _ 1 _)); first | refine sl1A (fun b => ?_) | refine sl1 (fun b => ?_)) | ((with_reducible apply kP (.buildSlice _ 2 _)); refine sl2 (fun b => ?_)) | ((with_reducible apply kP (.buildSlice _ 3 _)); refine sl3 (fun b => ?_)) | ((with_reducible apply kP (.buildSlice _ 4 _)); refine sl4 (fun b => ?_)) | ((with_reducible apply kP (.buildSlice _ 0 _)); refine s_bs0 (scTOf rfl) (zsTOf rfl) (by decide) (fun b => ?_)) | ((with_reducible apply kP (.makeSlice _ _ _)); refine sMk (fun b => ?_)) | ((with_reducible apply kP (.call ⟨.builtin .append, _, _⟩)); refine sAp (fun oa2 c2 blk2 hrow2 => ?_)) | ((with_reducible apply kP _); refine sP ?_) | ((with_reducible apply kP _); refine sX ?_) | ((with_reducible apply kQG); first | refine qY1 ?_ | refine qN1 ?_ | refine qU1 ?_ | (refine qD1 (fun h => ?_) (fun h => ?_) <;> (try (exfalso; omega))) | refine qB1 (fun h => ?_) (fun h => ?_)) | ((with_reducible apply kQP); refine qP ?_) | ((with_reducible apply kQP); refine qX ?_) | ((with_reducible apply kC); first | refine cT ?_ | refine cF ?_ | (refine cI (fun h => ?_) (fun h => ?_) <;> (try (exfalso; omega))) | refine cB (fun h => ?_) (fun h => ?_)) | ((with_reducible apply kR); refine cQ ?_))
      all_goals try (exfalso; omega)
      rw [← hic]
      exact e_ret2 rfl rfl rfl ⟨Y ++ X, ⟨oa, c, cells, Y, X, rfl, hrow, hbc, rfl⟩, rfl⟩ (by rw [List.append_assoc]; exact .append (.refl _) (.cons _ (.refl _)))
  · have hE : hfE r g n = vErr r g := if_neg hv
    have hE' : ¬ hfE r g n = 0 := by rw [hE]; exact hv
    rw [show hfM r g n = 0 from if_neg hE', hE]
    refine fn_enter Try.func53 rfl Try.ntmps53 (by simp) ?_
    repeat' (first | ((with_reducible apply kF 33); refine sC 33 (hV _ (h1.sub SBt) (h2.sub SBt)) ?_) | (with_reducible first | refine c_seq ?_ | refine c_reg ?_ | refine c_region ?_ | refine c_block ?_ | refine c_skip ?_ | refine c_exit ?_ | refine c_ret ?_ | refine s_nil ?_ | refine x_then ?_ | refine x_then_exit ?_ | refine x_then_ret ?_ | refine x_block ?_ | refine x_block_ret ?_ | refine x_block_same ?_ | refine x_block_other (by rfl) ?_ | refine q_nil ?_ | refine k_nil ?_) | ((with_reducible apply kP (.makeFunc _ _ _)); refine sMF ?_) | ((with_reducible apply kG); first | refine gY1 ?_ | refine gN1 ?_ | refine gU1 ?_ | (refine gD1 (fun h => ?_) (fun h => ?_) <;> (try (exfalso; omega))) | refine gB1 (fun h => ?_) (fun h => ?_)) | ((with_reducible apply kN); first | refine stP ?_ | refine stI ?_ | refine st1 ?_ | refine stW ?_) | ((with_reducible apply kP (.alloc _)); refine sA (fun b => ?_)) | ((with_reducible apply kP (.box _ _)); first | refine sBA (fun b => ?_) | refine sB (fun b => ?_)) | ((with_reducible apply kP (.buildSlice _ 1 _)); first | refine sl1A (fun b => ?_) | refine sl1 (fun b => ?_)) | ((with_reducible apply kP (.buildSlice _ 2 _)); refine sl2 (fun b => ?_)) | ((with_reducible apply kP (.buildSlice _ 3 _)); refine sl3 (fun b => ?_)) | ((with_reducible apply kP (.buildSlice _ 4 _)); refine sl4 (fun b => ?_)) | ((with_reducible apply kP (.buildSlice _ 0 _)); refine s_bs0 (scTOf rfl) (zsTOf rfl) (by decide) (fun b => ?_)) | ((with_reducible apply kP (.makeSlice _ _ _)); refine sMk (fun b => ?_)) | ((with_reducible apply kP (.call ⟨.builtin .append, _, _⟩)); refine sAp (fun oa2 c2 blk2 hrow2 => ?_)) | ((with_reducible apply kP _); refine sP ?_) | ((with_reducible apply kP _); refine sX ?_) | ((with_reducible apply kQG); first | refine qY1 ?_ | refine qN1 ?_ | refine qU1 ?_ | (refine qD1 (fun h => ?_) (fun h => ?_) <;> (try (exfalso; omega))) | refine qB1 (fun h => ?_) (fun h => ?_)) | ((with_reducible apply kQP); refine qP ?_) | ((with_reducible apply kQP); refine qX ?_) | ((with_reducible apply kC); first | refine cT ?_ | refine cF ?_ | (refine cI (fun h => ?_) (fun h => ?_) <;> (try (exfalso; omega))) | refine cB (fun h => ?_) (fun h => ?_)) | ((with_reducible apply kR); refine cQ ?_))
    all_goals first
      | exact e_ret2 (hs' := hs) rfl rfl rfl ⟨[], .none _ _ _, rfl⟩ SCt
      | (exfalso; omega)
end Go.Proofs.Ytiopaodiaokfdaa
