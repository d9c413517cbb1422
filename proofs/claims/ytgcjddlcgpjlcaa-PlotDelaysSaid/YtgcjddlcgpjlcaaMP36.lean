/- Later wearings: plain; the program's and the reference's Delay. -/
import Derived.Test.YtgcjddlcgpjlcaaMP35
import Derived.Test.YtgcjddlcgpjlcaaMP29
namespace Go.Proofs.Ytgcjddlcgpjlcaa
open Go.RowKit

section
variable {P : Program} {n B : Nat} {w0 : Wd} {fr : FR} {hs : HS} {ty : TypeId}
theorem o_neqA4 {t t' : TypeId} {x y : Operand} {a b e g c d f h : Int} (ht : eqt P t = some 4) (hx : opv fr x = some (.agg #[iv a, iv b, iv e, iv g])) (hy : opv fr y = some (.agg #[iv c, iv d, iv f, iv h])) : OpF P n B w0 (.binOp .neq t x y t') ty fr hs (.bool (decide (¬ (a = c ∧ b = d ∧ e = f ∧ g = h)))) := by
  have j := o_neqA (P := P) (n := n) (B := B) (w0 := w0) (fr := fr) (hs := hs) (ty := ty) (t' := t') (xs := [a, b, e, g]) (ys := [c, d, f, h]) ht hx hy rfl rfl
  rwa [show decide ([a, b, e, g] ≠ [c, d, f, h]) = decide (¬ (a = c ∧ b = d ∧ e = f ∧ g = h)) from decide_eq_decide.2 (by simp)] at j
theorem ownZ {b o : Nat} {m : List Int} {z : List Value} (hm : (b, ivs m ++ z) ∈ hs) (ho : o < m.length) : CellAt B w0 hs ⟨b, o, none⟩ (iv (m.getD o 0)) := own hm (by rw [List.getElem?_append_left (by rw [ivs_length]; exact ho)]; exact ivs_get ho)
end
/-- The first i wearings delayed, if they begin at f or later. -/
def dlT (l : List Int) (f b : Int) : Nat → List Int
  | 0 => l
  | i + 1 => if f ≤ (dlT l f b i).getD (i * 4 + 2) 0 then (((dlT l f b i).set (i * 4 + 2) ((dlT l f b i).getD (i * 4 + 2) 0 + b)).set (i * 4 + 3) (((dlT l f b i).set (i * 4 + 2) ((dlT l f b i).getD (i * 4 + 2) 0 + b)).getD (i * 4 + 3) 0 + b)) else dlT l f b i
theorem dlT_len (l : List Int) (f b : Int) : ∀ i, (dlT l f b i).length = l.length
  | 0 => rfl
  | i + 1 => by
    rw [dlT]; split
    · rw [List.length_set, List.length_set, dlT_len l f b i]
    · exact dlT_len l f b i
theorem dlT_late {l : List Int} {f b : Int} : ∀ i j, i * 4 ≤ j → (dlT l f b i).getD j 0 = l.getD j 0
  | 0, j, _ => rfl
  | i + 1, j, h => by
    rw [dlT]; split
    · rw [gE_ne (by omega), gE_ne (by omega), dlT_late i j (by omega)]
    · exact dlT_late i j (by omega)
def dlv (l : List Int) (f b : Int) (j q : Nat) : Int := l.getD (j * 4 + q) 0 + (if f ≤ wF l j ∧ 2 ≤ q then b else 0)
theorem dlT_get {l : List Int} {f b : Int} {n : Nat} (hl : l.length = n * 4) : ∀ i, i ≤ n → ∀ j, j < i → ∀ q, q < 4 → (dlT l f b i).getD (j * 4 + q) 0 = dlv l f b j q
  | 0, _, j, h, _, _ => absurd h (Nat.not_lt_zero _)
  | i + 1, hi, j, h, q, hq => by
    have h0 := dlT_late (l := l) (f := f) (b := b) i
    have hln := dlT_len l f b i
    by_cases e : j < i
    · have ih := dlT_get (f := f) (b := b) hl i (by omega) j e q hq
      rw [dlT]; split
      · rw [gE_ne (by omega), gE_ne (by omega), ih]
      · exact ih
    · obtain rfl : j = i := by omega
      rw [dlT]
      have e2 := h0 (j * 4 + 2) (by omega)
      have e3 := h0 (j * 4 + 3) (by omega)
      by_cases hc : f ≤ (dlT l f b j).getD (j * 4 + 2) 0
      · rw [if_pos hc]
        have hc' : f ≤ wF l j := by rw [e2] at hc; exact hc
        unfold dlv
        by_cases q3 : q = 3
        · subst q3
          rw [gE_eq (by rw [List.length_set]; omega), gE_ne (by omega), e3, if_pos ⟨hc', by omega⟩]
        · by_cases q2 : q = 2
          · subst q2
            rw [gE_ne (by omega), gE_eq (by omega), e2, if_pos ⟨hc', by omega⟩]
          · rw [gE_ne (by omega), gE_ne (by omega), h0 _ (by omega), if_neg (by omega)]; omega
      · rw [if_neg hc]
        have hc' : ¬ f ≤ wF l j := by rw [e2] at hc; exact hc
        unfold dlv
        rw [h0 _ (by omega), if_neg (fun h => hc' h.1)]; omega
def dly (l : List Int) (f b : Int) (n : Nat) : List Int := dlT l f b n
theorem dly_all {l : List Int} {f b : Int} {n j : Nat} (hl : l.length = n * 4) (hj : j < n) : wA (dly l f b n) j = wA l j ∧ wZ (dly l f b n) j = wZ l j ∧ wF (dly l f b n) j = wF l j + (if f ≤ wF l j then b else 0) ∧ wT (dly l f b n) j = wT l j + (if f ≤ wF l j then b else 0) := by
  have g := dlT_get (f := f) (b := b) hl n (Nat.le_refl _) j hj
  have g0 := g 0 (by omega)
  have g1 := g 1 (by omega)
  have g2 := g 2 (by omega)
  have g3 := g 3 (by omega)
  unfold dlv at g0 g1 g2 g3
  unfold dly
  refine ⟨?_, ?_, ?_, ?_⟩
  · show (dlT l f b n).getD (j * 4) 0 = _
    rw [show j * 4 = j * 4 + 0 from rfl, g0, if_neg (by omega)]; exact Int.add_zero _
  · show (dlT l f b n).getD (j * 4 + 1) 0 = _
    rw [g1, if_neg (by omega)]; exact Int.add_zero _
  · show (dlT l f b n).getD (j * 4 + 2) 0 = _
    rw [g2]
    by_cases h : f ≤ wF l j
    · rw [if_pos ⟨h, by omega⟩, if_pos h]; rfl
    · rw [if_neg fun hh => h hh.1, if_neg h]; rfl
  · show (dlT l f b n).getD (j * 4 + 3) 0 = _
    rw [g3]
    by_cases h : f ≤ wF l j
    · rw [if_pos ⟨h, by omega⟩, if_pos h]; rfl
    · rw [if_neg fun hh => h hh.1, if_neg h]; rfl
theorem dly_ls {l : List Int} {f b R C : Int} {n : Nat} (hl : l.length = n * 4) (hb : 0 ≤ b) (hv : vpE n R C l = 0) (hv2 : vpE n R C (dly l f b n) = 0) : lsV n R C (dly l f b n) ≤ lsV n R C l := by
  rw [lsV, lsV, if_pos hv, if_pos hv2, msum_sum, msum_sum]
  refine sum_leP 100 fun k _ => ?_
  have : most (dly l f b n) R n (k : Int) ≤ most l R n (k : Int) := most_le fun i hi hz => by
    obtain ⟨_, _, a3, _⟩ := dly_all (f := f) (b := b) hl hi
    by_cases h : f ≤ wF l i
    · rw [if_pos h] at a3
      refine Nat.le_trans (cnt_mono (q := inC l R (k : Int) (wF l i)) n fun j hj hc => ?_) crw_le_most
      obtain ⟨_, b2, b3, b4⟩ := dly_all (f := f) (b := b) hl hj
      have hc := inC_to.1 hc
      rw [b2, b3, b4, a3] at hc
      obtain ⟨c1, c2, c3⟩ := hc
      refine inC_to.2 ⟨c1, ?_, ?_⟩
      · split at c2 <;> omega
      · split at c3 <;> omega
    · rw [if_neg h] at a3
      refine Nat.le_trans (cnt_mono (q := inC l R (k : Int) (wF l i)) n fun j hj hc => ?_) crw_le_most
      obtain ⟨_, b2, b3, b4⟩ := dly_all (f := f) (b := b) hl hj
      have hc := inC_to.1 hc
      rw [b2, b3, b4, a3] at hc
      obtain ⟨c1, c2, c3⟩ := hc
      refine inC_to.2 ⟨c1, ?_, ?_⟩
      · split at c2 <;> omega
      · split at c2
        · omega
        · rename_i h2; rw [if_neg h2] at c3; omega
  omega
def deE (n : Nat) (R C : Int) (l : List Int) (x y : Int) : Int := if vpE n R C l = 0 then (if inB x 0 600 ∧ inB y 0 600 then vpE n R C (dly l x y n) else 1) else vpE n R C l
theorem deE_bad {n : Nat} {R C x y : Int} {l : List Int} (h : ¬ vpE n R C l = 0) : deE n R C l x y = vpE n R C l := if_neg h
theorem deE_arg {n : Nat} {R C x y : Int} {l : List Int} (h : vpE n R C l = 0) (h1 : ¬ (inB x 0 600 ∧ inB y 0 600)) : deE n R C l x y = 1 := by unfold deE; rw [if_pos h, if_neg h1]
theorem deE_ok {n : Nat} {R C x y : Int} {l : List Int} (h : vpE n R C l = 0) (h1 : inB x 0 600 ∧ inB y 0 600) : deE n R C l x y = vpE n R C (dly l x y n) := by unfold deE; rw [if_pos h, if_pos h1]
/-- What Delay leaves: the delayed play in new memory, or none. -/
def DeR (n : Nat) (R C : Int) (l : List Int) (x y : Int) (u : Value) (blk : HS) : Prop :=
  (deE n R C l x y = 0 ∧ ∃ oa2 c2, u = .tuple #[.agg #[.slice oa2 n c2, iv R, iv C], iv 0] ∧ RowOk oa2 c2 4 (ivs (dly l x y n)) blk) ∨ (deE n R C l x y ≠ 0 ∧ u = .tuple #[.agg #[.slice none 0 0, iv 0, iv 0], iv (deE n R C l x y)] ∧ blk = [])
set_option maxRecDepth 100000 in
set_option maxHeartbeats 8000000 in
theorem k_CloneW (N c : Nat) (l : List Int) (oa : Option Addr) (hl : l.length = N * 4) (hN : N ≤ 1000) (B : Nat) (w0 : Wd) (hs : HS) (hL : Sl B w0 hs oa l) :
    Fn Try.prog 73 #[.slice oa N c] B w0 hs (fun u h => ∃ blk, (∃ oa2 c2, u = .slice oa2 N c2 ∧ RowOk oa2 c2 4 (ivs l) blk) ∧ h = blk ++ hs) := by
  cases oa with
  | none =>
    have h0 := sl_none hL
    subst h0
    obtain rfl : N = 0 := by simp at hl; omega
    refine fn_enter Try.func73 rfl Try.ntmps73 (by simp) ?_
    repeat' (first | ((with_reducible apply kP (.binOp .eql _ _ _ _)); refine sP ?_ (o_eqlN (scTOf rfl) rfl rfl)) | (with_reducible first | refine c_seq ?_ | refine c_reg ?_ | refine c_region ?_ | refine c_block ?_ | refine c_skip ?_ | refine c_exit ?_ | refine c_ret ?_ | refine s_nil ?_ | refine x_then ?_ | refine x_then_exit ?_ | refine x_then_ret ?_ | refine x_block ?_ | refine x_block_ret ?_ | refine x_block_same ?_ | refine x_block_other (by rfl) ?_ | refine q_nil ?_ | refine k_nil ?_) | ((with_reducible apply kP (.makeFunc _ _ _)); refine sMF ?_) | ((with_reducible apply kG); first | refine gY1 ?_ | refine gN1 ?_ | refine gU1 ?_ | (refine gD1 (fun h => ?_) (fun h => ?_) <;> (try (exfalso; omega))) | refine gB1 (fun h => ?_) (fun h => ?_)) | ((with_reducible apply kN); first | refine stP ?_ | refine stI ?_ | refine st1 ?_ | refine stW ?_) | ((with_reducible apply kP (.alloc _)); refine sA (fun b => ?_)) | ((with_reducible apply kP (.box _ _)); first | refine sBA (fun b => ?_) | refine sB (fun b => ?_)) | ((with_reducible apply kP (.buildSlice _ 1 _)); first | refine sl1A (fun b => ?_) | refine sl1 (fun b => ?_)) | ((with_reducible apply kP (.buildSlice _ 2 _)); refine sl2 (fun b => ?_)) | ((with_reducible apply kP (.buildSlice _ 3 _)); refine sl3 (fun b => ?_)) | ((with_reducible apply kP (.buildSlice _ 4 _)); refine sl4 (fun b => ?_)) | ((with_reducible apply kP (.buildSlice _ 0 _)); refine s_bs0 (scTOf rfl) (zsTOf rfl) (by decide) (fun b => ?_)) | ((with_reducible apply kP (.makeSlice _ _ _)); refine sMk (fun b => ?_)) | ((with_reducible apply kP (.call ⟨.builtin .append, _, _⟩)); refine sAp (fun oa2 c2 blk2 hrow2 => ?_)) | ((with_reducible apply kP _); refine sP ?_) | ((with_reducible apply kP _); refine sX ?_) | ((with_reducible apply kQG); first | refine qY1 ?_ | refine qN1 ?_ | refine qU1 ?_ | (refine qD1 (fun h => ?_) (fun h => ?_) <;> (try (exfalso; omega))) | refine qB1 (fun h => ?_) (fun h => ?_)) | ((with_reducible apply kQP); refine qP ?_) | ((with_reducible apply kQP); refine qX ?_) | ((with_reducible apply kC); first | refine cT ?_ | refine cF ?_ | (refine cI (fun h => ?_) (fun h => ?_) <;> (try (exfalso; omega))) | refine cB (fun h => ?_) (fun h => ?_)) | ((with_reducible apply kR); refine cQ ?_))
    exact e_ret1 rfl rfl ⟨[], ⟨none, 0, rfl, .nil⟩, rfl⟩ (.refl _)
  | some a =>
    refine fn_enter Try.func73 rfl Try.ntmps73 (by simp) ?_
    repeat' (first | ((with_reducible apply kP (.binOp .eql _ _ _ _)); refine sP ?_ (o_eqlN (scTOf rfl) rfl rfl)) | ((with_reducible apply kP (.call ⟨.builtin .append, _, _⟩)); refine s_appZ (apTOf rfl) rfl rfl (by with_reducible ((repeat (first | exact Take.head | exact Take.one | exact Take.nil | apply Take.tail | apply Take.app)); done)) (RowOk.new (n := 0) (xs := []) rfl (by decide)) (Sl.sv (hL.sub (.cons _ (.refl _)))) (by first | rfl | (rw [ivs_length]; omega) | (simp only [ivs_length, List.length_take]; omega)) (flat_iv _) (by first | assumption | omega) (by decide) (by decide) (fun oa2 c2 blk2 hrow2 => ?_)) | (with_reducible first | refine c_seq ?_ | refine c_reg ?_ | refine c_region ?_ | refine c_block ?_ | refine c_skip ?_ | refine c_exit ?_ | refine c_ret ?_ | refine s_nil ?_ | refine x_then ?_ | refine x_then_exit ?_ | refine x_then_ret ?_ | refine x_block ?_ | refine x_block_ret ?_ | refine x_block_same ?_ | refine x_block_other (by rfl) ?_ | refine q_nil ?_ | refine k_nil ?_) | ((with_reducible apply kP (.makeFunc _ _ _)); refine sMF ?_) | ((with_reducible apply kG); first | refine gY1 ?_ | refine gN1 ?_ | refine gU1 ?_ | (refine gD1 (fun h => ?_) (fun h => ?_) <;> (try (exfalso; omega))) | refine gB1 (fun h => ?_) (fun h => ?_)) | ((with_reducible apply kN); first | refine stP ?_ | refine stI ?_ | refine st1 ?_ | refine stW ?_) | ((with_reducible apply kP (.alloc _)); refine sA (fun b => ?_)) | ((with_reducible apply kP (.box _ _)); first | refine sBA (fun b => ?_) | refine sB (fun b => ?_)) | ((with_reducible apply kP (.buildSlice _ 1 _)); first | refine sl1A (fun b => ?_) | refine sl1 (fun b => ?_)) | ((with_reducible apply kP (.buildSlice _ 2 _)); refine sl2 (fun b => ?_)) | ((with_reducible apply kP (.buildSlice _ 3 _)); refine sl3 (fun b => ?_)) | ((with_reducible apply kP (.buildSlice _ 4 _)); refine sl4 (fun b => ?_)) | ((with_reducible apply kP (.buildSlice _ 0 _)); refine s_bs0 (scTOf rfl) (zsTOf rfl) (by decide) (fun b => ?_)) | ((with_reducible apply kP (.makeSlice _ _ _)); refine sMk (fun b => ?_)) | ((with_reducible apply kP (.call ⟨.builtin .append, _, _⟩)); refine sAp (fun oa2 c2 blk2 hrow2 => ?_)) | ((with_reducible apply kP _); refine sP ?_) | ((with_reducible apply kP _); refine sX ?_) | ((with_reducible apply kQG); first | refine qY1 ?_ | refine qN1 ?_ | refine qU1 ?_ | (refine qD1 (fun h => ?_) (fun h => ?_) <;> (try (exfalso; omega))) | refine qB1 (fun h => ?_) (fun h => ?_)) | ((with_reducible apply kQP); refine qP ?_) | ((with_reducible apply kQP); refine qX ?_) | ((with_reducible apply kC); first | refine cT ?_ | refine cF ?_ | (refine cI (fun h => ?_) (fun h => ?_) <;> (try (exfalso; omega))) | refine cB (fun h => ?_) (fun h => ?_)) | ((with_reducible apply kR); refine cQ ?_))
    exact e_ret1 rfl rfl ⟨blk2, ⟨_, _, rfl, hrow2⟩, rfl⟩ SCt
structure DS where
  i : Nat
  blk : HS
set_option maxRecDepth 100000 in
set_option maxHeartbeats 8000000 in
theorem k_Delay (n c : Nat) (R C x y : Int) (l : List Int) (oa : Option Addr) (hl : l.length = n * 4) (hn : n ≤ 1000) (hc : n ≤ c) (B : Nat) (w0 : Wd) (hs : HS) (hL : Sl B w0 hs oa l) :
    Fn Try.prog 45 #[.agg #[.slice oa n c, iv R, iv C], iv x, iv y] B w0 hs (fun u h => ∃ blk, DeR n R C l x y u blk ∧ h = blk ++ hs) := by
  have kv := fun hs hL => k_VP n c R C l oa hl hn hc B w0 hs hL
  have kw1 := k_within x 0 600 B w0
  have kw2 := k_within y 0 600 B w0
  by_cases hv : vpE n R C l = 0
  · have hV := vp_to hv
    have hn6 := hV.le
    rw [hv] at kv
    by_cases hxy : inB x 0 600 ∧ inB y 0 600
    · have eD := deE_ok hv hxy
      rw [decide_eq_true hxy.1] at kw1
      rw [decide_eq_true hxy.2] at kw2
      obtain ⟨⟨g1, g2⟩, g3, g4⟩ := hxy
      refine fn_enter Try.func45 rfl Try.ntmps45 (by simp) ?_
      repeat' (first | (with_reducible first | refine c_seq ?_ | refine c_reg ?_ | refine c_region ?_ | refine c_block ?_ | refine c_skip ?_ | refine c_exit ?_ | refine c_ret ?_ | refine s_nil ?_ | refine x_then ?_ | refine x_then_exit ?_ | refine x_then_ret ?_ | refine x_block ?_ | refine x_block_ret ?_ | refine x_block_same ?_ | refine x_block_other (by rfl) ?_ | refine q_nil ?_ | refine k_nil ?_) | ((with_reducible apply kP (.makeFunc _ _ _)); refine sMF ?_) | ((with_reducible apply kG); first | refine gY1 ?_ | refine gN1 ?_ | refine gU1 ?_ | (refine gD1 (fun h => ?_) (fun h => ?_) <;> (try (exfalso; omega))) | refine gB1 (fun h => ?_) (fun h => ?_)) | ((with_reducible apply kN); first | refine stP ?_ | refine stI ?_ | refine st1 ?_ | refine stW ?_) | ((with_reducible apply kP (.alloc _)); refine sA (fun b => ?_)) | ((with_reducible apply kP (.box _ _)); first | refine sBA (fun b => ?_) | refine sB (fun b => ?_)) | ((with_reducible apply kP (.buildSlice _ 1 _)); first | refine sl1A (fun b => ?_) | refine sl1 (fun b => ?_)) | ((with_reducible apply kP (.buildSlice _ 2 _)); refine sl2 (fun b => ?_)) | ((with_reducible apply kP (.buildSlice _ 3 _)); refine sl3 (fun b => ?_)) | ((with_reducible apply kP (.buildSlice _ 4 _)); refine sl4 (fun b => ?_)) | ((with_reducible apply kP (.buildSlice _ 0 _)); refine s_bs0 (scTOf rfl) (zsTOf rfl) (by decide) (fun b => ?_)) | ((with_reducible apply kP (.makeSlice _ _ _)); refine sMk (fun b => ?_)) | ((with_reducible apply kP (.call ⟨.builtin .append, _, _⟩)); refine sAp (fun oa2 c2 blk2 hrow2 => ?_)) | ((with_reducible apply kP _); refine sP ?_) | ((with_reducible apply kP _); refine sX ?_) | ((with_reducible apply kQG); first | refine qY1 ?_ | refine qN1 ?_ | refine qU1 ?_ | (refine qD1 (fun h => ?_) (fun h => ?_) <;> (try (exfalso; omega))) | refine qB1 (fun h => ?_) (fun h => ?_)) | ((with_reducible apply kQP); refine qP ?_) | ((with_reducible apply kQP); refine qX ?_) | ((with_reducible apply kC); first | refine cT ?_ | refine cF ?_ | (refine cI (fun h => ?_) (fun h => ?_) <;> (try (exfalso; omega))) | refine cB (fun h => ?_) (fun h => ?_)) | ((with_reducible apply kR); refine cQ ?_))
      rename_i bp
      revert b
      intro b6
      repeat' (first | ((with_reducible apply kF 28); refine sC 28 (kv _ (hL.sub SBt)) ?_) | ((with_reducible apply kF 60); refine sC 60 (kw1 _) ?_) | ((with_reducible apply kF 60); refine sC 60 (kw2 _) ?_) | ((with_reducible apply kF 73); refine sN 73 (k_CloneW n c l oa hl hn B w0 _ (hL.sub SBt)) ?_; rintro u blkC ⟨oC, cC, rfl, hrC⟩) | ((with_reducible apply kN); refine stW ?_ (hf := flat_cons rfl (flat2 rfl rfl))) | (with_reducible first | refine c_seq ?_ | refine c_reg ?_ | refine c_region ?_ | refine c_block ?_ | refine c_skip ?_ | refine c_exit ?_ | refine c_ret ?_ | refine s_nil ?_ | refine x_then ?_ | refine x_then_exit ?_ | refine x_then_ret ?_ | refine x_block ?_ | refine x_block_ret ?_ | refine x_block_same ?_ | refine x_block_other (by rfl) ?_ | refine q_nil ?_ | refine k_nil ?_) | ((with_reducible apply kP (.makeFunc _ _ _)); refine sMF ?_) | ((with_reducible apply kG); first | refine gY1 ?_ | refine gN1 ?_ | refine gU1 ?_ | (refine gD1 (fun h => ?_) (fun h => ?_) <;> (try (exfalso; omega))) | refine gB1 (fun h => ?_) (fun h => ?_)) | ((with_reducible apply kN); first | refine stP ?_ | refine stI ?_ | refine st1 ?_ | refine stW ?_) | ((with_reducible apply kP (.alloc _)); refine sA (fun b => ?_)) | ((with_reducible apply kP (.box _ _)); first | refine sBA (fun b => ?_) | refine sB (fun b => ?_)) | ((with_reducible apply kP (.buildSlice _ 1 _)); first | refine sl1A (fun b => ?_) | refine sl1 (fun b => ?_)) | ((with_reducible apply kP (.buildSlice _ 2 _)); refine sl2 (fun b => ?_)) | ((with_reducible apply kP (.buildSlice _ 3 _)); refine sl3 (fun b => ?_)) | ((with_reducible apply kP (.buildSlice _ 4 _)); refine sl4 (fun b => ?_)) | ((with_reducible apply kP (.buildSlice _ 0 _)); refine s_bs0 (scTOf rfl) (zsTOf rfl) (by decide) (fun b => ?_)) | ((with_reducible apply kP (.makeSlice _ _ _)); refine sMk (fun b => ?_)) | ((with_reducible apply kP (.call ⟨.builtin .append, _, _⟩)); refine sAp (fun oa2 c2 blk2 hrow2 => ?_)) | ((with_reducible apply kP _); refine sP ?_) | ((with_reducible apply kP _); refine sX ?_) | ((with_reducible apply kQG); first | refine qY1 ?_ | refine qN1 ?_ | refine qU1 ?_ | (refine qD1 (fun h => ?_) (fun h => ?_) <;> (try (exfalso; omega))) | refine qB1 (fun h => ?_) (fun h => ?_)) | ((with_reducible apply kQP); refine qP ?_) | ((with_reducible apply kQP); refine qX ?_) | ((with_reducible apply kC); first | refine cT ?_ | refine cF ?_ | (refine cI (fun h => ?_) (fun h => ?_) <;> (try (exfalso; omega))) | refine cB (fun h => ?_) (fun h => ?_)) | ((with_reducible apply kR); refine cQ ?_))
      all_goals try (exfalso; first | omega | exact absurd rfl ‹_ ≠ _›)
      revert b
      intro b9
      refine c_loop (fun s : DS => [(1, iv x), (2, iv y), (6, .pointer (some ⟨b6, 0, none⟩)), (9, .pointer (some ⟨b9, 0, none⟩)), (34, iv n), (35, iv s.i)]) (fun s => s.blk ++ (b9, [.slice oC n cC, iv R, iv C]) :: (b6, [.slice none 0 0, .int .i64 0, .int .i64 0]) :: hs) (fun s => s.i ≤ n ∧ RowOk oC cC 4 (ivs (dlT l x y s.i)) s.blk) (fun s => n - s.i) ⟨0, blkC⟩ ⟨Nat.zero_le _, hrC⟩ (by repeat' first | trivial | rfl | apply And.intro) (List.Sublist.append (.refl _) (.cons_cons _ (.cons_cons _ (.cons _ (.refl _))))) ?_
      rintro ⟨i, blk⟩ ⟨hi, hrow⟩
      dsimp only at hi hrow ⊢
      have hln : (dlT l x y i).length = n * 4 := by rw [dlT_len, hl]
      by_cases hi' : i < n
      · have hw := hV.w i hi'
        unfold okw wF wT at hw
        have e2 := dlT_late (l := l) (f := x) (b := y) i (i * 4 + 2) (by omega)
        have e3 := dlT_late (l := l) (f := x) (b := y) i (i * 4 + 3) (by omega)
        obtain ⟨b3, z3, rfl, rfl, hz3, hc3⟩ := row_some hrow (by rw [ivs_length]; omega)
        simp only [List.cons_append, List.nil_append]
        by_cases hq : x ≤ (dlT l x y i).getD (i * 4 + 2) 0
        · have eT : dlT l x y (i + 1) = (((dlT l x y i).set (i * 4 + 2) ((dlT l x y i).getD (i * 4 + 2) 0 + y)).set (i * 4 + 3) (((dlT l x y i).set (i * 4 + 2) ((dlT l x y i).getD (i * 4 + 2) 0 + y)).getD (i * 4 + 3) 0 + y)) := by rw [dlT, if_pos hq]
          have hz4 : (ivs (dlT l x y (i + 1)) ++ z3).length = cC * 4 := by rw [← hz3, List.length_append, List.length_append, ivs_length, ivs_length, dlT_len, dlT_len]
          have e4 : ((dlT l x y i).set (i * 4 + 2) ((dlT l x y i).getD (i * 4 + 2) 0 + y)).getD (i * 4 + 3) 0 = l.getD (i * 4 + 3) 0 := by rw [gE_ne (by omega), e3]
          repeat' (first | ((with_reducible apply kP (.load 3 _)); refine sP ?_ (o_load rfl (ld_one (shTOf rfl) (ownZ MMt (by first | omega | (rw [List.length_set]; omega)))))) | ((with_reducible apply kDP (.load 3 _)); refine dP ?_ (hX := rfl) (hv := o_load rfl (ld_one (shTOf rfl) (ownZ MMt (by first | omega | (rw [List.length_set]; omega)))))) | ((with_reducible apply kQO (.load 3 _)); refine qP ?_ (o_load rfl (ld_one (shTOf rfl) (ownZ MMt (by first | omega | (rw [List.length_set]; omega)))))) | ((with_reducible apply kN); refine s_storeZ rfl rfl (shTOf rfl) (by with_reducible first | exact uu0 | exact uu1 | exact uu2 | exact uu3 | exact uu4 | exact uu5 | exact uu6 | exact uu7 | exact uu8 | ((repeat (first | exact uu0 | apply Upd.tail | apply Upd.app)); done)) (by first | omega | (rw [List.length_set]; omega)) ?_) | (with_reducible first | refine c_seq ?_ | refine c_reg ?_ | refine c_region ?_ | refine c_block ?_ | refine c_skip ?_ | refine c_exit ?_ | refine c_ret ?_ | refine s_nil ?_ | refine x_then ?_ | refine x_then_exit ?_ | refine x_then_ret ?_ | refine x_block ?_ | refine x_block_ret ?_ | refine x_block_same ?_ | refine x_block_other (by rfl) ?_ | refine q_nil ?_ | refine k_nil ?_) | ((with_reducible apply kP (.makeFunc _ _ _)); refine sMF ?_) | ((with_reducible apply kG); first | refine gY1 ?_ | refine gN1 ?_ | refine gU1 ?_ | (refine gD1 (fun h => ?_) (fun h => ?_) <;> (try (exfalso; omega))) | refine gB1 (fun h => ?_) (fun h => ?_)) | ((with_reducible apply kN); first | refine stP ?_ | refine stI ?_ | refine st1 ?_ | refine stW ?_) | ((with_reducible apply kP (.alloc _)); refine sA (fun b => ?_)) | ((with_reducible apply kP (.box _ _)); first | refine sBA (fun b => ?_) | refine sB (fun b => ?_)) | ((with_reducible apply kP (.buildSlice _ 1 _)); first | refine sl1A (fun b => ?_) | refine sl1 (fun b => ?_)) | ((with_reducible apply kP (.buildSlice _ 2 _)); refine sl2 (fun b => ?_)) | ((with_reducible apply kP (.buildSlice _ 3 _)); refine sl3 (fun b => ?_)) | ((with_reducible apply kP (.buildSlice _ 4 _)); refine sl4 (fun b => ?_)) | ((with_reducible apply kP (.buildSlice _ 0 _)); refine s_bs0 (scTOf rfl) (zsTOf rfl) (by decide) (fun b => ?_)) | ((with_reducible apply kP (.makeSlice _ _ _)); refine sMk (fun b => ?_)) | ((with_reducible apply kP (.call ⟨.builtin .append, _, _⟩)); refine sAp (fun oa2 c2 blk2 hrow2 => ?_)) | ((with_reducible apply kP _); refine sP ?_) | ((with_reducible apply kP _); refine sX ?_) | ((with_reducible apply kQG); first | refine qY1 ?_ | refine qN1 ?_ | refine qU1 ?_ | (refine qD1 (fun h => ?_) (fun h => ?_) <;> (try (exfalso; omega))) | refine qB1 (fun h => ?_) (fun h => ?_)) | ((with_reducible apply kQP); refine qP ?_) | ((with_reducible apply kQP); refine qX ?_) | ((with_reducible apply kC); first | refine cT ?_ | refine cF ?_ | (refine cI (fun h => ?_) (fun h => ?_) <;> (try (exfalso; omega))) | refine cB (fun h => ?_) (fun h => ?_)) | ((with_reducible apply kR); refine cQ ?_))
          all_goals first
            | exact r_end ⟨i + 1, [(b3, ivs (dlT l x y (i + 1)) ++ z3)]⟩ ⟨hi', .inr ⟨b3, z3, rfl, rfl, hz4, hc3⟩⟩ (by show n - (i + 1) < n - i; omega) (by repeat' first | trivial | rfl | apply And.intro) (by simp only [List.cons_append, List.nil_append]; rw [eT]; exact SCt)
            | (exfalso; omega)
            | trace_state
        · have eT : dlT l x y (i + 1) = dlT l x y i := by rw [dlT, if_neg hq]
          repeat' (first | ((with_reducible apply kP (.load 3 _)); refine sP ?_ (o_load rfl (ld_one (shTOf rfl) (ownZ MMt (by first | omega | (rw [List.length_set]; omega)))))) | ((with_reducible apply kDP (.load 3 _)); refine dP ?_ (hX := rfl) (hv := o_load rfl (ld_one (shTOf rfl) (ownZ MMt (by first | omega | (rw [List.length_set]; omega)))))) | ((with_reducible apply kQO (.load 3 _)); refine qP ?_ (o_load rfl (ld_one (shTOf rfl) (ownZ MMt (by first | omega | (rw [List.length_set]; omega)))))) | (with_reducible first | refine c_seq ?_ | refine c_reg ?_ | refine c_region ?_ | refine c_block ?_ | refine c_skip ?_ | refine c_exit ?_ | refine c_ret ?_ | refine s_nil ?_ | refine x_then ?_ | refine x_then_exit ?_ | refine x_then_ret ?_ | refine x_block ?_ | refine x_block_ret ?_ | refine x_block_same ?_ | refine x_block_other (by rfl) ?_ | refine q_nil ?_ | refine k_nil ?_) | ((with_reducible apply kP (.makeFunc _ _ _)); refine sMF ?_) | ((with_reducible apply kG); first | refine gY1 ?_ | refine gN1 ?_ | refine gU1 ?_ | (refine gD1 (fun h => ?_) (fun h => ?_) <;> (try (exfalso; omega))) | refine gB1 (fun h => ?_) (fun h => ?_)) | ((with_reducible apply kN); first | refine stP ?_ | refine stI ?_ | refine st1 ?_ | refine stW ?_) | ((with_reducible apply kP (.alloc _)); refine sA (fun b => ?_)) | ((with_reducible apply kP (.box _ _)); first | refine sBA (fun b => ?_) | refine sB (fun b => ?_)) | ((with_reducible apply kP (.buildSlice _ 1 _)); first | refine sl1A (fun b => ?_) | refine sl1 (fun b => ?_)) | ((with_reducible apply kP (.buildSlice _ 2 _)); refine sl2 (fun b => ?_)) | ((with_reducible apply kP (.buildSlice _ 3 _)); refine sl3 (fun b => ?_)) | ((with_reducible apply kP (.buildSlice _ 4 _)); refine sl4 (fun b => ?_)) | ((with_reducible apply kP (.buildSlice _ 0 _)); refine s_bs0 (scTOf rfl) (zsTOf rfl) (by decide) (fun b => ?_)) | ((with_reducible apply kP (.makeSlice _ _ _)); refine sMk (fun b => ?_)) | ((with_reducible apply kP (.call ⟨.builtin .append, _, _⟩)); refine sAp (fun oa2 c2 blk2 hrow2 => ?_)) | ((with_reducible apply kP _); refine sP ?_) | ((with_reducible apply kP _); refine sX ?_) | ((with_reducible apply kQG); first | refine qY1 ?_ | refine qN1 ?_ | refine qU1 ?_ | (refine qD1 (fun h => ?_) (fun h => ?_) <;> (try (exfalso; omega))) | refine qB1 (fun h => ?_) (fun h => ?_)) | ((with_reducible apply kQP); refine qP ?_) | ((with_reducible apply kQP); refine qX ?_) | ((with_reducible apply kC); first | refine cT ?_ | refine cF ?_ | (refine cI (fun h => ?_) (fun h => ?_) <;> (try (exfalso; omega))) | refine cB (fun h => ?_) (fun h => ?_)) | ((with_reducible apply kR); refine cQ ?_))
          all_goals first
            | exact r_end ⟨i + 1, [(b3, ivs (dlT l x y (i + 1)) ++ z3)]⟩ ⟨hi', .inr ⟨b3, z3, rfl, rfl, by rw [eT]; exact hz3, hc3⟩⟩ (by show n - (i + 1) < n - i; omega) (by repeat' first | trivial | rfl | apply And.intro) (by simp only [List.cons_append, List.nil_append]; rw [eT]; exact SCt)
            | (exfalso; omega)
            | trace_state
      · obtain rfl : i = n := by omega
        have hS3 := Sl.rowK (B := B) (w0 := w0) hrow
        have hcC := hrow.cap (k := i) (by rw [ivs_length, hln]) (by omega)
        have kv2 := fun hs hL => k_VP i cC R C (dlT l x y i) oC hln hn hcC B w0 hs hL
        by_cases hv2 : vpE i R C (dlT l x y i) = 0
        · rw [hv2] at kv2
          repeat' (first | ((with_reducible apply kF 28); refine sC 28 (kv2 _ (hS3.sub SBt)) ?_) | ((with_reducible apply kN); refine stW ?_ (hf := flat_cons rfl (flat2 rfl rfl))) | (with_reducible first | refine c_seq ?_ | refine c_reg ?_ | refine c_region ?_ | refine c_block ?_ | refine c_skip ?_ | refine c_exit ?_ | refine c_ret ?_ | refine s_nil ?_ | refine x_then ?_ | refine x_then_exit ?_ | refine x_then_ret ?_ | refine x_block ?_ | refine x_block_ret ?_ | refine x_block_same ?_ | refine x_block_other (by rfl) ?_ | refine q_nil ?_ | refine k_nil ?_) | ((with_reducible apply kP (.makeFunc _ _ _)); refine sMF ?_) | ((with_reducible apply kG); first | refine gY1 ?_ | refine gN1 ?_ | refine gU1 ?_ | (refine gD1 (fun h => ?_) (fun h => ?_) <;> (try (exfalso; omega))) | refine gB1 (fun h => ?_) (fun h => ?_)) | ((with_reducible apply kN); first | refine stP ?_ | refine stI ?_ | refine st1 ?_ | refine stW ?_) | ((with_reducible apply kP (.alloc _)); refine sA (fun b => ?_)) | ((with_reducible apply kP (.box _ _)); first | refine sBA (fun b => ?_) | refine sB (fun b => ?_)) | ((with_reducible apply kP (.buildSlice _ 1 _)); first | refine sl1A (fun b => ?_) | refine sl1 (fun b => ?_)) | ((with_reducible apply kP (.buildSlice _ 2 _)); refine sl2 (fun b => ?_)) | ((with_reducible apply kP (.buildSlice _ 3 _)); refine sl3 (fun b => ?_)) | ((with_reducible apply kP (.buildSlice _ 4 _)); refine sl4 (fun b => ?_)) | ((with_reducible apply kP (.buildSlice _ 0 _)); refine s_bs0 (scTOf rfl) (zsTOf rfl) (by decide) (fun b => ?_)) | ((with_reducible apply kP (.makeSlice _ _ _)); refine sMk (fun b => ?_)) | ((with_reducible apply kP (.call ⟨.builtin .append, _, _⟩)); refine sAp (fun oa2 c2 blk2 hrow2 => ?_)) | ((with_reducible apply kP _); refine sP ?_) | ((with_reducible apply kP _); refine sX ?_) | ((with_reducible apply kQG); first | refine qY1 ?_ | refine qN1 ?_ | refine qU1 ?_ | (refine qD1 (fun h => ?_) (fun h => ?_) <;> (try (exfalso; omega))) | refine qB1 (fun h => ?_) (fun h => ?_)) | ((with_reducible apply kQP); refine qP ?_) | ((with_reducible apply kQP); refine qX ?_) | ((with_reducible apply kC); first | refine cT ?_ | refine cF ?_ | (refine cI (fun h => ?_) (fun h => ?_) <;> (try (exfalso; omega))) | refine cB (fun h => ?_) (fun h => ?_)) | ((with_reducible apply kR); refine cQ ?_))
          all_goals first
            | exact e_ret2 rfl ⟨_, rfl, ld_whole (shTOf rfl) MDt rfl⟩ rfl ⟨blk, .inl ⟨by rw [eD]; exact hv2, oC, cC, rfl, hrow⟩, rfl⟩ SCt
            | (exfalso; omega)
            | trace_state
        · have eD2 : deE i R C l x y = vpE i R C (dlT l x y i) := eD
          have hne : deE i R C l x y ≠ 0 := by rw [eD2]; exact hv2
          rw [← eD2] at kv2
          unfold DeR
          generalize deE i R C l x y = e at *
          repeat' (first | ((with_reducible apply kF 28); refine sC 28 (kv2 _ (hS3.sub SBt)) ?_) | ((with_reducible apply kN); refine stW ?_ (hf := flat_cons rfl (flat2 rfl rfl))) | (with_reducible first | refine c_seq ?_ | refine c_reg ?_ | refine c_region ?_ | refine c_block ?_ | refine c_skip ?_ | refine c_exit ?_ | refine c_ret ?_ | refine s_nil ?_ | refine x_then ?_ | refine x_then_exit ?_ | refine x_then_ret ?_ | refine x_block ?_ | refine x_block_ret ?_ | refine x_block_same ?_ | refine x_block_other (by rfl) ?_ | refine q_nil ?_ | refine k_nil ?_) | ((with_reducible apply kP (.makeFunc _ _ _)); refine sMF ?_) | ((with_reducible apply kG); first | refine gY1 ?_ | refine gN1 ?_ | refine gU1 ?_ | (refine gD1 (fun h => ?_) (fun h => ?_) <;> (try (exfalso; omega))) | refine gB1 (fun h => ?_) (fun h => ?_)) | ((with_reducible apply kN); first | refine stP ?_ | refine stI ?_ | refine st1 ?_ | refine stW ?_) | ((with_reducible apply kP (.alloc _)); refine sA (fun b => ?_)) | ((with_reducible apply kP (.box _ _)); first | refine sBA (fun b => ?_) | refine sB (fun b => ?_)) | ((with_reducible apply kP (.buildSlice _ 1 _)); first | refine sl1A (fun b => ?_) | refine sl1 (fun b => ?_)) | ((with_reducible apply kP (.buildSlice _ 2 _)); refine sl2 (fun b => ?_)) | ((with_reducible apply kP (.buildSlice _ 3 _)); refine sl3 (fun b => ?_)) | ((with_reducible apply kP (.buildSlice _ 4 _)); refine sl4 (fun b => ?_)) | ((with_reducible apply kP (.buildSlice _ 0 _)); refine s_bs0 (scTOf rfl) (zsTOf rfl) (by decide) (fun b => ?_)) | ((with_reducible apply kP (.makeSlice _ _ _)); refine sMk (fun b => ?_)) | ((with_reducible apply kP (.call ⟨.builtin .append, _, _⟩)); refine sAp (fun oa2 c2 blk2 hrow2 => ?_)) | ((with_reducible apply kP _); refine sP ?_) | ((with_reducible apply kP _); refine sX ?_) | ((with_reducible apply kQG); first | refine qY1 ?_ | refine qN1 ?_ | refine qU1 ?_ | (refine qD1 (fun h => ?_) (fun h => ?_) <;> (try (exfalso; omega))) | refine qB1 (fun h => ?_) (fun h => ?_)) | ((with_reducible apply kQP); refine qP ?_) | ((with_reducible apply kQP); refine qX ?_) | ((with_reducible apply kC); first | refine cT ?_ | refine cF ?_ | (refine cI (fun h => ?_) (fun h => ?_) <;> (try (exfalso; omega))) | refine cB (fun h => ?_) (fun h => ?_)) | ((with_reducible apply kR); refine cQ ?_))
          all_goals first
            | exact e_ret2 rfl ⟨_, rfl, ld_whole (shTOf rfl) MDt rfl⟩ rfl ⟨[], .inr ⟨hne, rfl, rfl⟩, rfl⟩ (show hs.Sublist _ from SCt)
            | (exfalso; omega)
            | trace_state
    · have eD := deE_arg hv hxy
      unfold DeR
      rw [eD]
      have hne : ¬ (decide (inB x 0 600) = true ∧ decide (inB y 0 600) = true) := by simpa using hxy
      rcases hb1 : decide (inB x 0 600) with _ | _ <;> rcases hb2 : decide (inB y 0 600) with _ | _
      all_goals
        rw [hb1] at kw1
        rw [hb2] at kw2
        rw [hb1, hb2] at hne
        clear hb1 hb2
        simp at hne
      all_goals
        refine fn_enter Try.func45 rfl Try.ntmps45 (by simp) ?_
        repeat' (first | ((with_reducible apply kF 28); refine sC 28 (kv _ (hL.sub SBt)) ?_) | ((with_reducible apply kF 60); refine sC 60 (kw1 _) ?_) | ((with_reducible apply kF 60); refine sC 60 (kw2 _) ?_) | ((with_reducible apply kN); refine stW ?_ (hf := flat_cons rfl (flat2 rfl rfl))) | (with_reducible first | refine c_seq ?_ | refine c_reg ?_ | refine c_region ?_ | refine c_block ?_ | refine c_skip ?_ | refine c_exit ?_ | refine c_ret ?_ | refine s_nil ?_ | refine x_then ?_ | refine x_then_exit ?_ | refine x_then_ret ?_ | refine x_block ?_ | refine x_block_ret ?_ | refine x_block_same ?_ | refine x_block_other (by rfl) ?_ | refine q_nil ?_ | refine k_nil ?_) | ((with_reducible apply kP (.makeFunc _ _ _)); refine sMF ?_) | ((with_reducible apply kG); first | refine gY1 ?_ | refine gN1 ?_ | refine gU1 ?_ | (refine gD1 (fun h => ?_) (fun h => ?_) <;> (try (exfalso; omega))) | refine gB1 (fun h => ?_) (fun h => ?_)) | ((with_reducible apply kN); first | refine stP ?_ | refine stI ?_ | refine st1 ?_ | refine stW ?_) | ((with_reducible apply kP (.alloc _)); refine sA (fun b => ?_)) | ((with_reducible apply kP (.box _ _)); first | refine sBA (fun b => ?_) | refine sB (fun b => ?_)) | ((with_reducible apply kP (.buildSlice _ 1 _)); first | refine sl1A (fun b => ?_) | refine sl1 (fun b => ?_)) | ((with_reducible apply kP (.buildSlice _ 2 _)); refine sl2 (fun b => ?_)) | ((with_reducible apply kP (.buildSlice _ 3 _)); refine sl3 (fun b => ?_)) | ((with_reducible apply kP (.buildSlice _ 4 _)); refine sl4 (fun b => ?_)) | ((with_reducible apply kP (.buildSlice _ 0 _)); refine s_bs0 (scTOf rfl) (zsTOf rfl) (by decide) (fun b => ?_)) | ((with_reducible apply kP (.makeSlice _ _ _)); refine sMk (fun b => ?_)) | ((with_reducible apply kP (.call ⟨.builtin .append, _, _⟩)); refine sAp (fun oa2 c2 blk2 hrow2 => ?_)) | ((with_reducible apply kP _); refine sP ?_) | ((with_reducible apply kP _); refine sX ?_) | ((with_reducible apply kQG); first | refine qY1 ?_ | refine qN1 ?_ | refine qU1 ?_ | (refine qD1 (fun h => ?_) (fun h => ?_) <;> (try (exfalso; omega))) | refine qB1 (fun h => ?_) (fun h => ?_)) | ((with_reducible apply kQP); refine qP ?_) | ((with_reducible apply kQP); refine qX ?_) | ((with_reducible apply kC); first | refine cT ?_ | refine cF ?_ | (refine cI (fun h => ?_) (fun h => ?_) <;> (try (exfalso; omega))) | refine cB (fun h => ?_) (fun h => ?_)) | ((with_reducible apply kR); refine cQ ?_))
        all_goals first
          | exact e_ret2 rfl ⟨_, rfl, ld_whole (shTOf rfl) MDt rfl⟩ rfl ⟨[], .inr ⟨by decide, rfl, rfl⟩, rfl⟩ (show hs.Sublist _ from SCt)
          | (exfalso; omega)
          | trace_state
  · have eD := deE_bad (x := x) (y := y) hv
    unfold DeR
    rw [eD]
    generalize vpE n R C l = e at *
    refine fn_enter Try.func45 rfl Try.ntmps45 (by simp) ?_
    repeat' (first | ((with_reducible apply kF 28); refine sC 28 (kv _ (hL.sub SBt)) ?_) | ((with_reducible apply kN); refine stW ?_ (hf := flat_cons rfl (flat2 rfl rfl))) | (with_reducible first | refine c_seq ?_ | refine c_reg ?_ | refine c_region ?_ | refine c_block ?_ | refine c_skip ?_ | refine c_exit ?_ | refine c_ret ?_ | refine s_nil ?_ | refine x_then ?_ | refine x_then_exit ?_ | refine x_then_ret ?_ | refine x_block ?_ | refine x_block_ret ?_ | refine x_block_same ?_ | refine x_block_other (by rfl) ?_ | refine q_nil ?_ | refine k_nil ?_) | ((with_reducible apply kP (.makeFunc _ _ _)); refine sMF ?_) | ((with_reducible apply kG); first | refine gY1 ?_ | refine gN1 ?_ | refine gU1 ?_ | (refine gD1 (fun h => ?_) (fun h => ?_) <;> (try (exfalso; omega))) | refine gB1 (fun h => ?_) (fun h => ?_)) | ((with_reducible apply kN); first | refine stP ?_ | refine stI ?_ | refine st1 ?_ | refine stW ?_) | ((with_reducible apply kP (.alloc _)); refine sA (fun b => ?_)) | ((with_reducible apply kP (.box _ _)); first | refine sBA (fun b => ?_) | refine sB (fun b => ?_)) | ((with_reducible apply kP (.buildSlice _ 1 _)); first | refine sl1A (fun b => ?_) | refine sl1 (fun b => ?_)) | ((with_reducible apply kP (.buildSlice _ 2 _)); refine sl2 (fun b => ?_)) | ((with_reducible apply kP (.buildSlice _ 3 _)); refine sl3 (fun b => ?_)) | ((with_reducible apply kP (.buildSlice _ 4 _)); refine sl4 (fun b => ?_)) | ((with_reducible apply kP (.buildSlice _ 0 _)); refine s_bs0 (scTOf rfl) (zsTOf rfl) (by decide) (fun b => ?_)) | ((with_reducible apply kP (.makeSlice _ _ _)); refine sMk (fun b => ?_)) | ((with_reducible apply kP (.call ⟨.builtin .append, _, _⟩)); refine sAp (fun oa2 c2 blk2 hrow2 => ?_)) | ((with_reducible apply kP _); refine sP ?_) | ((with_reducible apply kP _); refine sX ?_) | ((with_reducible apply kQG); first | refine qY1 ?_ | refine qN1 ?_ | refine qU1 ?_ | (refine qD1 (fun h => ?_) (fun h => ?_) <;> (try (exfalso; omega))) | refine qB1 (fun h => ?_) (fun h => ?_)) | ((with_reducible apply kQP); refine qP ?_) | ((with_reducible apply kQP); refine qX ?_) | ((with_reducible apply kC); first | refine cT ?_ | refine cF ?_ | (refine cI (fun h => ?_) (fun h => ?_) <;> (try (exfalso; omega))) | refine cB (fun h => ?_) (fun h => ?_)) | ((with_reducible apply kR); refine cQ ?_))
    all_goals first
      | exact e_ret2 rfl ⟨_, rfl, ld_whole (shTOf rfl) MDt rfl⟩ rfl ⟨[], .inr ⟨hv, rfl, rfl⟩, rfl⟩ (show hs.Sublist _ from SCt)
      | (exfalso; omega)
      | trace_state
set_option maxRecDepth 100000 in
set_option maxHeartbeats 8000000 in
theorem r_Delay (n c : Nat) (R C x y : Int) (l : List Int) (oa : Option Addr) (hl : l.length = n * 4) (hn : n ≤ 1000) (hc : n ≤ c) (B : Nat) (w0 : Wd) (hs : HS) (hL : Sl B w0 hs oa l) :
    Fn Try.prog 46 #[.agg #[.slice oa n c, iv R, iv C], iv x, iv y] B w0 hs (fun u h => ∃ blk, DeR n R C l x y u blk ∧ h = blk ++ hs) := by
  have kv := fun hs hL => r_VP n c R C l oa hl hn hc B w0 hs hL
  have kw1 := r_within x 0 600 B w0
  have kw2 := r_within y 0 600 B w0
  by_cases hv : vpE n R C l = 0
  · have hV := vp_to hv
    have hn6 := hV.le
    rw [hv] at kv
    by_cases hxy : inB x 0 600 ∧ inB y 0 600
    · have eD := deE_ok hv hxy
      rw [decide_eq_true hxy.1] at kw1
      rw [decide_eq_true hxy.2] at kw2
      obtain ⟨⟨g1, g2⟩, g3, g4⟩ := hxy
      refine fn_enter Try.func46 rfl Try.ntmps46 (by simp) ?_
      repeat' (first | (with_reducible first | refine c_seq ?_ | refine c_reg ?_ | refine c_region ?_ | refine c_block ?_ | refine c_skip ?_ | refine c_exit ?_ | refine c_ret ?_ | refine s_nil ?_ | refine x_then ?_ | refine x_then_exit ?_ | refine x_then_ret ?_ | refine x_block ?_ | refine x_block_ret ?_ | refine x_block_same ?_ | refine x_block_other (by rfl) ?_ | refine q_nil ?_ | refine k_nil ?_) | ((with_reducible apply kP (.makeFunc _ _ _)); refine sMF ?_) | ((with_reducible apply kG); first | refine gY1 ?_ | refine gN1 ?_ | refine gU1 ?_ | (refine gD1 (fun h => ?_) (fun h => ?_) <;> (try (exfalso; omega))) | refine gB1 (fun h => ?_) (fun h => ?_)) | ((with_reducible apply kN); first | refine stP ?_ | refine stI ?_ | refine st1 ?_ | refine stW ?_) | ((with_reducible apply kP (.alloc _)); refine sA (fun b => ?_)) | ((with_reducible apply kP (.box _ _)); first | refine sBA (fun b => ?_) | refine sB (fun b => ?_)) | ((with_reducible apply kP (.buildSlice _ 1 _)); first | refine sl1A (fun b => ?_) | refine sl1 (fun b => ?_)) | ((with_reducible apply kP (.buildSlice _ 2 _)); refine sl2 (fun b => ?_)) | ((with_reducible apply kP (.buildSlice _ 3 _)); refine sl3 (fun b => ?_)) | ((with_reducible apply kP (.buildSlice _ 4 _)); refine sl4 (fun b => ?_)) | ((with_reducible apply kP (.buildSlice _ 0 _)); refine s_bs0 (scTOf rfl) (zsTOf rfl) (by decide) (fun b => ?_)) | ((with_reducible apply kP (.makeSlice _ _ _)); refine sMk (fun b => ?_)) | ((with_reducible apply kP (.call ⟨.builtin .append, _, _⟩)); refine sAp (fun oa2 c2 blk2 hrow2 => ?_)) | ((with_reducible apply kP _); refine sP ?_) | ((with_reducible apply kP _); refine sX ?_) | ((with_reducible apply kQG); first | refine qY1 ?_ | refine qN1 ?_ | refine qU1 ?_ | (refine qD1 (fun h => ?_) (fun h => ?_) <;> (try (exfalso; omega))) | refine qB1 (fun h => ?_) (fun h => ?_)) | ((with_reducible apply kQP); refine qP ?_) | ((with_reducible apply kQP); refine qX ?_) | ((with_reducible apply kC); first | refine cT ?_ | refine cF ?_ | (refine cI (fun h => ?_) (fun h => ?_) <;> (try (exfalso; omega))) | refine cB (fun h => ?_) (fun h => ?_)) | ((with_reducible apply kR); refine cQ ?_))
      rename_i bp
      revert b
      intro b6
      repeat' (first | ((with_reducible apply kF 29); refine sC 29 (kv _ (hL.sub SBt)) ?_) | ((with_reducible apply kF 62); refine sC 62 (kw1 _) ?_) | ((with_reducible apply kF 62); refine sC 62 (kw2 _) ?_) | ((with_reducible apply kF 22); refine sN 22 (r_Copy n c R C l oa hl hn B w0 _ (hL.sub SBt)) ?_; rintro u blkC ⟨oC, cC, rfl, hrC⟩) | ((with_reducible apply kN); refine stW ?_ (hf := flat_cons rfl (flat2 rfl rfl))) | (with_reducible first | refine c_seq ?_ | refine c_reg ?_ | refine c_region ?_ | refine c_block ?_ | refine c_skip ?_ | refine c_exit ?_ | refine c_ret ?_ | refine s_nil ?_ | refine x_then ?_ | refine x_then_exit ?_ | refine x_then_ret ?_ | refine x_block ?_ | refine x_block_ret ?_ | refine x_block_same ?_ | refine x_block_other (by rfl) ?_ | refine q_nil ?_ | refine k_nil ?_) | ((with_reducible apply kP (.makeFunc _ _ _)); refine sMF ?_) | ((with_reducible apply kG); first | refine gY1 ?_ | refine gN1 ?_ | refine gU1 ?_ | (refine gD1 (fun h => ?_) (fun h => ?_) <;> (try (exfalso; omega))) | refine gB1 (fun h => ?_) (fun h => ?_)) | ((with_reducible apply kN); first | refine stP ?_ | refine stI ?_ | refine st1 ?_ | refine stW ?_) | ((with_reducible apply kP (.alloc _)); refine sA (fun b => ?_)) | ((with_reducible apply kP (.box _ _)); first | refine sBA (fun b => ?_) | refine sB (fun b => ?_)) | ((with_reducible apply kP (.buildSlice _ 1 _)); first | refine sl1A (fun b => ?_) | refine sl1 (fun b => ?_)) | ((with_reducible apply kP (.buildSlice _ 2 _)); refine sl2 (fun b => ?_)) | ((with_reducible apply kP (.buildSlice _ 3 _)); refine sl3 (fun b => ?_)) | ((with_reducible apply kP (.buildSlice _ 4 _)); refine sl4 (fun b => ?_)) | ((with_reducible apply kP (.buildSlice _ 0 _)); refine s_bs0 (scTOf rfl) (zsTOf rfl) (by decide) (fun b => ?_)) | ((with_reducible apply kP (.makeSlice _ _ _)); refine sMk (fun b => ?_)) | ((with_reducible apply kP (.call ⟨.builtin .append, _, _⟩)); refine sAp (fun oa2 c2 blk2 hrow2 => ?_)) | ((with_reducible apply kP _); refine sP ?_) | ((with_reducible apply kP _); refine sX ?_) | ((with_reducible apply kQG); first | refine qY1 ?_ | refine qN1 ?_ | refine qU1 ?_ | (refine qD1 (fun h => ?_) (fun h => ?_) <;> (try (exfalso; omega))) | refine qB1 (fun h => ?_) (fun h => ?_)) | ((with_reducible apply kQP); refine qP ?_) | ((with_reducible apply kQP); refine qX ?_) | ((with_reducible apply kC); first | refine cT ?_ | refine cF ?_ | (refine cI (fun h => ?_) (fun h => ?_) <;> (try (exfalso; omega))) | refine cB (fun h => ?_) (fun h => ?_)) | ((with_reducible apply kR); refine cQ ?_))
      all_goals try (exfalso; first | omega | exact absurd rfl ‹_ ≠ _›)
      revert b
      intro b9
      refine c_loop (fun s : DS => [(1, iv x), (2, iv y), (6, .pointer (some ⟨b6, 0, none⟩)), (9, .pointer (some ⟨b9, 0, none⟩)), (10, iv s.i)]) (fun s => (b9, [.slice oC n cC, iv R, iv C]) :: (s.blk ++ (b6, [.slice none 0 0, .int .i64 0, .int .i64 0]) :: hs)) (fun s => s.i ≤ n ∧ RowOk oC cC 4 (ivs (dlT l x y s.i)) s.blk) (fun s => n - s.i) ⟨0, blkC⟩ ⟨Nat.zero_le _, hrC⟩ (by repeat' first | trivial | rfl | apply And.intro) (List.Sublist.cons_cons _ (.append (.refl _) (.cons_cons _ (.cons _ (.refl _))))) ?_
      rintro ⟨i, blk⟩ ⟨hi, hrow⟩
      dsimp only at hi hrow ⊢
      have hln : (dlT l x y i).length = n * 4 := by rw [dlT_len, hl]
      by_cases hi' : i < n
      · have hw := hV.w i hi'
        unfold okw wF wT at hw
        have e2 := dlT_late (l := l) (f := x) (b := y) i (i * 4 + 2) (by omega)
        have e3 := dlT_late (l := l) (f := x) (b := y) i (i * 4 + 3) (by omega)
        obtain ⟨b3, z3, rfl, rfl, hz3, hc3⟩ := row_some hrow (by rw [ivs_length]; omega)
        simp only [List.cons_append, List.nil_append]
        by_cases hq : x ≤ (dlT l x y i).getD (i * 4 + 2) 0
        · have eT : dlT l x y (i + 1) = (((dlT l x y i).set (i * 4 + 2) ((dlT l x y i).getD (i * 4 + 2) 0 + y)).set (i * 4 + 3) (((dlT l x y i).set (i * 4 + 2) ((dlT l x y i).getD (i * 4 + 2) 0 + y)).getD (i * 4 + 3) 0 + y)) := by rw [dlT, if_pos hq]
          have hz4 : (ivs (dlT l x y (i + 1)) ++ z3).length = cC * 4 := by rw [← hz3, List.length_append, List.length_append, ivs_length, ivs_length, dlT_len, dlT_len]
          have e4 : ((dlT l x y i).set (i * 4 + 2) ((dlT l x y i).getD (i * 4 + 2) 0 + y)).getD (i * 4 + 3) 0 = l.getD (i * 4 + 3) 0 := by rw [gE_ne (by omega), e3]
          repeat' (first | ((with_reducible apply kP (.load 3 _)); refine sP ?_ (o_load rfl (ld_one (shTOf rfl) (ownZ MMt (by first | omega | (rw [List.length_set]; omega)))))) | ((with_reducible apply kDP (.load 3 _)); refine dP ?_ (hX := rfl) (hv := o_load rfl (ld_one (shTOf rfl) (ownZ MMt (by first | omega | (rw [List.length_set]; omega)))))) | ((with_reducible apply kQO (.load 3 _)); refine qP ?_ (o_load rfl (ld_one (shTOf rfl) (ownZ MMt (by first | omega | (rw [List.length_set]; omega)))))) | ((with_reducible apply kN); refine s_storeZ rfl rfl (shTOf rfl) (by with_reducible first | exact uu0 | exact uu1 | exact uu2 | exact uu3 | exact uu4 | exact uu5 | exact uu6 | exact uu7 | exact uu8 | ((repeat (first | exact uu0 | apply Upd.tail | apply Upd.app)); done)) (by first | omega | (rw [List.length_set]; omega)) ?_) | (with_reducible first | refine c_seq ?_ | refine c_reg ?_ | refine c_region ?_ | refine c_block ?_ | refine c_skip ?_ | refine c_exit ?_ | refine c_ret ?_ | refine s_nil ?_ | refine x_then ?_ | refine x_then_exit ?_ | refine x_then_ret ?_ | refine x_block ?_ | refine x_block_ret ?_ | refine x_block_same ?_ | refine x_block_other (by rfl) ?_ | refine q_nil ?_ | refine k_nil ?_) | ((with_reducible apply kP (.makeFunc _ _ _)); refine sMF ?_) | ((with_reducible apply kG); first | refine gY1 ?_ | refine gN1 ?_ | refine gU1 ?_ | (refine gD1 (fun h => ?_) (fun h => ?_) <;> (try (exfalso; omega))) | refine gB1 (fun h => ?_) (fun h => ?_)) | ((with_reducible apply kN); first | refine stP ?_ | refine stI ?_ | refine st1 ?_ | refine stW ?_) | ((with_reducible apply kP (.alloc _)); refine sA (fun b => ?_)) | ((with_reducible apply kP (.box _ _)); first | refine sBA (fun b => ?_) | refine sB (fun b => ?_)) | ((with_reducible apply kP (.buildSlice _ 1 _)); first | refine sl1A (fun b => ?_) | refine sl1 (fun b => ?_)) | ((with_reducible apply kP (.buildSlice _ 2 _)); refine sl2 (fun b => ?_)) | ((with_reducible apply kP (.buildSlice _ 3 _)); refine sl3 (fun b => ?_)) | ((with_reducible apply kP (.buildSlice _ 4 _)); refine sl4 (fun b => ?_)) | ((with_reducible apply kP (.buildSlice _ 0 _)); refine s_bs0 (scTOf rfl) (zsTOf rfl) (by decide) (fun b => ?_)) | ((with_reducible apply kP (.makeSlice _ _ _)); refine sMk (fun b => ?_)) | ((with_reducible apply kP (.call ⟨.builtin .append, _, _⟩)); refine sAp (fun oa2 c2 blk2 hrow2 => ?_)) | ((with_reducible apply kP _); refine sP ?_) | ((with_reducible apply kP _); refine sX ?_) | ((with_reducible apply kQG); first | refine qY1 ?_ | refine qN1 ?_ | refine qU1 ?_ | (refine qD1 (fun h => ?_) (fun h => ?_) <;> (try (exfalso; omega))) | refine qB1 (fun h => ?_) (fun h => ?_)) | ((with_reducible apply kQP); refine qP ?_) | ((with_reducible apply kQP); refine qX ?_) | ((with_reducible apply kC); first | refine cT ?_ | refine cF ?_ | (refine cI (fun h => ?_) (fun h => ?_) <;> (try (exfalso; omega))) | refine cB (fun h => ?_) (fun h => ?_)) | ((with_reducible apply kR); refine cQ ?_))
          all_goals first
            | exact r_end ⟨i + 1, [(b3, ivs (dlT l x y (i + 1)) ++ z3)]⟩ ⟨hi', .inr ⟨b3, z3, rfl, rfl, hz4, hc3⟩⟩ (by show n - (i + 1) < n - i; omega) (by repeat' first | trivial | rfl | apply And.intro) (by simp only [List.cons_append, List.nil_append]; rw [eT]; exact SCt)
            | (exfalso; omega)
            | trace_state
        · have eT : dlT l x y (i + 1) = dlT l x y i := by rw [dlT, if_neg hq]
          repeat' (first | ((with_reducible apply kP (.load 3 _)); refine sP ?_ (o_load rfl (ld_one (shTOf rfl) (ownZ MMt (by first | omega | (rw [List.length_set]; omega)))))) | ((with_reducible apply kDP (.load 3 _)); refine dP ?_ (hX := rfl) (hv := o_load rfl (ld_one (shTOf rfl) (ownZ MMt (by first | omega | (rw [List.length_set]; omega)))))) | ((with_reducible apply kQO (.load 3 _)); refine qP ?_ (o_load rfl (ld_one (shTOf rfl) (ownZ MMt (by first | omega | (rw [List.length_set]; omega)))))) | (with_reducible first | refine c_seq ?_ | refine c_reg ?_ | refine c_region ?_ | refine c_block ?_ | refine c_skip ?_ | refine c_exit ?_ | refine c_ret ?_ | refine s_nil ?_ | refine x_then ?_ | refine x_then_exit ?_ | refine x_then_ret ?_ | refine x_block ?_ | refine x_block_ret ?_ | refine x_block_same ?_ | refine x_block_other (by rfl) ?_ | refine q_nil ?_ | refine k_nil ?_) | ((with_reducible apply kP (.makeFunc _ _ _)); refine sMF ?_) | ((with_reducible apply kG); first | refine gY1 ?_ | refine gN1 ?_ | refine gU1 ?_ | (refine gD1 (fun h => ?_) (fun h => ?_) <;> (try (exfalso; omega))) | refine gB1 (fun h => ?_) (fun h => ?_)) | ((with_reducible apply kN); first | refine stP ?_ | refine stI ?_ | refine st1 ?_ | refine stW ?_) | ((with_reducible apply kP (.alloc _)); refine sA (fun b => ?_)) | ((with_reducible apply kP (.box _ _)); first | refine sBA (fun b => ?_) | refine sB (fun b => ?_)) | ((with_reducible apply kP (.buildSlice _ 1 _)); first | refine sl1A (fun b => ?_) | refine sl1 (fun b => ?_)) | ((with_reducible apply kP (.buildSlice _ 2 _)); refine sl2 (fun b => ?_)) | ((with_reducible apply kP (.buildSlice _ 3 _)); refine sl3 (fun b => ?_)) | ((with_reducible apply kP (.buildSlice _ 4 _)); refine sl4 (fun b => ?_)) | ((with_reducible apply kP (.buildSlice _ 0 _)); refine s_bs0 (scTOf rfl) (zsTOf rfl) (by decide) (fun b => ?_)) | ((with_reducible apply kP (.makeSlice _ _ _)); refine sMk (fun b => ?_)) | ((with_reducible apply kP (.call ⟨.builtin .append, _, _⟩)); refine sAp (fun oa2 c2 blk2 hrow2 => ?_)) | ((with_reducible apply kP _); refine sP ?_) | ((with_reducible apply kP _); refine sX ?_) | ((with_reducible apply kQG); first | refine qY1 ?_ | refine qN1 ?_ | refine qU1 ?_ | (refine qD1 (fun h => ?_) (fun h => ?_) <;> (try (exfalso; omega))) | refine qB1 (fun h => ?_) (fun h => ?_)) | ((with_reducible apply kQP); refine qP ?_) | ((with_reducible apply kQP); refine qX ?_) | ((with_reducible apply kC); first | refine cT ?_ | refine cF ?_ | (refine cI (fun h => ?_) (fun h => ?_) <;> (try (exfalso; omega))) | refine cB (fun h => ?_) (fun h => ?_)) | ((with_reducible apply kR); refine cQ ?_))
          all_goals first
            | exact r_end ⟨i + 1, [(b3, ivs (dlT l x y (i + 1)) ++ z3)]⟩ ⟨hi', .inr ⟨b3, z3, rfl, rfl, by rw [eT]; exact hz3, hc3⟩⟩ (by show n - (i + 1) < n - i; omega) (by repeat' first | trivial | rfl | apply And.intro) (by simp only [List.cons_append, List.nil_append]; rw [eT]; exact SCt)
            | (exfalso; omega)
            | trace_state
      · obtain rfl : i = n := by omega
        have hS3 := Sl.rowK (B := B) (w0 := w0) hrow
        have hcC := hrow.cap (k := i) (by rw [ivs_length, hln]) (by omega)
        have kv2 := fun hs hL => r_VP i cC R C (dlT l x y i) oC hln hn hcC B w0 hs hL
        by_cases hv2 : vpE i R C (dlT l x y i) = 0
        · rw [hv2] at kv2
          repeat' (first | ((with_reducible apply kF 29); refine sC 29 (kv2 _ (hS3.sub SBt)) ?_) | ((with_reducible apply kN); refine stW ?_ (hf := flat_cons rfl (flat2 rfl rfl))) | (with_reducible first | refine c_seq ?_ | refine c_reg ?_ | refine c_region ?_ | refine c_block ?_ | refine c_skip ?_ | refine c_exit ?_ | refine c_ret ?_ | refine s_nil ?_ | refine x_then ?_ | refine x_then_exit ?_ | refine x_then_ret ?_ | refine x_block ?_ | refine x_block_ret ?_ | refine x_block_same ?_ | refine x_block_other (by rfl) ?_ | refine q_nil ?_ | refine k_nil ?_) | ((with_reducible apply kP (.makeFunc _ _ _)); refine sMF ?_) | ((with_reducible apply kG); first | refine gY1 ?_ | refine gN1 ?_ | refine gU1 ?_ | (refine gD1 (fun h => ?_) (fun h => ?_) <;> (try (exfalso; omega))) | refine gB1 (fun h => ?_) (fun h => ?_)) | ((with_reducible apply kN); first | refine stP ?_ | refine stI ?_ | refine st1 ?_ | refine stW ?_) | ((with_reducible apply kP (.alloc _)); refine sA (fun b => ?_)) | ((with_reducible apply kP (.box _ _)); first | refine sBA (fun b => ?_) | refine sB (fun b => ?_)) | ((with_reducible apply kP (.buildSlice _ 1 _)); first | refine sl1A (fun b => ?_) | refine sl1 (fun b => ?_)) | ((with_reducible apply kP (.buildSlice _ 2 _)); refine sl2 (fun b => ?_)) | ((with_reducible apply kP (.buildSlice _ 3 _)); refine sl3 (fun b => ?_)) | ((with_reducible apply kP (.buildSlice _ 4 _)); refine sl4 (fun b => ?_)) | ((with_reducible apply kP (.buildSlice _ 0 _)); refine s_bs0 (scTOf rfl) (zsTOf rfl) (by decide) (fun b => ?_)) | ((with_reducible apply kP (.makeSlice _ _ _)); refine sMk (fun b => ?_)) | ((with_reducible apply kP (.call ⟨.builtin .append, _, _⟩)); refine sAp (fun oa2 c2 blk2 hrow2 => ?_)) | ((with_reducible apply kP _); refine sP ?_) | ((with_reducible apply kP _); refine sX ?_) | ((with_reducible apply kQG); first | refine qY1 ?_ | refine qN1 ?_ | refine qU1 ?_ | (refine qD1 (fun h => ?_) (fun h => ?_) <;> (try (exfalso; omega))) | refine qB1 (fun h => ?_) (fun h => ?_)) | ((with_reducible apply kQP); refine qP ?_) | ((with_reducible apply kQP); refine qX ?_) | ((with_reducible apply kC); first | refine cT ?_ | refine cF ?_ | (refine cI (fun h => ?_) (fun h => ?_) <;> (try (exfalso; omega))) | refine cB (fun h => ?_) (fun h => ?_)) | ((with_reducible apply kR); refine cQ ?_))
          all_goals first
            | exact e_ret2 rfl ⟨_, rfl, ld_whole (shTOf rfl) MDt rfl⟩ rfl ⟨blk, .inl ⟨by rw [eD]; exact hv2, oC, cC, rfl, hrow⟩, rfl⟩ SCt
            | (exfalso; omega)
            | trace_state
        · have eD2 : deE i R C l x y = vpE i R C (dlT l x y i) := eD
          have hne : deE i R C l x y ≠ 0 := by rw [eD2]; exact hv2
          rw [← eD2] at kv2
          unfold DeR
          generalize deE i R C l x y = e at *
          repeat' (first | ((with_reducible apply kF 29); refine sC 29 (kv2 _ (hS3.sub SBt)) ?_) | ((with_reducible apply kN); refine stW ?_ (hf := flat_cons rfl (flat2 rfl rfl))) | (with_reducible first | refine c_seq ?_ | refine c_reg ?_ | refine c_region ?_ | refine c_block ?_ | refine c_skip ?_ | refine c_exit ?_ | refine c_ret ?_ | refine s_nil ?_ | refine x_then ?_ | refine x_then_exit ?_ | refine x_then_ret ?_ | refine x_block ?_ | refine x_block_ret ?_ | refine x_block_same ?_ | refine x_block_other (by rfl) ?_ | refine q_nil ?_ | refine k_nil ?_) | ((with_reducible apply kP (.makeFunc _ _ _)); refine sMF ?_) | ((with_reducible apply kG); first | refine gY1 ?_ | refine gN1 ?_ | refine gU1 ?_ | (refine gD1 (fun h => ?_) (fun h => ?_) <;> (try (exfalso; omega))) | refine gB1 (fun h => ?_) (fun h => ?_)) | ((with_reducible apply kN); first | refine stP ?_ | refine stI ?_ | refine st1 ?_ | refine stW ?_) | ((with_reducible apply kP (.alloc _)); refine sA (fun b => ?_)) | ((with_reducible apply kP (.box _ _)); first | refine sBA (fun b => ?_) | refine sB (fun b => ?_)) | ((with_reducible apply kP (.buildSlice _ 1 _)); first | refine sl1A (fun b => ?_) | refine sl1 (fun b => ?_)) | ((with_reducible apply kP (.buildSlice _ 2 _)); refine sl2 (fun b => ?_)) | ((with_reducible apply kP (.buildSlice _ 3 _)); refine sl3 (fun b => ?_)) | ((with_reducible apply kP (.buildSlice _ 4 _)); refine sl4 (fun b => ?_)) | ((with_reducible apply kP (.buildSlice _ 0 _)); refine s_bs0 (scTOf rfl) (zsTOf rfl) (by decide) (fun b => ?_)) | ((with_reducible apply kP (.makeSlice _ _ _)); refine sMk (fun b => ?_)) | ((with_reducible apply kP (.call ⟨.builtin .append, _, _⟩)); refine sAp (fun oa2 c2 blk2 hrow2 => ?_)) | ((with_reducible apply kP _); refine sP ?_) | ((with_reducible apply kP _); refine sX ?_) | ((with_reducible apply kQG); first | refine qY1 ?_ | refine qN1 ?_ | refine qU1 ?_ | (refine qD1 (fun h => ?_) (fun h => ?_) <;> (try (exfalso; omega))) | refine qB1 (fun h => ?_) (fun h => ?_)) | ((with_reducible apply kQP); refine qP ?_) | ((with_reducible apply kQP); refine qX ?_) | ((with_reducible apply kC); first | refine cT ?_ | refine cF ?_ | (refine cI (fun h => ?_) (fun h => ?_) <;> (try (exfalso; omega))) | refine cB (fun h => ?_) (fun h => ?_)) | ((with_reducible apply kR); refine cQ ?_))
          all_goals first
            | exact e_ret2 rfl ⟨_, rfl, ld_whole (shTOf rfl) MDt rfl⟩ rfl ⟨[], .inr ⟨hne, rfl, rfl⟩, rfl⟩ (show hs.Sublist _ from SCt)
            | (exfalso; omega)
            | trace_state
    · have eD := deE_arg hv hxy
      unfold DeR
      rw [eD]
      have hne : ¬ (decide (inB x 0 600) = true ∧ decide (inB y 0 600) = true) := by simpa using hxy
      rcases hb1 : decide (inB x 0 600) with _ | _ <;> rcases hb2 : decide (inB y 0 600) with _ | _
      all_goals
        rw [hb1] at kw1
        rw [hb2] at kw2
        rw [hb1, hb2] at hne
        clear hb1 hb2
        simp at hne
      all_goals
        refine fn_enter Try.func46 rfl Try.ntmps46 (by simp) ?_
        repeat' (first | ((with_reducible apply kF 29); refine sC 29 (kv _ (hL.sub SBt)) ?_) | ((with_reducible apply kF 62); refine sC 62 (kw1 _) ?_) | ((with_reducible apply kF 62); refine sC 62 (kw2 _) ?_) | ((with_reducible apply kN); refine stW ?_ (hf := flat_cons rfl (flat2 rfl rfl))) | (with_reducible first | refine c_seq ?_ | refine c_reg ?_ | refine c_region ?_ | refine c_block ?_ | refine c_skip ?_ | refine c_exit ?_ | refine c_ret ?_ | refine s_nil ?_ | refine x_then ?_ | refine x_then_exit ?_ | refine x_then_ret ?_ | refine x_block ?_ | refine x_block_ret ?_ | refine x_block_same ?_ | refine x_block_other (by rfl) ?_ | refine q_nil ?_ | refine k_nil ?_) | ((with_reducible apply kP (.makeFunc _ _ _)); refine sMF ?_) | ((with_reducible apply kG); first | refine gY1 ?_ | refine gN1 ?_ | refine gU1 ?_ | (refine gD1 (fun h => ?_) (fun h => ?_) <;> (try (exfalso; omega))) | refine gB1 (fun h => ?_) (fun h => ?_)) | ((with_reducible apply kN); first | refine stP ?_ | refine stI ?_ | refine st1 ?_ | refine stW ?_) | ((with_reducible apply kP (.alloc _)); refine sA (fun b => ?_)) | ((with_reducible apply kP (.box _ _)); first | refine sBA (fun b => ?_) | refine sB (fun b => ?_)) | ((with_reducible apply kP (.buildSlice _ 1 _)); first | refine sl1A (fun b => ?_) | refine sl1 (fun b => ?_)) | ((with_reducible apply kP (.buildSlice _ 2 _)); refine sl2 (fun b => ?_)) | ((with_reducible apply kP (.buildSlice _ 3 _)); refine sl3 (fun b => ?_)) | ((with_reducible apply kP (.buildSlice _ 4 _)); refine sl4 (fun b => ?_)) | ((with_reducible apply kP (.buildSlice _ 0 _)); refine s_bs0 (scTOf rfl) (zsTOf rfl) (by decide) (fun b => ?_)) | ((with_reducible apply kP (.makeSlice _ _ _)); refine sMk (fun b => ?_)) | ((with_reducible apply kP (.call ⟨.builtin .append, _, _⟩)); refine sAp (fun oa2 c2 blk2 hrow2 => ?_)) | ((with_reducible apply kP _); refine sP ?_) | ((with_reducible apply kP _); refine sX ?_) | ((with_reducible apply kQG); first | refine qY1 ?_ | refine qN1 ?_ | refine qU1 ?_ | (refine qD1 (fun h => ?_) (fun h => ?_) <;> (try (exfalso; omega))) | refine qB1 (fun h => ?_) (fun h => ?_)) | ((with_reducible apply kQP); refine qP ?_) | ((with_reducible apply kQP); refine qX ?_) | ((with_reducible apply kC); first | refine cT ?_ | refine cF ?_ | (refine cI (fun h => ?_) (fun h => ?_) <;> (try (exfalso; omega))) | refine cB (fun h => ?_) (fun h => ?_)) | ((with_reducible apply kR); refine cQ ?_))
        all_goals first
          | exact e_ret2 rfl ⟨_, rfl, ld_whole (shTOf rfl) MDt rfl⟩ rfl ⟨[], .inr ⟨by decide, rfl, rfl⟩, rfl⟩ (show hs.Sublist _ from SCt)
          | (exfalso; omega)
          | trace_state
  · have eD := deE_bad (x := x) (y := y) hv
    unfold DeR
    rw [eD]
    generalize vpE n R C l = e at *
    refine fn_enter Try.func46 rfl Try.ntmps46 (by simp) ?_
    repeat' (first | ((with_reducible apply kF 29); refine sC 29 (kv _ (hL.sub SBt)) ?_) | ((with_reducible apply kN); refine stW ?_ (hf := flat_cons rfl (flat2 rfl rfl))) | (with_reducible first | refine c_seq ?_ | refine c_reg ?_ | refine c_region ?_ | refine c_block ?_ | refine c_skip ?_ | refine c_exit ?_ | refine c_ret ?_ | refine s_nil ?_ | refine x_then ?_ | refine x_then_exit ?_ | refine x_then_ret ?_ | refine x_block ?_ | refine x_block_ret ?_ | refine x_block_same ?_ | refine x_block_other (by rfl) ?_ | refine q_nil ?_ | refine k_nil ?_) | ((with_reducible apply kP (.makeFunc _ _ _)); refine sMF ?_) | ((with_reducible apply kG); first | refine gY1 ?_ | refine gN1 ?_ | refine gU1 ?_ | (refine gD1 (fun h => ?_) (fun h => ?_) <;> (try (exfalso; omega))) | refine gB1 (fun h => ?_) (fun h => ?_)) | ((with_reducible apply kN); first | refine stP ?_ | refine stI ?_ | refine st1 ?_ | refine stW ?_) | ((with_reducible apply kP (.alloc _)); refine sA (fun b => ?_)) | ((with_reducible apply kP (.box _ _)); first | refine sBA (fun b => ?_) | refine sB (fun b => ?_)) | ((with_reducible apply kP (.buildSlice _ 1 _)); first | refine sl1A (fun b => ?_) | refine sl1 (fun b => ?_)) | ((with_reducible apply kP (.buildSlice _ 2 _)); refine sl2 (fun b => ?_)) | ((with_reducible apply kP (.buildSlice _ 3 _)); refine sl3 (fun b => ?_)) | ((with_reducible apply kP (.buildSlice _ 4 _)); refine sl4 (fun b => ?_)) | ((with_reducible apply kP (.buildSlice _ 0 _)); refine s_bs0 (scTOf rfl) (zsTOf rfl) (by decide) (fun b => ?_)) | ((with_reducible apply kP (.makeSlice _ _ _)); refine sMk (fun b => ?_)) | ((with_reducible apply kP (.call ⟨.builtin .append, _, _⟩)); refine sAp (fun oa2 c2 blk2 hrow2 => ?_)) | ((with_reducible apply kP _); refine sP ?_) | ((with_reducible apply kP _); refine sX ?_) | ((with_reducible apply kQG); first | refine qY1 ?_ | refine qN1 ?_ | refine qU1 ?_ | (refine qD1 (fun h => ?_) (fun h => ?_) <;> (try (exfalso; omega))) | refine qB1 (fun h => ?_) (fun h => ?_)) | ((with_reducible apply kQP); refine qP ?_) | ((with_reducible apply kQP); refine qX ?_) | ((with_reducible apply kC); first | refine cT ?_ | refine cF ?_ | (refine cI (fun h => ?_) (fun h => ?_) <;> (try (exfalso; omega))) | refine cB (fun h => ?_) (fun h => ?_)) | ((with_reducible apply kR); refine cQ ?_))
    all_goals first
      | exact e_ret2 rfl ⟨_, rfl, ld_whole (shTOf rfl) MDt rfl⟩ rfl ⟨[], .inr ⟨hv, rfl, rfl⟩, rfl⟩ (show hs.Sublist _ from SCt)
      | (exfalso; omega)
      | trace_state
end Go.Proofs.Ytgcjddlcgpjlcaa
