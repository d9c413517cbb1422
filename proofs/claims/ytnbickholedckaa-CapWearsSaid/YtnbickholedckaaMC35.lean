/- Heads and blocks: ValidateHead and Block of the program and of the reference; the law's walk. -/
import Derived.Laws.Cover1
import Derived.Test.YtnbickholedckaaMB3
namespace Go.Proofs.Ytnbickholedckaa
open Go.RowKit
attribute [local irreducible] OpF Ld CellAt Sl Sv
section
variable {n : NN} {B : Nat} {w0 : Wd} {fr : FR} {hs hs' : HS} {ty : TypeId} {K : Act → World → Prop} {ops : Array Oper} {l : List Oper} {d : Nat} {pos : String} {aft : Array Edge} {v : Value} {f : Nat} {fl : List Nat} {S S' : HS}
theorem sl6 {t : TypeId} {x1 x2 x3 x4 x5 x6 : Operand} {a1 a2 a3 a4 a5 a6 : Int} {z : List Value} {b : Bool} (h : ∀ bb, Sat n B w0 (sl Try.prog ops K l) ((d, .slice (some ⟨bb, 0, none⟩) 6 6) :: fr) ((bb, ivs [a1, a2, a3, a4, a5, a6]) :: hs)) (h1 : opv fr x1 = some (iv a1) := by rfl) (h2 : opv fr x2 = some (iv a2) := by rfl) (h3 : opv fr x3 = some (iv a3) := by rfl) (h4 : opv fr x4 = some (iv a4) := by rfl) (h5 : opv fr x5 = some (iv a5) := by rfl) (h6 : opv fr x6 = some (iv a6) := by rfl) (ht : getT scT t = some (b, 1) := by rfl) (hz : getT zsT t = some z := by rfl) (hn : d < n.n := by first | decide | exact ltd rfl) :
    Sat n B w0 (sl Try.prog ops K (⟨some d, .buildSlice t 6 #[(0, x1), (1, x2), (2, x3), (3, x4), (4, x5), (5, x6)], ty, pos, aft, none⟩ :: l)) fr hs :=
  s_bslice (xs := [(0, x1), (1, x2), (2, x3), (3, x4), (4, x5), (5, x6)]) (vs := [iv a1, iv a2, iv a3, iv a4, iv a5, iv a6]) (by simp [partv, h1, h2, h3, h4, h5, h6, enumV]) (scTOf ht) (zsTOf hz) rfl ⟨rfl, rfl, rfl, rfl, rfl, rfl, trivial⟩ (by decide) hn (fun bb => (show flatV [iv a1, iv a2, iv a3, iv a4, iv a5, iv a6] = ivs [a1, a2, a3, a4, a5, a6] from rfl) ▸ h bb)
theorem o_max4 {P : Program} {t1 t2 t3 t4 : TypeId} {x y q p : Operand} {a b c e : Int} (hx : opv fr x = some (.int .i64 a)) (hy : opv fr y = some (.int .i64 b)) (hq : opv fr q = some (.int .i64 c)) (hp : opv fr p = some (.int .i64 e)) : OpF P n B w0 (.call { callee := .builtin .max, args := #[x, y, q, p], argTypes := #[t1, t2, t3, t4] }) ty fr hs (.int .i64 (max (max (max a b) c) e)) := by
  unfold OpF
  intro w1 w ha _
  simp [ex, execOp, resolve, invoke, builtin, Builtin.max_, Builtin.max2, ha.opv hx, ha.opv hy, ha.opv hq, ha.opv hp]
  omega
end
def hdO (l : List Int) (i : Nat) : Prop := 1 ≤ l.getD i 0 ∧ l.getD i 0 ≤ 200
instance (l : List Int) (i : Nat) : Decidable (hdO l i) := by unfold hdO; infer_instance
/-- Measures that contradict each other. -/
def hdR (R F E W K N : Int) : Prop := R ≤ F ∨ R ≤ E ∨ R ≤ W ∨ R ≤ K ∨ K ≤ N ∨ W + K < R ∨ 2 * F < R
instance (R F E W K N : Int) : Decidable (hdR R F E W K N) := by unfold hdR; infer_instance
def hdE (R F E W K N : Int) : Int := if ¬ (∀ i : Nat, i < 6 → hdO [R, F, E, W, K, N] i) then 1 else if hdR R F E W K N then 14 else 0
theorem hd6 {R F E W K N : Int} (h : ∀ i, i < 6 → hdO [R, F, E, W, K, N] i) : (1 ≤ R ∧ R ≤ 200) ∧ (1 ≤ F ∧ F ≤ 200) ∧ (1 ≤ E ∧ E ≤ 200) ∧ (1 ≤ W ∧ W ≤ 200) ∧ (1 ≤ K ∧ K ≤ 200) ∧ 1 ≤ N ∧ N ≤ 200 :=
  ⟨h 0 (by decide), h 1 (by decide), h 2 (by decide), h 3 (by decide), h 4 (by decide), h 5 (by decide)⟩
theorem hdE_1 {R F E W K N : Int} (h : ¬ ∀ i, i < 6 → hdO [R, F, E, W, K, N] i) : hdE R F E W K N = 1 := by unfold hdE; exact if_pos h
theorem hdE_14 {R F E W K N : Int} (h : ∀ i, i < 6 → hdO [R, F, E, W, K, N] i) (h2 : hdR R F E W K N) : hdE R F E W K N = 14 := by unfold hdE; rw [if_neg (fun h' => h' h), if_pos h2]
theorem hdE_0 {R F E W K N : Int} (h : ∀ i, i < 6 → hdO [R, F, E, W, K, N] i) (h2 : ¬ hdR R F E W K N) : hdE R F E W K N = 0 := by unfold hdE; rw [if_neg (fun h' => h' h), if_neg h2]
set_option maxRecDepth 100000 in
set_option maxHeartbeats 8000000 in
theorem k_VHead (R F E W K N : Int) (B : Nat) (w0 : Wd) (hs : HS) :
    Fn Try.prog 32 #[.agg #[iv R, iv F, iv E, iv W, iv K, iv N]] B w0 hs (fun v h => v = iv (hdE R F E W K N) ∧ h = hs) := by
  have kw := fun x lo hi hs => k_within x lo hi B w0 hs
  refine fn_enter Try.func32 rfl Try.ntmps32 (by simp) ?_
  repeat' (first | ((with_reducible apply kP (.box 50 _)); refine sBA (fun b1 => ?_)) | ((with_reducible apply kP (.buildSlice 39 6 _)); refine sl6 (fun b17 => ?_)) | (with_reducible first | refine c_seq ?_ | refine c_reg ?_ | refine c_region ?_ | refine c_block ?_ | refine c_skip ?_ | refine c_exit ?_ | refine c_ret ?_ | refine s_nil ?_ | refine x_then ?_ | refine x_then_exit ?_ | refine x_then_ret ?_ | refine x_block ?_ | refine x_block_ret ?_ | refine x_block_same ?_ | refine x_block_other (by first | rfl | decide) ?_ | refine q_nil ?_ | refine k_nil ?_) | ((with_reducible apply kG); first | refine gY1 ?_ | refine gN1 ?_ | refine gU1 ?_ | (refine gD1 (fun h => ?_) (fun h => ?_) <;> (try (exfalso; omega))) | refine gB1 (fun h => ?_) (fun h => ?_)) | ((with_reducible apply kP (.box _ _)); first | refine sBA (fun b => ?_) | refine sB (fun b => ?_)) | ((with_reducible apply kP _); refine sP ?_) | ((with_reducible apply kP _); refine sX ?_) | ((with_reducible apply kC); first | refine cT ?_ | refine cF ?_ | (refine cI (fun h => ?_) (fun h => ?_) <;> (try (exfalso; omega))) | refine cB (fun h => ?_) (fun h => ?_)))
  refine c_loop (fun i : Nat => [(1, .pointer (some ⟨b1, 0, none⟩)), (17, .slice (some ⟨b17, 0, none⟩) 6 6), (18, iv 6), (19, iv i)]) (fun _ => (b17, ivs [R, F, E, W, K, N]) :: (b1, [iv R, iv F, iv E, iv W, iv K, iv N]) :: hs) (fun i => i ≤ 6 ∧ ∀ j, j < i → hdO [R, F, E, W, K, N] j) (fun i => 6 - i) 0 ⟨Nat.zero_le _, fun j hj => absurd hj (Nat.not_lt_zero _)⟩ (by repeat' first | trivial | rfl | apply And.intro) (.refl _) ?_
  rintro i ⟨hi, hok⟩
  by_cases hi' : i < 6
  · have hlen : i < [R, F, E, W, K, N].length := hi'
    have hlo := fun hs' (h : (b17, ivs [R, F, E, W, K, N]) ∈ hs') => own_iv (B := B) (w0 := w0) (i := i) h hlen
    by_cases hb : hdO [R, F, E, W, K, N] i
    · have hb' := decide_eq_true hb
      unfold hdO at hb'
      have kwi := kw ([R, F, E, W, K, N].getD i 0) 1 200
      rw [hb'] at kwi
      repeat' (first | ((with_reducible apply kP (.load 3 _)); refine sP ?_ (o_load rfl (ld_one (shTOf rfl) (hlo _ MMt)))) | ((with_reducible apply kDP (.load 3 _)); refine dP ?_ (hX := rfl) (hv := o_load rfl (ld_one (shTOf rfl) (hlo _ MMt)))) | ((with_reducible apply kQO (.load 3 _)); refine qP ?_ (o_load rfl (ld_one (shTOf rfl) (hlo _ MMt)))) | ((with_reducible apply kF 53); refine sC 53 (kwi _) ?_) | (with_reducible first | refine c_seq ?_ | refine c_reg ?_ | refine c_region ?_ | refine c_block ?_ | refine c_skip ?_ | refine c_exit ?_ | refine c_ret ?_ | refine s_nil ?_ | refine x_then ?_ | refine x_then_exit ?_ | refine x_then_ret ?_ | refine x_block ?_ | refine x_block_ret ?_ | refine x_block_same ?_ | refine x_block_other (by first | rfl | decide) ?_ | refine q_nil ?_ | refine k_nil ?_) | ((with_reducible apply kG); first | refine gY1 ?_ | refine gN1 ?_ | refine gU1 ?_ | (refine gD1 (fun h => ?_) (fun h => ?_) <;> (try (exfalso; omega))) | refine gB1 (fun h => ?_) (fun h => ?_)) | ((with_reducible apply kP (.box _ _)); first | refine sBA (fun b => ?_) | refine sB (fun b => ?_)) | ((with_reducible apply kP _); refine sP ?_) | ((with_reducible apply kP _); refine sX ?_) | ((with_reducible apply kC); first | refine cT ?_ | refine cF ?_ | (refine cI (fun h => ?_) (fun h => ?_) <;> (try (exfalso; omega))) | refine cB (fun h => ?_) (fun h => ?_)))
      exact r_end (i + 1) ⟨hi', fun j hj => by
        by_cases e : j = i
        · subst e; exact hb
        · exact hok j (by omega)⟩ (by omega) (by repeat' first | trivial | rfl | apply And.intro) SCt
    · have hb' := decide_eq_false hb
      unfold hdO at hb'
      have kwi := kw ([R, F, E, W, K, N].getD i 0) 1 200
      rw [hb'] at kwi
      rw [hdE_1 (fun h => hb (h i hi'))]
      repeat' (first | ((with_reducible apply kP (.load 3 _)); refine sP ?_ (o_load rfl (ld_one (shTOf rfl) (hlo _ MMt)))) | ((with_reducible apply kDP (.load 3 _)); refine dP ?_ (hX := rfl) (hv := o_load rfl (ld_one (shTOf rfl) (hlo _ MMt)))) | ((with_reducible apply kQO (.load 3 _)); refine qP ?_ (o_load rfl (ld_one (shTOf rfl) (hlo _ MMt)))) | ((with_reducible apply kF 53); refine sC 53 (kwi _) ?_) | (with_reducible first | refine c_seq ?_ | refine c_reg ?_ | refine c_region ?_ | refine c_block ?_ | refine c_skip ?_ | refine c_exit ?_ | refine c_ret ?_ | refine s_nil ?_ | refine x_then ?_ | refine x_then_exit ?_ | refine x_then_ret ?_ | refine x_block ?_ | refine x_block_ret ?_ | refine x_block_same ?_ | refine x_block_other (by first | rfl | decide) ?_ | refine q_nil ?_ | refine k_nil ?_) | ((with_reducible apply kG); first | refine gY1 ?_ | refine gN1 ?_ | refine gU1 ?_ | (refine gD1 (fun h => ?_) (fun h => ?_) <;> (try (exfalso; omega))) | refine gB1 (fun h => ?_) (fun h => ?_)) | ((with_reducible apply kP (.box _ _)); first | refine sBA (fun b => ?_) | refine sB (fun b => ?_)) | ((with_reducible apply kP _); refine sP ?_) | ((with_reducible apply kP _); refine sX ?_) | ((with_reducible apply kC); first | refine cT ?_ | refine cF ?_ | (refine cI (fun h => ?_) (fun h => ?_) <;> (try (exfalso; omega))) | refine cB (fun h => ?_) (fun h => ?_)))
      exact e_ret1 rfl rfl ⟨rfl, rfl⟩ SCt
  · obtain rfl : i = 6 := by omega
    obtain ⟨⟨r1, r2⟩, ⟨f1, f2⟩, ⟨e1, e2⟩, ⟨w1, w2⟩, ⟨k1, k2⟩, n1, n2⟩ := hd6 hok
    have h14 := hdE_14 hok
    have h0 := hdE_0 hok
    unfold hdR at h14 h0
    clear hok kw
    repeat' (first | ((with_reducible apply kP (.call ⟨.builtin .max, _, _⟩)); refine sP ?_ (o_max4 rfl rfl rfl rfl)) | ((with_reducible apply kDP (.call ⟨.builtin .max, _, _⟩)); refine dP ?_ (hX := rfl) (hv := o_max4 rfl rfl rfl rfl)) | ((with_reducible apply kQO (.call ⟨.builtin .max, _, _⟩)); refine qP ?_ (o_max4 rfl rfl rfl rfl)) | (with_reducible first | refine c_seq ?_ | refine c_reg ?_ | refine c_region ?_ | refine c_block ?_ | refine c_skip ?_ | refine c_exit ?_ | refine c_ret ?_ | refine s_nil ?_ | refine x_then ?_ | refine x_then_exit ?_ | refine x_then_ret ?_ | refine x_block ?_ | refine x_block_ret ?_ | refine x_block_same ?_ | refine x_block_other (by first | rfl | decide) ?_ | refine q_nil ?_ | refine k_nil ?_) | ((with_reducible apply kG); first | refine gY1 ?_ | refine gN1 ?_ | refine gU1 ?_ | (refine gD1 (fun h => ?_) (fun h => ?_) <;> (try (exfalso; omega))) | refine gB1 (fun h => ?_) (fun h => ?_)) | ((with_reducible apply kP (.box _ _)); first | refine sBA (fun b => ?_) | refine sB (fun b => ?_)) | ((with_reducible apply kP _); refine sP ?_) | ((with_reducible apply kP _); refine sX ?_) | ((with_reducible apply kC); first | refine cT ?_ | refine cF ?_ | (refine cI (fun h => ?_) (fun h => ?_) <;> (try (exfalso; omega))) | refine cB (fun h => ?_) (fun h => ?_)))
    all_goals first
      | (rw [h14 (by omega)]; exact e_ret1 rfl rfl ⟨rfl, rfl⟩ SCt)
      | (rw [h0 (by omega)]; exact e_ret1 rfl rfl ⟨rfl, rfl⟩ SCt)
      | trace_state
set_option maxRecDepth 100000 in
set_option maxHeartbeats 8000000 in
theorem r_VHead (R F E W K N : Int) (B : Nat) (w0 : Wd) (hs : HS) :
    Fn Try.prog 33 #[.agg #[iv R, iv F, iv E, iv W, iv K, iv N]] B w0 hs (fun v h => v = iv (hdE R F E W K N) ∧ h = hs) := by
  have kw := fun x lo hi hs => r_within x lo hi B w0 hs
  refine fn_enter Try.func33 rfl Try.ntmps33 (by simp) ?_
  repeat' (first | ((with_reducible apply kP (.box 50 _)); refine sBA (fun b1 => ?_)) | ((with_reducible apply kP (.build 91 _)); refine sP ?_ (o_build (out := [iv R, iv F, iv E, iv W, iv K, iv N]) rfl (zcTOf rfl) (plTOf rfl) rfl)) | ((with_reducible apply kDP (.build 91 _)); refine dP ?_ (hX := rfl) (hv := o_build (out := [iv R, iv F, iv E, iv W, iv K, iv N]) rfl (zcTOf rfl) (plTOf rfl) rfl)) | ((with_reducible apply kQO (.build 91 _)); refine qP ?_ (o_build (out := [iv R, iv F, iv E, iv W, iv K, iv N]) rfl (zcTOf rfl) (plTOf rfl) rfl)) | ((with_reducible apply kP (.alloc 91)); refine sA (fun b3 => ?_)) | ((with_reducible apply kN); refine stW ?_ (hf := flat_iv [R, F, E, W, K, N])) | (with_reducible first | refine c_seq ?_ | refine c_reg ?_ | refine c_region ?_ | refine c_block ?_ | refine c_skip ?_ | refine c_exit ?_ | refine c_ret ?_ | refine s_nil ?_ | refine x_then ?_ | refine x_then_exit ?_ | refine x_then_ret ?_ | refine x_block ?_ | refine x_block_ret ?_ | refine x_block_same ?_ | refine x_block_other (by first | rfl | decide) ?_ | refine q_nil ?_ | refine k_nil ?_) | ((with_reducible apply kG); first | refine gY1 ?_ | refine gN1 ?_ | refine gU1 ?_ | (refine gD1 (fun h => ?_) (fun h => ?_) <;> (try (exfalso; omega))) | refine gB1 (fun h => ?_) (fun h => ?_)) | ((with_reducible apply kN); first | refine stP ?_ | refine stI ?_ | refine st1 ?_ | refine stW ?_) | ((with_reducible apply kP (.alloc _)); refine sA (fun b => ?_)) | ((with_reducible apply kP (.box _ _)); first | refine sBA (fun b => ?_) | refine sB (fun b => ?_)) | ((with_reducible apply kP _); refine sP ?_) | ((with_reducible apply kP _); refine sX ?_) | ((with_reducible apply kC); first | refine cT ?_ | refine cF ?_ | (refine cI (fun h => ?_) (fun h => ?_) <;> (try (exfalso; omega))) | refine cB (fun h => ?_) (fun h => ?_)))
  refine c_loop (fun i : Nat => [(1, .pointer (some ⟨b1, 0, none⟩)), (3, .pointer (some ⟨b3, 0, none⟩)), (4, iv i)]) (fun _ => (b3, ivs [R, F, E, W, K, N]) :: (b1, [iv R, iv F, iv E, iv W, iv K, iv N]) :: hs) (fun i => i ≤ 6 ∧ ∀ j, j < i → hdO [R, F, E, W, K, N] j) (fun i => 6 - i) 0 ⟨Nat.zero_le _, fun j hj => absurd hj (Nat.not_lt_zero _)⟩ (by repeat' first | trivial | rfl | apply And.intro) (.refl _) ?_
  rintro i ⟨hi, hok⟩
  by_cases hi' : i < 6
  · have hlen : i < [R, F, E, W, K, N].length := hi'
    have hlo := fun hs' (h : (b3, ivs [R, F, E, W, K, N]) ∈ hs') => own_iv (B := B) (w0 := w0) (i := i) h hlen
    by_cases hb : hdO [R, F, E, W, K, N] i
    · have hb' := decide_eq_true hb
      unfold hdO at hb'
      have kwi := kw ([R, F, E, W, K, N].getD i 0) 1 200
      rw [hb'] at kwi
      repeat' (first | ((with_reducible apply kP (.load 3 _)); refine sP ?_ (o_load rfl (ld_one (shTOf rfl) (hlo _ MMt)))) | ((with_reducible apply kDP (.load 3 _)); refine dP ?_ (hX := rfl) (hv := o_load rfl (ld_one (shTOf rfl) (hlo _ MMt)))) | ((with_reducible apply kQO (.load 3 _)); refine qP ?_ (o_load rfl (ld_one (shTOf rfl) (hlo _ MMt)))) | ((with_reducible apply kF 58); refine sC 58 (kwi _) ?_) | (with_reducible first | refine c_seq ?_ | refine c_reg ?_ | refine c_region ?_ | refine c_block ?_ | refine c_skip ?_ | refine c_exit ?_ | refine c_ret ?_ | refine s_nil ?_ | refine x_then ?_ | refine x_then_exit ?_ | refine x_then_ret ?_ | refine x_block ?_ | refine x_block_ret ?_ | refine x_block_same ?_ | refine x_block_other (by first | rfl | decide) ?_ | refine q_nil ?_ | refine k_nil ?_) | ((with_reducible apply kG); first | refine gY1 ?_ | refine gN1 ?_ | refine gU1 ?_ | (refine gD1 (fun h => ?_) (fun h => ?_) <;> (try (exfalso; omega))) | refine gB1 (fun h => ?_) (fun h => ?_)) | ((with_reducible apply kN); first | refine stP ?_ | refine stI ?_ | refine st1 ?_ | refine stW ?_) | ((with_reducible apply kP (.alloc _)); refine sA (fun b => ?_)) | ((with_reducible apply kP (.box _ _)); first | refine sBA (fun b => ?_) | refine sB (fun b => ?_)) | ((with_reducible apply kP _); refine sP ?_) | ((with_reducible apply kP _); refine sX ?_) | ((with_reducible apply kC); first | refine cT ?_ | refine cF ?_ | (refine cI (fun h => ?_) (fun h => ?_) <;> (try (exfalso; omega))) | refine cB (fun h => ?_) (fun h => ?_)))
      exact r_end (i + 1) ⟨hi', fun j hj => by
        by_cases e : j = i
        · subst e; exact hb
        · exact hok j (by omega)⟩ (by omega) (by repeat' first | trivial | rfl | apply And.intro) SCt
    · have hb' := decide_eq_false hb
      unfold hdO at hb'
      have kwi := kw ([R, F, E, W, K, N].getD i 0) 1 200
      rw [hb'] at kwi
      rw [hdE_1 (fun h => hb (h i hi'))]
      repeat' (first | ((with_reducible apply kP (.load 3 _)); refine sP ?_ (o_load rfl (ld_one (shTOf rfl) (hlo _ MMt)))) | ((with_reducible apply kDP (.load 3 _)); refine dP ?_ (hX := rfl) (hv := o_load rfl (ld_one (shTOf rfl) (hlo _ MMt)))) | ((with_reducible apply kQO (.load 3 _)); refine qP ?_ (o_load rfl (ld_one (shTOf rfl) (hlo _ MMt)))) | ((with_reducible apply kF 58); refine sC 58 (kwi _) ?_) | (with_reducible first | refine c_seq ?_ | refine c_reg ?_ | refine c_region ?_ | refine c_block ?_ | refine c_skip ?_ | refine c_exit ?_ | refine c_ret ?_ | refine s_nil ?_ | refine x_then ?_ | refine x_then_exit ?_ | refine x_then_ret ?_ | refine x_block ?_ | refine x_block_ret ?_ | refine x_block_same ?_ | refine x_block_other (by first | rfl | decide) ?_ | refine q_nil ?_ | refine k_nil ?_) | ((with_reducible apply kG); first | refine gY1 ?_ | refine gN1 ?_ | refine gU1 ?_ | (refine gD1 (fun h => ?_) (fun h => ?_) <;> (try (exfalso; omega))) | refine gB1 (fun h => ?_) (fun h => ?_)) | ((with_reducible apply kN); first | refine stP ?_ | refine stI ?_ | refine st1 ?_ | refine stW ?_) | ((with_reducible apply kP (.alloc _)); refine sA (fun b => ?_)) | ((with_reducible apply kP (.box _ _)); first | refine sBA (fun b => ?_) | refine sB (fun b => ?_)) | ((with_reducible apply kP _); refine sP ?_) | ((with_reducible apply kP _); refine sX ?_) | ((with_reducible apply kC); first | refine cT ?_ | refine cF ?_ | (refine cI (fun h => ?_) (fun h => ?_) <;> (try (exfalso; omega))) | refine cB (fun h => ?_) (fun h => ?_)))
      exact e_ret1 rfl rfl ⟨rfl, rfl⟩ SCt
  · obtain rfl : i = 6 := by omega
    obtain ⟨⟨r1, r2⟩, ⟨f1, f2⟩, ⟨e1, e2⟩, ⟨w1, w2⟩, ⟨k1, k2⟩, n1, n2⟩ := hd6 hok
    have h14 := hdE_14 hok
    have h0 := hdE_0 hok
    unfold hdR at h14 h0
    clear hok kw
    repeat' (first | (with_reducible first | refine c_seq ?_ | refine c_reg ?_ | refine c_region ?_ | refine c_block ?_ | refine c_skip ?_ | refine c_exit ?_ | refine c_ret ?_ | refine s_nil ?_ | refine x_then ?_ | refine x_then_exit ?_ | refine x_then_ret ?_ | refine x_block ?_ | refine x_block_ret ?_ | refine x_block_same ?_ | refine x_block_other (by first | rfl | decide) ?_ | refine q_nil ?_ | refine k_nil ?_) | ((with_reducible apply kG); first | refine gY1 ?_ | refine gN1 ?_ | refine gU1 ?_ | (refine gD1 (fun h => ?_) (fun h => ?_) <;> (try (exfalso; omega))) | refine gB1 (fun h => ?_) (fun h => ?_)) | ((with_reducible apply kN); first | refine stP ?_ | refine stI ?_ | refine st1 ?_ | refine stW ?_) | ((with_reducible apply kP (.alloc _)); refine sA (fun b => ?_)) | ((with_reducible apply kP (.box _ _)); first | refine sBA (fun b => ?_) | refine sB (fun b => ?_)) | ((with_reducible apply kP _); refine sP ?_) | ((with_reducible apply kP _); refine sX ?_) | ((with_reducible apply kC); first | refine cT ?_ | refine cF ?_ | (refine cI (fun h => ?_) (fun h => ?_) <;> (try (exfalso; omega))) | refine cB (fun h => ?_) (fun h => ?_)))
    all_goals first
      | (rw [h14 (by omega)]; exact e_ret1 rfl rfl ⟨rfl, rfl⟩ SCt)
      | (rw [h0 (by omega)]; exact e_ret1 rfl rfl ⟨rfl, rfl⟩ SCt)
      | trace_state
/-- The greatest size that is at most R, of the first i. -/
def bkS (R : Int) (z : List Int) : Nat → Int
  | 0 => 0
  | i + 1 => if z.getD i 0 ≤ R then z.getD i 0 else bkS R z i
/-- A size that is in order. -/
def bkO (z : List Int) (i : Nat) : Prop := (1 ≤ z.getD i 0 ∧ z.getD i 0 ≤ 200) ∧ (0 < (i : Int) → z.getD (i - 1) 0 < z.getD i 0)
instance (z : List Int) (i : Nat) : Decidable (bkO z i) := by unfold bkO; infer_instance
def bkE (R F E W K N : Int) (z : List Int) : Int := if hdE R F E W K N ≠ 0 then hdE R F E W K N else if ¬ ∀ i, i < z.length → bkO z i then 1 else if bkS R z z.length = 0 then 5 else 0
def bkA (R F E W K N : Int) (z : List Int) : Int := if bkE R F E W K N z = 0 then bkS R z z.length else 0
def bkB (R F E W K N : Int) (z : List Int) : Int := if bkE R F E W K N z = 0 then R - bkS R z z.length else 0
def bkV (R F E W K N : Int) (z : List Int) : Value := .tuple #[iv (bkA R F E W K N z), iv (bkB R F E W K N z), iv (bkE R F E W K N z)]
section
variable {R F E W K N : Int} {z : List Int}
theorem bk_h (h : hdE R F E W K N ≠ 0) : bkV R F E W K N z = .tuple #[iv 0, iv 0, iv (hdE R F E W K N)] := by
  have e : bkE R F E W K N z = hdE R F E W K N := by unfold bkE; exact if_pos h
  unfold bkV bkA bkB
  rw [e, if_neg h, if_neg h]
theorem bk_1 (h : hdE R F E W K N = 0) (h1 : ¬ ∀ i, i < z.length → bkO z i) : bkV R F E W K N z = .tuple #[iv 0, iv 0, iv 1] := by
  have e : bkE R F E W K N z = 1 := by unfold bkE; rw [if_neg (fun h' => h' h), if_pos h1]
  unfold bkV bkA bkB
  rw [e]; rfl
theorem bk_5 (h : hdE R F E W K N = 0) (h1 : ∀ i, i < z.length → bkO z i) (h2 : bkS R z z.length = 0) : bkV R F E W K N z = .tuple #[iv 0, iv 0, iv 5] := by
  have e : bkE R F E W K N z = 5 := by unfold bkE; rw [if_neg (fun h' => h' h), if_neg (fun h' => h' h1), if_pos h2]
  unfold bkV bkA bkB
  rw [e]; rfl
theorem bk_0 (h : hdE R F E W K N = 0) (h1 : ∀ i, i < z.length → bkO z i) (h2 : bkS R z z.length ≠ 0) : bkV R F E W K N z = .tuple #[iv (bkS R z z.length), iv (R - bkS R z z.length), iv 0] := by
  have e : bkE R F E W K N z = 0 := by unfold bkE; rw [if_neg (fun h' => h' h), if_neg (fun h' => h' h1), if_neg h2]
  unfold bkV bkA bkB
  rw [e]; rfl
theorem bkS_in {R : Int} : ∀ i, (∀ j, j < i → bkO z j) → 0 ≤ bkS R z i ∧ bkS R z i ≤ 200
  | 0, _ => by simp [bkS]
  | i + 1, h => by
    have h1 := bkS_in (R := R) i (fun j hj => h j (by omega))
    have h2 := (h i (by omega)).1
    simp only [bkS]
    split <;> omega
theorem hdE_R (h : hdE R F E W K N = 0) : 1 ≤ R ∧ R ≤ 200 := by
  by_cases h1 : ∀ i, i < 6 → hdO [R, F, E, W, K, N] i
  · exact (hd6 h1).1
  · rw [hdE_1 h1] at h; cases h
end
set_option maxRecDepth 100000 in
set_option maxHeartbeats 8000000 in
theorem k_Block (R F E W K N : Int) (z : List Int) (oa : Option Addr) (c : Nat) (hz : z.length ≤ 300) (B : Nat) (w0 : Wd) (hs : HS) (hZ : Sl B w0 hs oa z) :
    Fn Try.prog 30 #[.agg #[iv R, iv F, iv E, iv W, iv K, iv N], .slice oa z.length c] B w0 hs (fun v h => v = bkV R F E W K N z ∧ h = hs) := by
  have kh := fun hs => k_VHead R F E W K N B w0 hs
  by_cases h0 : hdE R F E W K N = 0
  · obtain ⟨r1, r2⟩ := hdE_R h0
    have q1 := bk_1 (z := z) h0
    have q5 := bk_5 (z := z) h0
    have q0 := bk_0 (z := z) h0
    rw [h0] at kh
    have kw := fun x lo hi hs => k_within x lo hi B w0 hs
    refine fn_enter Try.func30 rfl Try.ntmps30 (by simp) ?_
    repeat' (first | ((with_reducible apply kP (.box 50 _)); refine sBA (fun b1 => ?_)) | ((with_reducible apply kF 32); refine sC 32 (kh _) ?_) | ((with_reducible apply kP (.load 50 _)); refine sP ?_ (o_load rfl (ld_own (shTOf rfl) MMt rfl rfl))) | ((with_reducible apply kDP (.load 50 _)); refine dP ?_ (hX := rfl) (hv := o_load rfl (ld_own (shTOf rfl) MMt rfl rfl))) | ((with_reducible apply kQO (.load 50 _)); refine qP ?_ (o_load rfl (ld_own (shTOf rfl) MMt rfl rfl))) | (with_reducible first | refine c_seq ?_ | refine c_reg ?_ | refine c_region ?_ | refine c_block ?_ | refine c_skip ?_ | refine c_exit ?_ | refine c_ret ?_ | refine s_nil ?_ | refine x_then ?_ | refine x_then_exit ?_ | refine x_then_ret ?_ | refine x_block ?_ | refine x_block_ret ?_ | refine x_block_same ?_ | refine x_block_other (by first | rfl | decide) ?_ | refine q_nil ?_ | refine k_nil ?_) | ((with_reducible apply kG); first | refine gY1 ?_ | refine gN1 ?_ | refine gU1 ?_ | (refine gD1 (fun h => ?_) (fun h => ?_) <;> (try (exfalso; omega))) | refine gB1 (fun h => ?_) (fun h => ?_)) | ((with_reducible apply kP (.box _ _)); first | refine sBA (fun b => ?_) | refine sB (fun b => ?_)) | ((with_reducible apply kP _); refine sP ?_) | ((with_reducible apply kP _); refine sX ?_) | ((with_reducible apply kQP); refine qP ?_) | ((with_reducible apply kQP); refine qX ?_) | ((with_reducible apply kC); first | refine cT ?_ | refine cF ?_ | (refine cI (fun h => ?_) (fun h => ?_) <;> (try (exfalso; omega))) | refine cB (fun h => ?_) (fun h => ?_)) | ((with_reducible apply kR); refine cQ ?_))
    refine c_loop (fun i : Nat => [(1, .slice oa z.length c), (2, .pointer (some ⟨b1, 0, none⟩)), (8, iv (bkS R z i)), (16, .slice oa z.length c), (17, iv z.length), (18, iv i)]) (fun _ => (b1, [iv R, iv F, iv E, iv W, iv K, iv N]) :: hs) (fun i => i ≤ z.length ∧ ∀ j, j < i → bkO z j) (fun i => z.length - i) 0 ⟨Nat.zero_le _, fun j hj => absurd hj (Nat.not_lt_zero _)⟩ (by repeat' first | trivial | rfl | apply And.intro) (.refl _) ?_
    rintro i ⟨hi, hok⟩
    have hbi := bkS_in (R := R) i hok
    by_cases hi' : i < z.length
    · have g1 := hZ.any hi'
      have g2 := fun hs' (h : hs.Sublist hs') => hZ.at h hi'
      have hb : bkO z i ∨ ¬ bkO z i := Classical.em _
      have hn1 : ¬ bkO z i → bkV R F E W K N z = .tuple #[iv 0, iv 0, iv 1] := fun h => q1 fun h' => h (h' i hi')
      have hnx : bkO z i → ∀ j, j < i + 1 → bkO z j := fun h j hj => by
        by_cases e : j = i
        · rw [e]; exact h
        · exact hok j (by omega)
      have hst : bkS R z (i + 1) = if z.getD i 0 ≤ R then z.getD i 0 else bkS R z i := rfl
      have hO : bkO z i ↔ (1 ≤ z.getD i 0 ∧ z.getD i 0 ≤ 200) ∧ (0 < (i : Int) → z.getD (i - 1) 0 < z.getD i 0) := Iff.rfl
      have kwi := kw (z.getD i 0) 1 200
      clear q1 q5 q0 kw kh
      have g3 := fun hs' (h : hs.Sublist hs') (h0 : i ≠ 0) => hZ.at (i := i - 1) h (by omega)
      have fin : ∀ x, (if z.getD i 0 ≤ R then z.getD i 0 else bkS R z i) = x → bkS R z (i + 1) = x := fun x h => h
      by_cases hw : 1 ≤ z.getD i 0 ∧ z.getD i 0 ≤ 200
      · rw [decide_eq_true hw] at kwi
        by_cases h00 : i = 0
        · subst h00
          repeat' (first | ((with_reducible apply kP (.load 3 (.tmp 21))); refine sP ?_ (o_load rfl (ld_one (shTOf rfl) (g2 _ SBt)))) | ((with_reducible apply kDP (.load 3 (.tmp 21))); refine dP ?_ (hX := rfl) (hv := o_load rfl (ld_one (shTOf rfl) (g2 _ SBt)))) | ((with_reducible apply kQO (.load 3 (.tmp 21))); refine qP ?_ (o_load rfl (ld_one (shTOf rfl) (g2 _ SBt)))) | ((with_reducible apply kF 53); refine sC 53 (kwi _) ?_) | ((with_reducible apply kP (.load 3 (.tmp 40))); refine sP ?_ (o_load rfl (ld_one (shTOf rfl) (own MMt rfl)))) | ((with_reducible apply kDP (.load 3 (.tmp 40))); refine dP ?_ (hX := rfl) (hv := o_load rfl (ld_one (shTOf rfl) (own MMt rfl)))) | ((with_reducible apply kQO (.load 3 (.tmp 40))); refine qP ?_ (o_load rfl (ld_one (shTOf rfl) (own MMt rfl)))) | (with_reducible first | refine c_seq ?_ | refine c_reg ?_ | refine c_region ?_ | refine c_block ?_ | refine c_skip ?_ | refine c_exit ?_ | refine c_ret ?_ | refine s_nil ?_ | refine x_then ?_ | refine x_then_exit ?_ | refine x_then_ret ?_ | refine x_block ?_ | refine x_block_ret ?_ | refine x_block_same ?_ | refine x_block_other (by first | rfl | decide) ?_ | refine q_nil ?_ | refine k_nil ?_) | ((with_reducible apply kG); first | refine gY1 ?_ | refine gN1 ?_ | refine gU1 ?_ | (refine gD1 (fun h => ?_) (fun h => ?_) <;> (try (exfalso; omega))) | refine gB1 (fun h => ?_) (fun h => ?_)) | ((with_reducible apply kP (.box _ _)); first | refine sBA (fun b => ?_) | refine sB (fun b => ?_)) | ((with_reducible apply kP _); refine sP ?_) | ((with_reducible apply kP _); refine sX ?_) | ((with_reducible apply kQP); refine qP ?_) | ((with_reducible apply kQP); refine qX ?_) | ((with_reducible apply kC); first | refine cT ?_ | refine cF ?_ | (refine cI (fun h => ?_) (fun h => ?_) <;> (try (exfalso; omega))) | refine cB (fun h => ?_) (fun h => ?_)) | ((with_reducible apply kR); refine cQ ?_))
          all_goals first
            | (exfalso; omega)
            | (have e8 := fin _ (if_pos (by assumption)); exact r_end 1 ⟨hi', hnx (hO.2 ⟨hw, fun h => absurd h (by decide)⟩)⟩ (by omega) (by repeat' first | trivial | rfl | apply And.intro | (rw [e8]; rfl)) SCt)
            | (have e8 := fin _ (if_neg (by assumption)); exact r_end 1 ⟨hi', hnx (hO.2 ⟨hw, fun h => absurd h (by decide)⟩)⟩ (by omega) (by repeat' first | trivial | rfl | apply And.intro | (rw [e8]; rfl)) SCt)
            | trace_state
        · have g3 := fun hs' h => g3 hs' h h00
          have hj : (i : Int) - 1 = ((i - 1 : Nat) : Int) := by omega
          repeat' (first | ((with_reducible apply kP (.load 3 (.tmp 21))); refine sP ?_ (o_load rfl (ld_one (shTOf rfl) (g2 _ SBt)))) | ((with_reducible apply kDP (.load 3 (.tmp 21))); refine dP ?_ (hX := rfl) (hv := o_load rfl (ld_one (shTOf rfl) (g2 _ SBt)))) | ((with_reducible apply kQO (.load 3 (.tmp 21))); refine qP ?_ (o_load rfl (ld_one (shTOf rfl) (g2 _ SBt)))) | ((with_reducible apply kF 53); refine sC 53 (kwi _) ?_) | ((with_reducible apply kP (.load 3 (.tmp 40))); refine sP ?_ (o_load rfl (ld_one (shTOf rfl) (own MMt rfl)))) | ((with_reducible apply kDP (.load 3 (.tmp 40))); refine dP ?_ (hX := rfl) (hv := o_load rfl (ld_one (shTOf rfl) (own MMt rfl)))) | ((with_reducible apply kQO (.load 3 (.tmp 40))); refine qP ?_ (o_load rfl (ld_one (shTOf rfl) (own MMt rfl)))) | ((with_reducible apply kP (.indexAddr 39 (.tmp 30) _)); refine sP ?_ (o_indexS (scTOf rfl) rfl rfl hj (aa0 _) g1 (by omega))) | ((with_reducible apply kDP (.indexAddr 39 (.tmp 30) _)); refine dP ?_ (hX := rfl) (hv := o_indexS (scTOf rfl) rfl rfl hj (aa0 _) g1 (by omega))) | ((with_reducible apply kQO (.indexAddr 39 (.tmp 30) _)); refine qP ?_ (o_indexS (scTOf rfl) rfl rfl hj (aa0 _) g1 (by omega))) | ((with_reducible apply kP (.load 3 (.tmp 33))); refine sP ?_ (o_load rfl (ld_one (shTOf rfl) (g3 _ SBt)))) | ((with_reducible apply kDP (.load 3 (.tmp 33))); refine dP ?_ (hX := rfl) (hv := o_load rfl (ld_one (shTOf rfl) (g3 _ SBt)))) | ((with_reducible apply kQO (.load 3 (.tmp 33))); refine qP ?_ (o_load rfl (ld_one (shTOf rfl) (g3 _ SBt)))) | (with_reducible first | refine c_seq ?_ | refine c_reg ?_ | refine c_region ?_ | refine c_block ?_ | refine c_skip ?_ | refine c_exit ?_ | refine c_ret ?_ | refine s_nil ?_ | refine x_then ?_ | refine x_then_exit ?_ | refine x_then_ret ?_ | refine x_block ?_ | refine x_block_ret ?_ | refine x_block_same ?_ | refine x_block_other (by first | rfl | decide) ?_ | refine q_nil ?_ | refine k_nil ?_) | ((with_reducible apply kG); first | refine gY1 ?_ | refine gN1 ?_ | refine gU1 ?_ | (refine gD1 (fun h => ?_) (fun h => ?_) <;> (try (exfalso; omega))) | refine gB1 (fun h => ?_) (fun h => ?_)) | ((with_reducible apply kP (.box _ _)); first | refine sBA (fun b => ?_) | refine sB (fun b => ?_)) | ((with_reducible apply kP _); refine sP ?_) | ((with_reducible apply kP _); refine sX ?_) | ((with_reducible apply kQP); refine qP ?_) | ((with_reducible apply kQP); refine qX ?_) | ((with_reducible apply kC); first | refine cT ?_ | refine cF ?_ | (refine cI (fun h => ?_) (fun h => ?_) <;> (try (exfalso; omega))) | refine cB (fun h => ?_) (fun h => ?_)) | ((with_reducible apply kR); refine cQ ?_))
          all_goals first
            | (exfalso; omega)
            | (have e8 := fin _ (if_pos (by assumption)); exact r_end (i + 1) ⟨hi', hnx (hO.2 ⟨hw, fun h => by omega⟩)⟩ (by omega) (by repeat' first | trivial | rfl | apply And.intro | (rw [e8]; rfl)) SCt)
            | (have e8 := fin _ (if_neg (by assumption)); exact r_end (i + 1) ⟨hi', hnx (hO.2 ⟨hw, fun h => by omega⟩)⟩ (by omega) (by repeat' first | trivial | rfl | apply And.intro | (rw [e8]; rfl)) SCt)
            | (rw [hn1 (fun h => by have := hO.1 h; omega)]; exact e_ret3 rfl rfl rfl rfl ⟨rfl, rfl⟩ SCt)
            | trace_state
      · rw [decide_eq_false hw] at kwi
        rw [hn1 (fun h => hw (hO.1 h).1)]
        repeat' (first | ((with_reducible apply kP (.load 3 (.tmp 21))); refine sP ?_ (o_load rfl (ld_one (shTOf rfl) (g2 _ SBt)))) | ((with_reducible apply kDP (.load 3 (.tmp 21))); refine dP ?_ (hX := rfl) (hv := o_load rfl (ld_one (shTOf rfl) (g2 _ SBt)))) | ((with_reducible apply kQO (.load 3 (.tmp 21))); refine qP ?_ (o_load rfl (ld_one (shTOf rfl) (g2 _ SBt)))) | ((with_reducible apply kF 53); refine sC 53 (kwi _) ?_) | (with_reducible first | refine c_seq ?_ | refine c_reg ?_ | refine c_region ?_ | refine c_block ?_ | refine c_skip ?_ | refine c_exit ?_ | refine c_ret ?_ | refine s_nil ?_ | refine x_then ?_ | refine x_then_exit ?_ | refine x_then_ret ?_ | refine x_block ?_ | refine x_block_ret ?_ | refine x_block_same ?_ | refine x_block_other (by first | rfl | decide) ?_ | refine q_nil ?_ | refine k_nil ?_) | ((with_reducible apply kG); first | refine gY1 ?_ | refine gN1 ?_ | refine gU1 ?_ | (refine gD1 (fun h => ?_) (fun h => ?_) <;> (try (exfalso; omega))) | refine gB1 (fun h => ?_) (fun h => ?_)) | ((with_reducible apply kP (.box _ _)); first | refine sBA (fun b => ?_) | refine sB (fun b => ?_)) | ((with_reducible apply kP _); refine sP ?_) | ((with_reducible apply kP _); refine sX ?_) | ((with_reducible apply kQP); refine qP ?_) | ((with_reducible apply kQP); refine qX ?_) | ((with_reducible apply kC); first | refine cT ?_ | refine cF ?_ | (refine cI (fun h => ?_) (fun h => ?_) <;> (try (exfalso; omega))) | refine cB (fun h => ?_) (fun h => ?_)) | ((with_reducible apply kR); refine cQ ?_))
        all_goals first
          | exact e_ret3 rfl rfl rfl rfl ⟨rfl, rfl⟩ SCt
          | (exfalso; omega)
          | trace_state
    · obtain rfl : z.length = i := by omega
      by_cases hb : bkS R z z.length = 0
      · rw [q5 hok hb]
        repeat' (first | (with_reducible first | refine c_seq ?_ | refine c_reg ?_ | refine c_region ?_ | refine c_block ?_ | refine c_skip ?_ | refine c_exit ?_ | refine c_ret ?_ | refine s_nil ?_ | refine x_then ?_ | refine x_then_exit ?_ | refine x_then_ret ?_ | refine x_block ?_ | refine x_block_ret ?_ | refine x_block_same ?_ | refine x_block_other (by first | rfl | decide) ?_ | refine q_nil ?_ | refine k_nil ?_) | ((with_reducible apply kG); first | refine gY1 ?_ | refine gN1 ?_ | refine gU1 ?_ | (refine gD1 (fun h => ?_) (fun h => ?_) <;> (try (exfalso; omega))) | refine gB1 (fun h => ?_) (fun h => ?_)) | ((with_reducible apply kP (.box _ _)); first | refine sBA (fun b => ?_) | refine sB (fun b => ?_)) | ((with_reducible apply kP _); refine sP ?_) | ((with_reducible apply kP _); refine sX ?_) | ((with_reducible apply kQP); refine qP ?_) | ((with_reducible apply kQP); refine qX ?_) | ((with_reducible apply kC); first | refine cT ?_ | refine cF ?_ | (refine cI (fun h => ?_) (fun h => ?_) <;> (try (exfalso; omega))) | refine cB (fun h => ?_) (fun h => ?_)) | ((with_reducible apply kR); refine cQ ?_))
        all_goals first
          | exact e_ret3 rfl rfl rfl rfl ⟨rfl, rfl⟩ SCt
          | (exfalso; omega)
          | trace_state
      · rw [q0 hok hb]
        repeat' (first | (with_reducible first | refine c_seq ?_ | refine c_reg ?_ | refine c_region ?_ | refine c_block ?_ | refine c_skip ?_ | refine c_exit ?_ | refine c_ret ?_ | refine s_nil ?_ | refine x_then ?_ | refine x_then_exit ?_ | refine x_then_ret ?_ | refine x_block ?_ | refine x_block_ret ?_ | refine x_block_same ?_ | refine x_block_other (by first | rfl | decide) ?_ | refine q_nil ?_ | refine k_nil ?_) | ((with_reducible apply kG); first | refine gY1 ?_ | refine gN1 ?_ | refine gU1 ?_ | (refine gD1 (fun h => ?_) (fun h => ?_) <;> (try (exfalso; omega))) | refine gB1 (fun h => ?_) (fun h => ?_)) | ((with_reducible apply kP (.box _ _)); first | refine sBA (fun b => ?_) | refine sB (fun b => ?_)) | ((with_reducible apply kP _); refine sP ?_) | ((with_reducible apply kP _); refine sX ?_) | ((with_reducible apply kQP); refine qP ?_) | ((with_reducible apply kQP); refine qX ?_) | ((with_reducible apply kC); first | refine cT ?_ | refine cF ?_ | (refine cI (fun h => ?_) (fun h => ?_) <;> (try (exfalso; omega))) | refine cB (fun h => ?_) (fun h => ?_)) | ((with_reducible apply kR); refine cQ ?_))
        all_goals first
          | exact e_ret3 rfl rfl rfl rfl ⟨rfl, rfl⟩ SCt
          | (exfalso; omega)
          | trace_state
  · rw [bk_h h0]
    refine fn_enter Try.func30 rfl Try.ntmps30 (by simp) ?_
    repeat' (first | ((with_reducible apply kP (.box 50 _)); refine sBA (fun b1 => ?_)) | ((with_reducible apply kF 32); refine sC 32 (kh _) ?_) | ((with_reducible apply kP (.load 50 _)); refine sP ?_ (o_load rfl (ld_own (shTOf rfl) MMt rfl rfl))) | ((with_reducible apply kDP (.load 50 _)); refine dP ?_ (hX := rfl) (hv := o_load rfl (ld_own (shTOf rfl) MMt rfl rfl))) | ((with_reducible apply kQO (.load 50 _)); refine qP ?_ (o_load rfl (ld_own (shTOf rfl) MMt rfl rfl))) | (with_reducible first | refine c_seq ?_ | refine c_reg ?_ | refine c_region ?_ | refine c_block ?_ | refine c_skip ?_ | refine c_exit ?_ | refine c_ret ?_ | refine s_nil ?_ | refine x_then ?_ | refine x_then_exit ?_ | refine x_then_ret ?_ | refine x_block ?_ | refine x_block_ret ?_ | refine x_block_same ?_ | refine x_block_other (by first | rfl | decide) ?_ | refine q_nil ?_ | refine k_nil ?_) | ((with_reducible apply kG); first | refine gY1 ?_ | refine gN1 ?_ | refine gU1 ?_ | (refine gD1 (fun h => ?_) (fun h => ?_) <;> (try (exfalso; omega))) | refine gB1 (fun h => ?_) (fun h => ?_)) | ((with_reducible apply kP (.box _ _)); first | refine sBA (fun b => ?_) | refine sB (fun b => ?_)) | ((with_reducible apply kP _); refine sP ?_) | ((with_reducible apply kP _); refine sX ?_) | ((with_reducible apply kQP); refine qP ?_) | ((with_reducible apply kQP); refine qX ?_) | ((with_reducible apply kC); first | refine cT ?_ | refine cF ?_ | (refine cI (fun h => ?_) (fun h => ?_) <;> (try (exfalso; omega))) | refine cB (fun h => ?_) (fun h => ?_)) | ((with_reducible apply kR); refine cQ ?_))
    all_goals first
      | exact e_ret3 rfl rfl rfl rfl ⟨rfl, rfl⟩ SCt
      | (exfalso; omega)
      | trace_state
set_option maxRecDepth 100000 in
set_option maxHeartbeats 8000000 in
theorem r_Block (R F E W K N : Int) (z : List Int) (oa : Option Addr) (c : Nat) (hz : z.length ≤ 300) (B : Nat) (w0 : Wd) (hs : HS) (hZ : Sl B w0 hs oa z) :
    Fn Try.prog 31 #[.agg #[iv R, iv F, iv E, iv W, iv K, iv N], .slice oa z.length c] B w0 hs (fun v h => v = bkV R F E W K N z ∧ h = hs) := by
  have kh := fun hs => r_VHead R F E W K N B w0 hs
  by_cases h0 : hdE R F E W K N = 0
  · obtain ⟨r1, r2⟩ := hdE_R h0
    have q1 := bk_1 (z := z) h0
    have q5 := bk_5 (z := z) h0
    have q0 := bk_0 (z := z) h0
    rw [h0] at kh
    have kw := fun x lo hi hs => r_within x lo hi B w0 hs
    refine fn_enter Try.func31 rfl Try.ntmps31 (by simp) ?_
    repeat' (first | ((with_reducible apply kP (.box 50 _)); refine sBA (fun b1 => ?_)) | ((with_reducible apply kF 33); refine sC 33 (kh _) ?_) | ((with_reducible apply kP (.load 50 _)); refine sP ?_ (o_load rfl (ld_own (shTOf rfl) MMt rfl rfl))) | ((with_reducible apply kDP (.load 50 _)); refine dP ?_ (hX := rfl) (hv := o_load rfl (ld_own (shTOf rfl) MMt rfl rfl))) | ((with_reducible apply kQO (.load 50 _)); refine qP ?_ (o_load rfl (ld_own (shTOf rfl) MMt rfl rfl))) | ((with_reducible apply kRg 8); refine cD [1, 1, 1, 1, 4, 1, 1, 1, 1, 1, 1, 1, 1, 1, 1, 1, 1, 1, 1, 1, 1, 1] ?_) | (with_reducible first | refine c_seq ?_ | refine c_reg ?_ | refine c_region ?_ | refine c_block ?_ | refine c_skip ?_ | refine c_exit ?_ | refine c_ret ?_ | refine s_nil ?_ | refine x_then ?_ | refine x_then_exit ?_ | refine x_then_ret ?_ | refine x_block ?_ | refine x_block_ret ?_ | refine x_block_same ?_ | refine x_block_other (by first | rfl | decide) ?_ | refine q_nil ?_ | refine k_nil ?_) | ((with_reducible apply kP (.box _ _)); first | refine sBA (fun b => ?_) | refine sB (fun b => ?_)) | ((with_reducible apply kP _); refine sP ?_) | ((with_reducible apply kP _); refine sX ?_) | ((with_reducible apply kQP); refine qP ?_) | ((with_reducible apply kQP); refine qX ?_) | ((with_reducible apply kC); first | refine cT ?_ | refine cF ?_ | (refine cI (fun h => ?_) (fun h => ?_) <;> (try (exfalso; omega))) | refine cB (fun h => ?_) (fun h => ?_)) | ((with_reducible apply kR); refine cQ ?_) | ((with_reducible apply kDG); first | refine dY1 ?_ | refine dNo1 ?_ | refine dU1 ?_ | (refine dD1 (fun h => ?_) (fun h => ?_) <;> (try (exfalso; omega))) | refine dB1 (fun h => ?_) (fun h => ?_)) | ((with_reducible apply kDP _); refine dP ?_) | ((with_reducible apply kDP _); refine dX ?_))
    refine c_loop (fun i : Nat => [(1, .slice oa z.length c), (2, .pointer (some ⟨b1, 0, none⟩)), (8, iv (bkS R z i)), (9, iv i)]) (fun _ => (b1, [iv R, iv F, iv E, iv W, iv K, iv N]) :: hs) (fun i => i ≤ z.length ∧ ∀ j, j < i → bkO z j) (fun i => z.length - i) 0 ⟨Nat.zero_le _, fun j hj => absurd hj (Nat.not_lt_zero _)⟩ (by repeat' first | trivial | rfl | apply And.intro) (.refl _) ?_
    rintro i ⟨hi, hok⟩
    have hbi := bkS_in (R := R) i hok
    by_cases hi' : i < z.length
    · have g1 := hZ.any hi'
      have g2 := fun hs' (h : hs.Sublist hs') => hZ.at h hi'
      have hb : bkO z i ∨ ¬ bkO z i := Classical.em _
      have hn1 : ¬ bkO z i → bkV R F E W K N z = .tuple #[iv 0, iv 0, iv 1] := fun h => q1 fun h' => h (h' i hi')
      have hnx : bkO z i → ∀ j, j < i + 1 → bkO z j := fun h j hj => by
        by_cases e : j = i
        · rw [e]; exact h
        · exact hok j (by omega)
      have hst : bkS R z (i + 1) = if z.getD i 0 ≤ R then z.getD i 0 else bkS R z i := rfl
      have hO : bkO z i ↔ (1 ≤ z.getD i 0 ∧ z.getD i 0 ≤ 200) ∧ (0 < (i : Int) → z.getD (i - 1) 0 < z.getD i 0) := Iff.rfl
      have kwi := kw (z.getD i 0) 1 200
      clear q1 q5 q0 kw kh
      have g3 := fun hs' (h : hs.Sublist hs') (h0 : i ≠ 0) => hZ.at (i := i - 1) h (by omega)
      have fin : ∀ x, (if z.getD i 0 ≤ R then z.getD i 0 else bkS R z i) = x → bkS R z (i + 1) = x := fun x h => h
      by_cases hw : 1 ≤ z.getD i 0 ∧ z.getD i 0 ≤ 200
      · rw [decide_eq_true hw] at kwi
        by_cases h00 : i = 0
        · subst h00
          repeat' (first | ((with_reducible apply kP (.load 3 (.tmp 23))); refine sP ?_ (o_load rfl (ld_one (shTOf rfl) (g2 _ SBt)))) | ((with_reducible apply kDP (.load 3 (.tmp 23))); refine dP ?_ (hX := rfl) (hv := o_load rfl (ld_one (shTOf rfl) (g2 _ SBt)))) | ((with_reducible apply kQO (.load 3 (.tmp 23))); refine qP ?_ (o_load rfl (ld_one (shTOf rfl) (g2 _ SBt)))) | ((with_reducible apply kP (.load 3 (.tmp 33))); refine sP ?_ (o_load rfl (ld_one (shTOf rfl) (g2 _ SBt)))) | ((with_reducible apply kDP (.load 3 (.tmp 33))); refine dP ?_ (hX := rfl) (hv := o_load rfl (ld_one (shTOf rfl) (g2 _ SBt)))) | ((with_reducible apply kQO (.load 3 (.tmp 33))); refine qP ?_ (o_load rfl (ld_one (shTOf rfl) (g2 _ SBt)))) | ((with_reducible apply kP (.load 3 (.tmp 45))); refine sP ?_ (o_load rfl (ld_one (shTOf rfl) (g2 _ SBt)))) | ((with_reducible apply kDP (.load 3 (.tmp 45))); refine dP ?_ (hX := rfl) (hv := o_load rfl (ld_one (shTOf rfl) (g2 _ SBt)))) | ((with_reducible apply kQO (.load 3 (.tmp 45))); refine qP ?_ (o_load rfl (ld_one (shTOf rfl) (g2 _ SBt)))) | ((with_reducible apply kP (.load 3 (.tmp 52))); refine sP ?_ (o_load rfl (ld_one (shTOf rfl) (g2 _ SBt)))) | ((with_reducible apply kDP (.load 3 (.tmp 52))); refine dP ?_ (hX := rfl) (hv := o_load rfl (ld_one (shTOf rfl) (g2 _ SBt)))) | ((with_reducible apply kQO (.load 3 (.tmp 52))); refine qP ?_ (o_load rfl (ld_one (shTOf rfl) (g2 _ SBt)))) | ((with_reducible apply kF 58); refine sC 58 (kwi _) ?_) | ((with_reducible apply kDF 58); refine dC 58 (fun F => kwi _) ?_) | ((with_reducible apply kP (.load 3 (.tmp 47))); refine sP ?_ (o_load rfl (ld_one (shTOf rfl) (own MMt rfl)))) | ((with_reducible apply kDP (.load 3 (.tmp 47))); refine dP ?_ (hX := rfl) (hv := o_load rfl (ld_one (shTOf rfl) (own MMt rfl)))) | ((with_reducible apply kQO (.load 3 (.tmp 47))); refine qP ?_ (o_load rfl (ld_one (shTOf rfl) (own MMt rfl)))) | ((with_reducible apply kRg 8); refine cD [1, 1, 1, 1, 4, 1, 1, 1, 1, 1, 1, 1, 1, 1, 1, 1, 1, 1, 1, 1, 1, 1] ?_) | (with_reducible first | refine c_seq ?_ | refine c_reg ?_ | refine c_region ?_ | refine c_block ?_ | refine c_skip ?_ | refine c_exit ?_ | refine c_ret ?_ | refine s_nil ?_ | refine x_then ?_ | refine x_then_exit ?_ | refine x_then_ret ?_ | refine x_block ?_ | refine x_block_ret ?_ | refine x_block_same ?_ | refine x_block_other (by first | rfl | decide) ?_ | refine q_nil ?_ | refine k_nil ?_) | ((with_reducible apply kP (.box _ _)); first | refine sBA (fun b => ?_) | refine sB (fun b => ?_)) | ((with_reducible apply kP _); refine sP ?_) | ((with_reducible apply kP _); refine sX ?_) | ((with_reducible apply kQP); refine qP ?_) | ((with_reducible apply kQP); refine qX ?_) | ((with_reducible apply kC); first | refine cT ?_ | refine cF ?_ | (refine cI (fun h => ?_) (fun h => ?_) <;> (try (exfalso; omega))) | refine cB (fun h => ?_) (fun h => ?_)) | ((with_reducible apply kR); refine cQ ?_) | ((with_reducible apply kDG); first | refine dY1 ?_ | refine dNo1 ?_ | refine dU1 ?_ | (refine dD1 (fun h => ?_) (fun h => ?_) <;> (try (exfalso; omega))) | refine dB1 (fun h => ?_) (fun h => ?_)) | ((with_reducible apply kDP _); refine dP ?_) | ((with_reducible apply kDP _); refine dX ?_))
          all_goals first
            | (exfalso; omega)
            | (have e8 := fin _ (if_pos (by assumption)); exact r_end 1 ⟨hi', hnx (hO.2 ⟨hw, fun h => absurd h (by decide)⟩)⟩ (by omega) (by repeat' first | trivial | rfl | apply And.intro | (rw [e8]; rfl)) SCt)
            | (have e8 := fin _ (if_neg (by assumption)); exact r_end 1 ⟨hi', hnx (hO.2 ⟨hw, fun h => absurd h (by decide)⟩)⟩ (by omega) (by repeat' first | trivial | rfl | apply And.intro | (rw [e8]; rfl)) SCt)
            | trace_state
        · have g3 := fun hs' h => g3 hs' h h00
          have hj : (i : Int) - 1 = ((i - 1 : Nat) : Int) := by omega
          repeat' (first | ((with_reducible apply kP (.load 3 (.tmp 23))); refine sP ?_ (o_load rfl (ld_one (shTOf rfl) (g2 _ SBt)))) | ((with_reducible apply kDP (.load 3 (.tmp 23))); refine dP ?_ (hX := rfl) (hv := o_load rfl (ld_one (shTOf rfl) (g2 _ SBt)))) | ((with_reducible apply kQO (.load 3 (.tmp 23))); refine qP ?_ (o_load rfl (ld_one (shTOf rfl) (g2 _ SBt)))) | ((with_reducible apply kP (.load 3 (.tmp 33))); refine sP ?_ (o_load rfl (ld_one (shTOf rfl) (g2 _ SBt)))) | ((with_reducible apply kDP (.load 3 (.tmp 33))); refine dP ?_ (hX := rfl) (hv := o_load rfl (ld_one (shTOf rfl) (g2 _ SBt)))) | ((with_reducible apply kQO (.load 3 (.tmp 33))); refine qP ?_ (o_load rfl (ld_one (shTOf rfl) (g2 _ SBt)))) | ((with_reducible apply kP (.load 3 (.tmp 45))); refine sP ?_ (o_load rfl (ld_one (shTOf rfl) (g2 _ SBt)))) | ((with_reducible apply kDP (.load 3 (.tmp 45))); refine dP ?_ (hX := rfl) (hv := o_load rfl (ld_one (shTOf rfl) (g2 _ SBt)))) | ((with_reducible apply kQO (.load 3 (.tmp 45))); refine qP ?_ (o_load rfl (ld_one (shTOf rfl) (g2 _ SBt)))) | ((with_reducible apply kP (.load 3 (.tmp 52))); refine sP ?_ (o_load rfl (ld_one (shTOf rfl) (g2 _ SBt)))) | ((with_reducible apply kDP (.load 3 (.tmp 52))); refine dP ?_ (hX := rfl) (hv := o_load rfl (ld_one (shTOf rfl) (g2 _ SBt)))) | ((with_reducible apply kQO (.load 3 (.tmp 52))); refine qP ?_ (o_load rfl (ld_one (shTOf rfl) (g2 _ SBt)))) | ((with_reducible apply kF 58); refine sC 58 (kwi _) ?_) | ((with_reducible apply kDF 58); refine dC 58 (fun F => kwi _) ?_) | ((with_reducible apply kP (.load 3 (.tmp 47))); refine sP ?_ (o_load rfl (ld_one (shTOf rfl) (own MMt rfl)))) | ((with_reducible apply kDP (.load 3 (.tmp 47))); refine dP ?_ (hX := rfl) (hv := o_load rfl (ld_one (shTOf rfl) (own MMt rfl)))) | ((with_reducible apply kQO (.load 3 (.tmp 47))); refine qP ?_ (o_load rfl (ld_one (shTOf rfl) (own MMt rfl)))) | ((with_reducible apply kP (.indexAddr 39 (.tmp 35) _)); refine sP ?_ (o_indexS (scTOf rfl) rfl rfl hj (aa0 _) g1 (by omega))) | ((with_reducible apply kDP (.indexAddr 39 (.tmp 35) _)); refine dP ?_ (hX := rfl) (hv := o_indexS (scTOf rfl) rfl rfl hj (aa0 _) g1 (by omega))) | ((with_reducible apply kQO (.indexAddr 39 (.tmp 35) _)); refine qP ?_ (o_indexS (scTOf rfl) rfl rfl hj (aa0 _) g1 (by omega))) | ((with_reducible apply kP (.load 3 (.tmp 38))); refine sP ?_ (o_load rfl (ld_one (shTOf rfl) (g3 _ SBt)))) | ((with_reducible apply kDP (.load 3 (.tmp 38))); refine dP ?_ (hX := rfl) (hv := o_load rfl (ld_one (shTOf rfl) (g3 _ SBt)))) | ((with_reducible apply kQO (.load 3 (.tmp 38))); refine qP ?_ (o_load rfl (ld_one (shTOf rfl) (g3 _ SBt)))) | ((with_reducible apply kRg 8); refine cD [1, 1, 1, 1, 4, 1, 1, 1, 1, 1, 1, 1, 1, 1, 1, 1, 1, 1, 1, 1, 1, 1] ?_) | (with_reducible first | refine c_seq ?_ | refine c_reg ?_ | refine c_region ?_ | refine c_block ?_ | refine c_skip ?_ | refine c_exit ?_ | refine c_ret ?_ | refine s_nil ?_ | refine x_then ?_ | refine x_then_exit ?_ | refine x_then_ret ?_ | refine x_block ?_ | refine x_block_ret ?_ | refine x_block_same ?_ | refine x_block_other (by first | rfl | decide) ?_ | refine q_nil ?_ | refine k_nil ?_) | ((with_reducible apply kP (.box _ _)); first | refine sBA (fun b => ?_) | refine sB (fun b => ?_)) | ((with_reducible apply kP _); refine sP ?_) | ((with_reducible apply kP _); refine sX ?_) | ((with_reducible apply kQP); refine qP ?_) | ((with_reducible apply kQP); refine qX ?_) | ((with_reducible apply kC); first | refine cT ?_ | refine cF ?_ | (refine cI (fun h => ?_) (fun h => ?_) <;> (try (exfalso; omega))) | refine cB (fun h => ?_) (fun h => ?_)) | ((with_reducible apply kR); refine cQ ?_) | ((with_reducible apply kDG); first | refine dY1 ?_ | refine dNo1 ?_ | refine dU1 ?_ | (refine dD1 (fun h => ?_) (fun h => ?_) <;> (try (exfalso; omega))) | refine dB1 (fun h => ?_) (fun h => ?_)) | ((with_reducible apply kDP _); refine dP ?_) | ((with_reducible apply kDP _); refine dX ?_))
          all_goals first
            | (exfalso; omega)
            | (have e8 := fin _ (if_pos (by assumption)); exact r_end (i + 1) ⟨hi', hnx (hO.2 ⟨hw, fun h => by omega⟩)⟩ (by omega) (by repeat' first | trivial | rfl | apply And.intro | (rw [e8]; rfl)) SCt)
            | (have e8 := fin _ (if_neg (by assumption)); exact r_end (i + 1) ⟨hi', hnx (hO.2 ⟨hw, fun h => by omega⟩)⟩ (by omega) (by repeat' first | trivial | rfl | apply And.intro | (rw [e8]; rfl)) SCt)
            | (rw [hn1 (fun h => by have := hO.1 h; omega)]; exact e_ret3 rfl rfl rfl rfl ⟨rfl, rfl⟩ SCt)
            | trace_state
      · rw [decide_eq_false hw] at kwi
        rw [hn1 (fun h => hw (hO.1 h).1)]
        repeat' (first | ((with_reducible apply kP (.load 3 (.tmp 23))); refine sP ?_ (o_load rfl (ld_one (shTOf rfl) (g2 _ SBt)))) | ((with_reducible apply kDP (.load 3 (.tmp 23))); refine dP ?_ (hX := rfl) (hv := o_load rfl (ld_one (shTOf rfl) (g2 _ SBt)))) | ((with_reducible apply kQO (.load 3 (.tmp 23))); refine qP ?_ (o_load rfl (ld_one (shTOf rfl) (g2 _ SBt)))) | ((with_reducible apply kP (.load 3 (.tmp 33))); refine sP ?_ (o_load rfl (ld_one (shTOf rfl) (g2 _ SBt)))) | ((with_reducible apply kDP (.load 3 (.tmp 33))); refine dP ?_ (hX := rfl) (hv := o_load rfl (ld_one (shTOf rfl) (g2 _ SBt)))) | ((with_reducible apply kQO (.load 3 (.tmp 33))); refine qP ?_ (o_load rfl (ld_one (shTOf rfl) (g2 _ SBt)))) | ((with_reducible apply kP (.load 3 (.tmp 45))); refine sP ?_ (o_load rfl (ld_one (shTOf rfl) (g2 _ SBt)))) | ((with_reducible apply kDP (.load 3 (.tmp 45))); refine dP ?_ (hX := rfl) (hv := o_load rfl (ld_one (shTOf rfl) (g2 _ SBt)))) | ((with_reducible apply kQO (.load 3 (.tmp 45))); refine qP ?_ (o_load rfl (ld_one (shTOf rfl) (g2 _ SBt)))) | ((with_reducible apply kP (.load 3 (.tmp 52))); refine sP ?_ (o_load rfl (ld_one (shTOf rfl) (g2 _ SBt)))) | ((with_reducible apply kDP (.load 3 (.tmp 52))); refine dP ?_ (hX := rfl) (hv := o_load rfl (ld_one (shTOf rfl) (g2 _ SBt)))) | ((with_reducible apply kQO (.load 3 (.tmp 52))); refine qP ?_ (o_load rfl (ld_one (shTOf rfl) (g2 _ SBt)))) | ((with_reducible apply kF 58); refine sC 58 (kwi _) ?_) | ((with_reducible apply kDF 58); refine dC 58 (fun F => kwi _) ?_) | ((with_reducible apply kRg 8); refine cD [1, 1, 1, 1, 4, 1, 1, 1, 1, 1, 1, 1, 1, 1, 1, 1, 1, 1, 1, 1, 1, 1] ?_) | (with_reducible first | refine c_seq ?_ | refine c_reg ?_ | refine c_region ?_ | refine c_block ?_ | refine c_skip ?_ | refine c_exit ?_ | refine c_ret ?_ | refine s_nil ?_ | refine x_then ?_ | refine x_then_exit ?_ | refine x_then_ret ?_ | refine x_block ?_ | refine x_block_ret ?_ | refine x_block_same ?_ | refine x_block_other (by first | rfl | decide) ?_ | refine q_nil ?_ | refine k_nil ?_) | ((with_reducible apply kP (.box _ _)); first | refine sBA (fun b => ?_) | refine sB (fun b => ?_)) | ((with_reducible apply kP _); refine sP ?_) | ((with_reducible apply kP _); refine sX ?_) | ((with_reducible apply kQP); refine qP ?_) | ((with_reducible apply kQP); refine qX ?_) | ((with_reducible apply kC); first | refine cT ?_ | refine cF ?_ | (refine cI (fun h => ?_) (fun h => ?_) <;> (try (exfalso; omega))) | refine cB (fun h => ?_) (fun h => ?_)) | ((with_reducible apply kR); refine cQ ?_) | ((with_reducible apply kDG); first | refine dY1 ?_ | refine dNo1 ?_ | refine dU1 ?_ | (refine dD1 (fun h => ?_) (fun h => ?_) <;> (try (exfalso; omega))) | refine dB1 (fun h => ?_) (fun h => ?_)) | ((with_reducible apply kDP _); refine dP ?_) | ((with_reducible apply kDP _); refine dX ?_))
        all_goals first
          | exact e_ret3 rfl rfl rfl rfl ⟨rfl, rfl⟩ SCt
          | (exfalso; omega)
          | trace_state
    · obtain rfl : z.length = i := by omega
      by_cases hb : bkS R z z.length = 0
      · rw [q5 hok hb]
        repeat' (first | ((with_reducible apply kRg 8); refine cD [1, 1, 1, 1, 4, 1, 1, 1, 1, 1, 1, 1, 1, 1, 1, 1, 1, 1, 1, 1, 1, 1] ?_) | (with_reducible first | refine c_seq ?_ | refine c_reg ?_ | refine c_region ?_ | refine c_block ?_ | refine c_skip ?_ | refine c_exit ?_ | refine c_ret ?_ | refine s_nil ?_ | refine x_then ?_ | refine x_then_exit ?_ | refine x_then_ret ?_ | refine x_block ?_ | refine x_block_ret ?_ | refine x_block_same ?_ | refine x_block_other (by first | rfl | decide) ?_ | refine q_nil ?_ | refine k_nil ?_) | ((with_reducible apply kP (.box _ _)); first | refine sBA (fun b => ?_) | refine sB (fun b => ?_)) | ((with_reducible apply kP _); refine sP ?_) | ((with_reducible apply kP _); refine sX ?_) | ((with_reducible apply kQP); refine qP ?_) | ((with_reducible apply kQP); refine qX ?_) | ((with_reducible apply kC); first | refine cT ?_ | refine cF ?_ | (refine cI (fun h => ?_) (fun h => ?_) <;> (try (exfalso; omega))) | refine cB (fun h => ?_) (fun h => ?_)) | ((with_reducible apply kR); refine cQ ?_) | ((with_reducible apply kDG); first | refine dY1 ?_ | refine dNo1 ?_ | refine dU1 ?_ | (refine dD1 (fun h => ?_) (fun h => ?_) <;> (try (exfalso; omega))) | refine dB1 (fun h => ?_) (fun h => ?_)) | ((with_reducible apply kDP _); refine dP ?_) | ((with_reducible apply kDP _); refine dX ?_))
        all_goals first
          | exact e_ret3 rfl rfl rfl rfl ⟨rfl, rfl⟩ SCt
          | (exfalso; omega)
          | trace_state
      · rw [q0 hok hb]
        repeat' (first | ((with_reducible apply kRg 8); refine cD [1, 1, 1, 1, 4, 1, 1, 1, 1, 1, 1, 1, 1, 1, 1, 1, 1, 1, 1, 1, 1, 1] ?_) | (with_reducible first | refine c_seq ?_ | refine c_reg ?_ | refine c_region ?_ | refine c_block ?_ | refine c_skip ?_ | refine c_exit ?_ | refine c_ret ?_ | refine s_nil ?_ | refine x_then ?_ | refine x_then_exit ?_ | refine x_then_ret ?_ | refine x_block ?_ | refine x_block_ret ?_ | refine x_block_same ?_ | refine x_block_other (by first | rfl | decide) ?_ | refine q_nil ?_ | refine k_nil ?_) | ((with_reducible apply kP (.box _ _)); first | refine sBA (fun b => ?_) | refine sB (fun b => ?_)) | ((with_reducible apply kP _); refine sP ?_) | ((with_reducible apply kP _); refine sX ?_) | ((with_reducible apply kQP); refine qP ?_) | ((with_reducible apply kQP); refine qX ?_) | ((with_reducible apply kC); first | refine cT ?_ | refine cF ?_ | (refine cI (fun h => ?_) (fun h => ?_) <;> (try (exfalso; omega))) | refine cB (fun h => ?_) (fun h => ?_)) | ((with_reducible apply kR); refine cQ ?_) | ((with_reducible apply kDG); first | refine dY1 ?_ | refine dNo1 ?_ | refine dU1 ?_ | (refine dD1 (fun h => ?_) (fun h => ?_) <;> (try (exfalso; omega))) | refine dB1 (fun h => ?_) (fun h => ?_)) | ((with_reducible apply kDP _); refine dP ?_) | ((with_reducible apply kDP _); refine dX ?_))
        all_goals first
          | exact e_ret3 rfl rfl rfl rfl ⟨rfl, rfl⟩ SCt
          | (exfalso; omega)
          | trace_state
  · rw [bk_h h0]
    refine fn_enter Try.func31 rfl Try.ntmps31 (by simp) ?_
    repeat' (first | ((with_reducible apply kP (.box 50 _)); refine sBA (fun b1 => ?_)) | ((with_reducible apply kF 33); refine sC 33 (kh _) ?_) | ((with_reducible apply kP (.load 50 _)); refine sP ?_ (o_load rfl (ld_own (shTOf rfl) MMt rfl rfl))) | ((with_reducible apply kDP (.load 50 _)); refine dP ?_ (hX := rfl) (hv := o_load rfl (ld_own (shTOf rfl) MMt rfl rfl))) | ((with_reducible apply kQO (.load 50 _)); refine qP ?_ (o_load rfl (ld_own (shTOf rfl) MMt rfl rfl))) | ((with_reducible apply kRg 8); refine cD [1, 1, 1, 1, 4, 1, 1, 1, 1, 1, 1, 1, 1, 1, 1, 1, 1, 1, 1, 1, 1, 1] ?_) | (with_reducible first | refine c_seq ?_ | refine c_reg ?_ | refine c_region ?_ | refine c_block ?_ | refine c_skip ?_ | refine c_exit ?_ | refine c_ret ?_ | refine s_nil ?_ | refine x_then ?_ | refine x_then_exit ?_ | refine x_then_ret ?_ | refine x_block ?_ | refine x_block_ret ?_ | refine x_block_same ?_ | refine x_block_other (by first | rfl | decide) ?_ | refine q_nil ?_ | refine k_nil ?_) | ((with_reducible apply kP (.box _ _)); first | refine sBA (fun b => ?_) | refine sB (fun b => ?_)) | ((with_reducible apply kP _); refine sP ?_) | ((with_reducible apply kP _); refine sX ?_) | ((with_reducible apply kQP); refine qP ?_) | ((with_reducible apply kQP); refine qX ?_) | ((with_reducible apply kC); first | refine cT ?_ | refine cF ?_ | (refine cI (fun h => ?_) (fun h => ?_) <;> (try (exfalso; omega))) | refine cB (fun h => ?_) (fun h => ?_)) | ((with_reducible apply kR); refine cQ ?_) | ((with_reducible apply kDG); first | refine dY1 ?_ | refine dNo1 ?_ | refine dU1 ?_ | (refine dD1 (fun h => ?_) (fun h => ?_) <;> (try (exfalso; omega))) | refine dB1 (fun h => ?_) (fun h => ?_)) | ((with_reducible apply kDP _); refine dP ?_) | ((with_reducible apply kDP _); refine dX ?_))
    all_goals first
      | exact e_ret3 rfl rfl rfl rfl ⟨rfl, rfl⟩ SCt
      | (exfalso; omega)
      | trace_state
end Go.Proofs.Ytnbickholedckaa
