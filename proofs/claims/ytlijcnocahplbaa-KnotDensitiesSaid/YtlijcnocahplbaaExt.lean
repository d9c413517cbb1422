/- More steps: slices of slices. -/
import Derived.Test.YtlijcnocahplbaaWalk
import Derived.DataElems
import Derived.ChangeKeysEq
import Derived.Laws.StructEq
import Derived.Laws.Closers25b
namespace Go.Proofs.Ytlijcnocahplbaa
open Go.RowKit

/-- The head of a part of a slice. -/
def subA (oa : Option Addr) (c lo size : Nat) : Option Addr := if c = lo then oa else oa.map (·.add (lo * size))
section
variable {P : Program} {n B : Nat} {w0 : World} {fr : FR} {hs hs' : HS} {ty : TypeId}
theorem run_slb (k : IntKind) {i : Int} {y : Nat} {code : BoundsCode} {j : Nat} (hj : i = (j : Int)) (h1 : j ≤ y) (w : World) : (Instr.sliceBound (.int k i) y code).run P w = .ok j w := by
  subst hj
  simp [Instr.sliceBound, asIntOf, h1]
theorem sc_el {t : TypeId} {b : Bool} {k : Nat} (ht : sc P t = some (b, k)) : ∃ e, P.underlying t = some (.slice e) ∧ sh P e = some (b, k) := by
  unfold sc at ht
  split at ht
  · rename_i e hu; exact ⟨e, hu, ht⟩
  · cases ht
/-- A part of a slice: what the run comes to. -/
theorem run_slc {t : TypeId} {b : Bool} {k len cap lo hi m : Nat} {oa : Option Addr} {l h x : Option Value} (ht : sc P t = some (b, k)) (w : World)
    (hb : (Instr.sliceBounds true len cap l h x).run P w = .ok (lo, hi, m) w) :
    (Instr.sliceAt t (.slice oa len cap) l h x).run P w = .ok (.slice (subA oa m lo k) (hi - lo) (m - lo)) w := by
  obtain ⟨e, hu, hk⟩ := sc_el ht
  simp only [Instr.sliceAt, Instr.slice, Sem.run_bind, underlying, run_program, hu, Result.andThen_ok, Sem.run_pure, hb, run_sizeOf hk, subA]
theorem o_sliceL {t : TypeId} {x lo : Operand} {b : Bool} {k len cap j : Nat} {i : Int} {oa : Option Addr} (ht : sc P t = some (b, k)) (hx : opv fr x = some (.slice oa len cap)) (hl : opv fr lo = some (.int .i64 i)) (hj : i = (j : Int)) (h1 : j ≤ len) :
    OpF P n B w0 (.slice t x (some lo) none none) ty fr hs (.slice (subA oa cap j k) (len - j) (cap - j)) := fun a w ha _ => by
  have hb : (Instr.sliceBounds true len cap (some (.int .i64 i)) none none).run P w = .ok (j, len, cap) w := by
    simp [Instr.sliceBounds, run_slb _ hj h1]
  simp [ex, execOp, ha.opv hx, ha.opv hl, run_slc ht w hb]
theorem o_sliceH {t : TypeId} {x hi : Operand} {b : Bool} {k len cap j : Nat} {i : Int} {oa : Option Addr} (ht : sc P t = some (b, k)) (hx : opv fr x = some (.slice oa len cap)) (hl : opv fr hi = some (.int .i64 i)) (hj : i = (j : Int)) (h1 : j ≤ cap) :
    OpF P n B w0 (.slice t x none (some hi) none) ty fr hs (.slice (subA oa cap 0 k) j cap) := fun a w ha _ => by
  have hb : (Instr.sliceBounds true len cap none (some (.int .i64 i)) none).run P w = .ok (0, j, cap) w := by
    simp [Instr.sliceBounds, run_slb _ hj h1]
  simp [ex, execOp, ha.opv hx, ha.opv hl, run_slc ht w hb]
theorem o_sliceLH {t : TypeId} {x lo hi : Operand} {b : Bool} {k len cap j j2 : Nat} {i i2 : Int} {oa : Option Addr} (ht : sc P t = some (b, k)) (hx : opv fr x = some (.slice oa len cap)) (hl : opv fr lo = some (.int .i64 i)) (hh : opv fr hi = some (.int .i64 i2)) (hj : i = (j : Int)) (hj2 : i2 = (j2 : Int)) (h1 : j ≤ j2) (h2 : j2 ≤ cap) :
    OpF P n B w0 (.slice t x (some lo) (some hi) none) ty fr hs (.slice (subA oa cap j k) (j2 - j) (cap - j)) := fun a w ha _ => by
  have hb : (Instr.sliceBounds true len cap (some (.int .i64 i)) (some (.int .i64 i2)) none).run P w = .ok (j, j2, cap) w := by
    simp [Instr.sliceBounds, run_slb _ hj h1, run_slb _ hj2 h2]
  simp [ex, execOp, ha.opv hx, ha.opv hl, ha.opv hh, run_slc ht w hb]
theorem o_sliceHM {t : TypeId} {x hi mx : Operand} {b : Bool} {k len cap j j2 : Nat} {i i2 : Int} {oa : Option Addr} (ht : sc P t = some (b, k)) (hx : opv fr x = some (.slice oa len cap)) (hl : opv fr hi = some (.int .i64 i)) (hh : opv fr mx = some (.int .i64 i2)) (hj : i = (j : Int)) (hj2 : i2 = (j2 : Int)) (h1 : j ≤ j2) (h2 : j2 ≤ cap) :
    OpF P n B w0 (.slice t x none (some hi) (some mx)) ty fr hs (.slice (subA oa j2 0 k) j j2) := fun a w ha _ => by
  have hb : (Instr.sliceBounds true len cap none (some (.int .i64 i)) (some (.int .i64 i2))).run P w = .ok (0, j, j2) w := by
    simp [Instr.sliceBounds, run_slb _ hj h1, run_slb _ hj2 h2]
  simp [ex, execOp, ha.opv hx, ha.opv hl, ha.opv hh, run_slc ht w hb]
theorem ea_add (a : Addr) (i j : Nat) : ea (some (a.add i)) j = ea (some a) (i + j) := by rw [ea_some, ea_some, Addr.add_add]
/-- The numbers of a part. -/
theorem Sl.part {oa : Option Addr} {l : List Int} (h : Sl B w0 hs oa l) {c lo hi : Nat} (h1 : lo ≤ hi) (h2 : hi ≤ l.length) (h3 : l.length ≤ c) : Sl B w0 hs (subA oa c lo 1) ((l.drop lo).take (hi - lo)) := fun i hi' => by
  have hi2 : lo + i < hi := by simp at hi'; omega
  obtain ⟨g1, g2⟩ := h (lo + i) (by omega)
  have e1 : ((l.drop lo).take (hi - lo)).getD i 0 = l.getD (lo + i) 0 := by
    simp only [List.getD]
    rw [List.getElem?_take, if_pos (by omega), List.getElem?_drop]
  rw [e1]
  unfold subA
  rw [if_neg (by omega)]
  cases oa with
  | none => cases g1
  | some a =>
    refine ⟨rfl, fun w hw => ?_⟩
    have := g2 w hw
    rw [Option.map_some, Nat.mul_one, ea_add]
    exact this
theorem Sl.tail {oa : Option Addr} {l : List Int} (h : Sl B w0 hs oa l) {c lo : Nat} (h1 : lo ≤ l.length) (h3 : l.length ≤ c) : Sl B w0 hs (subA oa c lo 1) (l.drop lo) := by
  have := h.part (c := c) (lo := lo) (hi := l.length) h1 (Nat.le_refl _) h3
  rwa [List.take_of_length_le (by simp)] at this
theorem Sl.init {oa : Option Addr} {l : List Int} (h : Sl B w0 hs oa l) {c hi : Nat} (h2 : hi ≤ l.length) (h3 : l.length ≤ c) : Sl B w0 hs (subA oa c 0 1) (l.take hi) := by
  have := h.part (c := c) (lo := 0) (hi := hi) (by omega) h2 h3
  simpa using this
theorem subA_zero (oa : Option Addr) (c k : Nat) : subA oa c 0 k = oa := by
  unfold subA
  split
  · rfl
  · cases oa <;> simp [Addr.add]
theorem RowOk.cap {oa : Option Addr} {c size : Nat} {xs : List Value} {blk : HS} (h : RowOk oa c size xs blk) {k : Nat} (hk : xs.length = k * size) (hs : 0 < size) : k ≤ c := by
  rcases h with ⟨_, rfl, rfl, _⟩ | ⟨b, z, _, _, h, _⟩
  · simp only [List.length_nil] at hk
    rcases Nat.eq_zero_or_pos k with h | h
    · omega
    · have := Nat.mul_pos h hs; omega
  · simp only [List.length_append] at h
    exact Nat.le_of_mul_le_mul_right (by omega) hs
/-- Numbers as they wrap around. -/
def wr (x : Int) : Int := IntKind.i64.wrap x
theorem wr_in (x : Int) : InI (wr x) := by
  have := wrap_within .i64 x
  exact ⟨by have h := this.1; rwa [show IntKind.i64.min = -9223372036854775808 from by decide] at h, by have h := this.2; rwa [show IntKind.i64.max = 9223372036854775807 from by decide] at h⟩
theorem wr_id {x : Int} (h : InI x) : wr x = x := wrap_in h
theorem o_addW {t t' : TypeId} {x y : Operand} {m l : Int} (hx : opv fr x = some (.int .i64 m)) (hy : opv fr y = some (.int .i64 l)) : OpF P n B w0 (.binOp .add t x y t') ty fr hs (.int .i64 (wr (m + l))) :=
  ex_bin hx hy fun w => by simp [binOp, Op.intArith, wr]
theorem o_subW {t t' : TypeId} {x y : Operand} {m l : Int} (hx : opv fr x = some (.int .i64 m)) (hy : opv fr y = some (.int .i64 l)) : OpF P n B w0 (.binOp .sub t x y t') ty fr hs (.int .i64 (wr (m - l))) :=
  ex_bin hx hy fun w => by simp [binOp, Op.intArith, wr]
theorem o_mulW {t t' : TypeId} {x y : Operand} {m l : Int} (hx : opv fr x = some (.int .i64 m)) (hy : opv fr y = some (.int .i64 l)) : OpF P n B w0 (.binOp .mul t x y t') ty fr hs (.int .i64 (wr (m * l))) :=
  ex_bin hx hy fun w => by simp [binOp, Op.intArith, wr]
theorem o_negW {t : TypeId} {x : Operand} {m : Int} (hx : opv fr x = some (.int .i64 m)) : OpF P n B w0 (.unOp .neg t x) ty fr hs (.int .i64 (wr (-m))) := fun a w ha _ => by
  simp [ex, execOp, ha.opv hx, Op.unary, Op.intArith, wr]
/-- The type is that of truth values. -/
def bt (P : Program) (t : TypeId) : Bool := match P.underlying t with | some .bool => true | _ => false
theorem run_eqB {t : TypeId} {m l : Bool} (ht : bt P t = true) (w : World) : (Op.equal t (.bool m) (.bool l)).run P w = .ok (m == l) w := by
  unfold bt at ht
  split at ht
  · rename_i hu; exact run_equal_bool w t m l hu
  · cases ht
theorem o_eqlB {t t' : TypeId} {x y : Operand} {m l : Bool} (ht : bt P t = true) (hx : opv fr x = some (.bool m)) (hy : opv fr y = some (.bool l)) : OpF P n B w0 (.binOp .eql t x y t') ty fr hs (.bool (decide (m = l))) := fun a w ha _ => by
  simp only [ex, execOp, ha.opv hx, ha.opv hy, Sem.run_bind]
  have : (eqGuard .eql t x y (.bool m) (.bool l)).run P w = .ok () w := rfl
  rw [this]
  cases m <;> cases l <;> simp [binOp, run_eqB ht]
theorem o_neqB {t t' : TypeId} {x y : Operand} {m l : Bool} (ht : bt P t = true) (hx : opv fr x = some (.bool m)) (hy : opv fr y = some (.bool l)) : OpF P n B w0 (.binOp .neq t x y t') ty fr hs (.bool (decide (m ≠ l))) := fun a w ha _ => by
  simp only [ex, execOp, ha.opv hx, ha.opv hy, Sem.run_bind]
  have : (eqGuard .neq t x y (.bool m) (.bool l)).run P w = .ok () w := rfl
  rw [this]
  cases m <;> cases l <;> simp [binOp, run_eqB ht]

/-! ### Values that are made of numbers only: equality is that of the numbers -/
def flF (f : TypeId → Option Nat) : List Field → Nat → Option Nat
  | [], acc => some acc
  | x :: fs, acc => match f x.type with
    | some k => if x.name != "_" && x.offset == acc then flF f fs (acc + k) else none
    | none => none
def agB (P : Program) (t : TypeId) : Bool := match P.underlying t with | some (.struct _) | some (.array _ _) => true | _ => false
/-- How many numbers a value of the type is. -/
def fl (P : Program) : Nat → TypeId → Option Nat
  | 0, _ => none
  | d + 1, t =>
    match P.underlying t with
    | some (.int q) => if q = .i64 ∧ sh P t = some (false, 1) then some 1 else none
    | some (.struct fs) => if P.stoodInHeld t then none else match flF (fl P d) fs.toList 0 with
      | some k => if sh P t = some (true, k) then some k else none
      | none => none
    | some (.array m e) => match fl P d e with
      | some k => if sh P t = some (true, m * k) && P.cellsOf e == k && (P.info? e).isSome then some (m * k) else none
      | none => none
    | _ => none
def vOf (b : Bool) (xs : List Int) : Value := if b then .agg (ivs xs).toArray else iv (xs.getD 0 0)
theorem fl_sh : ∀ {d : Nat} {t : TypeId} {k : Nat}, fl P d t = some k → sh P t = some (agB P t, k)
  | 0, _, _, h => by simp [fl] at h
  | d + 1, t, k, h => by
    unfold fl at h
    unfold agB
    split at h
    · rename_i hu
      split at h
      · rename_i h2; simp only [Option.some.injEq] at h; subst h; rw [hu]; exact h2.2
      · cases h
    · rename_i hu
      split at h
      · cases h
      · split at h
        · split at h
          · rename_i h2; simp only [Option.some.injEq] at h; subst h; rw [hu]; exact h2
          · cases h
        · cases h
    · rename_i hu
      split at h
      · split at h
        · rename_i h2
          simp only [Option.some.injEq] at h; subst h; rw [hu]
          simp only [Bool.and_eq_true, decide_eq_true_eq] at h2
          exact h2.1.1
        · cases h
      · cases h
    · cases h
theorem fl_one {d : Nat} {t : TypeId} {k : Nat} (h : fl P d t = some k) (hb : agB P t = false) : k = 1 := by
  cases d with
  | zero => simp [fl] at h
  | succ d =>
    unfold fl at h
    unfold agB at hb
    split at h
    · split at h
      · simpa using h.symm
      · cases h
    · rename_i hu; rw [hu] at hb; cases hb
    · rename_i hu; rw [hu] at hb; cases hb
    · cases h
theorem part_fl {t : TypeId} {d k off : Nat} {xs : List Int} (h : fl P d t = some k) (hl : off + k ≤ xs.length) (w : World) : (part t (ivs xs).toArray off).run P w = .ok (vOf (agB P t) ((xs.drop off).take k)) w := by
  refine run_part (fl_sh h) w ?_
  cases hb : agB P t with
  | true => simp only [if_true, vOf]; rw [ivs_seg]
  | false =>
    have := fl_one h hb
    subst this
    simp only [Bool.false_eq_true, if_false, vOf]
    rw [ivs_get (by omega)]
    simp [List.getD, List.getElem?_take]
theorem take_eq_drop {xs ys : List Int} {a k n : Nat} (hx : xs.length = n) (hy : ys.length = n) : (xs.drop a = ys.drop a) ↔ ((xs.drop a).take k = (ys.drop a).take k ∧ xs.drop (a + k) = ys.drop (a + k)) := by
  constructor
  · intro h
    refine ⟨by rw [h], ?_⟩
    rw [← List.drop_drop, ← List.drop_drop, h]
  · rintro ⟨h1, h2⟩
    rw [← List.drop_drop, ← List.drop_drop] at h2
    rw [← List.take_append_drop k (xs.drop a), h1, h2, List.take_append_drop]
def EqFl (P : Program) (D d : Nat) : Prop := ∀ (t : TypeId) (k : Nat) (xs ys : List Int) (w : World), fl P d t = some k → xs.length = k → ys.length = k → (Op.equalIn (D + d) t (vOf (agB P t) xs) (vOf (agB P t) ys)).run P w = .ok (decide (xs = ys)) w
theorem flF_le (f : TypeId → Option Nat) : ∀ (fs : List Field) (acc n : Nat), flF f fs acc = some n → acc ≤ n
  | [], acc, n, h => by simp [flF] at h; omega
  | x :: fs, acc, n, h => by
    simp only [flF] at h
    split at h
    · split at h
      · have := flF_le f fs _ _ h; omega
      · cases h
    · cases h
theorem eqFields_fl {D d : Nat} (ih : EqFl P D d) {xs ys : List Int} {n : Nat} (hx : xs.length = n) (hy : ys.length = n) (w : World) : ∀ (fs : List Field) (acc : Nat), flF (fl P d) fs acc = some n →
    (Op.eqFields (D + d) (ivs xs).toArray (ivs ys).toArray fs).run P w = .ok (decide (xs.drop acc = ys.drop acc)) w
  | [], acc, h => by
    simp only [flF, Option.some.injEq] at h
    subst h
    simp [Op.eqFields, List.drop_eq_nil_of_le (show xs.length ≤ acc by omega), List.drop_eq_nil_of_le (show ys.length ≤ acc by omega)]
  | x :: fs, acc, h => by
    simp only [flF] at h
    split at h
    · rename_i k hk
      split at h
      · rename_i hc
        simp only [Bool.and_eq_true, bne_iff_ne, ne_eq, beq_iff_eq] at hc
        obtain ⟨hc1, hc2⟩ := hc
        have hle := flF_le _ _ _ _ h
        have e1 := eqFields_fl ih hx hy w fs (acc + k) h
        have e2 := ih x.type k ((xs.drop acc).take k) ((ys.drop acc).take k) w hk (by simp; omega) (by simp; omega)
        simp only [Op.eqFields, hc1, ne_eq, not_false_eq_true, if_true, Sem.run_bind, hc2, part_fl hk (show acc + k ≤ xs.length by omega), part_fl hk (show acc + k ≤ ys.length by omega), Result.andThen_ok, e2]
        by_cases hh : (xs.drop acc).take k = (ys.drop acc).take k
        · simp only [hh, decide_true, Bool.not_true, Bool.false_eq_true, if_false, e1]
          congr 1
          exact decide_eq_decide.2 ⟨fun g => (take_eq_drop hx hy).2 ⟨hh, g⟩, fun g => ((take_eq_drop (k := k) hx hy).1 g).2⟩
        · simp only [hh, decide_false, Bool.not_false, if_true, Sem.run_pure]
          congr 1
          exact (decide_eq_false fun g => hh ((take_eq_drop (k := k) hx hy).1 g).1).symm
      · cases h
    · cases h
theorem eqItems_fl {D d : Nat} (ih : EqFl P D d) {e : TypeId} {k : Nat} (hk : fl P d e = some k) {xs ys : List Int} {n : Nat} (hx : xs.length = n * k) (hy : ys.length = n * k) (w : World) : ∀ (m a : Nat), a + m = n →
    (Op.eqItems (D + d) e k (ivs xs).toArray (ivs ys).toArray (List.range' a m)).run P w = .ok (decide (xs.drop (a * k) = ys.drop (a * k))) w
  | 0, a, h => by
    simp only [Nat.add_zero] at h
    subst h
    simp [Op.eqItems, List.drop_eq_nil_of_le (show xs.length ≤ a * k by omega), List.drop_eq_nil_of_le (show ys.length ≤ a * k by omega)]
  | m + 1, a, h => by
    have hle : a * k + k ≤ n * k := by
      have := Nat.mul_le_mul_right k (show a + 1 ≤ n by omega)
      rwa [Nat.add_mul, Nat.one_mul] at this
    have e1 := eqItems_fl ih hk hx hy w m (a + 1) (by omega)
    have e2 := ih e k ((xs.drop (a * k)).take k) ((ys.drop (a * k)).take k) w hk (by simp; omega) (by simp; omega)
    rw [List.range'_succ]
    simp only [Op.eqItems, Sem.run_bind, part_fl hk (show a * k + k ≤ xs.length by omega), part_fl hk (show a * k + k ≤ ys.length by omega), Result.andThen_ok, e2]
    rw [show (a + 1) * k = a * k + k by rw [Nat.add_mul, Nat.one_mul]] at e1
    by_cases hh : (xs.drop (a * k)).take k = (ys.drop (a * k)).take k
    · simp only [hh, decide_true, Bool.not_true, Bool.false_eq_true, if_false, e1]
      congr 1
      exact decide_eq_decide.2 ⟨fun g => (take_eq_drop hx hy).2 ⟨hh, g⟩, fun g => ((take_eq_drop (k := k) hx hy).1 g).2⟩
    · simp only [hh, decide_false, Bool.not_false, if_true, Sem.run_pure]
      congr 1
      exact (decide_eq_false fun g => hh ((take_eq_drop (k := k) hx hy).1 g).1).symm
theorem eq_fl (D : Nat) : ∀ d, EqFl P D d
  | 0, t, k, xs, ys, w, h, _, _ => by simp [fl] at h
  | d + 1, t, k, xs, ys, w, h, hx, hy => by
    have ih := eq_fl D d
    unfold fl at h
    unfold agB
    split at h
    · rename_i q hu
      split at h
      · simp only [Option.some.injEq] at h
        subst h
        match xs, ys, hx, hy with
        | [x], [y], _, _ =>
          rw [hu]
          simp only [vOf, Bool.false_eq_true, if_false]
          show (Op.equalIn (D + d + 1) t (.int .i64 x) (.int .i64 y)).run P w = _
          rw [run_equalIn_int w (D + d) t .i64 q x y hu]
          by_cases hxy : x = y <;> simp [hxy]
      · cases h
    · rename_i fs hu
      split at h
      · cases h
      · rename_i hst
        split at h
        · rename_i k' hf
          split at h
          · simp only [Option.some.injEq] at h
            subst h
            rw [hu]
            simp only [vOf, if_true]
            have e0 : P.fieldsOf t = fs := by simp [Program.fieldsOf, hu]
            rw [show D + (d + 1) = D + d + 1 from rfl, run_equalIn_struct w (D + d) t _ _ (by rw [e0]; exact hu) (by simpa using hst), e0]
            rw [eqFields_fl ih hx hy w fs.toList 0 hf]
            simp
          · cases h
        · cases h
    · rename_i m e hu
      split at h
      · rename_i k' hk
        split at h
        · rename_i h2
          simp only [Option.some.injEq] at h; subst h
          simp only [Bool.and_eq_true, decide_eq_true_eq, beq_iff_eq] at h2
          obtain ⟨⟨_, h3⟩, h4⟩ := h2
          obtain ⟨i, hi⟩ := Option.isSome_iff_exists.1 h4
          rw [hu]
          simp only [vOf, if_true]
          rw [show D + (d + 1) = D + d + 1 from rfl, run_equalIn_array w (D + d) _ _ hu hi, h3, List.range_eq_range']
          rw [eqItems_fl ih hk hx hy w m 0 (by omega)]
          simp
        · cases h
      · cases h
    · cases h
/-- The type is made of k numbers; so is every value of it. -/
def eqt (P : Program) (t : TypeId) : Option Nat := if P.eqGuardType P.depth t = false ∧ agB P t = true then fl P 5 t else none
theorem run_eqA {t : TypeId} {k : Nat} {xs ys : List Int} (h : eqt P t = some k) (hx : xs.length = k) (hy : ys.length = k) (w : World) : (Op.equal t (.agg (ivs xs).toArray) (.agg (ivs ys).toArray)).run P w = .ok (decide (xs = ys)) w := by
  unfold eqt at h
  split at h
  · rename_i hc
    have := eq_fl (P := P) 9995 5 t k xs ys w h hx hy
    rw [hc.2] at this
    exact this
  · cases h
theorem o_eqlA {t t' : TypeId} {x y : Operand} {k : Nat} {xs ys : List Int} (ht : eqt P t = some k) (hx : opv fr x = some (.agg (ivs xs).toArray)) (hy : opv fr y = some (.agg (ivs ys).toArray)) (h1 : xs.length = k) (h2 : ys.length = k) : OpF P n B w0 (.binOp .eql t x y t') ty fr hs (.bool (decide (xs = ys))) := fun a w ha _ => by
  have hg : P.eqGuardType P.depth t = false := by unfold eqt at ht; split at ht; exact (by assumption : _ ∧ _).1; cases ht
  simp [ex, execOp, ha.opv hx, ha.opv hy, run_eqGuard_agg w _ _ _ _ _ _ hg, binOp, run_eqA ht h1 h2]
theorem o_neqA {t t' : TypeId} {x y : Operand} {k : Nat} {xs ys : List Int} (ht : eqt P t = some k) (hx : opv fr x = some (.agg (ivs xs).toArray)) (hy : opv fr y = some (.agg (ivs ys).toArray)) (h1 : xs.length = k) (h2 : ys.length = k) : OpF P n B w0 (.binOp .neq t x y t') ty fr hs (.bool (decide (xs ≠ ys))) := fun a w ha _ => by
  have hg : P.eqGuardType P.depth t = false := by unfold eqt at ht; split at ht; exact (by assumption : _ ∧ _).1; cases ht
  simp only [ex, execOp, ha.opv hx, ha.opv hy, Sem.run_bind, run_eqGuard_agg w _ _ _ _ _ _ hg, binOp, run_eqA ht h1 h2]
  by_cases h : xs = ys <;> simp [h, run_eqA ht h1 h2]
theorem o_eqlA2 {t t' : TypeId} {x y : Operand} {a b c d : Int} (ht : eqt P t = some 2) (hx : opv fr x = some (.agg #[iv a, iv b])) (hy : opv fr y = some (.agg #[iv c, iv d])) : OpF P n B w0 (.binOp .eql t x y t') ty fr hs (.bool (decide (a = c ∧ b = d))) := by
  have h := o_eqlA (P := P) (n := n) (B := B) (w0 := w0) (fr := fr) (hs := hs) (ty := ty) (t' := t') (xs := [a, b]) (ys := [c, d]) ht hx hy rfl rfl
  rwa [show decide ([a, b] = [c, d]) = decide (a = c ∧ b = d) from decide_eq_decide.2 (by simp)] at h
theorem o_neqA2 {t t' : TypeId} {x y : Operand} {a b c d : Int} (ht : eqt P t = some 2) (hx : opv fr x = some (.agg #[iv a, iv b])) (hy : opv fr y = some (.agg #[iv c, iv d])) : OpF P n B w0 (.binOp .neq t x y t') ty fr hs (.bool (decide (¬ (a = c ∧ b = d)))) := by
  have h := o_neqA (P := P) (n := n) (B := B) (w0 := w0) (fr := fr) (hs := hs) (ty := ty) (t' := t') (xs := [a, b]) (ys := [c, d]) ht hx hy rfl rfl
  rwa [show decide ([a, b] ≠ [c, d]) = decide (¬ (a = c ∧ b = d)) from decide_eq_decide.2 (by simp)] at h
theorem o_eqlA3 {t t' : TypeId} {x y : Operand} {a b e c d f : Int} (ht : eqt P t = some 3) (hx : opv fr x = some (.agg #[iv a, iv b, iv e])) (hy : opv fr y = some (.agg #[iv c, iv d, iv f])) : OpF P n B w0 (.binOp .eql t x y t') ty fr hs (.bool (decide (a = c ∧ b = d ∧ e = f))) := by
  have h := o_eqlA (P := P) (n := n) (B := B) (w0 := w0) (fr := fr) (hs := hs) (ty := ty) (t' := t') (xs := [a, b, e]) (ys := [c, d, f]) ht hx hy rfl rfl
  rwa [show decide ([a, b, e] = [c, d, f]) = decide (a = c ∧ b = d ∧ e = f) from decide_eq_decide.2 (by simp)] at h
theorem o_neqA3 {t t' : TypeId} {x y : Operand} {a b e c d f : Int} (ht : eqt P t = some 3) (hx : opv fr x = some (.agg #[iv a, iv b, iv e])) (hy : opv fr y = some (.agg #[iv c, iv d, iv f])) : OpF P n B w0 (.binOp .neq t x y t') ty fr hs (.bool (decide (¬ (a = c ∧ b = d ∧ e = f)))) := by
  have h := o_neqA (P := P) (n := n) (B := B) (w0 := w0) (fr := fr) (hs := hs) (ty := ty) (t' := t') (xs := [a, b, e]) (ys := [c, d, f]) ht hx hy rfl rfl
  rwa [show decide ([a, b, e] ≠ [c, d, f]) = decide (¬ (a = c ∧ b = d ∧ e = f)) from decide_eq_decide.2 (by simp)] at h
end
end Go.Proofs.Ytlijcnocahplbaa
