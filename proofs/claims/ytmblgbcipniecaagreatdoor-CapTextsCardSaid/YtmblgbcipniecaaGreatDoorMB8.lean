/- From a contract to the given statement: how arguments are opened, and how a law's post is met when memory is only added to. -/
import Derived.Test.YtmblgbcipniecaaGreatDoorMA1
import Derived.ProofKit
import Derived.OpenShut
import Derived.Test.YtmblgbcipniecaaGreatDoorMA2
import Derived.Deep.Slices
import Derived.Test.YtmblgbcipniecaaGreatDoorMB7
namespace Go.Proofs.YtmblgbcipniecaaGreatDoor
open Go.RowKit Go.ChangeShapes Go.WideShapes Go.ChangeAt

theorem ownK : ownKnob Tryz.prog.godebug = none := by kernel_rfl
theorem laidK : laidOutB Tryz.prog = true := by kernel_rfl
/-- What a law's function is asked: its arguments' types can be read. -/
def Readable (ts : List TypeId) : Prop := AllZ (fun t => Tryz.prog.readableRec t = true ∧ t < Tryz.prog.types.size) ts

theorem below_trodAll {H : Type} {enc : TypeId × Value → H} {W W' : World} (hb : Below W.heap.size W W') : ∀ (ts : List TypeId) (vs : List Value) (ds : List (DataW H)) (ps : List MemPlace), Readable ts →
    DataW.TrodAll enc Tryz.prog W 0 (fun _ => true) true ts vs ds ps → (∀ x ∈ ps, x.block < W.heap.size) → DataW.TrodAll enc Tryz.prog W' 0 (fun b => decide (b < W.heap.size)) true ts vs ds ps
  | [], vs, ds, ps, _, h, _ => by
    obtain ⟨rfl, rfl, rfl⟩ := trodAll_nil h
    exact rfl
  | t :: ts, vs, ds, ps, hr, h, hlt => by
    obtain ⟨v, vs', d, ds', p, q, rfl, rfl, rfl, h1, h2⟩ := trodAll_cons h
    exact ⟨p, q, Below.trod laidK hr.1.1 hr.1.2 h1 hb (fun x hx => hlt x (List.mem_append.2 (.inl hx))), below_trodAll hb ts vs' ds' q hr.2 h2 (fun x hx => hlt x (List.mem_append.2 (.inr hx))), rfl⟩

/-- The law has returned true, and memory was only added to. -/
theorem law_post {H : Type} {enc : TypeId × Value → H} {f : Func} {s : ChangeSpec} {W W' : World} {args : Array Value} {ds gs : List (DataW H)} {before : List MemPlace} (hvars : s.vars = []) (hts : Readable f.params.toList) (hrt : f.resultTypes = #[4])
    (hW : DataW.Whole enc Tryz.prog f.params.toList s.vars false W args.toList ds gs before) (hfn : (s.fn H ds).results = [.lit (.bool true)] ∧ (s.fn H ds).args = ds ∧ (s.fn H ds).vars = []) (hb : Below W.heap.size W W') :
    s.post enc Tryz.prog f false true false false W args (.bool true) W' := by
  have hlt := hW.lt
  have hW0 := hW
  obtain ⟨p, q, hA, hV, hpq, hfz, hnd⟩ := hW
  rw [hvars] at hV
  obtain ⟨rfl, rfl⟩ := trodVars_none hV
  rw [List.append_nil] at hpq
  subst hpq
  refine ⟨ds, [], before, [], before, [], hW0, ?_, ?_, ?_, hb.frame _, fun h => by cases h⟩
  · rw [List.append_nil, hfn.1, hrt]
    exact trodAll_mk1 (shut_bool Tryz.underlying4 true)
  · rw [List.append_nil, hfn.2.1]
    exact below_trodAll hb _ _ _ _ hts hA hlt
  · rw [List.append_nil, hfn.2.2, hvars]
    exact rfl

/-- The contract of a law, as the row wants it. -/
theorem law_calls {f : Nat} {args : List Value} {W : World} (h : Fn Tryz.prog f args.toArray W.heap.size ⟨W, []⟩ [] (fun v _ => v = .bool true)) : Calls Tryz.prog f args.toArray W fun e W' => e = .returned (.bool true) ∧ Below W.heap.size W W' :=
  ((fn_el h) W (Hp.refl W)).mono fun _ _ ⟨_, _, he, hv, hw⟩ => ⟨by rw [he, hv], hw.below⟩

theorem sl_some {W : World} {a : Addr} {l : List Int} (h : ∀ i, i < l.length → W.cell? (a.add i) = some (.int .i64 (l.getD i 0))) : Sl W.heap.size ⟨W, []⟩ [] (some a) l := fun i hi => ⟨rfl, fun w hw => by
  have h1 := h i hi
  have h2 := World.block_lt_of_cell? W _ h1
  rw [ea_some, hw.below.cell h2]; exact h1⟩
/-- A slice of numbers, opened. -/
theorem open_sl {H : Type} {enc : TypeId × Value → H} {W : World} {t : TypeId} {fuel : Nat} {cs : List Value} {x : DataW H × List MemPlace} (ht : Tryz.prog.underlying t = some (.slice 3)) (h : DataW.trod enc Tryz.prog W 0 (fun _ => true) true fuel t cs = some x) :
    ∃ (oa : Option Addr) (c : Nat) (l : List Int), cs = [.slice oa l.length c] ∧ Sl W.heap.size ⟨W, []⟩ [] oa l ∧ l.length ≤ maxLen ∧ ∀ y ∈ l, InI y := by
  rcases open_ints ht Tryz.underlying3 (by kernel_rfl) h with ⟨rfl, _⟩ | ⟨a, len, cap, zs, rfl, _, hl, hm, hlen, _, hc, hw⟩
  · exact ⟨none, 0, [], rfl, fun i hi => by simp at hi, by simp [maxLen], fun y hy => by cases hy⟩
  · simp only [if_true] at hlen
    refine ⟨some a, cap, zs.take len, by simp [hlen, hl], sl_some (fun i hi => ?_), by simp; omega, fun y hy => ?_⟩
    · simp only [List.length_take] at hi
      rw [hc i (by omega)]
      simp [List.getD, show i < len by omega]
    · have := bounds_i64 (hw y (List.mem_of_mem_take hy))
      exact ⟨by omega, by omega⟩
theorem wf_in {x : Int} (h : (Lit.int .i64 x).wf = true) : InI x := by
  simp only [Lit.wf, Bool.and_eq_true, decide_eq_true_eq] at h
  exact ⟨by have := h.1; rw [show IntKind.i64.min = -9223372036854775808 from by decide] at this; exact this, by have := h.2; rw [show IntKind.i64.max = 9223372036854775807 from by decide] at this; exact this⟩
end Go.Proofs.YtmblgbcipniecaaGreatDoor

namespace Go.Proofs.YtmblgbcipniecaaGreatDoor
open Go.RowKit Go.ChangeShapes Go.WideShapes Go.ChangeAt

theorem len_1 {α : Type} {l : List α} (h : l.length = 1) : ∃ a0, l = [a0] := by
  match l, h with
  | [a0], _ => exact ⟨a0, rfl⟩
theorem len_2 {α : Type} {l : List α} (h : l.length = 2) : ∃ a0 a1, l = [a0, a1] := by
  match l, h with
  | [a0, a1], _ => exact ⟨a0, a1, rfl⟩
theorem len_3 {α : Type} {l : List α} (h : l.length = 3) : ∃ a0 a1 a2, l = [a0, a1, a2] := by
  match l, h with
  | [a0, a1, a2], _ => exact ⟨a0, a1, a2, rfl⟩
theorem len_4 {α : Type} {l : List α} (h : l.length = 4) : ∃ a0 a1 a2 a3, l = [a0, a1, a2, a3] := by
  match l, h with
  | [a0, a1, a2, a3], _ => exact ⟨a0, a1, a2, a3, rfl⟩
theorem len_5 {α : Type} {l : List α} (h : l.length = 5) : ∃ a0 a1 a2 a3 a4, l = [a0, a1, a2, a3, a4] := by
  match l, h with
  | [a0, a1, a2, a3, a4], _ => exact ⟨a0, a1, a2, a3, a4, rfl⟩
theorem len_6 {α : Type} {l : List α} (h : l.length = 6) : ∃ a0 a1 a2 a3 a4 a5, l = [a0, a1, a2, a3, a4, a5] := by
  match l, h with
  | [a0, a1, a2, a3, a4, a5], _ => exact ⟨a0, a1, a2, a3, a4, a5, rfl⟩
theorem len_7 {α : Type} {l : List α} (h : l.length = 7) : ∃ a0 a1 a2 a3 a4 a5 a6, l = [a0, a1, a2, a3, a4, a5, a6] := by
  match l, h with
  | [a0, a1, a2, a3, a4, a5, a6], _ => exact ⟨a0, a1, a2, a3, a4, a5, a6, rfl⟩
theorem len_8 {α : Type} {l : List α} (h : l.length = 8) : ∃ a0 a1 a2 a3 a4 a5 a6 a7, l = [a0, a1, a2, a3, a4, a5, a6, a7] := by
  match l, h with
  | [a0, a1, a2, a3, a4, a5, a6, a7], _ => exact ⟨a0, a1, a2, a3, a4, a5, a6, a7, rfl⟩
section
variable {H : Type} {enc : TypeId × Value → H} {P : Program} {W : World}
/-- These cells came in as a value of the type. -/
def OpT (enc : TypeId × Value → H) (P : Program) (W : World) (t : TypeId) (cs : List Value) : Prop := ∃ fuel x, DataW.trod enc P W 0 (fun _ => true) true fuel t cs = some x
theorem OpT.of {t : TypeId} {v : Value} {d : DataW H} {p : List MemPlace} (h : DataW.Trod enc P W 0 (fun _ => true) true t v d p) : OpT enc P W t v.cells.toList := let ⟨f, h⟩ := h; ⟨f, _, h⟩
theorem sh_cells {t : TypeId} {b : Bool} {k : Nat} (h : sh P t = some (b, k)) : P.cellsOf t = k := by
  unfold sh at h
  split at h
  · rename_i i d h1 h2
    simp only [Option.some.injEq, Prod.mk.injEq] at h
    simp [Program.cellsOf, h1, h.2]
  · cases h
theorem opt_struct {t : TypeId} {fs : Array Field} {cs : List Value} (hu : P.underlying t = some (.struct fs)) (h : OpT enc P W t cs) : cs.length = P.cellsOf t ∧ ∀ (i : Nat) (f : Field), fs[i]? = some f → OpT enc P W f.type ((cs.drop f.offset).take (P.cellsOf f.type)) := by
  obtain ⟨fuel, x, h⟩ := h
  obtain ⟨xs, n, _, _, hl, hlen, hf⟩ := DataW.trod_struct hu h
  refine ⟨hl, fun i f hi => ?_⟩
  have h1 := hf i f hi
  have h2 : i < fs.size := (Array.getElem?_eq_some_iff.1 hi).1
  rw [List.getElem?_eq_getElem (by omega)] at h1
  exact ⟨n, _, h1⟩
theorem opt_array {t e : TypeId} {m : Nat} {cs : List Value} (hu : P.underlying t = some (.array m e)) (h : OpT enc P W t cs) : cs.length = P.cellsOf t ∧ ∀ i, i < m → OpT enc P W e ((cs.drop (i * P.cellsOf e)).take (P.cellsOf e)) := by
  obtain ⟨fuel, x, h⟩ := h
  obtain ⟨xs, n, _, _, hl, hlen, hf⟩ := DataW.trod_array hu h
  refine ⟨hl, fun i hi => ?_⟩
  have h1 := hf i hi
  rw [List.getElem?_eq_getElem (by omega)] at h1
  exact ⟨n, _, h1⟩
theorem opt_bool {t : TypeId} {cs : List Value} (hu : P.underlying t = some .bool) (h : OpT enc P W t cs) : ∃ b, cs = [.bool b] := by
  obtain ⟨fuel, x, h⟩ := h
  obtain ⟨b, h1, _⟩ := DataW.trod_bool hu h
  exact ⟨b, h1⟩
/-- The cells are numbers that fit. -/
def Ints (k : Nat) (cs : List Value) : Prop := ∃ xs : List Int, cs = ivs xs ∧ xs.length = k ∧ ∀ x ∈ xs, InI x
theorem Ints.app {a b : Nat} {cs ds : List Value} (h1 : Ints a cs) (h2 : Ints b ds) : Ints (a + b) (cs ++ ds) := by
  obtain ⟨xs, rfl, rfl, hx⟩ := h1
  obtain ⟨ys, rfl, rfl, hy⟩ := h2
  refine ⟨xs ++ ys, by simp [ivs], by simp, fun z hz => ?_⟩
  rcases List.mem_append.1 hz with hz | hz
  · exact hx z hz
  · exact hy z hz
theorem ints_fields {f : TypeId → Option Nat} {cs : List Value} (hf : ∀ t k ds, f t = some k → OpT enc P W t ds → Ints k ds) (hsh : ∀ t k, f t = some k → P.cellsOf t = k) : ∀ (fs : List Field) (acc n : Nat), flF f fs acc = some n →
    (∀ x ∈ fs, OpT enc P W x.type ((cs.drop x.offset).take (P.cellsOf x.type))) → cs.length = n → Ints (n - acc) (cs.drop acc)
  | [], acc, n, h, _, hl => by
    simp only [flF, Option.some.injEq] at h
    subst h
    rw [List.drop_eq_nil_of_le (by omega)]
    exact ⟨[], rfl, by simp, by simp⟩
  | x :: fs, acc, n, h, ho, hl => by
    simp only [flF] at h
    split at h
    · rename_i k hk
      split at h
      · rename_i hc
        simp only [Bool.and_eq_true, bne_iff_ne, ne_eq, beq_iff_eq] at hc
        have hle := flF_le _ _ _ _ h
        have e1 := ints_fields hf hsh fs _ _ h (fun y hy => ho y (.tail _ hy)) hl
        have e2 := hf _ _ _ hk (ho x (.head _))
        rw [hc.2, hsh _ _ hk] at e2
        have := e2.app e1
        rw [← List.drop_drop, List.take_append_drop, show k + (n - (acc + k)) = n - acc by omega] at this
        exact this
      · cases h
    · cases h
theorem ints_items {cs : List Value} {k m : Nat} (ho : ∀ i, i < m → Ints k ((cs.drop (i * k)).take k)) : ∀ a, a ≤ m → a * k ≤ cs.length → Ints (a * k) (cs.take (a * k))
  | 0, _, _ => ⟨[], by simp [ivs], by simp, by simp⟩
  | a + 1, h, hl => by
    have e0 : (a + 1) * k = a * k + k := by rw [Nat.add_mul, Nat.one_mul]
    rw [e0] at hl ⊢
    have e1 := ints_items ho a (by omega) (by omega)
    have := e1.app (ho a (by omega))
    rwa [← List.take_add] at this
theorem opt_flat : ∀ (d : Nat) (t : TypeId) (k : Nat) (cs : List Value), fl P d t = some k → OpT enc P W t cs → Ints k cs
  | 0, _, _, _, h, _ => by simp [fl] at h
  | d + 1, t, k, cs, h, ho => by
    have hs := sh_cells (fl_sh h)
    have ih := opt_flat d
    unfold fl at h
    split at h
    · rename_i q hu
      split at h
      · rename_i h2
        simp only [Option.some.injEq] at h
        subst h
        obtain ⟨fuel, x, ho⟩ := ho
        obtain ⟨z, h1, _, h3⟩ := DataW.trod_int hu ho
        rw [h2.1] at h1 h3
        exact ⟨[z], by rw [h1]; rfl, rfl, by simpa using wf_in h3⟩
      · cases h
    · rename_i fs hu
      split at h
      · cases h
      · split at h
        · rename_i k' hf
          split at h
          · simp only [Option.some.injEq] at h
            subst h
            obtain ⟨h1, h2⟩ := opt_struct hu ho
            have := ints_fields (enc := enc) (W := W) (P := P) (f := fl P d) (cs := cs) (fun t k ds hk => ih t k ds hk) (fun t k hk => sh_cells (fl_sh hk)) fs.toList 0 k' hf (fun x hx => by
              obtain ⟨i, hi, rfl⟩ := List.mem_iff_getElem.1 hx
              exact h2 i _ (by simp only [Array.getElem_toList]; exact Array.getElem?_eq_getElem (by simpa using hi))) (by omega)
            simpa using this
          · cases h
        · cases h
    · rename_i m e hu
      split at h
      · rename_i k' hk
        split at h
        · simp only [Option.some.injEq] at h; subst h
          obtain ⟨h1, h2⟩ := opt_array hu ho
          rw [sh_cells (fl_sh hk)] at h2
          have := ints_items (cs := cs) (k := k') (m := m) (fun i hi => ih _ _ _ hk (h2 i hi)) m (Nat.le_refl _) (by omega)
          rwa [List.take_of_length_le (by omega)] at this
        · cases h
      · cases h
    · cases h
/-- A slice, opened: each element came in. -/
theorem opt_slice {t e : TypeId} {cs : List Value} (hu : P.underlying t = some (.slice e)) (h : OpT enc P W t cs) :
    ∃ (oa : Option Addr) (len c : Nat) (X : Nat → List Value), cs = [.slice oa len c] ∧ len ≤ c ∧ c ≤ maxLen ∧ (len = 0 ∨ oa.isSome = true) ∧ ∀ i, i < len → OpT enc P W e (X i) ∧ (X i).length = P.cellsOf e ∧ ∀ j, j < P.cellsOf e → ∀ a, oa = some a → W.cell? (a.add (i * P.cellsOf e + j)) = (X i)[j]? := by
  obtain ⟨fuel, x, h⟩ := h
  rcases Go.Deep.open_slice hu h with ⟨rfl, _⟩ | ⟨a, len, cap, m, n, D, Pl, rfl, _, hlc, hc, hm, _, hx⟩
  · exact ⟨none, 0, 0, fun _ => [], rfl, by omega, by simp [maxLen], .inl rfl, fun i hi => by omega⟩
  · simp only [if_true] at hm
    subst hm
    have hx' : ∀ i, ∃ cs', i < m → W.cells? 0 (a.add (i * P.cellsOf e)) (P.cellsOf e) = some cs' ∧ DataW.trod enc P W 0 (fun _ => true) true n e cs' = some (D i, Pl i) := fun i => by
      by_cases hi : i < m
      · obtain ⟨c, h⟩ := hx i hi; exact ⟨c, fun _ => h⟩
      · exact ⟨[], fun h => absurd h hi⟩
    let X : Nat → List Value := fun i => Classical.choose (hx' i)
    refine ⟨some a, len, m, X, rfl, hlc, hc, .inr rfl, fun i hi => ?_⟩
    obtain ⟨h1, h2⟩ := Classical.choose_spec (hx' i) (by omega)
    obtain ⟨_, h3, h4⟩ := World.cells?_some h1
    refine ⟨⟨n, _, h2⟩, h3, fun j hj b hb => ?_⟩
    cases hb
    have := h4 j hj
    rwa [Addr.add_add] at this
/-- A slice of what is made of numbers. -/
theorem opt_ints {t e : TypeId} {d k : Nat} {cs : List Value} (hu : P.underlying t = some (.slice e)) (hk : fl P d e = some k) (h : OpT enc P W t cs) :
    ∃ (oa : Option Addr) (len c : Nat) (l : List Int), cs = [.slice oa len c] ∧ l.length = len * k ∧ len ≤ c ∧ c ≤ maxLen ∧ (∀ x ∈ l, InI x) ∧ Sl W.heap.size ⟨W, []⟩ [] oa l := by
  obtain ⟨oa, len, c, X, rfl, h1, h2, h3, hx⟩ := opt_slice hu h
  have hs := sh_cells (fl_sh hk)
  rw [hs] at hx
  have key : ∀ a, a ≤ len → ∃ l : List Int, l.length = a * k ∧ (∀ x ∈ l, InI x) ∧ ∀ i, i < l.length → ∀ b, oa = some b → W.cell? (b.add i) = some (iv (l.getD i 0)) := by
    intro a
    induction a with
    | zero => exact fun _ => ⟨[], by simp, by simp, fun i hi => by simp at hi⟩
    | succ a ih =>
      intro ha
      obtain ⟨l, e1, e2, e3⟩ := ih (by omega)
      obtain ⟨g1, g2, g3⟩ := hx a (by omega)
      obtain ⟨ys, f1, f2, f3⟩ := opt_flat d e k _ hk g1
      refine ⟨l ++ ys, by simp [e1, f2, Nat.add_mul], fun x hx => ?_, fun i hi b hb => ?_⟩
      · rcases List.mem_append.1 hx with hx | hx
        · exact e2 x hx
        · exact f3 x hx
      · by_cases hil : i < l.length
        · rw [e3 i hil b hb]; simp only [List.getD]; rw [List.getElem?_append_left hil]
        · simp only [List.length_append] at hi
          have := g3 (i - l.length) (by omega) b hb
          rw [show a * k + (i - l.length) = i by omega, f1, ivs_get (by omega)] at this
          rw [this]
          simp only [List.getD]; rw [List.getElem?_append_right (show l.length ≤ i by omega)]
  obtain ⟨l, e1, e2, e3⟩ := key len (Nat.le_refl _)
  refine ⟨oa, len, c, l, rfl, e1, h1, h2, e2, fun i hi => ?_⟩
  have h4 : oa.isSome = true := by
    rcases h3 with h3 | h3
    · subst h3; simp at e1; rw [e1] at hi; simp at hi
    · exact h3
  refine ⟨h4, ?_⟩
  obtain ⟨b, rfl⟩ := Option.isSome_iff_exists.1 h4
  exact (sl_some (fun j hj => e3 j hj b rfl) i hi).2
theorem val_agg {base : Nat} {t : TypeId} {v : Value} (hb : agB P t = true) (h : Value.okWide P W .any base t v) : ∃ cs : List Value, v = .agg cs.toArray := by
  unfold agB at hb
  unfold Value.okWide at h
  split at hb
  · rename_i hu
    rw [hu] at h
    obtain ⟨cs, rfl, _⟩ := h
    exact ⟨cs.toList, rfl⟩
  · rename_i hu
    rw [hu] at h
    obtain ⟨cs, rfl, _⟩ := h
    exact ⟨cs.toList, rfl⟩
  · cases hb
/-- A number; a struct that is made of numbers; a slice of such. -/
theorem arg_int {base : Nat} {t : TypeId} {v : Value} {d : DataW H} {p : List MemPlace} (hu : P.underlying t = some (.int .i64)) (hv : Value.okWide P W .any base t v) (h : DataW.Trod enc P W 0 (fun _ => true) true t v d p) : ∃ z, v = iv z ∧ InI z := by
  obtain ⟨z, rfl, _, _, hI⟩ := open_int hu hv h
  exact ⟨z, rfl, wf_in hI⟩
theorem arg_flat {base : Nat} {t : TypeId} {v : Value} {d : DataW H} {p : List MemPlace} {m k : Nat} (hk : fl P m t = some k) (hb : agB P t = true) (hv : Value.okWide P W .any base t v) (h : DataW.Trod enc P W 0 (fun _ => true) true t v d p) :
    ∃ xs : List Int, v = .agg (ivs xs).toArray ∧ xs.length = k ∧ ∀ x ∈ xs, InI x := by
  obtain ⟨cs, rfl⟩ := val_agg hb hv
  obtain ⟨xs, e, h1, h2⟩ := opt_flat m t k _ hk (OpT.of h)
  exact ⟨xs, by simp only [Value.cells] at e; rw [← e], h1, h2⟩
def slf (P : Program) (m : Nat) (t : TypeId) : Option Nat := match P.underlying t with | some (.slice e) => fl P m e | _ => none
theorem slf_to {m k : Nat} {t : TypeId} (h : slf P m t = some k) : ∃ e, P.underlying t = some (.slice e) ∧ fl P m e = some k := by
  unfold slf at h
  split at h
  · rename_i e hu; exact ⟨e, hu, h⟩
  · cases h
theorem arg_sl {base : Nat} {t : TypeId} {v : Value} {d : DataW H} {p : List MemPlace} {m k : Nat} (hk : slf P m t = some k) (hv : Value.okWide P W .any base t v) (h : DataW.Trod enc P W 0 (fun _ => true) true t v d p) :
    ∃ (oa : Option Addr) (len c : Nat) (l : List Int), v = .slice oa len c ∧ l.length = len * k ∧ len ≤ c ∧ c ≤ maxLen ∧ (∀ x ∈ l, InI x) ∧ Sl W.heap.size ⟨W, []⟩ [] oa l := by
  obtain ⟨e, hu, hk⟩ := slf_to hk
  obtain ⟨a, n, c', rfl⟩ := okWide_slice hu hv
  obtain ⟨oa, len, c, l, he, hh⟩ := opt_ints hu hk (OpT.of h)
  simp only [Value.cells, List.cons.injEq, and_true, Value.slice.injEq] at he
  obtain ⟨rfl, rfl, rfl⟩ := he
  exact ⟨a, n, c', l, rfl, hh⟩
/-- A struct of two slices of numbers. -/
def bdl (P : Program) (t : TypeId) : Bool := match P.underlying t with
  | some (.struct fs) => match fs[0]?, fs[1]? with
    | some f0, some f1 => f0.offset == 0 && f1.offset == 1 && P.cellsOf f0.type == 1 && P.cellsOf f1.type == 1 && P.cellsOf t == 2 && slf P 5 f0.type == some 1 && slf P 5 f1.type == some 1
    | _, _ => false
  | _ => false
theorem opt_bundle {t : TypeId} {cs : List Value} (hb : bdl P t = true) (h : OpT enc P W t cs) :
    ∃ (o1 o2 : Option Addr) (c1 c2 : Nat) (r g : List Int), cs = [.slice o1 r.length c1, .slice o2 g.length c2] ∧ r.length ≤ c1 ∧ g.length ≤ c2 ∧ c1 ≤ maxLen ∧ c2 ≤ maxLen ∧ (∀ x ∈ r, InI x) ∧ (∀ x ∈ g, InI x) ∧ Sl W.heap.size ⟨W, []⟩ [] o1 r ∧ Sl W.heap.size ⟨W, []⟩ [] o2 g := by
  unfold bdl at hb
  split at hb
  · rename_i fs hu
    split at hb
    · rename_i f0 f1 h0 h1
      simp only [Bool.and_eq_true, beq_iff_eq] at hb
      obtain ⟨⟨⟨⟨⟨⟨b1, b2⟩, b3⟩, b4⟩, b5⟩, b6⟩, b7⟩ := hb
      obtain ⟨hl, hf⟩ := opt_struct hu h
      have g0 := hf 0 f0 h0
      have g1 := hf 1 f1 h1
      rw [b1, b3] at g0
      rw [b2, b4] at g1
      rw [b5] at hl
      obtain ⟨x, y, rfl⟩ := len_2 hl
      obtain ⟨e0, u0, k0⟩ := slf_to b6
      obtain ⟨e1, u1, k1⟩ := slf_to b7
      obtain ⟨o1, n1, c1, r, q1, q2, q3, q4, q5, q6⟩ := opt_ints u0 k0 g0
      obtain ⟨o2, n2, c2, g, p1, p2, p3, p4, p5, p6⟩ := opt_ints u1 k1 g1
      simp at q1 p1
      rw [Nat.mul_one] at q2 p2
      subst q2 p2
      exact ⟨o1, o2, c1, c2, r, g, by rw [q1, p1], q3, p3, q4, p4, q5, p5, q6, p6⟩
    · cases hb
  · cases hb
theorem bdl_ag {t : TypeId} (hb : bdl P t = true) : agB P t = true := by
  unfold bdl at hb
  unfold agB
  split at hb
  · rename_i hu; rw [hu]
  · cases hb
theorem arg_bundle {base : Nat} {t : TypeId} {v : Value} {d : DataW H} {p : List MemPlace} (hb : bdl P t = true) (hv : Value.okWide P W .any base t v) (h : DataW.Trod enc P W 0 (fun _ => true) true t v d p) :
    ∃ (o1 o2 : Option Addr) (c1 c2 : Nat) (r g : List Int), v = .agg #[.slice o1 r.length c1, .slice o2 g.length c2] ∧ r.length ≤ c1 ∧ g.length ≤ c2 ∧ c1 ≤ maxLen ∧ c2 ≤ maxLen ∧ (∀ x ∈ r, InI x) ∧ (∀ x ∈ g, InI x) ∧ Sl W.heap.size ⟨W, []⟩ [] o1 r ∧ Sl W.heap.size ⟨W, []⟩ [] o2 g := by
  obtain ⟨cs, rfl⟩ := val_agg (bdl_ag hb) hv
  obtain ⟨o1, o2, c1, c2, r, g, e, hh⟩ := opt_bundle hb (OpT.of h)
  exact ⟨o1, o2, c1, c2, r, g, by simp only [Value.cells] at e; rw [← e], hh⟩
end
end Go.Proofs.YtmblgbcipniecaaGreatDoor

namespace Go.Proofs.YtmblgbcipniecaaGreatDoor
open Go.RowKit Go.ChangeShapes Go.WideShapes Go.ChangeAt
section
variable {H : Type} {enc : TypeId × Value → H} {P : Program} {W : World}
theorem bdl_two {t : TypeId} (hb : bdl P t = true) : P.cellsOf t = 2 := by
  unfold bdl at hb
  split at hb
  · split at hb
    · simp only [Bool.and_eq_true, beq_iff_eq] at hb
      exact hb.1.1.2
    · cases hb
  · cases hb
theorem sv_some {a : Addr} {l : List Value} (h : ∀ i, i < l.length → W.cell? (a.add i) = l[i]?) : Sv W.heap.size ⟨W, []⟩ [] (some a) l := fun i hi => ⟨rfl, fun w hw => by
  have h1 := h i hi
  rw [List.getElem?_eq_getElem hi] at h1
  have h2 := World.block_lt_of_cell? W _ h1
  rw [ea_some, hw.below.cell h2, h1, List.getElem?_eq_getElem hi]⟩
theorem opt_pcs {t e : TypeId} {cs : List Value} (hu : P.underlying t = some (.slice e)) (hb : bdl P e = true) (h : OpT enc P W t cs) :
    ∃ (oa : Option Addr) (c : Nat) (ps : List Pc), cs = [.slice oa ps.length c] ∧ ps.length ≤ c ∧ c ≤ maxLen ∧ Sv W.heap.size ⟨W, []⟩ [] oa (pcsv ps) ∧ (∀ i, i < ps.length → Sl W.heap.size ⟨W, []⟩ [] (pcA ps i).oa (pcA ps i).sd) ∧ ∀ i, i < ps.length → Sl W.heap.size ⟨W, []⟩ [] (pcA ps i).ob (pcA ps i).an := by
  obtain ⟨oa, len, c, X, rfl, h1, h2, h3, hx⟩ := opt_slice hu h
  rw [bdl_two hb] at hx
  have key : ∀ a, a ≤ len → ∃ ps : List Pc, ps.length = a ∧ (∀ i, i < a → X i = pcv (pcA ps i)) ∧ (∀ i, i < a → Sl W.heap.size ⟨W, []⟩ [] (pcA ps i).oa (pcA ps i).sd) ∧ ∀ i, i < a → Sl W.heap.size ⟨W, []⟩ [] (pcA ps i).ob (pcA ps i).an := by
    intro a
    induction a with
    | zero => exact fun _ => ⟨[], rfl, fun i hi => absurd hi (Nat.not_lt_zero _), fun i hi => absurd hi (Nat.not_lt_zero _), fun i hi => absurd hi (Nat.not_lt_zero _)⟩
    | succ a ih =>
      intro ha
      obtain ⟨ps, e1, e2, e3, e4⟩ := ih (by omega)
      obtain ⟨g1, _, _⟩ := hx a (by omega)
      obtain ⟨o1, o2, c1, c2, r, g, q1, _, _, _, _, _, _, q2, q3⟩ := opt_bundle hb g1
      have hE := pcA_eq ps ⟨o1, c1, r, o2, c2, g⟩
      rw [e1] at hE
      refine ⟨ps ++ [⟨o1, c1, r, o2, c2, g⟩], by simp [e1], fun i hi => ?_, fun i hi => ?_, fun i hi => ?_⟩
      all_goals by_cases h : i = a
      · subst h; rw [hE]; exact q1
      · rw [pcA_lt (by omega)]; exact e2 i (by omega)
      · subst h; rw [hE]; exact q2
      · rw [pcA_lt (by omega)]; exact e3 i (by omega)
      · subst h; rw [hE]; exact q3
      · rw [pcA_lt (by omega)]; exact e4 i (by omega)
  obtain ⟨ps, rfl, e2, e3, e4⟩ := key len (Nat.le_refl _)
  refine ⟨oa, c, ps, rfl, h1, h2, ?_, e3, e4⟩
  rcases Nat.eq_zero_or_pos ps.length with h0 | h0
  · rw [List.length_eq_zero_iff.1 h0]; exact fun i hi => absurd hi (Nat.not_lt_zero _)
  have h4 : oa.isSome = true := h3.resolve_left (by omega)
  obtain ⟨b, rfl⟩ := Option.isSome_iff_exists.1 h4
  refine sv_some fun i hi => ?_
  rw [pcsv_len] at hi
  have hq : i / 2 < ps.length := by omega
  obtain ⟨p1, p2⟩ := pcsv_at ps (i / 2) hq
  obtain ⟨_, _, g3⟩ := hx (i / 2) hq
  have g4 := g3 (i % 2) (by omega) b rfl
  rw [show i / 2 * 2 + i % 2 = i by omega, e2 _ hq] at g4
  rw [g4]
  rcases (show i % 2 = 0 ∨ i % 2 = 1 by omega) with h | h
  · rw [h, show i = 2 * (i / 2) by omega, p1]; simp [pcv]
  · rw [h]
    have : i = 2 * (i / 2) + 1 := by omega
    rw [this, p2, ← this]; simp [pcv]
theorem intsY {cs : List Value} (h : Ints 1 cs) : ∃ x, cs = [iv x] ∧ InI x := by
  obtain ⟨xs, rfl, h1, h2⟩ := h
  obtain ⟨x, rfl⟩ := len_1 h1
  exact ⟨x, rfl, h2 x (.head _)⟩
def slb (P : Program) (t : TypeId) : Bool := match P.underlying t with
  | some (.slice e) => bdl P e
  | _ => false
theorem slb_to {t : TypeId} (h : slb P t = true) : ∃ e, P.underlying t = some (.slice e) ∧ bdl P e = true := by
  unfold slb at h
  split at h
  · rename_i e he; exact ⟨e, he, h⟩
  · cases h
def bdc (P : Program) (t : TypeId) : Bool := match P.underlying t with
  | some (.struct fs) => match fs[0]?, fs[1]?, fs[2]? with
    | some f0, some f1, some f2 => f0.offset == 0 && f1.offset == 1 && f2.offset == 2 && P.cellsOf f0.type == 1 && P.cellsOf f1.type == 1 && P.cellsOf f2.type == 1 && P.cellsOf t == 3 && slb P f0.type && slf P 5 f1.type == some 4 && fl P 5 f2.type == some 1
    | _, _, _ => false
  | _ => false
theorem opt_cap {t : TypeId} {cs : List Value} (hb : bdc P t = true) (h : OpT enc P W t cs) :
    ∃ (o1 o2 : Option Addr) (c1 m c2 : Nat) (ps : List Pc) (sm : List Int) (x : Int), cs = [.slice o1 ps.length c1, .slice o2 m c2, iv x] ∧ sm.length = m * 4 ∧ InI x ∧ CapM W.heap.size ⟨W, []⟩ [] o1 o2 ps sm := by
  unfold bdc at hb
  split at hb
  · rename_i fs hu
    split at hb
    · rename_i f0 f2 f3 h0 h2 h3
      simp only [Bool.and_eq_true, beq_iff_eq] at hb
      obtain ⟨⟨⟨⟨⟨⟨⟨⟨⟨a0, a2⟩, a3⟩, b0⟩, b2⟩, b3⟩, b5⟩, b6⟩, b8⟩, b9⟩ := hb
      obtain ⟨hl, hf⟩ := opt_struct hu h
      have g0 := hf 0 f0 h0
      have g2 := hf 1 f2 h2
      have g3 := hf 2 f3 h3
      rw [a0, b0] at g0
      rw [a2, b2] at g2
      rw [a3, b3] at g3
      rw [b5] at hl
      obtain ⟨x, z, w, rfl⟩ := len_3 hl
      obtain ⟨e0, u0, k0⟩ := slb_to b6
      obtain ⟨o1, c1, ps, q1, q2, q3, q4, q5, q6⟩ := opt_pcs u0 k0 g0
      obtain ⟨e2, u2, k2⟩ := slf_to b8
      obtain ⟨o2, m, c2, sm, p1, p2, p3, p4, p5, p6⟩ := opt_ints u2 k2 g2
      obtain ⟨x3, i3, j3⟩ := intsY (opt_flat _ _ _ _ b9 g3)
      simp at q1 p1 i3
      exact ⟨o1, o2, c1, m, c2, ps, sm, x3, by rw [q1, p1, i3], p2, j3, ⟨q4, q5, q6, p6⟩⟩
    · cases hb
  · cases hb
theorem bdc_ag {t : TypeId} (hb : bdc P t = true) : agB P t = true := by
  unfold bdc at hb
  unfold agB
  split at hb
  · rename_i hu; rw [hu]
  · cases hb
theorem arg_cap {base : Nat} {t : TypeId} {v : Value} {d : DataW H} {p : List MemPlace} (hb : bdc P t = true) (hv : Value.okWide P W .any base t v) (h : DataW.Trod enc P W 0 (fun _ => true) true t v d p) :
    ∃ (o1 o2 : Option Addr) (c1 m c2 : Nat) (ps : List Pc) (sm : List Int) (x : Int), v = .agg #[.slice o1 ps.length c1, .slice o2 m c2, iv x] ∧ sm.length = m * 4 ∧ InI x ∧ CapM W.heap.size ⟨W, []⟩ [] o1 o2 ps sm := by
  obtain ⟨cs, rfl⟩ := val_agg (bdc_ag hb) hv
  obtain ⟨o1, o2, c1, m, c2, ps, sm, x, e, hh⟩ := opt_cap hb (OpT.of h)
  exact ⟨o1, o2, c1, m, c2, ps, sm, x, by simp only [Value.cells] at e; rw [← e], hh⟩
end
end Go.Proofs.YtmblgbcipniecaaGreatDoor
