/- Ranges over a function: the code of a round in the walk, a call of yield, the statement. -/
import Derived.Test.YtnbickholedckaaMM7
import Derived.RangeFuncRecord
import Derived.OrdersIn
namespace Go.Proofs.Ytnbickholedckaa
open Go.RowKit

/-- The fence that lets all in; in a round, or in none. -/
def rF (ro : Option Nat) : Fence := { Fence.wide with round := ro }
def noDf (o : Oper) : Bool := match o.op with | .defer _ => false | _ => true
theorem noDf_ne {o : Oper} (h : noDf o = true) (c : Call) : o.op ≠ .defer c := fun e => by simp [noDf, e] at h
def noDfL (l : List Oper) : Bool := l.all noDf
section
variable {P : Program} {ro : Option Nat}
theorem rF_wide {c : Code} {Q : Exit → Act → World → Prop} {a : Act} {w : World} : c.wpIn (rF none) 0 P Q a w ↔ c.wp P Q a w := wpIn_wide
theorem rF_calls {f : Nat} {args : Array Value} {w : World} {R : Ending → World → Prop} (m : Nat) (h : Calls P f args w R) : CallsIn (rF ro) m P f args w R := (callsIn_wide (n := m)).2 h
theorem calls_rF {f : Nat} {args : Array Value} {w : World} {R : Ending → World → Prop} (m : Nat) (h : CallsIn (rF ro) m P f args w R) : Calls P f args w R := (callsIn_wide (n := m)).1 h
theorem rF_fn (f : Nat) : (rF ro).fn f := trivial
theorem rF_room (m : Nat) : (rF ro).room m := fun _ h => by simp [rF, Fence.wide] at h
theorem rF_dep {m : Nat} : (rF ro).depth.isSome = true → 1 ≤ m := fun h => by simp [rF, Fence.wide] at h
theorem op_rF {o : Oper} {a : Act} {w : World} {N : Act → World → Prop} {Q : Exit → Act → World → Prop} (hd : noDf o = true) (h : o.wp P a w N Q) : o.wpIn (rF ro) 0 P a w N Q := by
  refine ⟨fun _ _ => trivial, ?_⟩
  rw [Oper.semAt_eq _ _ _ (noDf_ne hd)]
  unfold Oper.wp at h
  generalize (execOp a.eval o).run P w = r at h ⊢
  cases r with
  | ok x w' =>
    cases x <;> simp only [Oper.upon] at h <;> simp only [Oper.uponIn]
    case value v => exact h
    case skip => exact h
    case defer d => exact h
    case enter f args => exact ⟨rF_dep, rF_calls _ h⟩
    case row row args => exact ⟨rF_dep, fun c cs _ => let ⟨v, w', r, s⟩ := h c cs; ⟨v, w', r, (StepsIn.of_steps s).mono fun m _ => fenced_wide P m⟩⟩
  | halt x w' =>
    cases x <;> simp only [Oper.upon] at h <;> simp only [Oper.uponIn]
    exact h
theorem ops_rF {l0 : List Oper} {K : Act → World → Prop} {Q : Exit → Act → World → Prop} (hd : noDfL l0 = true) (hk : ∀ a w, K a w → Q .normal a w) : ∀ (l pre : List Oper) (a : Act) (w : World), l0 = pre ++ l → sl P l0.toArray K l a w →
    wpOpsIn (rF ro) 0 P l0.toArray Q (List.range' pre.length l.length) a w
  | [], pre, a, w, _, h => by unfold sl at h; exact hk _ _ h
  | o :: l, pre, a, w, he, h => by
    have ho : l0.toArray[pre.length]? = some o := by subst he; simp
    have hdo : noDf o = true := List.all_eq_true.1 hd o (by subst he; simp)
    have ih := fun a w (hh : sl P l0.toArray K l a w) => ops_rF hd hk l (pre ++ [o]) a w (by simp [he]) hh
    simp only [List.length_append, List.length_cons, List.length_nil] at ih
    rw [List.length_cons, List.range'_succ]
    unfold wpOpsIn
    simp only [ho]
    unfold sl at h
    split
    · rename_i hw
      rw [if_pos hw] at h
      exact op_rF hdo (Oper.upon_mono (fun a w h => ih a w h) (fun _ _ _ h => h.elim) h)
    · rename_i hw
      rw [if_neg hw] at h
      exact ⟨fun _ _ => trivial, ih _ _ h⟩
theorem any_rF {ops : Array Oper} {Q : Exit → Act → World → Prop} (hd : noDfL ops.toList = true) (hno : ∀ a w, ¬ Q .outgrown a w) : ∀ (fuel : Nat) (listed : Array Bool) (a : Act) (w : World), wpAny P .any ops Q fuel listed a w → wpAnyIn (rF ro) 0 P .any ops Q fuel listed a w
  | 0, _, _, _, h => h
  | fuel + 1, listed, a, w, h => by
    refine ⟨h.1, fun i hi => ?_⟩
    have h2 := h.2 i hi
    unfold wpOp at h2
    unfold wpOpIn
    split
    · rename_i hn; simp only [hn] at h2; exact any_rF hd hno fuel _ _ _ h2
    · rename_i o ho
      simp only [ho] at h2
      have hdo : noDf o = true := List.all_eq_true.1 hd o (by
        have := Array.mem_of_getElem? ho
        simpa using this)
      split
      · rename_i hw
        simp only [hw, if_true] at h2
        rcases h2 with h2 | ⟨_, x, y, h2⟩
        · exact op_rF hdo (Oper.upon_mono (fun a w h => any_rF hd hno fuel _ a w h) (fun _ _ _ h => h) h2)
        · exact absurd h2 (hno x y)
      · rename_i hw
        simp only [hw] at h2
        exact ⟨fun _ _ => trivial, any_rF hd hno fuel _ _ _ h2⟩
/-- The way out at the end alone. -/
def onlyN (K : Act → World → Prop) : Exit → Act → World → Prop
  | .normal, a, w => K a w
  | _, _, _ => False
theorem onlyN_to {Q : Exit → Act → World → Prop} : ∀ e a w, onlyN (Q .normal) e a w → Q e a w := by
  intro e a w h
  cases e <;> first | exact h | exact h.elim
end
section
variable {P : Program} {n : NN} {B : Nat} {w0 : Wd} {fr fr' : FR} {hs hs' : HS} {K K' : Act → World → Prop} {Q Q' : Exit → Act → World → Prop} {ro : Option Nat}
theorem g_wide {c : Code} (h : Sat n B w0 (c.wpIn (rF none) 0 P Q) fr hs) : Sat n B w0 (c.wp P Q) fr hs := sat_mk fun a w ha hw => rF_wide.1 (sat_el h a w ha hw)
theorem g_seq {x y : Code} (h : Sat n B w0 (x.wpIn (rF ro) 0 P (Exit.then (y.wpIn (rF ro) 0 P Q) Q)) fr hs) : Sat n B w0 ((Code.seq x y).wpIn (rF ro) 0 P Q) fr hs := sat_mk fun a w ha hw => wpIn_seq (sat_el h a w ha hw)
theorem g_block {id : Nat} {c : Code} (h : Sat n B w0 (c.wpIn (rF ro) 0 P (Exit.inBlock id Q)) fr hs) : Sat n B w0 ((Code.block id c).wpIn (rF ro) 0 P Q) fr hs := sat_mk fun a w ha hw => wpIn_block (sat_el h a w ha hw)
theorem g_skip (h : Sat n B w0 (Q .normal) fr hs) : Sat n B w0 (Code.skip.wpIn (rF ro) 0 P Q) fr hs := sat_mk fun a w ha hw => wpIn_skip (sat_el h a w ha hw)
theorem g_exit {id : Nat} (h : Sat n B w0 (Q (.exit id)) fr hs) : Sat n B w0 ((Code.exit id).wpIn (rF ro) 0 P Q) fr hs := sat_mk fun a w ha hw => wpIn_exit (sat_el h a w ha hw)
theorem g_ret (h : Sat n B w0 (Q .ret) fr hs) : Sat n B w0 (Code.ret.wpIn (rF ro) 0 P Q) fr hs := sat_mk fun a w ha hw => wpIn_ret (sat_el h a w ha hw)
theorem gCI {c : Operand} {x y : Code} (h : Sat n B w0 ((Code.cond c x y).wpIn (rF ro) 0 P Q) fr hs) : Sat n B w0 ((Code.cond c x y).wpIn (rF ro) 0 P Q) fr hs := h
theorem gI {c : Operand} {x y : Code} {p : Prop} [Decidable p] (ht : p → Sat n B w0 (x.wpIn (rF ro) 0 P Q) fr hs) (hf : ¬ p → Sat n B w0 (y.wpIn (rF ro) 0 P Q) fr hs) (hc : opv fr c = some (.bool (decide p)) := by rfl) :
    Sat n B w0 ((Code.cond c x y).wpIn (rF ro) 0 P Q) fr hs := sat_mk fun a w ha hw => by
  by_cases hp : p
  · exact wpIn_cond_true (by rw [ha.opv hc]; simp [hp]) (sat_el (ht hp) a w ha hw)
  · exact wpIn_cond_false (by rw [ha.opv hc]; simp [hp]) (sat_el (hf hp) a w ha hw)
theorem gBB {c : Operand} {x y : Code} {b : Bool} (ht : b = true → Sat n B w0 (x.wpIn (rF ro) 0 P Q) fr hs) (hf : b = false → Sat n B w0 (y.wpIn (rF ro) 0 P Q) fr hs) (hc : opv fr c = some (.bool b) := by rfl) :
    Sat n B w0 ((Code.cond c x y).wpIn (rF ro) 0 P Q) fr hs := sat_mk fun a w ha hw => by
  cases b with
  | true => exact wpIn_cond_true (ha.opv hc) (sat_el (ht rfl) a w ha hw)
  | false => exact wpIn_cond_false (ha.opv hc) (sat_el (hf rfl) a w ha hw)
theorem gT {c : Operand} {x y : Code} (ht : Sat n B w0 (x.wpIn (rF ro) 0 P Q) fr hs) (hc : opv fr c = some (.bool true) := by rfl) : Sat n B w0 ((Code.cond c x y).wpIn (rF ro) 0 P Q) fr hs := sat_mk fun a w ha hw => wpIn_cond_true (ha.opv hc) (sat_el ht a w ha hw)
theorem gF {c : Operand} {x y : Code} (ht : Sat n B w0 (y.wpIn (rF ro) 0 P Q) fr hs) (hc : opv fr c = some (.bool false) := by rfl) : Sat n B w0 ((Code.cond c x y).wpIn (rF ro) 0 P Q) fr hs := sat_mk fun a w ha hw => wpIn_cond_false (ha.opv hc) (sat_el ht a w ha hw)
theorem g_region {id : Nat} {l : List Oper} (h : Sat n B w0 (sl P l.toArray (Q .normal) l) fr hs) (hd : noDfL l = true := by rfl) : Sat n B w0 ((Code.region id l.toArray false).wpIn (rF ro) 0 P Q) fr hs :=
  sat_mk fun a w ha hw => wpIn_region (by
    have := ops_rF (ro := ro) (Q := Q) hd (fun _ _ h => h) l [] a w rfl (sat_el h a w ha hw)
    rw [List.size_toArray, List.range_eq_range']
    exact this)
theorem gRI {id : Nat} {l : List Oper} (h : Sat n B w0 ((Code.region id l.toArray true).wpIn (rF ro) 0 P Q) fr hs) : Sat n B w0 ((Code.region id l.toArray true).wpIn (rF ro) 0 P Q) fr hs := h
theorem g_quiet {id : Nat} {l : List Oper} (hm : P.follows .mixedOrders = true) (hB : Region.lexB .any l.toArray = true) (hd : noDfL l = true) (h : qn P n B w0 hs l.toArray (fun a' => ∀ w', Hp B w0 w' hs → Q .normal a' w') l fr) :
    Sat n B w0 ((Code.region id l.toArray true).wpIn (rF ro) 0 P Q) fr hs := sat_mk fun a w ha hw => by
  simp only [Region.lexB, Bool.and_eq_true] at hB
  unfold qn at h
  have h1 := wpAnyQ_lex (C := fun w => Hp B w0 w hs) (md := .any) hB.1 l.toArray.toList 0 (Array.replicate l.toArray.size false) a (by simp) (by simpa using hB.2) (by simpa using h a ha)
  have h2 := wpAny_of_quiet (C := fun w => Hp B w0 w hs) (Q' := onlyN (Q .normal)) (fun _ w' hw' h => h w' hw') _ _ _ _ hw.drew h1
  exact wpIn_mono (wpIn_region_any hm (any_rF (by simpa using hd) (fun _ _ h => h) _ _ _ _ (by simpa using h2))) onlyN_to
theorem g_drawn {id : Nat} {l : List Oper} (fl : List Nat) (S : HS) (hS : S.Sublist hs) (hm : P.follows .mixedOrders = true) (hc : chk l fl = true) (hd : noDfL l = true) (h : Rk P n B w0 l.toArray (Q .normal) fl l S fr hs) :
    Sat n B w0 ((Code.region id l.toArray true).wpIn (rF ro) 0 P Q) fr hs := sat_mk fun a w ha hw => by
  unfold Rk at h
  simp only [chk, Bool.and_eq_true] at hc
  obtain ⟨hsel, hall⟩ := hc
  have hw' : Hp B w0 { w with drawn := w.drawn + 1 } hs := hw.drew
  have han := ancGo_spec (ops := l.toArray) l [] 0 rfl (by simp) (by intro j i hb; simp [lk] at hb)
  have hall' := allI_spec l 0 hall
  refine wpIn_mono (wpIn_region_any hm (any_rF (Q := onlyN (Q .normal)) (by simpa using hd) (fun _ _ h => h) _ _ _ _ (wpAny_rk (P := P) (B := B) (Q := onlyN (Q .normal)) (fl := fl) (Region.noSelect_at hsel) ?_ ?_ _ w0 _ (List.range' 0 l.length) S hs a _ hw' (.of hS) (rkI_of_rkL w0 l 0 S hs a ⟨_, hw'⟩ (.of hS) (by simp) (h a ha)) ?_ ?_ ?_ (by simp) (by simp)))) onlyN_to
  · intro j oj hj e he hb
    have h1 := hall' j oj hj
    simp only [Bool.and_eq_true, List.all_eq_true] at h1
    have h2 := h1.1 e (by simpa using he)
    simp only [hb, Bool.not_true, Bool.false_or, Nat.zero_add] at h2
    simpa using h2
  · intro i j oi oj hi hj hij
    have h1 := hall' j oj hj
    simp only [Bool.and_eq_true] at h1
    have h2 := allI_spec l 0 h1.2 i oi hi
    simp only [Nat.zero_add, Bool.or_eq_true, Bool.and_eq_true] at h2
    rcases h2 with (h2 | h2) | h2
    · have := Nat.le_of_ble_eq_true h2; omega
    · exact .inl (han j i h2)
    · exact .inr h2
  · intro i
    simp only [List.mem_range'_1, Nat.zero_le, Nat.zero_add, true_and]
    constructor
    · intro hi; exact ⟨hi, by simp [hi]⟩
    · exact fun h => h.1
  · exact List.pairwise_lt_range'
  · intro j oj hj hl
    rw [getD_replicate_false'] at hl; cases hl
/-- The next round of a loop: memory, the maps and the deferred calls may be others. -/
def NxG (k : Nat) (B : Nat) {ι : Type} (D : ι → List Deferred) (W : ι → Wd) (F : ι → FR) (H : ι → HS) (C : ι → Prop) (μ : ι → Nat) (m : Nat) (a : Act) (w : World) : Prop := ∃ j, C j ∧ μ j < m ∧ Fr ⟨k, D j⟩ a (F j) ∧ Hp B (W j) w (H j)
theorem g_loop {c : Code} {ι : Type} (D : ι → List Deferred) (W : ι → Wd) (F : ι → FR) (H : ι → HS) (C : ι → Prop) (μ : ι → Nat) (i0 : ι) (hc : C i0) (hD : D i0 = n.ds) (hb : (W i0).le w0) (h0 : SubL (F i0) fr) (h1 : (H i0).Sublist hs)
    (round : ∀ i, C i → Sat ⟨n.n, D i⟩ B (W i) (c.wpIn (rF ro) 0 P (Exit.then (NxG n.n B D W F H C μ (μ i)) Q)) (F i) (H i)) : Sat n B w0 ((Code.loop c).wpIn (rF ro) 0 P Q) fr hs := sat_mk fun a w ha hw => by
  intro b k cs hro hb' hr
  have key : ∀ m (i : ι) a w, C i → μ i = m → Fr ⟨n.n, D i⟩ a (F i) → Hp B (W i) w (H i) →
      ∃ e a' w', Q e a' w' ∧ ArrivesIn (Machine.fenced P (rF ro)) P (lone (b.atR a (.code c :: .inLoop c :: k)) cs w) b k cs e a' w' := by
    intro m
    induction m using Nat.strongRecOn with
    | _ m ih =>
      intro i a w hci hi ha hw
      obtain ⟨e, a₁, w₁, hq, harr⟩ := sat_el (round i hci) a w ha hw b (.inLoop c :: k) cs hro hb' hr
      cases e with
      | normal =>
        obtain ⟨j, hcj, hlt, hfj, hhj⟩ := hq
        obtain ⟨e₂, a₂, w₂, hq₂, harr₂⟩ := ih (μ j) (hi ▸ hlt) j a₁ w₁ hcj rfl hfj hhj
        exact ⟨e₂, a₂, w₂, hq₂, .of_steps (StepsIn.trans harr (.one (fenced_calm hb' hr rfl) stepR_inLoop)) harr₂⟩
      | exit id' => exact ⟨_, a₁, w₁, hq, .pass (x := .inLoop c) rfl (fun _ _ => .inl (by simp)) harr⟩
      | goto l => exact ⟨_, a₁, w₁, hq, .pass (x := .inLoop c) rfl (fun _ _ => .inl (by simp)) harr⟩
      | ret => exact ⟨_, a₁, w₁, hq, .pass (x := .inLoop c) rfl (fun _ _ => .inl (by simp)) harr⟩
      | panic ch => exact ⟨_, a₁, w₁, hq, .pass (x := .inLoop c) rfl (fun _ _ => .inl (by simp)) harr⟩
      | outgrown => exact ⟨_, a₁, w₁, hq, .pass (x := .inLoop c) rfl (fun _ _ => .inl (by simp)) harr⟩
  obtain ⟨e, a', w', hq, harr⟩ := key _ i0 a w hc rfl ⟨ha.size, by rw [hD]; exact ha.defers, (ha.sub h0.sub).get⟩ ((hw.sub h1).base hb)
  exact ⟨e, a', w', hq, .of_steps (.one (fenced_calm hb' hr rfl) stepR_loop) harr⟩
theorem g_end {k : Nat} {d : List Deferred} {ι : Type} {D : ι → List Deferred} {W : ι → Wd} {F : ι → FR} {H : ι → HS} {C : ι → Prop} {μ : ι → Nat} {m : Nat} (j : ι) (hc : C j) (hj : μ j < m) (hD : D j = d) (hb : (W j).le w0) (h1 : SubL (F j) fr) (h2 : (H j).Sublist hs) :
    Sat ⟨k, d⟩ B w0 (NxG k B D W F H C μ m) fr hs := sat_mk fun _ _ ha hw => ⟨j, hc, hj, ⟨ha.size, by rw [hD]; exact ha.defers, (ha.sub h1.sub).get⟩, (hw.sub h2).base hb⟩

/-! ### The iterator and its rounds -/
/-- What yields all of xs, one after another, whatever the rounds do that keep what it reads. -/
def IterC (P : Program) (g : Nat) (cap : List Value) (B : Nat) (xs : List Value) (RD : Wd → HS → Prop) : Prop :=
  ∀ (ι : Type) (W : ι → Wd) (H : ι → HS) (C : Nat → ι → Prop) (l : Nat), (∀ k i, C k i → RD (W i) (H i)) →
    (∀ k i x, xs[k]? = some x → C k i → ∀ w, Hp B (W i) w (H i) → ∃ fn tmps assign body, (Instr.yield l #[x]).run P w = .ok (.round l fn tmps assign body) w ∧
      RoundIn Fence.wide 0 P l fn tmps assign body w (fun e w' => e = .returned (.bool true) ∧ ∃ j, C (k + 1) j ∧ Hp B (W j) w' (H j))) →
    ∀ i w, C 0 i → Hp B (W i) w (H i) → Calls P g ((.func (.yield l) #[] #[] :: cap).toArray) w (fun e w' => (∃ v, e = .returned v) ∧ ∃ j, C xs.length j ∧ Hp B (W j) w' (H j))
/-- The mark of a block for deferred calls. -/
abbrev mkD (D : Nat) : Deferred := { target := .collected D, args := #[] }
theorem run_callFn {g : Nat} {args : Array Value} {w : World} (hf : isGo P g = true) : (callFunc g args).run P w = .ok (.enter g args) w := by
  unfold isGo at hf
  split at hf
  · rename_i fn hfn
    simp only [Bool.and_eq_true, Bool.not_eq_true'] at hf
    obtain ⟨h1, h2⟩ := hf
    have h3 : ¬ fn.body = none := by intro hb; simp [hb] at h1
    have h2' : ¬ fn.name = "runtime.NumGoroutine" := by simpa using h2
    simp [callFunc, hfn, h2', h3]
  · cases hf
theorem g_range {p g : Nat} {f : Operand} {cap xs : List Value} {assign body : Code} {RD : Wd → HS → Prop} (hf : opv fr f = some (.func (.func g) #[] cap.toArray)) (hg : isGo P g = true) (hit : IterC P g cap B xs RD) (hp : p < n.n)
    {ι : Type} (W : ι → Wd) (H : ι → HS) (C : Nat → ι → Prop) (F1 : Value → FR) (i0 : ι) (h0 : C 0 i0) (hb : (W i0).le w0) (hH : (H i0).Sublist hs)
    (hRD : ∀ k i, C k i → ∀ W', (W i).le W' → RD W' (H i))
    (hassign : ∀ k i x, xs[k]? = some x → C k i → ∀ l D o, Sat ⟨n.n, []⟩ B ⟨(W i).w, (l, o) :: (D, .deferred (some [])) :: (W i).ms⟩ (assign.wpIn (rF (some l)) 0 P (onlyN fun a w => Fr ⟨n.n, []⟩ a (F1 x) ∧ Hp B ⟨(W i).w, (l, o) :: (D, .deferred (some [])) :: (W i).ms⟩ w (H i))) ((p, x) :: fr) (H i))
    (hbody : ∀ k i x, xs[k]? = some x → C k i → ∀ l D o, Sat ⟨n.n, []⟩ B ⟨(W i).w, (l, o) :: (D, .deferred (some [])) :: (W i).ms⟩ (body.wpIn (rF (some l)) 0 P (onlyN fun _ w => ∃ j, C (k + 1) j ∧ Hp B ⟨(W j).w, (l, o) :: (D, .deferred (some [])) :: (W j).ms⟩ w (H j))) (F1 x) (H i))
    (done : ∀ j, C xs.length j → ∀ D, Sat ⟨n.n, mkD D :: n.ds⟩ B ⟨(W j).w, (D, .deferred (some [])) :: (W j).ms⟩ (Q .normal) fr (H j)) :
    Sat n B w0 ((Code.rangeFunc f #[p] assign body).wpIn (rF none) 0 P Q) fr hs := sat_mk fun a w ha hw => by
  refine wpIn_rangeFunc fun fn hfn => ?_
  obtain ⟨rec, hrec⟩ : ∃ rec : LoopState → Loop, rec = fun st => { state := st, pending := none, fn, tmps := a.tmps, params := #[p], assign, body, defers := w.heap.size } := ⟨_, rfl⟩
  have hw0 : Hp B (W i0) w (H i0) := (hw.sub hH).base hb
  have hw1 := (hw0.newObj (o := .deferred (some [])) rfl).newObj (o := .loop (rec .ready)) rfl
  rw [World.size_alloc] at hw1
  obtain ⟨W1, hW1⟩ : ∃ W1, (w.alloc (.deferred (some []))).alloc (.loop (rec .ready)) = W1 := ⟨_, rfl⟩
  rw [hW1] at hw1
  refine ⟨w.heap.size + 1, [mkD w.heap.size], W1, { target := .fn (.func g) cap.toArray, args := #[.func (.yield (w.heap.size + 1)) #[] #[]] }, W1, g, (.func (.yield (w.heap.size + 1)) #[] #[] :: cap).toArray, W1, by rw [← hW1, hrec]; exact run_enterLoop_outer _ _ _ _ _, ?_, fun _ _ => trivial, ?_, rF_dep, rF_calls _ ?_⟩
  · simp only [resolve, ha.opv hf]
    simp [go_sem]
  · simp [invoke, go_sem, run_callFn hg]
  · have hback : ∀ (j : ι) (w' : World) (o o' : Obj) (h : HS), notCells o' = true → Hp B ⟨(W j).w, (w.heap.size + 1, o) :: (w.heap.size, .deferred (some [])) :: (W j).ms⟩ w' h →
        w'.heap[w.heap.size + 1]? = some o ∧ Hp B ⟨(W j).w, (w.heap.size + 1, o') :: (w.heap.size, .deferred (some [])) :: (W j).ms⟩ (w'.putObj (w.heap.size + 1) o') h := fun j w' o o' h hn hh =>
      ⟨(hh.obj _ (.head _)).2.1, hh.setObj (w0 := ⟨(W j).w, (w.heap.size + 1, o) :: (w.heap.size, .deferred (some [])) :: (W j).ms⟩) (.head _) hn⟩
    refine (hit ι (fun i => ⟨(W i).w, (w.heap.size + 1, .loop (rec .ready)) :: (w.heap.size, .deferred (some [])) :: (W i).ms⟩) H C (w.heap.size + 1) (fun k i hc => hRD k i hc _ ⟨rfl, .cons _ (.cons _ (List.Sublist.refl _))⟩) ?_ i0 _ h0 hw1).mono ?_
    · intro k i x hx hc w2 hw2
      obtain ⟨hl2, hw3⟩ := hback i w2 _ (.loop { rec .ready with state := .busy }) _ rfl hw2
      have hy := run_yield (P := P) (args := #[x]) hl2 (by rw [hrec]; rfl)
      refine ⟨_, _, _, _, hy, ?_⟩
      have hF : Fr ⟨n.n, []⟩ ⟨(((rec .ready).params.zip #[x]).foldl (fun tmps (t, a) => tmps.setIfInBounds t a) (rec .ready).tmps), []⟩ ((p, x) :: fr) := by
        have h1 : Fr ⟨n.n, []⟩ ⟨a.tmps, []⟩ fr := ⟨ha.size, rfl, ha.get⟩
        have h2 := h1.put (d := p) hp x
        rw [hrec]
        simpa [Act.put] using h2
      refine roundIn_of_wpIn (F := Fence.wide) trivial ?_
      have hA := sat_el (hassign k i x hx hc (w.heap.size + 1) w.heap.size (.loop (rec .ready))) _ w2 hF hw2
      have hrb : (rec .ready).body = body ∧ (rec .ready).assign = assign := by rw [hrec]; exact ⟨rfl, rfl⟩
      rw [hrb.1, hrb.2]
      refine wpIn_mono hA (fun e a1 w4 h4 => ?_)
      cases e with
      | normal =>
        obtain ⟨hF1, hw4⟩ := h4
        obtain ⟨hl4, hw5⟩ := hback i w4 _ (.loop { rec .ready with state := .busy }) _ rfl hw4
        refine ⟨_, run_beginRound hl4 (by rw [hrec]), ?_⟩
        refine wpIn_mono (sat_el (hbody k i x hx hc (w.heap.size + 1) w.heap.size _) _ _ hF1 hw5) (fun e a2 w6 h6 => ?_)
        cases e with
        | normal =>
          obtain ⟨j, hcj, hw6⟩ := h6
          obtain ⟨hl6, hw7⟩ := hback j w6 _ (.loop { rec .ready with state := .ready, pending := none }) _ rfl hw6
          refine ⟨_, _, run_endRound none hl6, rfl, j, hcj, ?_⟩
          have : ({ ({ rec .ready with state := .busy } : Loop) with state := if (none : Option Code).isNone then .ready else .done, pending := none } : Loop) = rec .ready := by rw [hrec]; rfl
          rw [this]
          have h8 : ({ rec .ready with state := .ready, pending := none } : Loop) = rec .ready := by rw [hrec]
          rw [h8] at hw7
          exact hw7
        | exit id => exact h6.elim
        | goto t => exact h6.elim
        | ret => exact h6.elim
        | panic ch => exact h6.elim
        | outgrown => exact h6.elim
      | exit id => exact h4.elim
      | goto t => exact h4.elim
      | ret => exact h4.elim
      | panic ch => exact h4.elim
      | outgrown => exact h4.elim
    · rintro e w2 ⟨⟨v, rfl⟩, j, hcj, hw2⟩
      obtain ⟨hl2, hw3⟩ := hback j w2 _ (.loop { rec .ready with state := .exhausted }) _ rfl hw2
      refine ⟨none, w2.putObj (w.heap.size + 1) (.loop { rec .ready with state := .exhausted }), ?_, ?_⟩
      · have := run_endLoop (P := P) hl2 (by rw [hrec]; simp)
        rw [this]
        congr 1
        rw [hrec]
      · refine sat_el (done j hcj w.heap.size) _ _ ⟨ha.size, ?_, ha.get⟩ (by refine Hp.base ?_ hw3; exact ⟨rfl, .cons _ (List.Sublist.refl _)⟩)
        show [mkD w.heap.size] ++ a.defers = _
        rw [ha.defers]; rfl
end
/-! ### A region with a call of yield -/
/-- A list of operations in their order, calls of yield among them. -/
def slI (P : Program) (ops : Array Oper) (K : Act → World → Prop) : List Oper → Act → World → Prop
  | [], a, w => K a w
  | o :: l, a, w => if Region.wanted o (yielded ops a.tmps) then o.wpIn (rF none) 0 P a w (slI P ops K l) (fun _ _ _ => False) else slI P ops K l (a.put o.dst undef) w
section
variable {P : Program} {n : NN} {B : Nat} {w0 : Wd} {fr : FR} {hs : HS} {K : Act → World → Prop} {Q : Exit → Act → World → Prop} {ops : Array Oper} {l : List Oper} {d : Nat} {ty : TypeId} {pos : String} {aft : Array Edge}
theorem wpIn_to {o : Oper} {a : Act} {w : World} {N N' : Act → World → Prop} {Q Q' : Exit → Act → World → Prop} (h1 : ∀ a w, N a w → N' a w) (h2 : ∀ e a w, Q e a w → Q' e a w) (h : o.wpIn (rF none) 0 P a w N Q) : o.wpIn (rF none) 0 P a w N' Q' := by
  unfold Oper.wpIn at *
  refine ⟨h.1, ?_⟩
  have hh := h.2
  generalize (o.semAt (rF none).round a.eval).run P w = r at *
  cases r with
  | ok x w' =>
    cases x <;> simp only [Oper.uponIn] at hh ⊢ <;>
      first
        | exact h1 _ _ hh
        | exact ⟨hh.1, CallsIn.mono hh.2 (fun e w'' he => by cases e <;> first | exact h1 _ _ he | exact h2 _ _ _ he | exact (let ⟨x, y, z⟩ := he; ⟨x, y, h2 _ _ _ z⟩))⟩
        | exact ⟨hh.1, RowsIn.mono hh.2 (fun _ _ he => h1 _ _ he)⟩
        | exact ⟨hh.1, RoundIn.mono hh.2 (fun e w'' he => by cases e <;> first | exact h1 _ _ he | exact h2 _ _ _ he | exact (let ⟨x, y, z⟩ := he; ⟨x, y, h2 _ _ _ z⟩))⟩
  | halt x w' => cases x <;> simp only [Oper.uponIn] at hh ⊢ <;> exact h2 _ _ _ hh
theorem ops_slI {l0 : List Oper} (hk : ∀ a w, K a w → Q .normal a w) : ∀ (l pre : List Oper) (a : Act) (w : World), l0 = pre ++ l → slI P l0.toArray K l a w →
    wpOpsIn (rF none) 0 P l0.toArray Q (List.range' pre.length l.length) a w
  | [], pre, a, w, _, h => by unfold slI at h; exact hk _ _ h
  | o :: l, pre, a, w, he, h => by
    have ho : l0.toArray[pre.length]? = some o := by subst he; simp
    have ih := fun a w (hh : slI P l0.toArray K l a w) => ops_slI hk l (pre ++ [o]) a w (by simp [he]) hh
    simp only [List.length_append, List.length_cons, List.length_nil] at ih
    rw [List.length_cons, List.range'_succ]
    unfold wpOpsIn
    simp only [ho]
    unfold slI at h
    split
    · rename_i hw
      rw [if_pos hw] at h
      exact wpIn_to (fun a w h => ih a w h) (fun _ _ _ h => h.elim) h
    · rename_i hw
      rw [if_neg hw] at h
      exact ⟨fun _ _ => trivial, ih _ _ h⟩
theorem g_regY {id : Nat} {l : List Oper} (h : Sat n B w0 (slI P l.toArray (Q .normal) l) fr hs) : Sat n B w0 ((Code.region id l.toArray false).wpIn (rF none) 0 P Q) fr hs :=
  sat_mk fun a w ha hw => wpIn_region (by
    have := ops_slI (Q := Q) (fun _ _ h => h) l [] a w rfl (sat_el h a w ha hw)
    rw [List.size_toArray, List.range_eq_range']
    exact this)
theorem si_nil (h : Sat n B w0 K fr hs) : Sat n B w0 (slI P ops K []) fr hs := h
theorem si_one {o : Oper} (hd : noDf o = true) (h : Sat n B w0 (sl P ops (slI P ops K l) [o]) fr hs) : Sat n B w0 (slI P ops K (o :: l)) fr hs := sat_mk fun a w ha hw => by
  have h1 := sat_el h a w ha hw
  unfold sl at h1
  unfold slI
  split
  · rename_i hw'
    rw [if_pos hw'] at h1
    refine op_rF hd (Oper.upon_mono (fun a w h => ?_) (fun _ _ _ h => h) h1)
    unfold sl at h; exact h
  · rename_i hw'
    rw [if_neg hw'] at h1
    unfold sl at h1; exact h1
theorem si_yield {ι : Type} {W : ι → Wd} {H : ι → HS} {C : ι → Prop} {y ly : Nat} {x : Operand} {v : Value} {ts : Array TypeId} (hy : opv fr (.tmp y) = some (.func (.yield ly) #[] #[])) (hx : opv fr x = some v) (hn : d < n.n)
    (hr : ∀ w, Hp B w0 w hs → ∃ fn tmps assign body, (Instr.yield ly #[v]).run P w = .ok (.round ly fn tmps assign body) w ∧ RoundIn Fence.wide 0 P ly fn tmps assign body w (fun e w' => e = .returned (.bool true) ∧ ∃ j, C j ∧ Hp B (W j) w' (H j)))
    (h : ∀ j, C j → Sat n B (W j) (slI P ops K l) ((d, .bool true) :: fr) (H j)) :
    Sat n B w0 (slI P ops K (⟨some d, .call { callee := .value (.tmp y), args := #[x], argTypes := ts }, ty, pos, aft, none⟩ :: l)) fr hs := sat_mk fun a w ha hw => by
  unfold slI
  rw [if_pos (by simp [Region.wanted])]
  refine ⟨fun _ _ => trivial, ?_⟩
  obtain ⟨fn, tmps, assign, body, h1, h2⟩ := hr w hw
  have hrun : (Oper.semAt (rF none).round a.eval ⟨some d, .call { callee := .value (.tmp y), args := #[x], argTypes := ts }, ty, pos, aft, none⟩).run P w = .ok (.round ly fn tmps assign body) w := by
    rw [Oper.semAt_eq _ _ _ (fun c e => by cases e)]
    simp only [execOp, resolve, ha.opv hy, Deferred.ofValue, Sem.run_bind, Sem.run_pure, Result.andThen_ok, invoke]
    simp [ha.opv hx, h1]
  rw [hrun]
  refine ⟨rF_dep, RoundIn.mono h2 ?_⟩
  rintro e w' ⟨rfl, j, hj, hw'⟩
  exact sat_el (h j hj) _ _ (ha.put hn _) hw'
end
section
variable {P : Program} {n : NN} {B : Nat} {w0 : Wd} {fr : FR} {hs : HS} {K : Act → World → Prop} {Q : Exit → Act → World → Prop} {ro : Option Nat} {ops : Array Oper} {l : List Oper} {d : Nat} {ty : TypeId} {pos : String} {aft : Array Edge}
theorem kGR (id : Nat) {l : List Oper} (h : Sat n B w0 ((Code.region id l.toArray false).wpIn (rF ro) 0 P Q) fr hs) : Sat n B w0 ((Code.region id l.toArray false).wpIn (rF ro) 0 P Q) fr hs := h
theorem kGD (id : Nat) {l : List Oper} (h : Sat n B w0 ((Code.region id l.toArray true).wpIn (rF ro) 0 P Q) fr hs) : Sat n B w0 ((Code.region id l.toArray true).wpIn (rF ro) 0 P Q) fr hs := h
theorem kYc (t : Nat) {xs : Array Operand} {ts : Array TypeId} (h : Sat n B w0 (slI P ops K (⟨some d, .call ⟨.value (.tmp t), xs, ts⟩, ty, pos, aft, none⟩ :: l)) fr hs) : Sat n B w0 (slI P ops K (⟨some d, .call ⟨.value (.tmp t), xs, ts⟩, ty, pos, aft, none⟩ :: l)) fr hs := h
theorem kYo (op : Op) (h : Sat n B w0 (slI P ops K (⟨some d, op, ty, pos, aft, none⟩ :: l)) fr hs) : Sat n B w0 (slI P ops K (⟨some d, op, ty, pos, aft, none⟩ :: l)) fr hs := h
/-- A function's contract, whatever its end is to say. -/
theorem calls_enterG {k0 : Nat} {f : Nat} {fn : Func} {c : Code} {args : List Value} {R : Ending → World → Prop} {w : World} (hf : P.funcs[f]? = some fn) (hb : fn.body = some c) (hn : fn.ntmps = k0) (hl : args.length ≤ k0) (hw : Hp B w0 w hs)
    (h : Sat ⟨k0, []⟩ B w0 (c.wpIn (rF none) 0 P (bodyPost P fn R)) (slots 0 args) hs) : Calls P f args.toArray w R := by
  refine calls_rF 0 (callsIn_of_wp hf hb trivial (sat_el h _ w ⟨?_, rfl, ?_⟩ hw))
  · simp [hn]; omega
  · intro t v hv
    obtain ⟨_, h2⟩ := get_slots args 0 t v hv
    simp only [Nat.sub_zero] at h2
    have ht : t < args.length := (List.getElem?_eq_some_iff.1 h2).1
    refine ⟨by show t < k0; omega, ?_⟩
    have h3 : t < args.length + (fn.ntmps - args.length) := by omega
    simp only [Array.getD]
    rw [dif_pos (by simpa using h3)]
    simp only [Array.getInternal_eq_getElem]
    rw [Array.getElem_append_left (by simpa using ht)]
    simpa using (List.getElem?_eq_some_iff.1 h2).2
theorem e_retY {fn : Func} {R : Ending → World → Prop} (hr : fn.results = #[]) (hR : ∀ w, Hp B w0 w hs → R (.returned (.tuple #[])) w) (hd0 : n.ds = [] := by rfl) : Sat n B w0 (bodyPost P fn R .ret) fr hs := sat_mk fun a w ha hw =>
  ⟨ha.defers.trans hd0, .tuple #[], by simp [results, hr], hR w hw⟩
theorem e_retYn {fn : Func} {R : Ending → World → Prop} (hr : fn.results = #[]) (hR : ∀ w, Hp B w0 w hs → R (.returned (.tuple #[])) w) (hd0 : n.ds = [] := by rfl) : Sat n B w0 (bodyPost P fn R .normal) fr hs := sat_mk fun a w ha hw =>
  ⟨ha.defers.trans hd0, .tuple #[], by simp [results, hr], hR w hw⟩
end
/-! ### The beginning and the end of a function that ranges over functions -/
section
variable {P : Program} {n : NN} {B : Nat} {w0 : Wd} {fr : FR} {hs hs' : HS}
theorem leaves_marks {fn : Func} {tmps : Array Value} {R : Value → HS → Prop} {v : Value} (hv : ∀ w, Hp B w0 w hs → (results fn tmps).run P w = .ok v w) (hR : R v hs') (hsub : hs'.Sublist hs) :
    ∀ (Ds : List Nat) (ms : List (Nat × Obj)) (w : World), Hp B ⟨w0.w, (Ds.map fun D => (D, Obj.deferred (some []))) ++ ms⟩ w hs → w0.ms.Sublist ms → LeavesInM (rF none) 0 P fn tmps (Ends B w0 R) (Ds.map mkD) .returning w
  | [], ms, w, hw, hms => by
    have hw' : Hp B w0 w hs := by refine Hp.base ?_ hw; exact ⟨rfl, hms⟩
    exact ⟨v, hv w hw', v, hs', rfl, hR, hw'.sub hsub⟩
  | D :: Ds, ms, w, hw, hms => by
    obtain ⟨_, h2, _⟩ := hw.obj (D, .deferred (some [])) (.head _)
    refine ⟨by simp, .inl ⟨D, _, rfl, run_takeDeferred h2, ?_⟩⟩
    refine leaves_marks hv hR hsub Ds ms _ ?_ hms
    have h3 := hw.setObj (o' := .deferred none) (.head _) rfl
    refine Hp.base ?_ h3
    exact ⟨rfl, .cons _ (List.Sublist.refl _)⟩
theorem e_retG1 {w1 : Wd} {fn : Func} {R : Value → HS → Prop} {r : ResultVar} {v : Value} {Ds : List Nat} {ms : List (Nat × Obj)} (hd : n.ds = Ds.map mkD) (hw1 : w1 = ⟨w0.w, (Ds.map fun D => (D, Obj.deferred (some []))) ++ ms⟩) (hms : w0.ms.Sublist ms)
    (hr : fn.results = #[r]) (h1 : RV P B w0 fr hs r v) (hR : R v hs') (hsub : hs'.Sublist hs) : Sat n B w1 (bodyPostM (rF none) 0 P fn (Ends B w0 R) .ret) fr hs := sat_mk fun a w ha hw => by
  show LeavesInM (rF none) 0 P fn a.tmps (Ends B w0 R) a.defers .returning w
  rw [ha.defers, hd]
  subst hw1
  exact leaves_marks (fun w hw => by simp [results_rv1, hr, RV.run ha hw h1]) hR hsub Ds ms w hw hms
theorem fn_enterG {k0 : Nat} {f : Nat} {fn : Func} {c : Code} {args : List Value} {R : Value → HS → Prop} (hf : P.funcs[f]? = some fn) (hb : fn.body = some c) (hn : fn.ntmps = k0) (hl : args.length ≤ k0)
    (h : Sat ⟨k0, []⟩ B w0 (c.wpIn (rF none) 0 P (bodyPostM (rF none) 0 P fn (Ends B w0 R))) (slots 0 args) hs) : Fn P f args.toArray B w0 hs R := fn_mk fun w hw => by
  refine calls_rF 0 (callsIn_of_wp_marks hf hb trivial (sat_el h _ w ⟨?_, rfl, ?_⟩ hw))
  · simp [hn]; omega
  · intro t v hv
    obtain ⟨_, h2⟩ := get_slots args 0 t v hv
    simp only [Nat.sub_zero] at h2
    have ht : t < args.length := (List.getElem?_eq_some_iff.1 h2).1
    refine ⟨by show t < k0; omega, ?_⟩
    have h3 : t < args.length + (fn.ntmps - args.length) := by omega
    simp only [Array.getD]
    rw [dif_pos (by simpa using h3)]
    simp only [Array.getInternal_eq_getElem]
    rw [Array.getElem_append_left (by simpa using ht)]
    simpa using (List.getElem?_eq_some_iff.1 h2).2
end
end Go.Proofs.Ytnbickholedckaa
