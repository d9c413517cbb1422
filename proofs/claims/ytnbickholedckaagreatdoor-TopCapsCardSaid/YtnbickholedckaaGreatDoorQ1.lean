/- Texts of this claim, put together; the parts that it needs. -/
import Derived.Test.YtnbickholedckaaGreatDoorQ0
import Derived.WalkKit
import Derived.Deep.Quiet
import Derived.KernelRfl
namespace Go.Proofs.YtnbickholedckaaGreatDoor
open Go.RowKit
abbrev FR := List (Nat × Value)
abbrev HS := List (Nat × List Value)
def get : FR → Nat → Option Value
  | [], _ => none
  | (k, v) :: r, t => match Nat.beq k t with | true => some v | false => get r t
def getT {β : Type} : List (Nat × β) → Nat → Option β
  | [], _ => none
  | (k, v) :: r, t => match Nat.beq k t with | true => some v | false => getT r t
theorem getT_mem {β : Type} : ∀ {l : List (Nat × β)} {t : Nat} {r : β}, getT l t = some r → (t, r) ∈ l
  | (k, v) :: l, t, r, h => by
    simp only [getT] at h
    cases hb : Nat.beq k t with
    | true => rw [hb] at h; simp only [Option.some.injEq] at h; subst h; rw [← Nat.eq_of_beq_eq_true hb]; exact .head _
    | false => rw [hb] at h; exact .tail _ (getT_mem h)
def AllZ {α : Type} (p : α → Prop) : List α → Prop
  | [] => True
  | x :: l => p x ∧ AllZ p l
theorem AllZ.of {α : Type} {p : α → Prop} : ∀ {l : List α}, AllZ p l → ∀ x ∈ l, p x
  | y :: l, h, x, hx => by
    rcases List.mem_cons.1 hx with rfl | hx
    · exact h.1
    · exact AllZ.of h.2 x hx
def opv (fr : FR) : Operand → Option Value
  | .tmp t => get fr t
  | .const v => some v
  | .func f => some (.func (.func f) #[] #[])
  | .global g => some (.pointer (some ⟨g, 0, none⟩))
/-- The number of slots, and the deferred calls. -/
structure NN where
  n : Nat
  ds : List Deferred
theorem ltd {a b : Nat} (h : Nat.ble (a + 1) b = true) : a < b := Nat.le_of_ble_eq_true h
structure Fr (n : NN) (a : Act) (fr : FR) : Prop where
  size : a.tmps.size = n.n
  defers : a.defers = n.ds
  get : ∀ t v, get fr t = some v → t < n.n ∧ a.tmps.getD t undef = v
/-- What memory was at the entry, and the objects of the call's own that are no cells: maps and what ranges over them. -/
structure Wd where
  w : World
  ms : List (Nat × Obj)
def notCells : Obj → Bool
  | .cells _ _ _ => false
  | _ => true
structure Hp (B : Nat) (w0 : Wd) (w : World) (hs : HS) : Prop where
  below : Below B w0.w w
  big : B ≤ w.heap.size
  mem : ∀ p ∈ hs, B ≤ p.1 ∧ ∃ e, w.heap[p.1]? = some (.cells p.2.toArray e (0, 0))
  nodup : (hs.map (·.1)).Nodup
  obj : ∀ p ∈ w0.ms, B ≤ p.1 ∧ w.heap[p.1]? = some p.2 ∧ ∀ q ∈ hs, q.1 ≠ p.1
  ond : (w0.ms.map (·.1)).Nodup
theorem Fr.opv {n : NN} {a : Act} {fr : FR} (h : Fr n a fr) {x : Operand} {v : Value} (hx : opv fr x = some v) : a.eval x = v := by
  cases x with
  | tmp t => exact (h.get t v hx).2
  | const u => simpa [YtnbickholedckaaGreatDoor.opv, Act.eval] using hx
  | global g => simpa [YtnbickholedckaaGreatDoor.opv, Act.eval] using hx
  | func f => simpa [YtnbickholedckaaGreatDoor.opv, Act.eval] using hx
theorem Fr.put {n : NN} {a : Act} {fr : FR} (h : Fr n a fr) {d : Nat} (hd : d < n.n) (v : Value) : Fr n (a.put (some d) v) ((d, v) :: fr) := by
  refine ⟨by simp [Act.put, h.size], by simp [Act.put, h.defers], ?_⟩
  intro t u hu
  simp only [YtnbickholedckaaGreatDoor.get] at hu
  by_cases htd : d = t
  · subst htd
    have : Nat.beq d d = true := Nat.beq_refl d
    rw [this] at hu
    simp only [Option.some.injEq] at hu
    subst hu
    refine ⟨hd, ?_⟩
    have : d < a.tmps.size := by rw [h.size]; exact hd
    simp [Act.put, Array.getD, this]
  · have hb : Nat.beq d t = false := by
      cases hbb : Nat.beq d t with
      | true => exact absurd (Nat.eq_of_beq_eq_true hbb) htd
      | false => rfl
    rw [hb] at hu
    obtain ⟨h1, h2⟩ := h.get t u hu
    refine ⟨h1, ?_⟩
    rw [← h2]
    simp [Act.put, Array.getD, h.size, h1, htd]
/-- Every known slot of fr' is known in fr. -/
def Sub (fr' fr : FR) : Prop := ∀ t v, get fr' t = some v → get fr t = some v
theorem Sub.nil (fr : FR) : Sub [] fr := fun _ _ h => by cases h
theorem Sub.cons {fr' fr : FR} {k : Nat} {v : Value} (h1 : get fr k = some v) (h : Sub fr' fr) : Sub ((k, v) :: fr') fr := by
  intro t u hu
  simp only [get] at hu
  cases hb : Nat.beq k t with
  | true => rw [hb] at hu; simp only [Option.some.injEq] at hu; subst hu; rw [← Nat.eq_of_beq_eq_true hb]; exact h1
  | false => rw [hb] at hu; exact h t u hu
/-- The same, as a list of equations. -/
def SubL : FR → FR → Prop
  | [], _ => True
  | (k, v) :: r, fr => get fr k = some v ∧ SubL r fr
theorem SubL.sub : ∀ {fr' fr : FR}, SubL fr' fr → Sub fr' fr
  | [], _, _ => Sub.nil _
  | (_, _) :: _, _, h => Sub.cons h.1 h.2.sub
theorem Fr.sub {n : NN} {a : Act} {fr fr' : FR} (h : Fr n a fr) (hs : Sub fr' fr) : Fr n a fr' := ⟨h.size, h.defers, fun t v hv => h.get t v (hs t v hv)⟩
theorem Hp.sub {B : Nat} {w0 : Wd} {w : World} {hs hs' : HS} (h : Hp B w0 w hs) (hp : hs'.Sublist hs) : Hp B w0 w hs' :=
  ⟨h.below, h.big, fun p hp' => h.mem p (hp.subset hp'), h.nodup.sublist (hp.map _), fun p hp2 => ⟨(h.obj p hp2).1, (h.obj p hp2).2.1, fun q hq => (h.obj p hp2).2.2 q (hp.subset hq)⟩, h.ond⟩
theorem Hp.perm {B : Nat} {w0 : Wd} {w : World} {hs hs' : HS} (h : Hp B w0 w hs) (hp : hs.Perm hs') : Hp B w0 w hs' :=
  ⟨h.below, h.big, fun p hp' => h.mem p (hp.mem_iff.2 hp'), (hp.map _).nodup_iff.1 h.nodup, fun p hp2 => ⟨(h.obj p hp2).1, (h.obj p hp2).2.1, fun q hq => (h.obj p hp2).2.2 q (hp.mem_iff.2 hq)⟩, h.ond⟩
theorem Hp.refl (w : World) : Hp w.heap.size ⟨w, []⟩ w [] := ⟨Below.refl _ _, Nat.le_refl _, fun _ h => (by cases h), List.nodup_nil, fun _ h => (by cases h), List.nodup_nil⟩
/-- Whatever the frame and the world: where the frame is as fr says and memory as hs says, K holds. -/
def Sat (n : NN) (B : Nat) (w0 : Wd) (K : Act → World → Prop) (fr : FR) (hs : HS) : Prop := ∀ a w, Fr n a fr → Hp B w0 w hs → K a w
section
variable {P : Program} {n : NN} {B : Nat} {w0 : Wd} {fr fr' : FR} {hs hs' : HS} {K K' : Act → World → Prop} {Q Q' : Exit → Act → World → Prop}
theorem Sat.sub (h1 : Sub fr' fr) (h : Sat n B w0 K fr' hs) : Sat n B w0 K fr hs := fun a w ha hw => h a w (ha.sub h1) hw
theorem Sat.drop (h1 : hs'.Sublist hs) (h : Sat n B w0 K fr hs') : Sat n B w0 K fr hs := fun a w ha hw => h a w ha (hw.sub h1)
theorem Sat.perm (h1 : hs.Perm hs') (h : Sat n B w0 K fr hs') : Sat n B w0 K fr hs := fun a w ha hw => h a w ha (hw.perm h1)
theorem Sat.mono (h1 : ∀ a w, K a w → K' a w) (h : Sat n B w0 K fr hs) : Sat n B w0 K' fr hs := fun a w ha hw => h1 _ _ (h a w ha hw)
/-- A list of operations in their order, none of which panics. -/
def sl (P : Program) (ops : Array Oper) (K : Act → World → Prop) : List Oper → Act → World → Prop
  | [], a, w => K a w
  | o :: l, a, w => if Region.wanted o (yielded ops a.tmps) then o.wp P a w (sl P ops K l) (fun _ _ _ => False) else sl P ops K l (a.put o.dst undef) w
theorem Oper.upon_mono {o : Oper} {a : Act} {r : Result Next} {N N' : Act → World → Prop} {Q Q' : Exit → Act → World → Prop} (h1 : ∀ a w, N a w → N' a w) (h2 : ∀ e a w, Q e a w → Q' e a w)
    (h : o.upon P a N Q r) : o.upon P a N' Q' r := by
  cases r with
  | ok x w =>
    cases x <;> simp only [Oper.upon] at h ⊢
    case value v => exact h1 _ _ h
    case skip => exact h1 _ _ h
    case defer d => exact h1 _ _ h
    case enter f args =>
      refine h.mono fun e w' he => ?_
      cases e with
      | returned v => exact h1 _ _ he
      | panicked c => exact h2 _ _ _ he
      | outgrown => obtain ⟨a', w'', hq⟩ := he; exact ⟨a', w'', h2 _ _ _ hq⟩
    case row row args => exact h.mono fun v w' hv => h1 _ _ hv
  | halt x w =>
    cases x <;> simp only [Oper.upon] at h ⊢
    exact h2 _ _ _ h
theorem wpList_of_sl {ops : Array Oper} (hk : ∀ a w, K a w → Q .normal a w) : ∀ (l : List Oper) (a : Act) (w : World), sl P ops K l a w → wpList P ops Q l a w
  | [], a, w, h => hk _ _ h
  | o :: l, a, w, h => by
    unfold wpList
    unfold sl at h
    split
    · rename_i hw
      rw [if_pos hw] at h
      exact .inl (Oper.upon_mono (fun a w h => wpList_of_sl hk l a w h) (fun _ _ _ h => h.elim) h)
    · rename_i hw
      rw [if_neg hw] at h
      exact wpList_of_sl hk l _ w h
/-! ### Code -/
theorem c_seq {x y : Code} (h : Sat n B w0 (x.wp P (Exit.then (y.wp P Q) Q)) fr hs) : Sat n B w0 ((Code.seq x y).wp P Q) fr hs := fun a w ha hw => wp_seq (h a w ha hw)
theorem c_block {id : Nat} {c : Code} (h : Sat n B w0 (c.wp P (Exit.inBlock id Q)) fr hs) : Sat n B w0 ((Code.block id c).wp P Q) fr hs := fun a w ha hw => wp_block (h a w ha hw)
theorem c_skip (h : Sat n B w0 (Q .normal) fr hs) : Sat n B w0 (Code.skip.wp P Q) fr hs := fun a w ha hw => wp_skip (h a w ha hw)
theorem c_exit {id : Nat} (h : Sat n B w0 (Q (.exit id)) fr hs) : Sat n B w0 ((Code.exit id).wp P Q) fr hs := fun a w ha hw => wp_exit (h a w ha hw)
theorem c_ret (h : Sat n B w0 (Q .ret) fr hs) : Sat n B w0 (Code.ret.wp P Q) fr hs := fun a w ha hw => wp_ret (h a w ha hw)
theorem c_cond {c : Operand} {x y : Code} {p : Prop} [Decidable p] (hc : opv fr c = some (.bool (decide p))) (ht : p → Sat n B w0 (x.wp P Q) fr hs) (hf : ¬ p → Sat n B w0 (y.wp P Q) fr hs) :
    Sat n B w0 ((Code.cond c x y).wp P Q) fr hs := fun a w ha hw => by
  by_cases hp : p
  · exact wp_cond_true (by rw [ha.opv hc]; simp [hp]) (ht hp a w ha hw)
  · exact wp_cond_false (by rw [ha.opv hc]; simp [hp]) (hf hp a w ha hw)
theorem c_cond_b {c : Operand} {x y : Code} {b : Bool} (hc : opv fr c = some (.bool b)) (ht : b = true → Sat n B w0 (x.wp P Q) fr hs) (hf : b = false → Sat n B w0 (y.wp P Q) fr hs) :
    Sat n B w0 ((Code.cond c x y).wp P Q) fr hs := fun a w ha hw => by
  cases b with
  | true => exact wp_cond_true (ha.opv hc) (ht rfl a w ha hw)
  | false => exact wp_cond_false (ha.opv hc) (hf rfl a w ha hw)
theorem c_cond_t {c : Operand} {x y : Code} (hc : opv fr c = some (.bool true)) (ht : Sat n B w0 (x.wp P Q) fr hs) : Sat n B w0 ((Code.cond c x y).wp P Q) fr hs := fun a w ha hw => wp_cond_true (ha.opv hc) (ht a w ha hw)
theorem c_cond_f {c : Operand} {x y : Code} (hc : opv fr c = some (.bool false)) (ht : Sat n B w0 (y.wp P Q) fr hs) : Sat n B w0 ((Code.cond c x y).wp P Q) fr hs := fun a w ha hw => wp_cond_false (ha.opv hc) (ht a w ha hw)
theorem c_region {id : Nat} {l : List Oper} (h : Sat n B w0 (sl P l.toArray (Q .normal) l) fr hs) : Sat n B w0 ((Code.region id l.toArray false).wp P Q) fr hs :=
  fun a w ha hw => wp_region_lit (wpList_of_sl (fun _ _ h => h) l a w (h a w ha hw))
/-- What holds behind a round: the invariant at another index, and the measure has gone down. -/
def Nx (n : NN) (B : Nat) (w0 : Wd) {ι : Type} (F : ι → FR) (H : ι → HS) (C : ι → Prop) (μ : ι → Nat) (m : Nat) (a : Act) (w : World) : Prop := ∃ j, C j ∧ μ j < m ∧ Fr n a (F j) ∧ Hp B w0 w (H j)
theorem c_loop {c : Code} {ι : Type} (F : ι → FR) (H : ι → HS) (C : ι → Prop) (μ : ι → Nat) (i0 : ι) (hc : C i0) (h0 : SubL (F i0) fr) (h1 : (H i0).Sublist hs)
    (round : ∀ i, C i → Sat n B w0 (c.wp P (Exit.then (Nx n B w0 F H C μ (μ i)) Q)) (F i) (H i)) : Sat n B w0 ((Code.loop c).wp P Q) fr hs := by
  intro a w ha hw b k cs
  have key : ∀ m (i : ι) a w, C i → μ i = m → Fr n a (F i) → Hp B w0 w (H i) →
      ∃ e a' w', Q e a' w' ∧ Arrives P (lone (b.at a (.code c :: .inLoop c :: k)) cs w) b k cs e a' w' := by
    intro m
    induction m using Nat.strongRecOn with
    | _ m ih =>
      intro i a w hci hi ha hw
      obtain ⟨e, a₁, w₁, hq, harr⟩ := round i hci a w ha hw b (.inLoop c :: k) cs
      cases e with
      | normal =>
        obtain ⟨j, hcj, hlt, hfj, hhj⟩ := hq
        obtain ⟨e₂, a₂, w₂, hq₂, harr₂⟩ := ih (μ j) (hi ▸ hlt) j a₁ w₁ hcj rfl hfj hhj
        exact ⟨e₂, a₂, w₂, hq₂, .of_steps (Steps.trans harr (.one step_inLoop)) harr₂⟩
      | exit id' => exact ⟨_, a₁, w₁, hq, .pass (x := .inLoop c) rfl (fun _ _ => .inl (by simp)) harr⟩
      | goto l => exact ⟨_, a₁, w₁, hq, .pass (x := .inLoop c) rfl (fun _ _ => .inl (by simp)) harr⟩
      | ret => exact ⟨_, a₁, w₁, hq, .pass (x := .inLoop c) rfl (fun _ _ => .inl (by simp)) harr⟩
      | panic ch => exact ⟨_, a₁, w₁, hq, .pass (x := .inLoop c) rfl (fun _ _ => .inl (by simp)) harr⟩
      | outgrown => exact ⟨_, a₁, w₁, hq, .pass (x := .inLoop c) rfl (fun _ _ => .inl (by simp)) harr⟩
  obtain ⟨e, a', w', hq, harr⟩ := key _ i0 a w hc rfl (ha.sub h0.sub) (hw.sub h1)
  exact ⟨e, a', w', hq, .of_steps (.one step_loop) harr⟩
end
def InI (x : Int) : Prop := -9223372036854775808 ≤ x ∧ x ≤ 9223372036854775807
theorem wrap_in {x : Int} (h : InI x) : IntKind.i64.wrap x = x := by
  obtain ⟨h1, h2⟩ := h
  exact IntWalk.i64_in x ⟨h1, h2⟩
/-- The operation by itself: what it does hangs on these three alone. -/
def ex (ρ : Operand → Value) (op : Op) (ty : TypeId) : Sem Next := execOp ρ ⟨none, op, ty, "", #[], none⟩
theorem ex_eq (ρ : Operand → Value) (o : Oper) : execOp ρ o = ex ρ o.op o.type := rfl
section
variable (P : Program) (n : NN) (B : Nat) (w0 : Wd)
/-- The operation yields v and leaves the world alone. -/
def OpF (op : Op) (ty : TypeId) (fr : FR) (hs : HS) (v : Value) : Prop := ∀ a w, Fr n a fr → Hp B w0 w hs → (ex a.eval op ty).run P w = .ok (.value v) w
/-- A cell that is known. -/
def CellAt (hs : HS) (ad : Addr) (v : Value) : Prop := ∀ w, Hp B w0 w hs → w.cell? ad = some v
/-- A variable that is known. -/
def Ld (hs : HS) (t : TypeId) (ad : Addr) (v : Value) : Prop := ∀ w, Hp B w0 w hs → (loadVar t ad).run P w = .ok v w
end
/-- Is the type a struct or an array, and how many cells has it? -/
def sh (P : Program) (t : TypeId) : Option (Bool × Nat) :=
  match P.info? t, P.underlying t with
  | some i, some d => some ((match d with | .struct _ | .array _ _ => true | _ => false), i.size)
  | _, _ => none
/-- The address of a slice's cell. -/
def ea (oa : Option Addr) (i : Nat) : Addr := match oa with | some a => a.add i | none => ⟨0, 0, none⟩
/-- A number, and numbers, as values. -/
def iv (x : Int) : Value := .int .i64 x
def ivs (l : List Int) : List Value := l.map iv
theorem ivs_length (l : List Int) : (ivs l).length = l.length := by simp [ivs]
theorem ivs_get {l : List Int} {i : Nat} (h : i < l.length) : (ivs l)[i]? = some (iv (l.getD i 0)) := by simp [ivs, h]
theorem ivs_set (l : List Int) (i : Nat) (x : Int) : (ivs l).set i (iv x) = ivs (l.set i x) := by simp [ivs]
theorem ivs_seg {l : List Int} {i k : Nat} : ((ivs l).drop i).take k = ivs ((l.drop i).take k) := by simp [ivs]
theorem seg2 {l : List Int} {i : Nat} (h : i + 1 < l.length) : (l.drop i).take 2 = [l.getD i 0, l.getD (i + 1) 0] := by
  rw [List.drop_eq_getElem_cons (show i < l.length by omega), List.drop_eq_getElem_cons h]
  simp only [List.take_succ_cons, List.take_zero]
  simp [List.getD, List.getElem?_eq_getElem (show i < l.length by omega), List.getElem?_eq_getElem h]
section
variable {P : Program} {n : NN} {B : Nat} {w0 : Wd} {fr : FR} {hs hs' : HS} {ty : TypeId}
theorem run_sizeOf {t : TypeId} {b : Bool} {k : Nat} (h : sh P t = some (b, k)) (w : World) : (sizeOf t).run P w = .ok k w := by
  unfold sh at h
  cases h1 : P.info? t with
  | none => simp [h1] at h
  | some i =>
    cases h2 : P.underlying t with
    | none => simp [h1, h2] at h
    | some d =>
      simp only [h1, h2, Option.some.injEq, Prod.mk.injEq] at h
      simp [sizeOf, typeInfo, h1, h.2]
theorem run_isAgg {t : TypeId} {b : Bool} {k : Nat} (h : sh P t = some (b, k)) (w : World) : (isAgg t).run P w = .ok b w := by
  unfold sh at h
  cases h1 : P.info? t with
  | none => simp [h1] at h
  | some i =>
    cases h2 : P.underlying t with
    | none => simp [h1, h2] at h
    | some d =>
      simp only [h1, h2, Option.some.injEq, Prod.mk.injEq] at h
      rw [← h.1]
      cases d <;> simp [isAgg, underlying, h2]
/-- n numbers, by their place. -/
def tab (n : Nat) (F : Nat → Int) : List Int := (List.range n).map F
theorem tab_length (n : Nat) (F : Nat → Int) : (tab n F).length = n := by simp [tab]
theorem tab_getD {n i : Nat} (F : Nat → Int) (h : i < n) : (tab n F).getD i 0 = F i := by simp [tab, List.getD, h]
theorem tab_ext {n : Nat} {F G : Nat → Int} (h : ∀ i, i < n → F i = G i) : tab n F = tab n G := by
  unfold tab
  exact List.map_congr_left (fun i hi => h i (List.mem_range.1 hi))
theorem tab_set (n : Nat) (F : Nat → Int) (k : Nat) (x : Int) : (tab n F).set k x = tab n (fun i => if i = k then x else F i) := by
  apply List.ext_getElem
  · simp [tab]
  · intro i h1 h2
    simp only [List.getElem_set, tab, List.getElem_map, List.getElem_range]
    by_cases h : k = i
    · simp [h]
    · simp [h, Ne.symm h]
/-- The sum of the first n numbers. -/
def sumTo (F : Nat → Int) : Nat → Int
  | 0 => 0
  | n + 1 => sumTo F n + F n
theorem sumTo_succ (F : Nat → Int) (n : Nat) : sumTo F (n + 1) = sumTo F n + F n := rfl
theorem sumTo_congr {F G : Nat → Int} : ∀ n, (∀ i, i < n → F i = G i) → sumTo F n = sumTo G n
  | 0, _ => rfl
  | n + 1, h => by rw [sumTo, sumTo, sumTo_congr n (fun i hi => h i (by omega)), h n (by omega)]
theorem sumTo_nonneg {F : Nat → Int} : ∀ n, (∀ i, i < n → 0 ≤ F i) → 0 ≤ sumTo F n
  | 0, _ => by simp [sumTo]
  | n + 1, h => by have := sumTo_nonneg n (fun i hi => h i (by omega)); have := h n (by omega); simp only [sumTo]; omega
theorem sumTo_le {F : Nat → Int} {b : Int} : ∀ n, (∀ i, i < n → F i ≤ b) → sumTo F n ≤ n * b
  | 0, _ => by simp [sumTo]
  | n + 1, h => by
    have h1 := sumTo_le n (fun i hi => h i (by omega)); have h2 := h n (by omega)
    simp only [sumTo]
    have : ((n + 1 : Nat) : Int) * b = n * b + b := by push_cast; rw [Int.add_mul, Int.one_mul]
    omega
theorem sumTo_zero {F : Nat → Int} : ∀ n, (∀ i, i < n → F i = 0) → sumTo F n = 0
  | 0, _ => rfl
  | n + 1, h => by rw [sumTo, sumTo_zero n (fun i hi => h i (by omega)), h n (by omega)]; rfl
theorem sumTo_add (F G : Nat → Int) : ∀ n, sumTo (fun i => F i + G i) n = sumTo F n + sumTo G n
  | 0 => rfl
  | n + 1 => by simp only [sumTo, sumTo_add F G n]; omega
/-! ### Cells -/
theorem Hp.cell {w : World} (h : Hp B w0 w hs) {b : Nat} {cs : List Value} (hm : (b, cs) ∈ hs) (i : Nat) : w.cell? ⟨b, i, none⟩ = cs[i]? := by
  obtain ⟨_, e, he⟩ := h.mem _ hm
  simp only at he
  simp [World.cell?, he]
theorem Hp.free {w : World} (h : Hp B w0 w hs) {b : Nat} {cs : List Value} (hm : (b, cs) ∈ hs) (i : Nat) : w.frozen? ⟨b, i, none⟩ = false := by
  obtain ⟨_, e, he⟩ := h.mem _ hm
  simp only at he
  simp [World.frozen?, he]
theorem own {b : Nat} {cs : List Value} (hm : (b, cs) ∈ hs) {i : Nat} {v : Value} (hv : cs[i]? = some v) : CellAt B w0 hs ⟨b, i, none⟩ v := fun w hw => by rw [hw.cell hm, hv]
theorem old {ad : Addr} {v : Value} (hv : w0.w.cell? ad = some v) (hb : ad.block < B) : CellAt B w0 hs ad v := fun w hw => by rw [hw.below.cell hb, hv]
theorem own_iv {b : Nat} {l : List Int} (hm : (b, ivs l) ∈ hs) {i : Nat} (hi : i < l.length) : CellAt B w0 hs ⟨b, i, none⟩ (iv (l.getD i 0)) := own hm (ivs_get hi)
/-- The slice (address oa) holds the numbers l. -/
def Sl (B : Nat) (w0 : Wd) (hs : HS) (oa : Option Addr) (l : List Int) : Prop := ∀ i, i < l.length → oa.isSome = true ∧ ∀ w, Hp B w0 w hs → w.cell? (ea oa i) = some (iv (l.getD i 0))
theorem CellAt.sub {ad : Addr} {v : Value} (h : CellAt B w0 hs' ad v) (hp : hs'.Sublist hs) : CellAt B w0 hs ad v := fun w hw => h w (hw.sub hp)
theorem ld_one {t : TypeId} {ad : Addr} {v : Value} {k : Nat} (ht : sh P t = some (false, k)) (h : CellAt B w0 hs ad v) : Ld P B w0 hs t ad v := fun w hw => by
  simp [loadVar, run_isAgg ht, h w hw]
theorem run_loadCells_at (w : World) (ad : Addr) : ∀ (k i : Nat) (acc : Array Value) (vs : List Value), vs.length = k → (∀ j v, vs[j]? = some v → w.cell? (ad.add (i + j)) = some v) →
    (loadCellsFrom ad i k acc).run P w = .ok (acc ++ vs.toArray) w
  | 0, i, acc, vs, hl, _ => by
    cases vs with
    | nil => simp [loadCellsFrom]
    | cons => simp at hl
  | k + 1, i, acc, [], hl, _ => by simp at hl
  | k + 1, i, acc, v :: vs, hl, h => by
    have h0 := h 0 v rfl
    simp only [Nat.add_zero] at h0
    simp only [loadCellsFrom, Sem.run_bind, run_load, h0, Result.andThen_ok]
    rw [run_loadCells_at w ad k (i + 1) (acc.push v) vs (by simpa using hl) (fun j u hj => by have := h (j + 1) u (by simpa using hj); rwa [show i + 1 + j = i + (j + 1) by omega])]
    simp
theorem ld_agg {t : TypeId} {ad : Addr} {vs : List Value} {k : Nat} (ht : sh P t = some (true, k)) (hl : vs.length = k) (h : ∀ j v, vs[j]? = some v → CellAt B w0 hs (ad.add j) v) : Ld P B w0 hs t ad (.agg vs.toArray) := fun w hw => by
  simp only [loadVar, Sem.run_bind, run_isAgg ht, run_sizeOf ht, Result.andThen_ok, if_true, Sem.run_pure, loadCells]
  rw [run_loadCells_at w ad k 0 #[] vs hl (fun j v hj => by simpa using h j v hj w hw)]
  simp
theorem add_own (b o j : Nat) : (⟨b, o, none⟩ : Addr).add j = ⟨b, o + j, none⟩ := by
  unfold Addr.add
  split
  · subst_vars; rfl
  · rfl
/-- A part of one of the call's own blocks. -/
theorem ld_own {t : TypeId} {b o k : Nat} {cs vs : List Value} (ht : sh P t = some (true, k)) (hm : (b, cs) ∈ hs) (hv : (cs.drop o).take k = vs) (hl : vs.length = k) : Ld P B w0 hs t ⟨b, o, none⟩ (.agg vs.toArray) := by
  refine ld_agg ht hl (fun j v hj => ?_)
  rw [add_own]
  refine own hm ?_
  rw [← hv] at hj hl
  have hjk : j < k := by
    by_cases hjk : j < k
    · exact hjk
    · rw [List.getElem?_take, if_neg hjk] at hj; cases hj
  rw [List.getElem?_take, if_pos hjk, List.getElem?_drop] at hj
  exact hj
/-- One of the call's own blocks, whole. -/
theorem ld_whole {t : TypeId} {b k : Nat} {cs : List Value} (ht : sh P t = some (true, k)) (hm : (b, cs) ∈ hs) (hl : cs.length = k) : Ld P B w0 hs t ⟨b, 0, none⟩ (.agg cs.toArray) :=
  ld_own ht hm (by simp [← hl]) hl
/-! ### Operations that leave the world alone -/
theorem o_move {x : Operand} {v : Value} (hx : opv fr x = some v) : OpF P n B w0 (.move x) ty fr hs v := fun a w ha _ => by simp [ex, execOp, ha.opv hx]
theorem o_assign {x : Operand} {v : Value} (hx : opv fr x = some v) : OpF P n B w0 (.assign x) ty fr hs v := fun a w ha _ => by simp [ex, execOp, ha.opv hx]
theorem o_pick {c x y : Operand} {b : Bool} {u v : Value} (hc : opv fr c = some (.bool b)) (hx : opv fr x = some u) (hy : opv fr y = some v) : OpF P n B w0 (.pick c x y) ty fr hs (if b then u else v) := fun a w ha _ => by
  cases b <;> simp [ex, execOp, ha.opv hc, ha.opv hx, ha.opv hy, asBool]
theorem o_pick_t {c x y : Operand} {u : Value} (hc : opv fr c = some (.bool true)) (hx : opv fr x = some u) : OpF P n B w0 (.pick c x y) ty fr hs u := fun a w ha _ => by
  simp [ex, execOp, ha.opv hc, ha.opv hx, asBool]
theorem o_pick_f {c x y : Operand} {u : Value} (hc : opv fr c = some (.bool false)) (hy : opv fr y = some u) : OpF P n B w0 (.pick c x y) ty fr hs u := fun a w ha _ => by
  simp [ex, execOp, ha.opv hc, ha.opv hy, asBool]
theorem o_extract {x : Operand} {vs : Array Value} {i : Nat} {v : Value} (hx : opv fr x = some (.tuple vs)) (hv : vs[i]? = some v) : OpF P n B w0 (.extract x i) ty fr hs v := fun a w ha _ => by
  simp [ex, execOp, ha.opv hx, Instr.extract, hv]
theorem o_nilCheck {x : Operand} {ad : Addr} (hx : opv fr x = some (.pointer (some ad))) : OpF P n B w0 (.nilCheck x) ty fr hs (.pointer (some ad)) := fun a w ha _ => by
  simp [ex, execOp, ha.opv hx]
theorem o_load {t : TypeId} {x : Operand} {ad : Addr} {v : Value} (hx : opv fr x = some (.pointer (some ad))) (h : Ld P B w0 hs t ad v) : OpF P n B w0 (.load t x) ty fr hs v := fun a w ha hw => by
  simp [ex, execOp, ha.opv hx, Instr.loadAt, Instr.sureAddr, h w hw]
theorem ex_bin {op : BinOp} {t t' : TypeId} {x y : Operand} {k : IntKind} {m l : Int} {v : Value} (hx : opv fr x = some (.int k m)) (hy : opv fr y = some (.int k l)) (hv : ∀ w, (binOp op t (.int k m) (.int k l)).run P w = .ok v w) :
    OpF P n B w0 (.binOp op t x y t') ty fr hs v := fun a w ha _ => by
  simp only [ex, execOp, ha.opv hx, ha.opv hy, Sem.run_bind, hv]
  have : (eqGuard op t x y (.int k m) (.int k l)).run P w = .ok () w := by unfold eqGuard; cases op <;> rfl
  simp [this]
theorem o_add {t t' : TypeId} {x y : Operand} {m l : Int} (hx : opv fr x = some (.int .i64 m)) (hy : opv fr y = some (.int .i64 l)) (h : InI (m + l)) : OpF P n B w0 (.binOp .add t x y t') ty fr hs (.int .i64 (m + l)) :=
  ex_bin hx hy fun w => by simp [binOp, Op.intArith, wrap_in h]
theorem o_sub {t t' : TypeId} {x y : Operand} {m l : Int} (hx : opv fr x = some (.int .i64 m)) (hy : opv fr y = some (.int .i64 l)) (h : InI (m - l)) : OpF P n B w0 (.binOp .sub t x y t') ty fr hs (.int .i64 (m - l)) :=
  ex_bin hx hy fun w => by simp [binOp, Op.intArith, wrap_in h]
theorem o_mul {t t' : TypeId} {x y : Operand} {m l : Int} (hx : opv fr x = some (.int .i64 m)) (hy : opv fr y = some (.int .i64 l)) (h : InI (m * l)) : OpF P n B w0 (.binOp .mul t x y t') ty fr hs (.int .i64 (m * l)) :=
  ex_bin hx hy fun w => by simp [binOp, Op.intArith, wrap_in h]
theorem o_quo {t t' : TypeId} {x y : Operand} {m l : Int} (hx : opv fr x = some (.int .i64 m)) (hy : opv fr y = some (.int .i64 l)) (h0 : 0 ≤ m) (h1 : m ≤ 9223372036854775807) (h2 : 0 < l) : OpF P n B w0 (.binOp .quo t x y t') ty fr hs (.int .i64 (m / l)) :=
  ex_bin hx hy fun w => by
    have h3 : m.tdiv l = m / l := Int.tdiv_eq_ediv_of_nonneg h0
    have h4 : 0 ≤ m / l := Int.ediv_nonneg h0 (by omega)
    have h5 : m / l ≤ m := Int.ediv_le_self _ h0
    have : IntKind.i64.wrap (m / l) = m / l := wrap_in ⟨by omega, by omega⟩
    have hl : ¬ l = 0 := by omega
    simp [binOp, Op.intDiv, h3, this, hl]
theorem o_rem {t t' : TypeId} {x y : Operand} {m l : Int} (hx : opv fr x = some (.int .i64 m)) (hy : opv fr y = some (.int .i64 l)) (h0 : 0 ≤ m) (h2 : l ≠ 0) : OpF P n B w0 (.binOp .rem t x y t') ty fr hs (.int .i64 (m % l)) :=
  ex_bin hx hy fun w => by
    have h3 : m.tmod l = m % l := Int.tmod_eq_emod_of_nonneg h0
    simp [binOp, Op.intDiv, h3, h2]
theorem o_lss {t t' : TypeId} {x y : Operand} {m l : Int} (hx : opv fr x = some (.int .i64 m)) (hy : opv fr y = some (.int .i64 l)) : OpF P n B w0 (.binOp .lss t x y t') ty fr hs (.bool (decide (m < l))) := ex_bin hx hy fun w => by simp [binOp, Op.intCmp]
theorem o_leq {t t' : TypeId} {x y : Operand} {m l : Int} (hx : opv fr x = some (.int .i64 m)) (hy : opv fr y = some (.int .i64 l)) : OpF P n B w0 (.binOp .leq t x y t') ty fr hs (.bool (decide (m ≤ l))) := ex_bin hx hy fun w => by simp [binOp, Op.intCmp]
theorem o_gtr {t t' : TypeId} {x y : Operand} {m l : Int} (hx : opv fr x = some (.int .i64 m)) (hy : opv fr y = some (.int .i64 l)) : OpF P n B w0 (.binOp .gtr t x y t') ty fr hs (.bool (decide (l < m))) := ex_bin hx hy fun w => by simp [binOp, Op.intCmp]
theorem o_geq {t t' : TypeId} {x y : Operand} {m l : Int} (hx : opv fr x = some (.int .i64 m)) (hy : opv fr y = some (.int .i64 l)) : OpF P n B w0 (.binOp .geq t x y t') ty fr hs (.bool (decide (l ≤ m))) := ex_bin hx hy fun w => by simp [binOp, Op.intCmp]
theorem o_eql {t t' : TypeId} {x y : Operand} {m l : Int} (hx : opv fr x = some (.int .i64 m)) (hy : opv fr y = some (.int .i64 l)) : OpF P n B w0 (.binOp .eql t x y t') ty fr hs (.bool (decide (m = l))) := ex_bin hx hy fun w => by simp [binOp, Op.intCmp]; rfl
theorem o_neq {t t' : TypeId} {x y : Operand} {m l : Int} (hx : opv fr x = some (.int .i64 m)) (hy : opv fr y = some (.int .i64 l)) : OpF P n B w0 (.binOp .neq t x y t') ty fr hs (.bool (decide (m ≠ l))) := ex_bin hx hy fun w => by
  simp only [binOp, Op.intCmp]
  by_cases h : m = l <;> simp [h]
theorem o_not {t : TypeId} {x : Operand} {b : Bool} (hx : opv fr x = some (.bool b)) : OpF P n B w0 (.unOp .not t x) ty fr hs (.bool (!b)) := fun a w ha _ => by
  simp [ex, execOp, ha.opv hx, Op.unary]
theorem o_neg {t : TypeId} {x : Operand} {m : Int} (hx : opv fr x = some (.int .i64 m)) (h : InI (-m)) : OpF P n B w0 (.unOp .neg t x) ty fr hs (.int .i64 (-m)) := fun a w ha _ => by
  simp [ex, execOp, ha.opv hx, Op.unary, Op.intArith, wrap_in h]
/-- The offset of a field that has cells. -/
def fo (P : Program) (s : TypeId) (f : Nat) : Option (Nat × Bool × Nat) :=
  match P.underlying s with
  | some (.struct fs) => match fs[f]? with
    | some x => match sh P x.type with
      | some (b, k) => some (x.offset, b, k)
      | none => none
    | none => none
  | _ => none
theorem o_fieldAddr {s : TypeId} {x : Operand} {f o k : Nat} {b : Bool} {ad : Addr} (hx : opv fr x = some (.pointer (some ad))) (hf : fo P s f = some (o, b, k + 1)) : OpF P n B w0 (.fieldAddr s x f) ty fr hs (.pointer (some (ad.add o))) := fun a w ha _ => by
  unfold fo at hf
  split at hf
  · rename_i fs hfs
    split at hf
    · rename_i y hy
      split at hf
      · rename_i b' k' hk
        simp only [Option.some.injEq, Prod.mk.injEq] at hf
        obtain ⟨rfl, rfl, rfl⟩ := hf
        simp [ex, execOp, ha.opv hx, Instr.fieldAt, underlying, hfs, hy, Instr.sureAddr, fieldPlace, run_sizeOf hk]
      · cases hf
    · cases hf
  · cases hf
theorem run_part {t : TypeId} {b : Bool} {k o : Nat} {cs : List Value} (hk : sh P t = some (b, k)) (w : World) {v : Value} (hv : if b then v = .agg ((cs.drop o).take k).toArray else cs[o]? = some v) : (part t cs.toArray o).run P w = .ok v w := by
  cases b with
  | true =>
    simp only [if_true] at hv
    simp [part, run_isAgg hk, run_sizeOf hk, hv]
  | false =>
    simp only [Bool.false_eq_true, if_false] at hv
    simp [part, run_isAgg hk, hv]
theorem o_field {s : TypeId} {x : Operand} {f o k : Nat} {b : Bool} {cs : List Value} {v : Value} (hx : opv fr x = some (.agg cs.toArray)) (hf : fo P s f = some (o, b, k)) (hv : if b then v = .agg ((cs.drop o).take k).toArray else cs[o]? = some v) :
    OpF P n B w0 (.field s x f) ty fr hs v := fun a w ha _ => by
  unfold fo at hf
  split at hf
  · rename_i fs hfs
    split at hf
    · rename_i y hy
      split at hf
      · rename_i b' k' hk
        simp only [Option.some.injEq, Prod.mk.injEq] at hf
        obtain ⟨rfl, rfl, rfl⟩ := hf
        simp [ex, execOp, ha.opv hx, Instr.field, underlying, hfs, hy, asAgg, run_part hk w hv]
      · cases hf
    · cases hf
  · cases hf
/-- An array: how many elements, and what they are. -/
def ar (P : Program) (t : TypeId) : Option (Nat × Bool × Nat) :=
  match P.underlying t with
  | some (.array m e) => match sh P e with
    | some (b, k) => some (m, b, k)
    | none => none
  | _ => none
/-- A slice: what its elements are. -/
def sc (P : Program) (t : TypeId) : Option (Bool × Nat) :=
  match P.underlying t with
  | some (.slice e) => sh P e
  | _ => none
theorem o_index {t : TypeId} {x i : Operand} {m k : Nat} {b : Bool} {j : Int} {cs : List Value} {v : Value} (ht : ar P t = some (m, b, k)) (hx : opv fr x = some (.agg cs.toArray)) (hi : opv fr i = some (.int .i64 j)) (h0 : 0 ≤ j) (h1 : j < m)
    (hv : if b then v = .agg ((cs.drop (j.toNat * k)).take k).toArray else cs[j.toNat * k]? = some v) : OpF P n B w0 (.index t x i) ty fr hs v := fun a w ha _ => by
  unfold ar at ht
  split at ht
  · rename_i m' e hu
    split at ht
    · rename_i b' k' hk
      simp only [Option.some.injEq, Prod.mk.injEq] at ht
      obtain ⟨rfl, rfl, rfl⟩ := ht
      simp [ex, execOp, ha.opv hx, ha.opv hi, Instr.index, asIntOf, underlying, hu, h0, h1, run_sizeOf hk, run_part hk w hv]
    · cases ht
  · cases ht
/-- A pair of numbers out of an array of pairs. -/
theorem o_index2 {t : TypeId} {x i : Operand} {m jn : Nat} {j : Int} {l : List Int} (ht : ar P t = some (m, true, 2)) (hx : opv fr x = some (.agg (ivs l).toArray)) (hi : opv fr i = some (.int .i64 j)) (hj : j = (jn : Int)) (h1 : jn < m) (hl : jn * 2 + 1 < l.length) :
    OpF P n B w0 (.index t x i) ty fr hs (.agg #[iv (l.getD (jn * 2) 0), iv (l.getD (jn * 2 + 1) 0)]) := by
  subst hj
  exact o_index ht hx hi (by omega) (by omega) (by simp only [if_true, Int.toNat_natCast]; rw [ivs_seg, seg2 hl]; rfl)
theorem o_index1 {t : TypeId} {x i : Operand} {m jn : Nat} {j : Int} {l : List Int} (ht : ar P t = some (m, false, 1)) (hx : opv fr x = some (.agg (ivs l).toArray)) (hi : opv fr i = some (.int .i64 j)) (hj : j = (jn : Int)) (h1 : jn < m) (hl : jn < l.length) :
    OpF P n B w0 (.index t x i) ty fr hs (iv (l.getD jn 0)) := by
  subst hj
  exact o_index ht hx hi (by omega) (by omega) (by simp only [Bool.false_eq_true, if_false, Nat.mul_one, Int.toNat_natCast]; exact ivs_get hl)
theorem o_indexAddr {t : TypeId} {x i : Operand} {m k : Nat} {b : Bool} {j : Int} {ad : Addr} (ht : ar P t = some (m, b, k)) (hx : opv fr x = some (.pointer (some ad))) (hi : opv fr i = some (.int .i64 j)) (h0 : 0 ≤ j) (h1 : j < m) :
    OpF P n B w0 (.indexAddr t x i) ty fr hs (.pointer (some (ad.add (j.toNat * k)))) := fun a w ha _ => by
  unfold ar at ht
  split at ht
  · rename_i m' e hu
    split at ht
    · rename_i b' k' hk
      simp only [Option.some.injEq, Prod.mk.injEq] at ht
      obtain ⟨rfl, rfl, rfl⟩ := ht
      simp [ex, execOp, ha.opv hx, ha.opv hi, Instr.indexAt, asIntOf, underlying, hu, h0, h1, Instr.sureAddr, run_sizeOf hk]
    · cases ht
  · cases ht
theorem Sl.at {hs hs' : HS} {oa : Option Addr} {l : List Int} (h : Sl B w0 hs oa l) (hsub : hs.Sublist hs') {i : Nat} (hi : i < l.length) : CellAt B w0 hs' (ea oa i) (iv (l.getD i 0)) := fun w hw => (h i hi).2 w (hw.sub hsub)
theorem Sl.any {hs : HS} {oa : Option Addr} {l : List Int} (h : Sl B w0 hs oa l) {i : Nat} (hi : i < l.length) : oa.isSome = true := (h i hi).1
theorem Sl.sub {hs hs' : HS} {oa : Option Addr} {l : List Int} (h : Sl B w0 hs oa l) (hsub : hs.Sublist hs') : Sl B w0 hs' oa l := fun i hi => ⟨(h i hi).1, fun w hw => (h i hi).2 w (hw.sub hsub)⟩
theorem Sl.nil {hs : HS} {oa : Option Addr} : Sl B w0 hs oa [] := fun i hi => by simp at hi
theorem Sl.own {hs : HS} {b : Nat} {l : List Int} (hm : (b, ivs l) ∈ hs) : Sl B w0 hs (some ⟨b, 0, none⟩) l := fun i hi => ⟨rfl, fun w hw => by show w.cell? ((⟨b, 0, none⟩ : Addr).add i) = _; rw [add_own, Nat.zero_add, hw.cell hm, ivs_get hi]⟩
theorem Sl.own' {hs : HS} {b : Nat} {l : List Int} {rest : List Value} (hm : (b, ivs l ++ rest) ∈ hs) : Sl B w0 hs (some ⟨b, 0, none⟩) l := fun i hi => ⟨rfl, fun w hw => by
  show w.cell? ((⟨b, 0, none⟩ : Addr).add i) = _
  rw [add_own, Nat.zero_add, hw.cell hm, List.getElem?_append_left (by rw [ivs_length]; exact hi), ivs_get hi]⟩
theorem sb0 {α : Type} {l : List α} : l.Sublist l := List.Sublist.refl _
theorem sb1 {α : Type} {l : List α} {a : α} : l.Sublist (a :: l) := .cons _ sb0
theorem sb2 {α : Type} {l : List α} {a b : α} : l.Sublist (a :: b :: l) := .cons _ sb1
theorem sb3 {α : Type} {l : List α} {a b c : α} : l.Sublist (a :: b :: c :: l) := .cons _ sb2
theorem sb4 {α : Type} {l : List α} {a b c d : α} : l.Sublist (a :: b :: c :: d :: l) := .cons _ sb3
theorem sb5 {α : Type} {l : List α} {a b c d e : α} : l.Sublist (a :: b :: c :: d :: e :: l) := .cons _ sb4
theorem sb6 {α : Type} {l : List α} {a b c d e f : α} : l.Sublist (a :: b :: c :: d :: e :: f :: l) := .cons _ sb5
theorem sb7 {α : Type} {l : List α} {a b c d e f g : α} : l.Sublist (a :: b :: c :: d :: e :: f :: g :: l) := .cons _ sb6
theorem sb8 {α : Type} {l : List α} {a b c d e f g h : α} : l.Sublist (a :: b :: c :: d :: e :: f :: g :: h :: l) := .cons _ sb7
theorem nn0 (k : Nat) : (k : Int) = (k : Int) := rfl
theorem nn1 (k : Nat) : (k : Int) + 1 = ((k + 1 : Nat) : Int) := rfl
theorem nn2 (k m : Nat) : (k : Int) + (m : Int) = ((k + m : Nat) : Int) := rfl
theorem nn3 {j : Int} (h : 0 ≤ j) : j = (j.toNat : Int) := (Int.toNat_of_nonneg h).symm
theorem nn4 {k : Nat} (h : 1 ≤ k) : (k : Int) - 1 = ((k - 1 : Nat) : Int) := by omega
theorem nn5 {k m : Nat} (h : m ≤ k) : (k : Int) - (m : Int) = ((k - m : Nat) : Int) := by omega
theorem nn6 : (0 : Int) = ((0 : Nat) : Int) := rfl
theorem nn7 : (1 : Int) = ((1 : Nat) : Int) := rfl
theorem nn8 : (2 : Int) = ((2 : Nat) : Int) := rfl
theorem aa4 (k : Nat) : 0 + 0 * k = 0 := by omega
theorem aa5 (k : Nat) : 0 + 1 * k = k := by omega
theorem aa6 (o k : Nat) : o + 0 * k = o := by omega
theorem aa7 (o k : Nat) : o + 1 * k = o + k := by omega
theorem aa0 (j : Nat) : 0 + j * 1 = j := by omega
theorem aa1 (j k : Nat) : 0 + j * k = j * k := by omega
theorem aa2 (o j : Nat) : o + j * 1 = o + j := by omega
theorem aa3 (o j k : Nat) : o + j * k = o + j * k := rfl
theorem bb0 (o : Nat) : 0 + o = o := by omega
theorem bb1 (o : Nat) : o + 0 = o := rfl
theorem bb2 (o p : Nat) : o + p = o + p := rfl
theorem o_indexO {t : TypeId} {x i : Operand} {m k b' o jn off : Nat} {b : Bool} {j : Int} (ht : ar P t = some (m, b, k)) (hx : opv fr x = some (.pointer (some ⟨b', o, none⟩))) (hi : opv fr i = some (.int .i64 j)) (hj : j = (jn : Int)) (ho : o + jn * k = off) (h1 : jn < m) :
    OpF P n B w0 (.indexAddr t x i) ty fr hs (.pointer (some ⟨b', off, none⟩)) := by
  subst hj ho
  have := @o_indexAddr P n B w0 fr hs ty t x i m k b jn ⟨b', o, none⟩ ht hx hi (by omega) (by omega)
  rwa [add_own, Int.toNat_natCast] at this
theorem o_fieldO {s : TypeId} {x : Operand} {f o k b' o' off : Nat} {b : Bool} (hx : opv fr x = some (.pointer (some ⟨b', o', none⟩))) (hf : fo P s f = some (o, b, k + 1)) (ho : o' + o = off) : OpF P n B w0 (.fieldAddr s x f) ty fr hs (.pointer (some ⟨b', off, none⟩)) := by rw [← ho, ← add_own]; exact o_fieldAddr hx hf
theorem o_indexS {t : TypeId} {x i : Operand} {k len cap jn off : Nat} {b : Bool} {j : Int} {oa : Option Addr} (ht : sc P t = some (b, k)) (hx : opv fr x = some (.slice oa len cap)) (hi : opv fr i = some (.int .i64 j)) (hj : j = (jn : Int)) (ho : 0 + jn * k = off) (hs1 : oa.isSome = true) (h1 : jn < len) :
    OpF P n B w0 (.indexAddr t x i) ty fr hs (.pointer (some (ea oa off))) := fun a w ha _ => by
  subst hj ho
  unfold sc at ht
  split at ht
  · rename_i e hu
    cases oa with
    | none => cases hs1
    | some ad =>
      simp [ex, execOp, ha.opv hx, ha.opv hi, Instr.indexAt, asIntOf, underlying, hu, h1, run_sizeOf ht, ea]
  · cases ht
/-- The same where the slice lies in a block of the call's own. -/
theorem o_indexB {t : TypeId} {x i : Operand} {k len cap jn off b' o : Nat} {b : Bool} {j : Int} (ht : sc P t = some (b, k)) (hx : opv fr x = some (.slice (some ⟨b', o, none⟩) len cap)) (hi : opv fr i = some (.int .i64 j)) (hj : j = (jn : Int)) (ho : o + jn * k = off) (h1 : jn < len) :
    OpF P n B w0 (.indexAddr t x i) ty fr hs (.pointer (some ⟨b', off, none⟩)) := by
  have := @o_indexS P n B w0 fr hs ty t x i k len cap jn (0 + jn * k) b j (some ⟨b', o, none⟩) ht hx hi hj rfl rfl h1
  simp only [ea, add_own] at this
  rw [← ho]
  simpa using this
theorem o_len {t : TypeId} {x : Operand} {oa : Option Addr} {len cap k : Nat} {b : Bool} (ht : sc P t = some (b, k)) (hx : opv fr x = some (.slice oa len cap)) : OpF P n B w0 (.call { callee := .builtin .len, args := #[x], argTypes := #[t] }) ty fr hs (.int .i64 len) := fun a w ha _ => by
  unfold sc at ht
  split at ht
  · rename_i e hu
    simp [ex, execOp, resolve, invoke, builtin, Builtin.len_, ha.opv hx, underlying, hu, goInt]
  · cases ht
theorem o_max {t : TypeId} {x y : Operand} {m l : Int} (hx : opv fr x = some (.int .i64 m)) (hy : opv fr y = some (.int .i64 l)) : OpF P n B w0 (.call { callee := .builtin .max, args := #[x, y], argTypes := #[t, t] }) ty fr hs (.int .i64 (max m l)) := fun a w ha _ => by
  have : max m l = if l > m then l else m := by split <;> omega
  simp [ex, execOp, resolve, invoke, builtin, run_max_int2, ha.opv hx, ha.opv hy, this]
theorem o_min {t : TypeId} {x y : Operand} {m l : Int} (hx : opv fr x = some (.int .i64 m)) (hy : opv fr y = some (.int .i64 l)) : OpF P n B w0 (.call { callee := .builtin .min, args := #[x, y], argTypes := #[t, t] }) ty fr hs (.int .i64 (min m l)) := fun a w ha _ => by
  have : min m l = if l < m then l else m := by split <;> omega
  simp [ex, execOp, resolve, invoke, builtin, run_min_int2, ha.opv hx, ha.opv hy, this]
end
section
variable {P : Program} {n : NN} {B : Nat} {w0 : Wd} {fr fr' : FR} {hs hs' : HS} {ty : TypeId} {K K' : Act → World → Prop} {Q : Exit → Act → World → Prop}
  {ops : Array Oper} {l : List Oper} {d : Nat} {pos : String} {aft : Array Edge}
theorem s_nil (h : Sat n B w0 K fr hs) : Sat n B w0 (sl P ops K []) fr hs := h
theorem sl_step {o : Oper} {a : Act} {w : World} (hg : o.guard = none) (h : o.wp P a w (sl P ops K l) (fun _ _ _ => False)) : sl P ops K (o :: l) a w := by
  unfold sl
  rw [if_pos (by simp [Region.wanted, hg])]
  exact h
/-- An operation that leaves the world alone. -/
theorem s_pure {op : Op} {v : Value} (hv : OpF P n B w0 op ty fr hs v) (hn : d < n.n) (h : Sat n B w0 (sl P ops K l) ((d, v) :: fr) hs) : Sat n B w0 (sl P ops K (⟨some d, op, ty, pos, aft, none⟩ :: l)) fr hs := fun a w ha hw => by
  refine sl_step rfl ?_
  unfold Oper.wp
  rw [ex_eq, hv a w ha hw]
  exact h _ _ (ha.put hn v) hw
theorem s_yes {op : Op} {o : Option Nat} {j dj : Nat} {b : Bool} (hj : (ops[j]?).bind (·.dst) = some dj) (hb : get fr dj = some (.bool b)) (h : Sat n B w0 (sl P ops K (⟨o, op, ty, pos, aft, none⟩ :: l)) fr hs) :
    Sat n B w0 (sl P ops K (⟨o, op, ty, pos, aft, some (j, b)⟩ :: l)) fr hs := fun a w ha hw => by
  have h1 := h a w ha hw
  unfold sl at h1 ⊢
  rw [if_pos (by simp [Region.wanted])] at h1
  obtain ⟨h2, h3⟩ := ha.get _ _ hb
  have hy : yielded ops a.tmps j = some b := by
    have h4 : a.tmps[dj]? = some (.bool b) := by
      rw [← h3]; simp [Array.getD, ha.size, h2]
    simp [yielded, hj, h4]
  rw [if_pos (by simp [Region.wanted, hy])]
  exact h1
theorem s_no {op : Op} {j dj : Nat} {b b' : Bool} (hj : (ops[j]?).bind (·.dst) = some dj) (hb : get fr dj = some (.bool b')) (hbb : b' = !b) (hn : d < n.n) (h : Sat n B w0 (sl P ops K l) ((d, undef) :: fr) hs) :
    Sat n B w0 (sl P ops K (⟨some d, op, ty, pos, aft, some (j, b)⟩ :: l)) fr hs := fun a w ha hw => by
  subst hbb
  unfold sl
  obtain ⟨h2, h3⟩ := ha.get _ _ hb
  have hy : yielded ops a.tmps j = some (!b) := by
    have h4 : a.tmps[dj]? = some (.bool (!b)) := by
      rw [← h3]; simp [Array.getD, ha.size, h2]
    simp [yielded, hj, h4]
  rw [if_neg (by simp [Region.wanted, hy])]
  exact h _ _ (ha.put hn undef) hw
/-- The guard itself was skipped. -/
theorem s_und {op : Op} {j dj : Nat} {b : Bool} (hj : (ops[j]?).bind (·.dst) = some dj) (hb : get fr dj = some (.tuple #[])) (hn : d < n.n) (h : Sat n B w0 (sl P ops K l) ((d, undef) :: fr) hs) :
    Sat n B w0 (sl P ops K (⟨some d, op, ty, pos, aft, some (j, b)⟩ :: l)) fr hs := fun a w ha hw => by
  unfold sl
  obtain ⟨h2, h3⟩ := ha.get _ _ hb
  have hy : yielded ops a.tmps j = none := by
    have h4 : a.tmps[dj]? = some (.tuple #[]) := by
      rw [← h3]; simp [Array.getD, ha.size, h2]
    simp [yielded, hj, h4]
  rw [if_neg (by simp [Region.wanted, hy])]
  exact h _ _ (ha.put hn undef) hw
theorem s_dec {op : Op} {o : Option Nat} {j dj : Nat} {b : Bool} {p : Prop} [Decidable p] (hj : (ops[j]?).bind (·.dst) = some dj) (hb : get fr dj = some (.bool (decide p)))
    (ht : p → Sat n B w0 (sl P ops K (⟨o, op, ty, pos, aft, some (j, b)⟩ :: l)) ((dj, .bool true) :: fr) hs) (hf : ¬ p → Sat n B w0 (sl P ops K (⟨o, op, ty, pos, aft, some (j, b)⟩ :: l)) ((dj, .bool false) :: fr) hs) :
    Sat n B w0 (sl P ops K (⟨o, op, ty, pos, aft, some (j, b)⟩ :: l)) fr hs := by
  have := hj
  by_cases hp : p
  · exact Sat.sub (Sub.cons (by rw [hb]; simp [hp]) (fun _ _ h => h)) (ht hp)
  · exact Sat.sub (Sub.cons (by rw [hb]; simp [hp]) (fun _ _ h => h)) (hf hp)
theorem s_decb {op : Op} {o : Option Nat} {j dj : Nat} {b c : Bool} (hj : (ops[j]?).bind (·.dst) = some dj) (hb : get fr dj = some (.bool c))
    (ht : c = true → Sat n B w0 (sl P ops K (⟨o, op, ty, pos, aft, some (j, b)⟩ :: l)) ((dj, .bool true) :: fr) hs) (hf : c = false → Sat n B w0 (sl P ops K (⟨o, op, ty, pos, aft, some (j, b)⟩ :: l)) ((dj, .bool false) :: fr) hs) :
    Sat n B w0 (sl P ops K (⟨o, op, ty, pos, aft, some (j, b)⟩ :: l)) fr hs := by
  have := hj
  cases c with
  | true => exact Sat.sub (Sub.cons hb (fun _ _ h => h)) (ht rfl)
  | false => exact Sat.sub (Sub.cons hb (fun _ _ h => h)) (hf rfl)
theorem x_then (h : Sat n B w0 K fr hs) : Sat n B w0 (Exit.then K Q .normal) fr hs := h
theorem x_then_exit {id : Nat} (h : Sat n B w0 (Q (.exit id)) fr hs) : Sat n B w0 (Exit.then K Q (.exit id)) fr hs := h
theorem x_then_ret (h : Sat n B w0 (Q .ret) fr hs) : Sat n B w0 (Exit.then K Q .ret) fr hs := h
theorem x_block {id : Nat} (h : Sat n B w0 (Q .normal) fr hs) : Sat n B w0 (Exit.inBlock id Q .normal) fr hs := h
theorem x_block_ret {id : Nat} (h : Sat n B w0 (Q .ret) fr hs) : Sat n B w0 (Exit.inBlock id Q .ret) fr hs := h
theorem x_block_same {id : Nat} (h : Sat n B w0 (Q .normal) fr hs) : Sat n B w0 (Exit.inBlock id Q (.exit id)) fr hs := fun a w ha hw => by
  have := h a w ha hw
  simpa [Exit.inBlock] using this
theorem x_block_other {id id' : Nat} (hne : Nat.beq id' id = false) (h : Sat n B w0 (Q (.exit id')) fr hs) : Sat n B w0 (Exit.inBlock id Q (.exit id')) fr hs := fun a w ha hw => by
  have h1 := h a w ha hw
  have h2 : id' ≠ id := fun e => by rw [e, Nat.beq_refl] at hne; cases hne
  simpa [Exit.inBlock, h2] using h1
theorem c_reg {id : Nat} {l : List Oper} (h : Sat n B w0 (sl P l.toArray K l) fr hs) : Sat n B w0 ((Code.region id l.toArray false).wp P (Exit.then K Q)) fr hs := c_region h
/-- The end of a round. -/
theorem r_end {ι : Type} {F : ι → FR} {H : ι → HS} {C : ι → Prop} {μ : ι → Nat} {m : Nat} (j : ι) (hc : C j) (hj : μ j < m) (h1 : SubL (F j) fr) (h2 : (H j).Sublist hs) :
    Sat n B w0 (Nx n B w0 F H C μ m) fr hs := fun _ _ ha hw => ⟨j, hc, hj, ha.sub h1.sub, hw.sub h2⟩
/-! ### Memory -/
theorem Hp.fresh {w : World} (h : Hp B w0 w hs) (c : Array Value) (e : TypeId) : Hp B w0 (w.alloc (.cells c e)) ((w.heap.size, c.toList) :: hs) := by
  refine ⟨h.below.alloc h.big _, by simp; have := h.big; omega, ?_, ?_, fun p hp => ?_, h.ond⟩
  · intro p hp
    rcases List.mem_cons.1 hp with rfl | hp
    · exact ⟨h.big, e, by rw [heap_alloc_new]⟩
    · obtain ⟨h1, e', h2⟩ := h.mem p hp
      refine ⟨h1, e', ?_⟩
      rw [Below.heap_alloc _ _ _ (Array.getElem?_eq_some_iff.1 h2).1]; exact h2
  · simp only [List.map_cons, List.nodup_cons]
    refine ⟨?_, h.nodup⟩
    intro hm
    obtain ⟨p, hp, he⟩ := List.mem_map.1 hm
    obtain ⟨_, e', h2⟩ := h.mem p hp
    have := (Array.getElem?_eq_some_iff.1 h2).1
    omega
  · obtain ⟨h1, h2, h3⟩ := h.obj p hp
    refine ⟨h1, by rw [Below.heap_alloc _ _ _ (Array.getElem?_eq_some_iff.1 h2).1]; exact h2, fun q hq => ?_⟩
    rcases List.mem_cons.1 hq with rfl | hq
    · exact Nat.ne_of_gt (Array.getElem?_eq_some_iff.1 h2).1
    · exact h3 q hq
/-- What a variable of this type holds at first. -/
def zc (P : Program) (t : TypeId) : Option (Array Value) := match P.info? t with | some i => i.zero.map Value.cells | none => none
theorem s_alloc {t : TypeId} {z : List Value} (hz : zc P t = some z.toArray) (hn : d < n.n) (h : ∀ b, Sat n B w0 (sl P ops K l) ((d, .pointer (some ⟨b, 0, none⟩)) :: fr) ((b, z) :: hs)) :
    Sat n B w0 (sl P ops K (⟨some d, .alloc t, ty, pos, aft, none⟩ :: l)) fr hs := fun a w ha hw => by
  refine sl_step rfl ?_
  unfold zc at hz
  cases hi : P.info? t with
  | none => simp [hi] at hz
  | some i =>
    simp only [hi, Option.map_eq_some_iff] at hz
    obtain ⟨v, hv, hvz⟩ := hz
    have hvz' : v.cells.toList = z := by rw [hvz]
    rw [← hvz'] at h
    have hrun : (execOp a.eval ⟨some d, .alloc t, ty, pos, aft, none⟩).run P w = .ok (.value (.pointer (some ⟨w.heap.size, 0, none⟩))) (w.alloc (.cells v.cells t)) := by
      simp [execOp, Instr.alloc, zeroValue, typeInfo, hi, hv, newVar, newRow]
    unfold Oper.wp
    rw [hrun]
    exact h _ _ _ (ha.put hn _) (hw.fresh _ _)
theorem s_box {t : TypeId} {x : Operand} {v : Value} (hx : opv fr x = some v) (hn : d < n.n) (h : ∀ b, Sat n B w0 (sl P ops K l) ((d, .pointer (some ⟨b, 0, none⟩)) :: fr) ((b, v.cells.toList) :: hs)) :
    Sat n B w0 (sl P ops K (⟨some d, .box t x, ty, pos, aft, none⟩ :: l)) fr hs := fun a w ha hw => by
  refine sl_step rfl ?_
  have hrun : (execOp a.eval ⟨some d, .box t x, ty, pos, aft, none⟩).run P w = .ok (.value (.pointer (some ⟨w.heap.size, 0, none⟩))) (w.alloc (.cells v.cells t)) := by
    simp [execOp, Instr.box, newVar, newRow, ha.opv hx]
  unfold Oper.wp
  rw [hrun]
  exact h _ _ _ (ha.put hn _) (hw.fresh _ _)
theorem s_boxA {t : TypeId} {x : Operand} {cs : List Value} (hx : opv fr x = some (.agg cs.toArray)) (hn : d < n.n) (h : ∀ b, Sat n B w0 (sl P ops K l) ((d, .pointer (some ⟨b, 0, none⟩)) :: fr) ((b, cs) :: hs)) :
    Sat n B w0 (sl P ops K (⟨some d, .box t x, ty, pos, aft, none⟩ :: l)) fr hs := s_box hx hn h
/-- One block's cells are turned. -/
inductive Upd (b : Nat) (cs cs' : List Value) : HS → HS → Prop
  | head (hs : HS) : Upd b cs cs' ((b, cs) :: hs) ((b, cs') :: hs)
  | tail (p : Nat × List Value) {hs hs' : HS} (h : Upd b cs cs' hs hs') : Upd b cs cs' (p :: hs) (p :: hs')
theorem Upd.mem {b : Nat} {cs cs' : List Value} (h : Upd b cs cs' hs hs') : (b, cs) ∈ hs := by
  induction h with
  | head hs => exact .head _
  | tail p _ ih => exact .tail _ ih
theorem Upd.fst {b : Nat} {cs cs' : List Value} (h : Upd b cs cs' hs hs') : hs'.map (·.1) = hs.map (·.1) := by
  induction h with
  | head hs => rfl
  | tail p _ ih => simp [ih]
theorem Upd.memd {b : Nat} {cs cs' : List Value} (h : Upd b cs cs' hs hs') (hnd : (hs.map (·.1)).Nodup) : ∀ p ∈ hs', (p = (b, cs')) ∨ (p ∈ hs ∧ p.1 ≠ b) := by
  induction h with
  | head hs =>
    intro p hp
    rcases List.mem_cons.1 hp with rfl | hp
    · exact .inl rfl
    · simp only [List.map_cons, List.nodup_cons] at hnd
      exact .inr ⟨.tail _ hp, fun e => hnd.1 (List.mem_map.2 ⟨p, hp, e⟩)⟩
  | tail q h ih =>
    intro p hp
    simp only [List.map_cons, List.nodup_cons] at hnd
    rcases List.mem_cons.1 hp with rfl | hp
    · refine .inr ⟨.head _, fun e => hnd.1 ?_⟩
      rw [e]
      exact List.mem_map.2 ⟨_, h.mem, rfl⟩
    · rcases ih hnd.2 p hp with h | h
      · exact .inl h
      · exact .inr ⟨.tail _ h.1, h.2⟩
theorem heap_setCell_own (w : World) (b i : Nat) (c : Array Value) (e : TypeId) (v : Value) (hb : w.heap[b]? = some (.cells c e (0, 0))) : (w.setCell ⟨b, i, none⟩ v).heap[b]? = some (.cells (c.setIfInBounds i v) e (0, 0)) := by
  simp [World.setCell, Array.getElem?_modify, hb]
theorem Hp.store {w : World} (h : Hp B w0 w hs) {b i : Nat} {cs : List Value} {v : Value} (hu : Upd b cs (cs.set i v) hs hs') : Hp B w0 (w.setCell ⟨b, i, none⟩ v) hs' := by
  obtain ⟨hB, e, he⟩ := h.mem _ hu.mem
  simp only at hB he
  refine ⟨h.below.setCell hB v, by simpa using h.big, ?_, by rw [hu.fst]; exact h.nodup, fun p hp => ?_, h.ond⟩
  rotate_left
  · obtain ⟨h1, h2, h3⟩ := h.obj p hp
    have hne : p.1 ≠ b := (h3 _ hu.mem).symm
    refine ⟨h1, by rw [heap_setCell_other _ _ _ _ hne]; exact h2, fun q hq => ?_⟩
    have hq2 : q.1 ∈ hs.map (·.1) := by rw [← hu.fst]; exact List.mem_map_of_mem hq
    obtain ⟨q', hq3, hq4⟩ := List.mem_map.1 hq2
    rw [← hq4]
    exact h3 q' hq3
  intro p hp
  rcases hu.memd h.nodup p hp with rfl | ⟨hp, hne⟩
  · exact ⟨hB, e, by rw [heap_setCell_own _ _ _ _ _ _ he]; simp⟩
  · obtain ⟨h1, e', h2⟩ := h.mem p hp
    exact ⟨h1, e', by rw [heap_setCell_other _ _ _ _ hne]; exact h2⟩
/-- The cells from i on are turned, one after another. -/
def setAll : List Value → Nat → List Value → List Value
  | cs, _, [] => cs
  | cs, i, v :: vs => setAll (cs.set i v) (i + 1) vs
theorem setAll_length : ∀ (vs cs : List Value) (i : Nat), (setAll cs i vs).length = cs.length
  | [], _, _ => rfl
  | v :: vs, cs, i => by simp [setAll, setAll_length vs]
theorem setAll_get : ∀ (vs cs : List Value) (i j : Nat), (setAll cs i vs)[j]? = if i ≤ j ∧ j < i + vs.length ∧ j < cs.length then vs[j - i]? else cs[j]?
  | [], cs, i, j => by simp [setAll]; intro h1 h2; omega
  | v :: vs, cs, i, j => by
    simp only [setAll, setAll_get vs, List.length_set, List.length_cons]
    by_cases h : j = i
    · subst h
      rw [if_neg (by omega)]
      by_cases h2 : j < cs.length
      · rw [if_pos ⟨by omega, by omega, h2⟩]; simp [h2]
      · rw [if_neg (by omega)]; simp [h2]
    · by_cases h1 : i + 1 ≤ j ∧ j < i + 1 + vs.length ∧ j < cs.length
      · rw [if_pos h1, if_pos ⟨by omega, by omega, by omega⟩]
        rw [show j - i = (j - (i + 1)) + 1 by omega]; simp
      · rw [if_neg h1, if_neg (by omega)]
        rw [List.getElem?_set_ne (by omega)]
theorem setAll_whole (vs cs : List Value) (h : vs.length = cs.length) : setAll cs 0 vs = vs := by
  apply List.ext_getElem?
  intro j
  rw [setAll_get]
  by_cases hj : j < cs.length
  · rw [if_pos ⟨by omega, by omega, hj⟩]; simp
  · rw [if_neg (by omega), List.getElem?_eq_none (by omega), List.getElem?_eq_none (by omega)]
def Flat (vs : List Value) : Prop := ∀ v ∈ vs, v.oneCell' = true
theorem Upd.refl {b : Nat} {cs : List Value} (h : (b, cs) ∈ hs) : Upd b cs cs hs hs := by
  induction hs with
  | nil => cases h
  | cons p hs ih =>
    rcases List.mem_cons.1 h with rfl | h
    · exact .head _
    · exact .tail _ (ih h)
theorem Upd.split {b : Nat} {cs cs' : List Value} (h : Upd b cs cs' hs hs') (cs1 : List Value) : ∃ hs1, Upd b cs cs1 hs hs1 ∧ Upd b cs1 cs' hs1 hs' := by
  induction h with
  | head hs => exact ⟨_, .head _, .head _⟩
  | tail p _ ih => obtain ⟨x, h1, h2⟩ := ih; exact ⟨_, .tail _ h1, .tail _ h2⟩
theorem run_storeCells_own (b : Nat) : ∀ (vs : List Value) (i : Nat) (cs : List Value) (hs hs' : HS) (w : World), Hp B w0 w hs → Flat vs → i + vs.length ≤ cs.length → Upd b cs (setAll cs i vs) hs hs' → ∀ o, o ≤ i →
    ∃ w', (storeCells ⟨b, o, none⟩ vs (i - o)).run P w = .ok () w' ∧ Hp B w0 w' hs'
  | [], i, cs, hs, hs', w, hw, _, _, hu, o, ho => by
    refine ⟨w, by simp [storeCells], ?_⟩
    have : hs' = hs := by
      simp only [setAll] at hu
      clear hw
      induction hu with
      | head => rfl
      | tail p _ ih => rw [ih]
    rw [this]; exact hw
  | v :: vs, i, cs, hs, hs', w, hw, hf, hl, hu, o, ho => by
    simp only [setAll] at hu
    simp only [List.length_cons] at hl
    obtain ⟨hs1, hu1, hu2⟩ := hu.split (cs.set i v)
    have hc : w.cell? ⟨b, i, none⟩ = some (cs[i]'(by omega)) := by rw [hw.cell hu1.mem]; exact List.getElem?_eq_getElem (by omega)
    have hst : (store ((⟨b, o, none⟩ : Addr).add (i - o)) v).run P w = .ok () (w.setCell ⟨b, i, none⟩ v) := by
      rw [add_own, show o + (i - o) = i by omega]
      rw [run_store P w _ v _ (hf v (.head _)), hc]
      simp [hw.free hu1.mem]
    obtain ⟨w', h1, h2⟩ := run_storeCells_own b vs (i + 1) (cs.set i v) hs1 hs' _ (hw.store hu1) (fun u hu => hf u (.tail _ hu)) (by simp; omega) hu2 o (by omega)
    refine ⟨w', ?_, h2⟩
    simp only [storeCells, Sem.run_bind, hst, Result.andThen_ok]
    rw [show i - o + 1 = i + 1 - o by omega]
    exact h1
/-- A store into one of the call's own blocks. -/
theorem s_store {t : TypeId} {x y : Operand} {b o k : Nat} {bb : Bool} {cs : List Value} {v : Value} {dst : Option Nat} (hx : opv fr x = some (.pointer (some ⟨b, o, none⟩))) (hy : opv fr y = some v) (ht : sh P t = some (bb, k)) (hk : v.cells.size = k)
    (hf : Flat v.cells.toList) (hl : o + k ≤ cs.length) (hu : Upd b cs (setAll cs o v.cells.toList) hs hs') (hd : dst = none) (h : Sat n B w0 (sl P ops K l) fr hs') :
    Sat n B w0 (sl P ops K (⟨dst, .store t x y, ty, pos, aft, none⟩ :: l)) fr hs := fun a w ha hw => by
  subst hd
  refine sl_step rfl ?_
  obtain ⟨w', h1, h2⟩ := run_storeCells_own (P := P) b v.cells.toList o cs hs hs' w hw hf (by simp [hk]; omega) hu o (Nat.le_refl _)
  simp only [Nat.sub_self] at h1
  have hrun : (execOp a.eval ⟨none, .store t x y, ty, pos, aft, none⟩).run P w = .ok .skip w' := by
    simp [execOp, Instr.storeAt, ha.opv hx, ha.opv hy, Instr.sureAddr, storeVar, run_sizeOf ht, hk, h1]
  unfold Oper.wp
  rw [hrun]
  exact h a w' ha h2
theorem mm0 {α : Type} {x : α} {l : List α} : x ∈ x :: l := .head _
theorem mm1 {α : Type} {x a : α} {l : List α} : x ∈ a :: x :: l := .tail _ mm0
theorem mm2 {α : Type} {x a b : α} {l : List α} : x ∈ a :: b :: x :: l := .tail _ mm1
theorem mm3 {α : Type} {x a b c : α} {l : List α} : x ∈ a :: b :: c :: x :: l := .tail _ mm2
theorem mm4 {α : Type} {x a b c d : α} {l : List α} : x ∈ a :: b :: c :: d :: x :: l := .tail _ mm3
theorem mm5 {α : Type} {x a b c d e : α} {l : List α} : x ∈ a :: b :: c :: d :: e :: x :: l := .tail _ mm4
theorem mm6 {α : Type} {x a b c d e f : α} {l : List α} : x ∈ a :: b :: c :: d :: e :: f :: x :: l := .tail _ mm5
theorem mm7 {α : Type} {x a b c d e f g : α} {l : List α} : x ∈ a :: b :: c :: d :: e :: f :: g :: x :: l := .tail _ mm6
theorem mm8 {α : Type} {x a b c d e f g h : α} {l : List α} : x ∈ a :: b :: c :: d :: e :: f :: g :: h :: x :: l := .tail _ mm7
section
variable {b : Nat} {cs cs' : List Value} {p0 p1 p2 p3 p4 p5 p6 p7 : Nat × List Value}
theorem uu0 : Upd b cs cs' ((b, cs) :: hs) ((b, cs') :: hs) := .head _
theorem uu1 : Upd b cs cs' (p0 :: (b, cs) :: hs) (p0 :: (b, cs') :: hs) := .tail _ uu0
theorem uu2 : Upd b cs cs' (p0 :: p1 :: (b, cs) :: hs) (p0 :: p1 :: (b, cs') :: hs) := .tail _ uu1
theorem uu3 : Upd b cs cs' (p0 :: p1 :: p2 :: (b, cs) :: hs) (p0 :: p1 :: p2 :: (b, cs') :: hs) := .tail _ uu2
theorem uu4 : Upd b cs cs' (p0 :: p1 :: p2 :: p3 :: (b, cs) :: hs) (p0 :: p1 :: p2 :: p3 :: (b, cs') :: hs) := .tail _ uu3
theorem uu5 : Upd b cs cs' (p0 :: p1 :: p2 :: p3 :: p4 :: (b, cs) :: hs) (p0 :: p1 :: p2 :: p3 :: p4 :: (b, cs') :: hs) := .tail _ uu4
theorem uu6 : Upd b cs cs' (p0 :: p1 :: p2 :: p3 :: p4 :: p5 :: (b, cs) :: hs) (p0 :: p1 :: p2 :: p3 :: p4 :: p5 :: (b, cs') :: hs) := .tail _ uu5
theorem uu7 : Upd b cs cs' (p0 :: p1 :: p2 :: p3 :: p4 :: p5 :: p6 :: (b, cs) :: hs) (p0 :: p1 :: p2 :: p3 :: p4 :: p5 :: p6 :: (b, cs') :: hs) := .tail _ uu6
theorem uu8 : Upd b cs cs' (p0 :: p1 :: p2 :: p3 :: p4 :: p5 :: p6 :: p7 :: (b, cs) :: hs) (p0 :: p1 :: p2 :: p3 :: p4 :: p5 :: p6 :: p7 :: (b, cs') :: hs) := .tail _ uu7
end
theorem flat_iv (l : List Int) : Flat (ivs l) := fun v hv => by
  obtain ⟨x, _, rfl⟩ := List.mem_map.1 hv
  rfl
theorem flat0 : Flat [] := fun _ h => by cases h
theorem flat_cons {v : Value} {vs : List Value} (h : v.oneCell' = true) (hf : Flat vs) : Flat (v :: vs) := fun u hu => by
  rcases List.mem_cons.1 hu with rfl | hu
  · exact h
  · exact hf u hu
theorem flat1 {v : Value} (h : v.oneCell' = true) : Flat [v] := flat_cons h flat0
theorem flat2 {v u : Value} (h : v.oneCell' = true) (h1 : u.oneCell' = true) : Flat [v, u] := flat_cons h (flat1 h1)
theorem flat3 {v u x : Value} (h : v.oneCell' = true) (h1 : u.oneCell' = true) (h2 : x.oneCell' = true) : Flat [v, u, x] := flat_cons h (flat2 h1 h2)
/-- A variable is turned as a whole. -/
theorem s_storeW {t : TypeId} {x y : Operand} {b k : Nat} {bb : Bool} {cs vs : List Value} {v : Value} (hx : opv fr x = some (.pointer (some ⟨b, 0, none⟩))) (hy : opv fr y = some v) (hv : v.cells = vs.toArray) (ht : sh P t = some (bb, k)) (hk : vs.length = k)
    (hf : Flat vs) (hu : Upd b cs vs hs hs') (hl : cs.length = k) (h : Sat n B w0 (sl P ops K l) fr hs') :
    Sat n B w0 (sl P ops K (⟨none, .store t x y, ty, pos, aft, none⟩ :: l)) fr hs := by
  refine s_store hx hy ht (by rw [hv]; simpa using hk) (by rw [hv]; exact hf) (cs := cs) (by omega) (hs' := hs') ?_ rfl h
  rw [hv]
  show Upd b cs (setAll cs 0 vs) hs hs'
  rw [setAll_whole _ _ (by omega)]
  exact hu
/-- One cell. -/
theorem s_store1 {t : TypeId} {x y : Operand} {b o : Nat} {cs : List Value} {v : Value} (hx : opv fr x = some (.pointer (some ⟨b, o, none⟩))) (hy : opv fr y = some v) (hv : v.cells = #[v]) (h1 : v.oneCell' = true) (ht : sh P t = some (false, 1))
    (hu : Upd b cs (cs.set o v) hs hs') (hl : o < cs.length) (h : Sat n B w0 (sl P ops K l) fr hs') :
    Sat n B w0 (sl P ops K (⟨none, .store t x y, ty, pos, aft, none⟩ :: l)) fr hs := by
  refine s_store hx hy ht (by rw [hv]; rfl) (by rw [hv]; exact flat1 h1) (cs := cs) (by omega) (hs' := hs') ?_ rfl h
  rw [hv]
  exact hu
theorem s_storeI {t : TypeId} {x y : Operand} {b o : Nat} {m : List Int} {z : Int} (hx : opv fr x = some (.pointer (some ⟨b, o, none⟩))) (hy : opv fr y = some (iv z)) (ht : sh P t = some (false, 1))
    (hu : Upd b (ivs m) (ivs (m.set o z)) hs hs') (hl : o < m.length) (h : Sat n B w0 (sl P ops K l) fr hs') :
    Sat n B w0 (sl P ops K (⟨none, .store t x y, ty, pos, aft, none⟩ :: l)) fr hs :=
  s_store1 hx hy rfl rfl ht (by rw [ivs_set]; exact hu) (by rw [ivs_length]; exact hl) h
theorem s_storeP {t : TypeId} {x y : Operand} {b o : Nat} {m : List Int} {z z' : Int} (hx : opv fr x = some (.pointer (some ⟨b, o, none⟩))) (hy : opv fr y = some (.agg #[iv z, iv z'])) (ht : sh P t = some (true, 2))
    (hu : Upd b (ivs m) (ivs ((m.set o z).set (o + 1) z')) hs hs') (hl : o + 1 < m.length) (h : Sat n B w0 (sl P ops K l) fr hs') :
    Sat n B w0 (sl P ops K (⟨none, .store t x y, ty, pos, aft, none⟩ :: l)) fr hs := by
  refine s_store hx hy ht rfl (flat2 rfl rfl) (cs := ivs m) (by rw [ivs_length]; omega) (hs' := hs') ?_ rfl h
  show Upd b (ivs m) (((ivs m).set o (iv z)).set (o + 1) (iv z')) hs hs'
  rw [ivs_set, ivs_set]
  exact hu
/-! ### Calls -/
/-- The function called with these arguments in memory hs returns a value and leaves memory of which R tells. -/
def Fn (P : Program) (f : Nat) (args : Array Value) (B : Nat) (w0 : Wd) (hs : HS) (R : Value → HS → Prop) : Prop :=
  ∀ w, Hp B w0 w hs → Calls P f args w fun e w' => ∃ v hs', e = .returned v ∧ R v hs' ∧ Hp B w0 w' hs'
theorem Fn.mono {f : Nat} {args : Array Value} {R R' : Value → HS → Prop} (h : Fn P f args B w0 hs R) (hr : ∀ v hs', R v hs' → R' v hs') : Fn P f args B w0 hs R' :=
  fun w hw => (h w hw).mono fun _ _ ⟨v, hs', h1, h2, h3⟩ => ⟨v, hs', h1, hr _ _ h2, h3⟩
/-- The values of a call's operands. -/
def argv (fr : FR) : List Operand → Option (List Value)
  | [] => some []
  | x :: xs => match opv fr x, argv fr xs with
    | some v, some vs => some (v :: vs)
    | _, _ => none
theorem argv_map {a : Act} (ha : Fr n a fr) : ∀ (xs : List Operand) (vs : List Value), argv fr xs = some vs → xs.map a.eval = vs
  | [], vs, h => by simp [argv] at h; simp [h]
  | x :: xs, vs, h => by
    simp only [argv] at h
    split at h
    · rename_i v vs' h1 h2
      simp only [Option.some.injEq] at h
      rw [← h]
      simp [ha.opv h1, argv_map ha xs vs' h2]
    · cases h
def isGo (P : Program) (f : Nat) : Bool := match P.funcs[f]? with | some fn => fn.body.isSome && !(fn.name == "runtime.NumGoroutine") | none => false
theorem run_call {f : Nat} {xs : List Operand} {vs : List Value} {ts : Array TypeId} {a : Act} (hf : isGo P f = true) (ha : Fr n a fr) (hv : argv fr xs = some vs) (o : Option Nat) (w : World) :
    (execOp a.eval ⟨o, .call { callee := .value (.func f), args := xs.toArray, argTypes := ts }, ty, pos, aft, none⟩).run P w = .ok (.enter f vs.toArray) w := by
  unfold isGo at hf
  split at hf
  · rename_i fn hfn
    simp only [Bool.and_eq_true, Bool.not_eq_true'] at hf
    obtain ⟨h1, h2⟩ := hf
    have h3 : ¬ fn.body = none := by intro hb; simp [hb] at h1
    have h2' : ¬ fn.name = "runtime.NumGoroutine" := by simpa using h2
    have h4 := argv_map ha xs vs hv
    have h5 : (xs.toArray.map a.eval) = vs.toArray := by rw [← h4]; simp
    have h6 : a.eval (.func f) = .func (.func f) #[] #[] := rfl
    simp only [execOp, resolve, h5, h6, Deferred.ofValue, Sem.run_bind, Sem.run_pure, Result.andThen_ok, invoke, callFunc]
    simp [hfn, h2', h3]
  · cases hf
theorem s_call {f : Nat} {xs : List Operand} {vs : List Value} {ts : Array TypeId} {R : Value → HS → Prop} (hf : isGo P f = true) (hv : argv fr xs = some vs) (hc : Fn P f vs.toArray B w0 hs R) (hn : d < n.n)
    (h : ∀ v hs', R v hs' → Sat n B w0 (sl P ops K l) ((d, v) :: fr) hs') :
    Sat n B w0 (sl P ops K (⟨some d, .call { callee := .value (.func f), args := xs.toArray, argTypes := ts }, ty, pos, aft, none⟩ :: l)) fr hs := fun a w ha hw => by
  refine sl_step rfl ?_
  unfold Oper.wp
  rw [run_call hf ha hv (some d) w]
  refine (hc w hw).mono ?_
  rintro e w' ⟨v, hs', rfl, hr, hw'⟩
  exact h v hs' hr _ _ (ha.put hn v) hw'
/-- The same where the value is known and nothing new is to be known of memory. -/
theorem s_callV {f : Nat} {xs : List Operand} {vs : List Value} {ts : Array TypeId} {v : Value} (hf : isGo P f = true) (hv : argv fr xs = some vs) (hc : Fn P f vs.toArray B w0 hs (fun u hs' => u = v ∧ hs' = hs)) (hn : d < n.n)
    (h : Sat n B w0 (sl P ops K l) ((d, v) :: fr) hs) :
    Sat n B w0 (sl P ops K (⟨some d, .call { callee := .value (.func f), args := xs.toArray, argTypes := ts }, ty, pos, aft, none⟩ :: l)) fr hs :=
  s_call hf hv hc hn (by rintro u hs' ⟨rfl, rfl⟩; exact h)
/-! ### The beginning and the end of a function -/
def slots : Nat → List Value → FR
  | _, [] => []
  | i, v :: vs => (i, v) :: slots (i + 1) vs
theorem get_slots : ∀ (vs : List Value) (i t : Nat) (v : Value), get (slots i vs) t = some v → i ≤ t ∧ vs[t - i]? = some v
  | [], _, _, _, h => by cases h
  | u :: vs, i, t, v, h => by
    simp only [slots, get] at h
    cases hb : Nat.beq i t with
    | true =>
      rw [hb] at h
      have := Nat.eq_of_beq_eq_true hb
      subst this
      simpa using h
    | false =>
      rw [hb] at h
      obtain ⟨h1, h2⟩ := get_slots vs (i + 1) t v h
      refine ⟨by omega, ?_⟩
      rw [show t - i = (t - (i + 1)) + 1 by omega]
      simpa using h2
/-- What a result variable holds. -/
def RV (P : Program) (B : Nat) (w0 : Wd) (fr : FR) (hs : HS) : ResultVar → Value → Prop
  | .tmp t, v => get fr t = some v
  | .cell t ty, v => ∃ ad, get fr t = some (.pointer (some ad)) ∧ Ld P B w0 hs ty ad v
def rv1 (tmps : Array Value) : ResultVar → Sem Value
  | .tmp t => pure (tmps.getD t undef)
  | .cell a t => do loadVar t (← asAddr (tmps.getD a undef))
theorem results_rv1 (fn : Func) (tmps : Array Value) : results fn tmps = (do let vs ← fn.results.mapM (rv1 tmps); pure (if h : vs.size = 1 then vs[0] else .tuple vs)) := rfl
theorem RV.run {a : Act} {w : World} (ha : Fr n a fr) (hw : Hp B w0 w hs) : ∀ {r : ResultVar} {v : Value}, RV P B w0 fr hs r v → (rv1 a.tmps r).run P w = .ok v w
  | .tmp t, v, h => by simp only [rv1, (ha.get _ _ h).2, Sem.run_pure]
  | .cell t ty, v, ⟨ad, h1, h2⟩ => by simp only [rv1, (ha.get _ _ h1).2, asAddr, Sem.run_bind, Sem.run_pure, Result.andThen_ok, h2 w hw]
/-- What a function ends in: the post of its contract. -/
def Ends (B : Nat) (w0 : Wd) (R : Value → HS → Prop) (e : Ending) (w' : World) : Prop := ∃ v hs', e = .returned v ∧ R v hs' ∧ Hp B w0 w' hs'
theorem e_ret0 {fn : Func} {R : Value → HS → Prop} (hr : fn.results = #[]) (hR : R (.tuple #[]) hs') (hsub : hs'.Sublist hs) (hd0 : n.ds = [] := by rfl) :
    Sat n B w0 (bodyPost P fn (Ends B w0 R) .normal) fr hs := fun a w ha hw => by
  refine ⟨ha.defers.trans hd0, .tuple #[], ?_, _, hs', rfl, hR, hw.sub hsub⟩
  simp [results, hr]
theorem e_ret1 {fn : Func} {R : Value → HS → Prop} {r : ResultVar} {v : Value} (hr : fn.results = #[r]) (h1 : RV P B w0 fr hs r v) (hR : R v hs') (hsub : hs'.Sublist hs) (hd0 : n.ds = [] := by rfl) :
    Sat n B w0 (bodyPost P fn (Ends B w0 R) .ret) fr hs := fun a w ha hw => by
  refine ⟨ha.defers.trans hd0, v, ?_, v, hs', rfl, hR, hw.sub hsub⟩
  simp [results_rv1, hr, RV.run ha hw h1]
theorem e_ret2 {fn : Func} {R : Value → HS → Prop} {r s : ResultVar} {v u : Value} (hr : fn.results = #[r, s]) (h1 : RV P B w0 fr hs r v) (h2 : RV P B w0 fr hs s u) (hR : R (.tuple #[v, u]) hs') (hsub : hs'.Sublist hs) (hd0 : n.ds = [] := by rfl) :
    Sat n B w0 (bodyPost P fn (Ends B w0 R) .ret) fr hs := fun a w ha hw => by
  refine ⟨ha.defers.trans hd0, .tuple #[v, u], ?_, _, hs', rfl, hR, hw.sub hsub⟩
  simp [results_rv1, hr, RV.run ha hw h1, RV.run ha hw h2]
theorem fn_enter {k0 : Nat} {f : Nat} {fn : Func} {c : Code} {args : List Value} {R : Value → HS → Prop} (hf : P.funcs[f]? = some fn) (hb : fn.body = some c) (hn : fn.ntmps = k0) (hl : args.length ≤ k0)
    (h : Sat ⟨k0, []⟩ B w0 (c.wp P (bodyPost P fn (Ends B w0 R))) (slots 0 args) hs) : Fn P f args.toArray B w0 hs R := fun w hw => by
  refine calls_of_wp hf hb (h _ w ⟨?_, rfl, ?_⟩ hw)
  · simp [hn]; omega
  · intro t v hv
    obtain ⟨_, h2⟩ := get_slots args 0 t v hv
    simp only [Nat.sub_zero] at h2
    have ht : t < args.length := (List.getElem?_eq_some_iff.1 h2).1
    refine ⟨by show t < k0; omega, ?_⟩
    have h3 : t < args.length + (fn.ntmps - args.length) := by omega
    simp only [Array.getD]
    rw [dif_pos (by simpa using h3)]
    simp only [Array.getInternal_eq_getElem]
    rw [Array.getElem_append_left (by simpa using ht)]
    simpa using (List.getElem?_eq_some_iff.1 h2).2
/-! ### A region that draws its order, of which every operation is quiet -/
def qn (P : Program) (n : NN) (B : Nat) (w0 : Wd) (hs : HS) (ops : Array Oper) (K : Act → Prop) (l : List Oper) (fr : FR) : Prop := ∀ a, Fr n a fr → wpQuiet P ops (fun w => Hp B w0 w hs) K l a
theorem c_quiet {id : Nat} {l : List Oper} (hm : P.follows .mixedOrders = true) (hB : Region.lexB .any l.toArray = true) (h : qn P n B w0 hs l.toArray (fun a' => ∀ w', Hp B w0 w' hs → Q .normal a' w') l fr) :
    Sat n B w0 ((Code.region id l.toArray true).wp P Q) fr hs := fun a w ha hw =>
  wp_region_quiet (C := fun w => Hp B w0 w hs) hm hB ⟨⟨hw.below.os, hw.below.tape, hw.below.output, hw.below.size, hw.below.block⟩, hw.big, hw.mem, hw.nodup, hw.obj, hw.ond⟩ (by simpa using h a ha)
theorem q_nil (h : Sat n B w0 K fr hs) : qn P n B w0 hs ops (fun a' => ∀ w', Hp B w0 w' hs → K a' w') [] fr := fun a ha w hw => h a w ha hw
theorem q_pure {Ka : Act → Prop} {op : Op} {v : Value} (hv : OpF P n B w0 op ty fr hs v) (hn : d < n.n) (h : qn P n B w0 hs ops Ka l ((d, v) :: fr)) : qn P n B w0 hs ops Ka (⟨some d, op, ty, pos, aft, none⟩ :: l) fr := fun a ha => by
  unfold wpQuiet
  rw [if_pos (by simp [Region.wanted])]
  refine ⟨v, fun w hw => ?_, h _ (ha.put hn v)⟩
  unfold Oper.quietAt
  rw [ex_eq, hv a w ha hw]
  exact ⟨rfl, rfl⟩
theorem q_yes {Ka : Act → Prop} {op : Op} {o : Option Nat} {j dj : Nat} {b : Bool} (hj : (ops[j]?).bind (·.dst) = some dj) (hb : get fr dj = some (.bool b)) (h : qn P n B w0 hs ops Ka (⟨o, op, ty, pos, aft, none⟩ :: l) fr) :
    qn P n B w0 hs ops Ka (⟨o, op, ty, pos, aft, some (j, b)⟩ :: l) fr := fun a ha => by
  have h1 := h a ha
  unfold wpQuiet at h1 ⊢
  rw [if_pos (by simp [Region.wanted])] at h1
  obtain ⟨h2, h3⟩ := ha.get _ _ hb
  have hy : yielded ops a.tmps j = some b := by
    have h4 : a.tmps[dj]? = some (.bool b) := by
      rw [← h3]; simp [Array.getD, ha.size, h2]
    simp [yielded, hj, h4]
  rw [if_pos (by simp [Region.wanted, hy])]
  exact h1
theorem q_no {Ka : Act → Prop} {op : Op} {j dj : Nat} {b b' : Bool} (hj : (ops[j]?).bind (·.dst) = some dj) (hb : get fr dj = some (.bool b')) (hbb : b' = !b) (hn : d < n.n) (h : qn P n B w0 hs ops Ka l ((d, undef) :: fr)) :
    qn P n B w0 hs ops Ka (⟨some d, op, ty, pos, aft, some (j, b)⟩ :: l) fr := fun a ha => by
  subst hbb
  unfold wpQuiet
  obtain ⟨h2, h3⟩ := ha.get _ _ hb
  have hy : yielded ops a.tmps j = some (!b) := by
    have h4 : a.tmps[dj]? = some (.bool (!b)) := by
      rw [← h3]; simp [Array.getD, ha.size, h2]
    simp [yielded, hj, h4]
  rw [if_neg (by simp [Region.wanted, hy])]
  exact h _ (ha.put hn undef)
theorem q_und {Ka : Act → Prop} {op : Op} {j dj : Nat} {b : Bool} (hj : (ops[j]?).bind (·.dst) = some dj) (hb : get fr dj = some (.tuple #[])) (hn : d < n.n) (h : qn P n B w0 hs ops Ka l ((d, undef) :: fr)) :
    qn P n B w0 hs ops Ka (⟨some d, op, ty, pos, aft, some (j, b)⟩ :: l) fr := fun a ha => by
  unfold wpQuiet
  obtain ⟨h2, h3⟩ := ha.get _ _ hb
  have hy : yielded ops a.tmps j = none := by
    have h4 : a.tmps[dj]? = some (.tuple #[]) := by
      rw [← h3]; simp [Array.getD, ha.size, h2]
    simp [yielded, hj, h4]
  rw [if_neg (by simp [Region.wanted, hy])]
  exact h _ (ha.put hn undef)
theorem q_dec {Ka : Act → Prop} {op : Op} {o : Option Nat} {j dj : Nat} {b : Bool} {p : Prop} [Decidable p] (hj : (ops[j]?).bind (·.dst) = some dj) (hb : get fr dj = some (.bool (decide p)))
    (ht : p → qn P n B w0 hs ops Ka (⟨o, op, ty, pos, aft, some (j, b)⟩ :: l) ((dj, .bool true) :: fr)) (hf : ¬ p → qn P n B w0 hs ops Ka (⟨o, op, ty, pos, aft, some (j, b)⟩ :: l) ((dj, .bool false) :: fr)) :
    qn P n B w0 hs ops Ka (⟨o, op, ty, pos, aft, some (j, b)⟩ :: l) fr := fun a ha => by
  have := hj
  by_cases hp : p
  · exact ht hp a (ha.sub (Sub.cons (by rw [hb]; simp [hp]) (fun _ _ h => h)))
  · exact hf hp a (ha.sub (Sub.cons (by rw [hb]; simp [hp]) (fun _ _ h => h)))
theorem q_decb {Ka : Act → Prop} {op : Op} {o : Option Nat} {j dj : Nat} {b c : Bool} (hj : (ops[j]?).bind (·.dst) = some dj) (hb : get fr dj = some (.bool c))
    (ht : c = true → qn P n B w0 hs ops Ka (⟨o, op, ty, pos, aft, some (j, b)⟩ :: l) ((dj, .bool true) :: fr)) (hf : c = false → qn P n B w0 hs ops Ka (⟨o, op, ty, pos, aft, some (j, b)⟩ :: l) ((dj, .bool false) :: fr)) :
    qn P n B w0 hs ops Ka (⟨o, op, ty, pos, aft, some (j, b)⟩ :: l) fr := fun a ha => by
  have := hj
  cases c with
  | true => exact ht rfl a (ha.sub (Sub.cons hb (fun _ _ h => h)))
  | false => exact hf rfl a (ha.sub (Sub.cons hb (fun _ _ h => h)))
end
section
variable {P : Program} {n : NN} {B : Nat} {w0 : Wd} {fr fr' : FR} {hs hs' : HS} {ty : TypeId} {K K' : Act → World → Prop} {Q : Exit → Act → World → Prop}
  {ops : Array Oper} {l : List Oper} {d : Nat} {pos : String} {aft : Array Edge}
/-! ### Aggregates and slices that are written out -/
theorem foldl_setAll : ∀ (l : List Value) (i off : Nat) (cs : Array Value), ((l.zipIdx i).foldl (fun cs (x : Value × Nat) => cs.setIfInBounds (off + x.2) x.1) cs).toList = setAll cs.toList (off + i) l
  | [], i, off, cs => by simp [setAll]
  | v :: l, i, off, cs => by
    simp only [List.zipIdx_cons, List.foldl_cons, setAll]
    rw [foldl_setAll l (i + 1) off _]
    simp [Nat.add_assoc]
/-- What 'fill' makes, over lists. -/
def bldL (places : Nat → Option (Nat × Nat)) : List Value → List (Nat × Value) → Option (List Value)
  | cs, [] => some cs
  | cs, (i, v) :: r => match places i with
    | none => none
    | some (off, size) => if v.cells.size = size ∧ off + size ≤ cs.length then bldL places (setAll cs off v.cells.toList) r else none
theorem fill_bldL (places : Nat → Option (Nat × Nat)) : ∀ (parts : List (Nat × Value)) (cs : Array Value) (out : List Value), bldL places cs.toList parts = some out → Instr.fill places cs parts = some out.toArray
  | [], cs, out, h => by simp only [bldL, Option.some.injEq] at h; simp [Instr.fill, ← h]
  | (i, v) :: r, cs, out, h => by
    simp only [bldL] at h
    simp only [Instr.fill]
    cases hp : places i with
    | none => simp [hp] at h
    | some p =>
      obtain ⟨off, size⟩ := p
      simp only [hp] at h ⊢
      split at h
      · rename_i hc
        obtain ⟨h1, h2⟩ := hc
        have h3 : ¬ (v.cells.size ≠ size || off + v.cells.size > cs.size) = true := by
          have h4 : ¬ cs.size < off + size := by simpa using h2
          simp [h1]; omega
        simp only [Bool.not_eq_true] at h3
        rw [if_neg (by simpa using h3)]
        refine fill_bldL places r _ out ?_
        rw [← Array.foldl_toList, Array.toList_zipIdx, foldl_setAll]
        exact h
      · cases h
/-- The places of a struct's fields. -/
def pl (P : Program) (t : TypeId) : Option (List (Nat × Nat)) :=
  match P.underlying t with
  | some (.struct fs) => fs.toList.mapM fun f => match sh P f.type with | some (_, k) => some (f.offset, k) | none => none
  | _ => none
theorem run_mapM_places (w : World) : ∀ (fs : List Field) (ps : List (Nat × Nat)), fs.mapM (fun f => match sh P f.type with | some (_, k) => some (f.offset, k) | none => none) = some ps →
    (fs.mapM (fun f => (do pure (f.offset, ← sizeOf f.type) : Sem (Nat × Nat)))).run P w = .ok ps w
  | [], ps, h => by simp at h; simp [← h]
  | f :: fs, ps, h => by
    simp only [List.mapM_cons, Option.bind_eq_bind, Option.bind_eq_some_iff] at h
    obtain ⟨p, h1, qs, h2, h3⟩ := h
    split at h1
    · rename_i b k hk
      simp only [Option.some.injEq] at h1
      simp only [pure, Option.some.injEq] at h3
      simp only [List.mapM_cons, Sem.run_bind, run_sizeOf hk, Result.andThen_ok, Sem.run_pure, run_mapM_places w fs qs h2, h1, h3]
    · cases h1
def partv (fr : FR) : List (Nat × Operand) → Option (List (Nat × Value))
  | [] => some []
  | (i, x) :: r => match opv fr x, partv fr r with
    | some v, some vs => some ((i, v) :: vs)
    | _, _ => none
theorem partv_map {a : Act} (ha : Fr n a fr) : ∀ (xs : List (Nat × Operand)) (vs : List (Nat × Value)), partv fr xs = some vs → xs.map (fun (i, x) => (i, a.eval x)) = vs
  | [], vs, h => by simp [partv] at h; simp [h]
  | (i, x) :: xs, vs, h => by
    simp only [partv] at h
    split at h
    · rename_i v vs' h1 h2
      simp only [Option.some.injEq] at h
      rw [← h]
      simp [ha.opv h1, partv_map ha xs vs' h2]
    · cases h
theorem o_build {t : TypeId} {xs : List (Nat × Operand)} {vs : List (Nat × Value)} {zs : List Value} {ps : List (Nat × Nat)} {out : List Value} (hx : partv fr xs = some vs) (hz : zc P t = some zs.toArray) (hp : pl P t = some ps)
    (ho : bldL (fun i => ps[i]?) zs vs = some out) : OpF P n B w0 (.build t xs.toArray) ty fr hs (.agg out.toArray) := fun a w ha _ => by
  unfold pl at hp
  split at hp
  · rename_i fs hu
    unfold zc at hz
    cases hi : P.info? t with
    | none => simp [hi] at hz
    | some i =>
      simp only [hi, Option.map_eq_some_iff] at hz
      obtain ⟨zv, hzv, hzz⟩ := hz
      have h1 : (xs.toArray.map (fun (i, x) => (i, a.eval x))) = vs.toArray := by rw [← partv_map ha xs vs hx]; simp
      have h2 : Instr.fill (fun i => ps.toArray[i]?) zs.toArray vs = some out.toArray := fill_bldL _ vs zs.toArray out (by simpa using ho)
      have h3 := run_mapM_places (P := P) w fs.toList ps hp
      simp only [ex, execOp, h1, Instr.build, Sem.run_bind, zeroValue, typeInfo, run_program, hi, Result.andThen_ok, Sem.run_pure, hzv, underlying, hu, hzz]
      rw [Array.mapM_eq_mapM_toList]
      simp only [Sem.run_map, h3, Result.andThen_ok]
      have h4 : Instr.fill (fun x => ps[x]?) zs.toArray vs = some out.toArray := by simpa using h2
      simp [h4]
  · cases hp
theorem o_bld0 {t : TypeId} {zs : List Value} {ps : List (Nat × Nat)} (hz : zc P t = some zs.toArray) (hp : pl P t = some ps) : OpF P n B w0 (.build t #[]) ty fr hs (.agg zs.toArray) := o_build (xs := []) (vs := []) rfl hz hp rfl
theorem one_toList {v : Value} (h : v.cells = #[v]) : v.cells.toList = [v] := by rw [h]
theorem one_sz {v : Value} (h : v.cells = #[v]) : v.cells.size = 1 := by rw [h]; rfl
theorem o_bld2 {t : TypeId} {x y : Operand} {v u z0 z1 : Value} (hx : opv fr x = some v) (hy : opv fr y = some u) (h1 : v.cells = #[v]) (h2 : u.cells = #[u]) (hz : zc P t = some [z0, z1].toArray) (hp : pl P t = some [(0, 1), (1, 1)]) :
    OpF P n B w0 (.build t #[(0, x), (1, y)]) ty fr hs (.agg #[v, u]) :=
  o_build (xs := [(0, x), (1, y)]) (vs := [(0, v), (1, u)]) (by simp [partv, hx, hy]) hz hp (by simp [bldL, one_sz h1, one_sz h2, one_toList h1, one_toList h2, setAll])
theorem o_bld3 {t : TypeId} {x y q : Operand} {v u r z0 z1 z2 : Value} (hx : opv fr x = some v) (hy : opv fr y = some u) (hq : opv fr q = some r) (h1 : v.cells = #[v]) (h2 : u.cells = #[u]) (h3 : r.cells = #[r]) (hz : zc P t = some [z0, z1, z2].toArray) (hp : pl P t = some [(0, 1), (1, 1), (2, 1)]) :
    OpF P n B w0 (.build t #[(0, x), (1, y), (2, q)]) ty fr hs (.agg #[v, u, r]) :=
  o_build (xs := [(0, x), (1, y), (2, q)]) (vs := [(0, v), (1, u), (2, r)]) (by simp [partv, hx, hy, hq]) hz hp (by simp [bldL, one_sz h1, one_sz h2, one_sz h3, one_toList h1, one_toList h2, one_toList h3, setAll])
/-- The zero of a slice's elements. -/
def zs (P : Program) (t : TypeId) : Option (Array Value) := match P.underlying t with | some (.slice e) => zc P e | _ => none
def enumV : Nat → List Value → List (Nat × Value)
  | _, [] => []
  | i, v :: vs => (i, v) :: enumV (i + 1) vs
def flatV : List Value → List Value
  | [] => []
  | v :: vs => v.cells.toList ++ flatV vs
theorem setAll_take (cs : List Value) : ∀ (vs : List Value) (i : Nat), i + vs.length ≤ cs.length → setAll cs i vs = cs.take i ++ vs ++ cs.drop (i + vs.length) := by
  intro vs i h
  apply List.ext_getElem?
  intro j
  rw [setAll_get]
  by_cases h1 : j < i
  · rw [if_neg (by omega), List.append_assoc, List.getElem?_append_left (by simp; omega), List.getElem?_take, if_pos h1]
  · by_cases h2 : j < i + vs.length
    · rw [if_pos ⟨by omega, h2, by omega⟩, List.append_assoc, List.getElem?_append_right (by simp; omega), List.getElem?_append_left (by simp; omega)]
      simp only [List.length_take]
      congr 1; omega
    · rw [if_neg (by omega), List.getElem?_append_right (by simp; omega), List.getElem?_drop]
      simp only [List.length_append, List.length_take]
      congr 1; omega
theorem bldL_enum (size : Nat) : ∀ (vs : List Value) (i : Nat) (cs : List Value), (∀ v ∈ vs, v.cells.size = size) → (i + vs.length) * size ≤ cs.length →
    bldL (fun i => some (i * size, size)) cs (enumV i vs) = some (cs.take (i * size) ++ flatV vs ++ cs.drop ((i + vs.length) * size))
  | [], i, cs, _, _ => by simp [enumV, bldL, flatV]
  | v :: vs, i, cs, hv, hl => by
    have h0 := hv v (.head _)
    have h5 : (i + (v :: vs).length) * size = i * size + size + vs.length * size := by simp only [List.length_cons]; rw [show i + (vs.length + 1) = i + 1 + vs.length by omega, Nat.add_mul, Nat.add_mul, Nat.one_mul]
    have h6 : (i + 1 + vs.length) * size = i * size + size + vs.length * size := by rw [Nat.add_mul, Nat.add_mul, Nat.one_mul]
    have h7 : (i + 1) * size = i * size + size := by rw [Nat.add_mul, Nat.one_mul]
    rw [h5] at hl
    have h8 : v.cells.toList.length = size := by simpa using h0
    simp only [enumV, bldL, h0, true_and]
    rw [if_pos (by omega), setAll_take cs v.cells.toList (i * size) (by omega)]
    have hlen : (cs.take (i * size) ++ v.cells.toList ++ cs.drop (i * size + v.cells.toList.length)).length = cs.length := by
      simp only [List.length_append, List.length_take, List.length_drop]; omega
    rw [bldL_enum size vs (i + 1) _ (fun u hu => hv u (.tail _ hu)) (by rw [hlen]; omega), h5, h6, h7, h8]
    congr 1
    have e1 : (cs.take (i * size) ++ v.cells.toList ++ cs.drop (i * size + size)).take (i * size + size) = cs.take (i * size) ++ v.cells.toList := by
      rw [List.take_left' (by simp only [List.length_append, List.length_take]; omega)]
    have e2 : (cs.take (i * size) ++ v.cells.toList ++ cs.drop (i * size + size)).drop (i * size + size + vs.length * size) = cs.drop (i * size + size + vs.length * size) := by
      have hl1 : (cs.take (i * size) ++ v.cells.toList).length = i * size + size := by simp only [List.length_append, List.length_take]; omega
      rw [List.drop_append, List.drop_eq_nil_of_le (by rw [hl1]; omega), List.nil_append, List.drop_drop, hl1]
      congr 1; omega
    rw [e1, e2]
    simp [flatV, List.append_assoc]
/-- A slice that is written out: its cells lie in a new block. -/
theorem s_bslice {t : TypeId} {len : Nat} {xs : List (Nat × Operand)} {vs : List Value} {z : List Value} {b : Bool} {k : Nat} (hx : partv fr xs = some (enumV 0 vs)) (ht : sc P t = some (b, k)) (hz : zs P t = some z.toArray) (hlen : vs.length = len) (hka : AllZ (fun v => v.cells.size = k) vs) (hle : len * k ≤ 16777216) (hn : d < n.n)
    (h : ∀ bb, Sat n B w0 (sl P ops K l) ((d, .slice (some ⟨bb, 0, none⟩) len len) :: fr) ((bb, flatV vs) :: hs)) :
    Sat n B w0 (sl P ops K (⟨some d, .buildSlice t len xs.toArray, ty, pos, aft, none⟩ :: l)) fr hs := fun a w ha hw => by
  refine sl_step rfl ?_
  unfold sc at ht
  unfold zs at hz
  split at ht
  · rename_i e hu
    simp only [hu] at hz
    unfold zc at hz
    cases hi : P.info? e with
    | none => simp [hi] at hz
    | some i =>
      simp only [hi, Option.map_eq_some_iff] at hz
      obtain ⟨zv, hzv, hzz⟩ := hz
      have h1 : (xs.toArray.map (fun (i, x) => (i, a.eval x))) = (enumV 0 vs).toArray := by rw [← partv_map ha xs _ hx]; simp
      have hk : ∀ v ∈ vs, v.cells.size = k := hka.of
      have h2 : ∀ c : Array Value, c.size = len * k → Instr.fill (fun i => some (i * k, k)) c (enumV 0 vs) = some (flatV vs).toArray := fun c hc => by
        refine fill_bldL _ _ c _ ?_
        rw [bldL_enum k vs 0 c.toList hk (by simp [hlen, hc])]
        simp only [Nat.zero_mul, List.take_zero, List.nil_append, Nat.zero_add, hlen]
        rw [List.drop_eq_nil_of_le (by simp [hc])]
        simp
      have hrun : (execOp a.eval ⟨some d, .buildSlice t len xs.toArray, ty, pos, aft, none⟩).run P w = .ok (.value (.slice (some ⟨w.heap.size, 0, none⟩) len len)) (w.alloc (.cells (flatV vs).toArray e)) := by
        have h3 : ¬ (len * k > 2 ^ 24) := by omega
        by_cases h0 : len * k = 0
        · have h4 := h2 ((Array.range (len * k)).map (#[][· % 0]!)) (by simp)
          simp only [execOp, h1, Instr.buildSlice, Sem.run_bind, underlying, run_program, hu, Result.andThen_ok, Sem.run_pure, run_sizeOf ht, if_neg h3, if_pos h0]
          simp only [List.size_toArray, List.length_nil] 
          rw [h4]
          simp [newRow]
        · have h4 := h2 ((Array.range (len * k)).map (zv.cells[· % zv.cells.size]!)) (by simp)
          simp only [execOp, h1, Instr.buildSlice, Sem.run_bind, underlying, run_program, hu, Result.andThen_ok, Sem.run_pure, run_sizeOf ht, if_neg h3, if_neg h0, zeroValue, typeInfo, hi, hzv]
          rw [h4]
          simp [newRow]
      unfold Oper.wp
      rw [hrun]
      exact h _ _ _ (ha.put hn _) (hw.fresh _ _)
  · cases ht
theorem one_size {v : Value} (h : v.cells = #[v]) : v.cells.size = 1 := by rw [h]; rfl
theorem one_cells {v : Value} (h : v.cells = #[v]) : v.cells.toList = [v] := by rw [h]
theorem s_bs1 {t : TypeId} {x : Operand} {v : Value} {z : List Value} {b : Bool} (hx : opv fr x = some v) (h1 : v.cells = #[v]) (ht : sc P t = some (b, 1)) (hz : zs P t = some z.toArray) (hn : d < n.n)
    (h : ∀ bb, Sat n B w0 (sl P ops K l) ((d, .slice (some ⟨bb, 0, none⟩) 1 1) :: fr) ((bb, [v]) :: hs)) :
    Sat n B w0 (sl P ops K (⟨some d, .buildSlice t 1 #[(0, x)], ty, pos, aft, none⟩ :: l)) fr hs :=
  s_bslice (xs := [(0, x)]) (vs := [v]) (by simp [partv, hx, enumV]) ht hz rfl ⟨one_size h1, trivial⟩ (by decide) hn (by simpa [flatV, one_cells h1] using h)
theorem s_bs1A {t : TypeId} {x : Operand} {cs : List Value} {z : List Value} {b : Bool} {k : Nat} (hx : opv fr x = some (.agg cs.toArray)) (ht : sc P t = some (b, k)) (hz : zs P t = some z.toArray) (hk : cs.length = k) (hk2 : k ≤ 1000) (hn : d < n.n)
    (h : ∀ bb, Sat n B w0 (sl P ops K l) ((d, .slice (some ⟨bb, 0, none⟩) 1 1) :: fr) ((bb, cs) :: hs)) :
    Sat n B w0 (sl P ops K (⟨some d, .buildSlice t 1 #[(0, x)], ty, pos, aft, none⟩ :: l)) fr hs :=
  s_bslice (xs := [(0, x)]) (vs := [.agg cs.toArray]) (by simp [partv, hx, enumV]) ht hz rfl ⟨by simpa [Value.cells] using hk, trivial⟩ (by omega) hn (by simpa [flatV, Value.cells] using h)
theorem s_bs2 {t : TypeId} {x y : Operand} {v u : Value} {z : List Value} {b : Bool} (hx : opv fr x = some v) (hy : opv fr y = some u) (h1 : v.cells = #[v]) (h2 : u.cells = #[u]) (ht : sc P t = some (b, 1)) (hz : zs P t = some z.toArray) (hn : d < n.n)
    (h : ∀ bb, Sat n B w0 (sl P ops K l) ((d, .slice (some ⟨bb, 0, none⟩) 2 2) :: fr) ((bb, [v, u]) :: hs)) :
    Sat n B w0 (sl P ops K (⟨some d, .buildSlice t 2 #[(0, x), (1, y)], ty, pos, aft, none⟩ :: l)) fr hs :=
  s_bslice (xs := [(0, x), (1, y)]) (vs := [v, u]) (by simp [partv, hx, hy, enumV]) ht hz rfl ⟨one_size h1, one_size h2, trivial⟩ (by decide) hn (by simpa [flatV, one_cells h1, one_cells h2] using h)
theorem s_bs3 {t : TypeId} {x y q : Operand} {v u r : Value} {z : List Value} {b : Bool} (hx : opv fr x = some v) (hy : opv fr y = some u) (hq : opv fr q = some r) (h1 : v.cells = #[v]) (h2 : u.cells = #[u]) (h3 : r.cells = #[r]) (ht : sc P t = some (b, 1)) (hz : zs P t = some z.toArray) (hn : d < n.n)
    (h : ∀ bb, Sat n B w0 (sl P ops K l) ((d, .slice (some ⟨bb, 0, none⟩) 3 3) :: fr) ((bb, [v, u, r]) :: hs)) :
    Sat n B w0 (sl P ops K (⟨some d, .buildSlice t 3 #[(0, x), (1, y), (2, q)], ty, pos, aft, none⟩ :: l)) fr hs :=
  s_bslice (xs := [(0, x), (1, y), (2, q)]) (vs := [v, u, r]) (by simp [partv, hx, hy, hq, enumV]) ht hz rfl ⟨one_size h1, one_size h2, one_size h3, trivial⟩ (by decide) hn (by simpa [flatV, one_cells h1, one_cells h2, one_cells h3] using h)
theorem s_bs4 {t : TypeId} {x y q p : Operand} {v u r s : Value} {z : List Value} {b : Bool} (hx : opv fr x = some v) (hy : opv fr y = some u) (hq : opv fr q = some r) (hp : opv fr p = some s) (h1 : v.cells = #[v]) (h2 : u.cells = #[u]) (h3 : r.cells = #[r]) (h4 : s.cells = #[s]) (ht : sc P t = some (b, 1)) (hz : zs P t = some z.toArray) (hn : d < n.n)
    (h : ∀ bb, Sat n B w0 (sl P ops K l) ((d, .slice (some ⟨bb, 0, none⟩) 4 4) :: fr) ((bb, [v, u, r, s]) :: hs)) :
    Sat n B w0 (sl P ops K (⟨some d, .buildSlice t 4 #[(0, x), (1, y), (2, q), (3, p)], ty, pos, aft, none⟩ :: l)) fr hs :=
  s_bslice (xs := [(0, x), (1, y), (2, q), (3, p)]) (vs := [v, u, r, s]) (by simp [partv, hx, hy, hq, hp, enumV]) ht hz rfl ⟨one_size h1, one_size h2, one_size h3, one_size h4, trivial⟩ (by decide) hn (by simpa [flatV, one_cells h1, one_cells h2, one_cells h3, one_cells h4] using h)
end
theorem gO {P : Program} {n : NN} {B : Nat} {w0 : Wd} {fr : FR} {hs : HS} {ty : TypeId} {v : Value} (op : Op) (h : OpF P n B w0 op ty fr hs v) : OpF P n B w0 op ty fr hs v := h
theorem sat_mk {n : NN} {B : Nat} {w0 : Wd} {K : Act → World → Prop} {fr : FR} {hs : HS} (h : ∀ a w, Fr n a fr → Hp B w0 w hs → K a w) : Sat n B w0 K fr hs := h
theorem sat_el {n : NN} {B : Nat} {w0 : Wd} {K : Act → World → Prop} {fr : FR} {hs : HS} (h : Sat n B w0 K fr hs) : ∀ a w, Fr n a fr → Hp B w0 w hs → K a w := h
theorem fn_mk {P : Program} {f : Nat} {args : Array Value} {B : Nat} {w0 : Wd} {hs : HS} {R : Value → HS → Prop} (h : ∀ w, Hp B w0 w hs → Calls P f args w (Ends B w0 R)) : Fn P f args B w0 hs R := h
theorem fn_el {P : Program} {f : Nat} {args : Array Value} {B : Nat} {w0 : Wd} {hs : HS} {R : Value → HS → Prop} (h : Fn P f args B w0 hs R) : ∀ w, Hp B w0 w hs → Calls P f args w (Ends B w0 R) := h
theorem ea_some (a : Addr) (i : Nat) : ea (some a) i = a.add i := rfl
theorem ea_own (b o i : Nat) : ea (some ⟨b, o, none⟩) i = ⟨b, o + i, none⟩ := add_own b o i
attribute [irreducible] Sat qn sl Nx Fn ea
end Go.Proofs.YtnbickholedckaaGreatDoor
namespace Go.Proofs.YtnbickholedckaaGreatDoor
open Go.RowKit
def vOf (b : Bool) (xs : List Int) : Value := if b then .agg (ivs xs).toArray else iv (xs.getD 0 0)
/-- An entry: the key's numbers, the value, and when it came. -/
abbrev Ent := List Int × Value × Nat
def mEn (b : Bool) (p : Ent) : MapEntry := { key := vOf b p.1, val := p.2.1, born := p.2.2 }
def mOb (b : Bool) (es : List Ent) (ck : Nat) : Obj := .map (es.map (mEn b)).toArray ck
/-- The entries of a map: each has come at its own place. -/
abbrev Mp := List (List Int × Value)
def ents (L : Mp) : List Ent := L.zipIdx.map fun p => (p.1.1, p.1.2, p.2)
def mapO (b : Bool) (L : Mp) : Obj := mOb b (ents L) L.length
/-- The place of a key. -/
def plc (x : List Int) : Mp → Nat → Option Nat
  | [], _ => none
  | p :: L, i => if x = p.1 then some i else plc x L (i + 1)
/-- One object's state is turned. -/
inductive UpdM (m : Nat) (o o' : Obj) : List (Nat × Obj) → List (Nat × Obj) → Prop
  | head (ms : List (Nat × Obj)) : UpdM m o o' ((m, o) :: ms) ((m, o') :: ms)
  | tail (p : Nat × Obj) {ms ms' : List (Nat × Obj)} (h : UpdM m o o' ms ms') : UpdM m o o' (p :: ms) (p :: ms')
/-- What was known of maps, and then some keys came in with zeros. -/
inductive Ext0 (k : Nat) (a : Wd) : Wd → Prop
  | refl : Ext0 k a a
  | any {c : Wd} {ms' : List (Nat × Obj)} (hk : k = 0) (h : Ext0 k a c) : Ext0 k a ⟨c.w, ms'⟩
  | step {c : Wd} {m : Nat} {L : Mp} {x : List Int} {ms' : List (Nat × Obj)} (h : Ext0 k a c) (hu : UpdM m (mapO (!(k == 1)) L) (mapO (!(k == 1)) (L ++ [(x, iv 0)])) c.ms ms') (hp : plc x L 0 = none) (hx : x.length = k) (hL : ∀ p ∈ L, p.1.length = k) : Ext0 k a ⟨c.w, ms'⟩
theorem Ext0.trans {k : Nat} {a b c : Wd} (h1 : Ext0 k a b) (h2 : Ext0 k b c) : Ext0 k a c := by
  induction h2 with
  | refl => exact h1
  | step _ hu hp hx hL ih => exact .step ih hu hp hx hL
  | any hk _ ih => exact .any hk ih
/-- Effects of which the text's order alone is followed, or that keep what stands by. -/
def effF : Nat → Bool
  | 3 | 4 | 5 => true
  | _ => false
section
variable (P : Program) (B : Nat) (w0 : Wd)
/-- What an operation's run leads to, without panic. -/
def vres (V : Value → World → Prop) : Result Next → Prop
  | .ok (.value v) w' => V v w'
  | .ok .skip w' => V undef w'
  | .ok (.enter f args) w' => Calls P f args w' (fun e w'' => ∃ v, e = .returned v ∧ V v w'')
  | _ => False
/-- Memory of this kind there is. -/
def In (hs : HS) : Prop := ∃ w, Hp B w0 w hs
end
/-- The one memory holds all that the other holds. -/
def SubP (S hs : HS) : Prop := ∃ h, h.Perm hs ∧ S.Sublist h
section
variable {P : Program} {B : Nat} {w0 : Wd}
theorem vres_mono {V V' : Value → World → Prop} {r : Result Next} (h : ∀ v w, V v w → V' v w) (hr : vres P V r) : vres P V' r := by
  cases r with
  | ok x w' =>
    cases x <;> simp only [vres] at hr ⊢
    case value v => exact h _ _ hr
    case skip => exact h _ _ hr
    case enter f args => exact hr.mono fun e w'' ⟨v, he, hv⟩ => ⟨v, he, h _ _ hv⟩
  | halt x w' => simp only [vres] at hr
theorem vres_ex {V : Value → World → Prop} {r : Result Next} (hr : vres P V r) : ∃ v w', V v w' := by
  cases r with
  | ok x w' =>
    cases x <;> simp only [vres] at hr
    case value v => exact ⟨_, _, hr⟩
    case skip => exact ⟨_, _, hr⟩
    case enter f args =>
      obtain ⟨e, w'', fr, ⟨v, _, hv⟩, _⟩ := hr []
      exact ⟨v, w'', hv⟩
  | halt x w' => simp only [vres] at hr
theorem vres_wp {o : Oper} {a : Act} {w : World} {V : Value → World → Prop} {N : Act → World → Prop} {Q : Exit → Act → World → Prop} (hr : vres P V ((execOp a.eval o).run P w)) (h : ∀ v w', V v w' → N (a.put o.dst v) w') : o.wp P a w N Q := by
  unfold Oper.wp
  generalize (execOp a.eval o).run P w = r at hr
  cases r with
  | ok x w' =>
    cases x <;> simp only [vres] at hr <;> simp only [Oper.upon]
    case value v => exact h _ _ hr
    case skip => exact h _ _ hr
    case enter f args => exact hr.mono fun e w'' ⟨v, he, hv⟩ => by subst he; exact h _ _ hv
  | halt x w' => simp only [vres] at hr
theorem SubP.refl (hs : HS) : SubP hs hs := ⟨hs, .refl _, List.Sublist.refl _⟩
theorem SubP.of {S hs : HS} (h : S.Sublist hs) : SubP S hs := ⟨hs, .refl _, h⟩
theorem SubP.cons {S hs : HS} (p : Nat × List Value) (h : SubP S hs) : SubP S (p :: hs) := let ⟨x, h1, h2⟩ := h; ⟨p :: x, h1.cons p, h2.cons p⟩
theorem SubP.perm {S hs hs' : HS} (h : SubP S hs) (hp : hs.Perm hs') : SubP S hs' := let ⟨x, h1, h2⟩ := h; ⟨x, h1.trans hp, h2⟩
theorem Hp.subP {S hs : HS} {w : World} (h : Hp B w0 w hs) (hp : SubP S hs) : Hp B w0 w S := let ⟨_, h1, h2⟩ := hp; (h.perm h1.symm).sub h2
theorem In.perm {hs hs' : HS} (h : In B w0 hs) (hp : hs.Perm hs') : In B w0 hs' := let ⟨w, hw⟩ := h; ⟨w, hw.perm hp⟩
theorem In.sub {hs hs' : HS} (h : In B w0 hs) (hp : hs'.Sublist hs) : In B w0 hs' := let ⟨w, hw⟩ := h; ⟨w, hw.sub hp⟩
end
/-- A new block's address: a variable's, or a row's of k. -/
def newv (k : Option Nat) (b : Nat) : Value := match k with | none => .pointer (some ⟨b, 0, none⟩) | some n => .slice (some ⟨b, 0, none⟩) n n
section
variable (P : Program) (B : Nat) (w0 : Wd)
/-- One operation: 0 yields a value that hangs on S alone, 1 one that hangs on memory as it is; 2 makes a block; 3 turns memory but leaves S; the rest turn memory where all else waits. -/
def st (g : Bool) (r : Sem Next) (f : Nat) (S hs : HS) (X : Value → Wd → HS → HS → Prop) : Prop :=
  if g then
    match f with
    | 0 => ∃ v, (∀ w, Hp B w0 w S → r.run P w = .ok (.value v) w) ∧ X v w0 S hs
    | 1 => ∃ v, (∀ w, Hp B w0 w hs → r.run P w = .ok (.value v) w) ∧ X v w0 S hs
    | 2 => ∃ c e k, (∀ w, r.run P w = .ok (.value (newv k w.heap.size)) (w.alloc (.cells c e))) ∧ ∀ b, In B w0 ((b, c.toList) :: hs) → X (newv k b) w0 S ((b, c.toList) :: hs)
    | 3 => ∃ R : Value → HS → Prop, (∀ F w, Hp B w0 w (F ++ hs) → vres P (fun v w' => ∃ h, R v h ∧ Hp B w0 w' (F ++ h)) (r.run P w)) ∧ ∀ v h, R v h → In B w0 h → SubP S h ∧ X v w0 S h
    | 5 => ∃ R : Value → Wd → HS → Prop, (∀ F w, Hp B w0 w (F ++ hs) → vres P (fun v w' => ∃ w1 h, R v w1 h ∧ Hp B w1 w' (F ++ h)) (r.run P w)) ∧ ∀ v w1 h, R v w1 h → In B w1 h → X v w1 h h
    | 4 => ∃ R : Value → HS → Prop, (∀ F w, Hp B w0 w (F ++ hs) → vres P (fun v w' => ∃ h, R v h ∧ Hp B w0 w' (F ++ h)) (r.run P w)) ∧ ∀ v h, R v h → In B w0 h → X v w0 h h
    | q + 6 => if q % 2 = 0 then ∃ v, (∀ w1 w, Ext0 (q / 2) w0 w1 → Hp B w1 w hs → r.run P w = .ok (.value v) w) ∧ X v w0 S hs
      else ∃ R : Value → Wd → Prop, (∀ F w, Hp B w0 w (F ++ hs) → vres P (fun v w' => ∃ w1, R v w1 ∧ Hp B w1 w' (F ++ hs)) (r.run P w)) ∧ ∀ v w1, R v w1 → In B w1 hs → Ext0 (q / 2) w0 w1 ∧ X v w1 S hs
  else X undef w0 S hs
end
section
variable {P : Program} {B : Nat} {w0 : Wd}
theorem st_mono {g : Bool} {r : Sem Next} {f : Nat} {S hs : HS} {X X' : Value → Wd → HS → HS → Prop} (hin : In B w0 hs) (hsub : SubP S hs) (h : ∀ v w1 S' h', In B w1 h' → SubP S' h' → X v w1 S' h' → X' v w1 S' h') (hr : st P B w0 g r f S hs X) : st P B w0 g r f S hs X' := by
  unfold st at hr ⊢
  split
  · rename_i hg
    rw [if_pos hg] at hr
    split at hr
    · obtain ⟨v, h1, h2⟩ := hr; exact ⟨v, h1, h _ _ _ _ hin hsub h2⟩
    · obtain ⟨v, h1, h2⟩ := hr; exact ⟨v, h1, h _ _ _ _ hin hsub h2⟩
    · obtain ⟨c, e, k, h1, h2⟩ := hr; exact ⟨c, e, k, h1, fun b hb => h _ _ _ _ hb (hsub.cons _) (h2 b hb)⟩
    · obtain ⟨R, h1, h2⟩ := hr; exact ⟨R, h1, fun v x hx hxi => ⟨(h2 v x hx hxi).1, h _ _ _ _ hxi (h2 v x hx hxi).1 (h2 v x hx hxi).2⟩⟩
    · obtain ⟨R, h1, h2⟩ := hr; exact ⟨R, h1, fun v w1 x hx hxi => h _ _ _ _ hxi (SubP.refl _) (h2 v w1 x hx hxi)⟩
    · obtain ⟨R, h1, h2⟩ := hr; exact ⟨R, h1, fun v x hx hxi => h _ _ _ _ hxi (SubP.refl _) (h2 v x hx hxi)⟩
    · split
      · rename_i hq; rw [if_pos hq] at hr; obtain ⟨v, h1, h2⟩ := hr; exact ⟨v, h1, h _ _ _ _ hin hsub h2⟩
      · rename_i hq; rw [if_neg hq] at hr; obtain ⟨R, h1, h2⟩ := hr; exact ⟨R, h1, fun v w1 hx hxi => ⟨(h2 v w1 hx hxi).1, h _ _ _ _ hxi hsub (h2 v w1 hx hxi).2⟩⟩
  · rename_i hg
    rw [if_neg hg] at hr
    exact h _ _ _ _ hin hsub hr
/-- Memory in another order. -/
theorem st_perm {g : Bool} {r : Sem Next} {f : Nat} {S hs hs' : HS} {X : Value → Wd → HS → HS → Prop} (hp : hs.Perm hs') (hX : ∀ v w1 S' h h', h.Perm h' → X v w1 S' h → X v w1 S' h') (hr : st P B w0 g r f S hs X) : st P B w0 g r f S hs' X := by
  unfold st at hr ⊢
  split
  · rename_i hg
    rw [if_pos hg] at hr
    split at hr
    · obtain ⟨v, h1, h2⟩ := hr; exact ⟨v, h1, hX _ _ _ _ _ hp h2⟩
    · obtain ⟨v, h1, h2⟩ := hr; exact ⟨v, fun w hw => h1 w (hw.perm hp.symm), hX _ _ _ _ _ hp h2⟩
    · obtain ⟨c, e, k, h1, h2⟩ := hr; exact ⟨c, e, k, h1, fun b hb => hX _ _ _ _ _ (hp.cons _) (h2 b (hb.perm (hp.cons _).symm))⟩
    · obtain ⟨R, h1, h2⟩ := hr; exact ⟨R, fun F w hw => h1 F w (hw.perm (hp.append_left F).symm), fun v x hx hxi => h2 v x hx hxi⟩
    · obtain ⟨R, h1, h2⟩ := hr; exact ⟨R, fun F w hw => h1 F w (hw.perm (hp.append_left F).symm), fun v w1 x hx hxi => h2 v w1 x hx hxi⟩
    · obtain ⟨R, h1, h2⟩ := hr; exact ⟨R, fun F w hw => h1 F w (hw.perm (hp.append_left F).symm), fun v x hx hxi => h2 v x hx hxi⟩
    · split
      · rename_i hq; rw [if_pos hq] at hr; obtain ⟨v, h1, h2⟩ := hr; exact ⟨v, fun w1 w he hw => h1 w1 w he (hw.perm hp.symm), hX _ _ _ _ _ hp h2⟩
      · rename_i hq; rw [if_neg hq] at hr; obtain ⟨R, h1, h2⟩ := hr; exact ⟨R, fun F w hw => vres_mono (fun v w' ⟨w1, hx, hw'⟩ => ⟨w1, hx, hw'.perm (hp.append_left F)⟩) (h1 F w (hw.perm (hp.append_left F).symm)), fun v w1 hx hxi => ⟨(h2 v w1 hx (hxi.perm hp.symm)).1, hX _ _ _ _ _ hp (h2 v w1 hx (hxi.perm hp.symm)).2⟩⟩
  · rename_i hg
    rw [if_neg hg] at hr
    exact hX _ _ _ _ _ hp hr
/-- What may be taken ahead of what stands before it. -/
def swapOk (fy fx : Nat) : Bool :=
  match fy, fx with
  | 0, 0 | 0, 1 | 0, 2 | 0, 3 | 1, 0 | 1, 1 | 1, 2 | 2, 0 | 2, 2 | 3, 0 | 3, 2 => true
  | 0, q + 6 | 1, q + 6 | q + 6, 0 | q + 6, 1 => q % 2 == 0
  | y + 6, x + 6 => y % 2 == 0 && (x % 2 == 0 || x == y + 1)
  | _, _ => false
theorem newv_inj {k k' : Option Nat} {b : Nat} (h : newv k b = newv k' b) : k = k' := by
  cases k <;> cases k' <;> simp [newv] at h ⊢
  exact h
theorem alloc_inj {w : World} {c c' : Array Value} {e e' : TypeId} (h : w.alloc (.cells c e) = w.alloc (.cells c' e')) : c = c' ∧ e = e' := by
  have h1 : (w.alloc (.cells c e)).heap[w.heap.size]? = (w.alloc (.cells c' e')).heap[w.heap.size]? := by rw [h]
  rw [heap_alloc_new, heap_alloc_new] at h1
  simpa using h1
theorem st_swap {gy gx : Bool} {ry rx : Sem Next} {fy fx : Nat} {S hs : HS} {Z : Value → Value → Wd → HS → HS → Prop} (hok : swapOk fy fx = true) (hin : In B w0 hs) (hsub : SubP S hs)
    (hZ : ∀ v u w1 S' h h', h.Perm h' → Z v u w1 S' h → Z v u w1 S' h')
    (h : st P B w0 gy ry fy S hs (fun v w1 S1 h1 => st P B w1 gx rx fx S1 h1 (fun u w2 S2 h2 => Z v u w2 S2 h2))) :
    st P B w0 gx rx fx S hs (fun u w1 S1 h1 => st P B w1 gy ry fy S1 h1 (fun v w2 S2 h2 => Z v u w2 S2 h2)) := by
  obtain ⟨w1, hw1⟩ := hin
  cases gy with
  | false =>
    simp only [st, Bool.false_eq_true, if_false] at h ⊢
    exact h
  | true =>
  cases gx with
  | false =>
    simp only [st, Bool.false_eq_true, if_false] at h ⊢
    exact h
  | true =>
  simp only [st, if_true] at h ⊢
  have hwS := hw1.subP hsub
  match fy, fx, hok with
  | 0, 0, _ => obtain ⟨v, h1, u, h2, h3⟩ := h; exact ⟨u, h2, v, h1, h3⟩
  | 0, 1, _ => obtain ⟨v, h1, u, h2, h3⟩ := h; exact ⟨u, h2, v, h1, h3⟩
  | 1, 0, _ => obtain ⟨v, h1, u, h2, h3⟩ := h; exact ⟨u, h2, v, h1, h3⟩
  | 1, 1, _ => obtain ⟨v, h1, u, h2, h3⟩ := h; exact ⟨u, h2, v, h1, h3⟩
  | 0, q + 6, hq =>
    have hq' : q % 2 = 0 := by simpa [swapOk] using hq
    simp only [st, if_true, if_pos hq'] at h ⊢
    obtain ⟨v, h1, u, h2, h3⟩ := h; exact ⟨u, h2, v, h1, h3⟩
  | 1, q + 6, hq =>
    have hq' : q % 2 = 0 := by simpa [swapOk] using hq
    simp only [st, if_true, if_pos hq'] at h ⊢
    obtain ⟨v, h1, u, h2, h3⟩ := h; exact ⟨u, h2, v, h1, h3⟩
  | q + 6, 0, hq =>
    have hq' : q % 2 = 0 := by simpa [swapOk] using hq
    simp only [st, if_true, if_pos hq'] at h ⊢
    obtain ⟨v, h1, u, h2, h3⟩ := h; exact ⟨u, h2, v, h1, h3⟩
  | q + 6, 1, hq =>
    have hq' : q % 2 = 0 := by simpa [swapOk] using hq
    simp only [st, if_true, if_pos hq'] at h ⊢
    obtain ⟨v, h1, u, h2, h3⟩ := h; exact ⟨u, h2, v, h1, h3⟩
  | y + 6, x + 6, hq =>
    have hq' : y % 2 = 0 ∧ (x % 2 = 0 ∨ x = y + 1) := by simpa [swapOk] using hq
    rcases hq' with ⟨hy, hx | hx⟩
    · simp only [st, if_true, if_pos hy, if_pos hx] at h ⊢
      obtain ⟨v, h1, u, h2, h3⟩ := h; exact ⟨u, h2, v, h1, h3⟩
    · subst hx
      have hx : ¬ (y + 1) % 2 = 0 := by omega
      have he2 : (y + 1) / 2 = y / 2 := by omega
      simp only [st, if_true, if_pos hy, if_neg hx, he2] at h ⊢
      obtain ⟨v, h1, R, h2, h3⟩ := h
      exact ⟨R, h2, fun u w1 hR hi => ⟨(h3 u w1 hR hi).1, v, fun w2 w he hw => h1 w2 w ((h3 u w1 hR hi).1.trans he) hw, (h3 u w1 hR hi).2⟩⟩
  | 0, 2, _ => obtain ⟨v, h1, c, e, k, h2, h3⟩ := h; exact ⟨c, e, k, h2, fun b hb => ⟨v, h1, h3 b hb⟩⟩
  | 1, 2, _ => obtain ⟨v, h1, c, e, k, h2, h3⟩ := h; exact ⟨c, e, k, h2, fun b hb => ⟨v, fun w hw => h1 w (hw.sub (List.sublist_cons_self _ _)), h3 b hb⟩⟩
  | 0, 3, _ => obtain ⟨v, h1, R, h2, h3⟩ := h; exact ⟨R, h2, fun u x hx hxi => ⟨(h3 u x hx hxi).1, v, h1, (h3 u x hx hxi).2⟩⟩
  | 2, 0, _ =>
    obtain ⟨c, e, k, h1, h2⟩ := h
    have hfr := hw1.fresh c e
    obtain ⟨u, h3, h4⟩ := h2 _ ⟨_, hfr⟩
    refine ⟨u, h3, c, e, k, h1, fun b hb => ?_⟩
    obtain ⟨u', h5, h6⟩ := h2 b hb
    have e1 := h3 w1 hwS
    rw [h5 w1 hwS] at e1
    simp only [Result.ok.injEq, Next.value.injEq, and_true] at e1
    rw [← e1]; exact h6
  | 2, 2, _ =>
    obtain ⟨c, e, k, h1, h2⟩ := h
    obtain ⟨c', e', k', h3, h4⟩ := h2 _ ⟨_, hw1.fresh c e⟩
    refine ⟨c', e', k', h3, fun b' hb' => ⟨c, e, k, h1, fun b hb => ?_⟩⟩
    have hp : ((b, c.toList) :: (b', c'.toList) :: hs).Perm ((b', c'.toList) :: (b, c.toList) :: hs) := .swap _ _ _
    obtain ⟨c2, e2, k2, h5, h6⟩ := h2 b (hb.sub (.cons_cons _ (List.sublist_cons_self _ _)))
    have e1 := h3 w1
    rw [h5 w1] at e1
    simp only [Result.ok.injEq, Next.value.injEq] at e1
    obtain ⟨e3, e4⟩ := e1
    have e5 := newv_inj e3
    obtain ⟨e6, e7⟩ := alloc_inj e4
    subst e5 e6 e7
    exact hZ _ _ _ _ _ _ hp.symm (h6 b' (hb.perm hp))
  | 3, 0, _ =>
    obtain ⟨R, h1, h2⟩ := h
    obtain ⟨v0, w', x0, hx0, hw0⟩ := vres_ex (h1 [] w1 hw1)
    obtain ⟨_, u, h3, h4⟩ := h2 v0 x0 hx0 ⟨w', hw0⟩
    refine ⟨u, h3, R, h1, fun v x hx hxi => ?_⟩
    obtain ⟨h7, u', h5, h6⟩ := h2 v x hx hxi
    have e1 := h3 w1 hwS
    rw [h5 w1 hwS] at e1
    simp only [Result.ok.injEq, Next.value.injEq, and_true] at e1
    rw [← e1]; exact ⟨h7, h6⟩
  | 3, 2, _ =>
    obtain ⟨R, h1, h2⟩ := h
    obtain ⟨v0, w', x0, hx0, hw0⟩ := vres_ex (h1 [] w1 hw1)
    obtain ⟨_, c, e, k, h3, h4⟩ := h2 v0 x0 hx0 ⟨w', hw0⟩
    refine ⟨c, e, k, h3, fun b hb => ⟨fun v h => ∃ x, R v x ∧ h = (b, c.toList) :: x, fun F w hw => ?_, ?_⟩⟩
    · have h5 := h1 (F ++ [(b, c.toList)]) w (by simpa using hw)
      exact vres_mono (fun v w2 ⟨x, hx, hw2⟩ => ⟨_, ⟨x, hx, rfl⟩, by simpa using hw2⟩) h5
    · rintro v h ⟨x, hx, rfl⟩ hxi
      obtain ⟨h7, c2, e2, k2, h5, h6⟩ := h2 v x hx (hxi.sub (List.sublist_cons_self _ _))
      have e1 := h3 w1
      rw [h5 w1] at e1
      simp only [Result.ok.injEq, Next.value.injEq] at e1
      obtain ⟨e3, e4⟩ := e1
      have e5 := newv_inj e3
      obtain ⟨e6, e7⟩ := alloc_inj e4
      subst e5 e6 e7
      exact ⟨h7.cons _, h6 b hxi⟩
end
/-! ### The pending operations, in the text's order -/
def lk : List Nat → Nat → Nat
  | [], _ => 0
  | x :: _, 0 => x
  | _ :: l, i + 1 => lk l i
section
variable (P : Program) (B : Nat) (ops : Array Oper) (fl : List Nat) (K : Act → World → Prop)
def rkI : Wd → List Nat → HS → Act → HS → Prop
  | w0, [], _, a, hs => ∀ w, Hp B w0 w hs → K a w
  | w0, i :: π, S, a, hs => match ops[i]? with
    | none => rkI w0 π S a hs
    | some o => st P B w0 (Region.wanted o (yielded ops a.tmps)) (execOp a.eval o) (lk fl i) S hs (fun v w1 S' h' => rkI w1 π S' (a.put o.dst v) h')
end
section
variable {P : Program} {B : Nat} {w0 : Wd} {ops : Array Oper} {fl : List Nat} {K : Act → World → Prop} {Q : Exit → Act → World → Prop}
theorem rkI_perm : ∀ (w0 : Wd) (π : List Nat) (S : HS) (a : Act) (hs hs' : HS), hs.Perm hs' → rkI P B ops fl K w0 π S a hs → rkI P B ops fl K w0 π S a hs'
  | w0, [], S, a, hs, hs', hp, h => fun w hw => h w (hw.perm hp.symm)
  | w0, i :: π, S, a, hs, hs', hp, h => by
    unfold rkI at h ⊢
    split
    · rename_i ho
      simp only [ho] at h
      exact rkI_perm w0 π S a hs hs' hp h
    · rename_i o ho
      simp only [ho] at h
      exact st_perm hp (fun v w1 S' x x' hx => rkI_perm w1 π S' _ x x' hx) h
theorem rkI_swap {y x : Nat} {oy ox : Oper} {π : List Nat} {S hs : HS} {a : Act} (hy : ops[y]? = some oy) (hx : ops[x]? = some ox) (hap : oy.apart ops ox = true)
    (hsy : ∀ cs b, oy.op ≠ .select cs b) (hsx : ∀ cs b, ox.op ≠ .select cs b) (hok : swapOk (lk fl y) (lk fl x) = true) (hin : In B w0 hs) (hsub : SubP S hs)
    (h : rkI P B ops fl K w0 (y :: x :: π) S a hs) : rkI P B ops fl K w0 (x :: y :: π) S a hs := by
  obtain ⟨h1, h2, h3⟩ := Oper.apart_spec hap
  simp only [rkI, hy, hx] at h ⊢
  have e1 : ∀ v, execOp (a.put oy.dst v).eval ox = execOp a.eval ox := fun v => execOp_put ox hsx a oy.dst v h1
  have e2 : ∀ v, Region.wanted ox (yielded ops (a.put oy.dst v).tmps) = Region.wanted ox (yielded ops a.tmps) := fun v => wanted_put ox a oy.dst v h1
  have e3 : ∀ v, execOp (a.put ox.dst v).eval oy = execOp a.eval oy := fun v => execOp_put oy hsy a ox.dst v h3
  have e4 : ∀ v, Region.wanted oy (yielded ops (a.put ox.dst v).tmps) = Region.wanted oy (yielded ops a.tmps) := fun v => wanted_put oy a ox.dst v h3
  simp only [e1, e2] at h
  simp only [e3, e4]
  have h5 := st_swap (Z := fun v u w1 S' h' => rkI P B ops fl K w1 π S' ((a.put oy.dst v).put ox.dst u) h') hok hin hsub (fun v u w1 S' x x' hx => rkI_perm w1 π S' _ x x' hx) h
  refine st_mono hin hsub (fun u w1 S1 k1 hi1 hs1 hh => st_mono hi1 hs1 (fun v w2 S2 k2 _ _ hh2 => ?_) hh) h5
  rw [← Act.put_comm a v u h2]
  exact hh2
theorem rkI_front {x : Nat} {ox : Oper} (hx : ops[x]? = some ox) (hsel : ∀ (j : Nat) (o : Oper) cs b, ops[j]? = some o → o.op ≠ .select cs b) : ∀ (w0 : Wd) (π1 π2 : List Nat) (S hs : HS) (a : Act), In B w0 hs → SubP S hs →
    (∀ y ∈ π1, ∃ oy, ops[y]? = some oy ∧ oy.apart ops ox = true ∧ swapOk (lk fl y) (lk fl x) = true) → rkI P B ops fl K w0 (π1 ++ x :: π2) S a hs → rkI P B ops fl K w0 (x :: (π1 ++ π2)) S a hs
  | _, [], _, _, _, _, _, _, _, h => h
  | w0, y :: π1, π2, S, hs, a, hin, hsub, hall, h => by
    obtain ⟨oy, hy, hap, hok⟩ := hall y (.head _)
    refine rkI_swap hy hx hap (fun cs b => hsel y oy cs b hy) (fun cs b => hsel x ox cs b hx) hok hin hsub ?_
    have h' : rkI P B ops fl K w0 (y :: (π1 ++ x :: π2)) S a hs := h
    show rkI P B ops fl K w0 (y :: (x :: (π1 ++ π2))) S a hs
    unfold rkI at h' ⊢
    simp only [hy] at h' ⊢
    exact st_mono hin hsub (fun v w1 S' k hi hs' hh => rkI_front hx hsel w1 π1 π2 S' k _ hi hs' (fun z hz => hall z (.tail _ hz)) hh) h'
theorem rkI_exec {x : Nat} {ox : Oper} (hx : ops[x]? = some ox) {π : List Nat} {S hs : HS} {a : Act} {w : World} (hw : Hp B w0 w hs) (hsub : SubP S hs) (h : rkI P B ops fl K w0 (x :: π) S a hs) :
    wpOp P ops Q x (fun a' w' => ∃ w1 S' h', Hp B w1 w' h' ∧ SubP S' h' ∧ rkI P B ops fl K w1 π S' a' h') a w := by
  unfold rkI at h
  unfold wpOp
  simp only [hx] at h ⊢
  unfold st at h
  split
  · rename_i hg
    rw [if_pos hg] at h
    left
    split at h
    · obtain ⟨v, h1, h2⟩ := h
      unfold Oper.wp
      rw [h1 w (hw.subP hsub)]
      exact ⟨w0, S, hs, hw, hsub, h2⟩
    · obtain ⟨v, h1, h2⟩ := h
      unfold Oper.wp
      rw [h1 w hw]
      exact ⟨w0, S, hs, hw, hsub, h2⟩
    · obtain ⟨c, e, k, h1, h2⟩ := h
      unfold Oper.wp
      rw [h1 w]
      have hfr := hw.fresh c e
      exact ⟨w0, S, _, hfr, hsub.cons _, h2 _ ⟨_, hfr⟩⟩
    · obtain ⟨R, h1, h2⟩ := h
      refine vres_wp (h1 [] w hw) ?_
      rintro v w' ⟨k, hk, hwk⟩
      obtain ⟨h3, h4⟩ := h2 v k hk ⟨w', hwk⟩
      exact ⟨w0, S, k, hwk, h3, h4⟩
    · obtain ⟨R, h1, h2⟩ := h
      refine vres_wp (h1 [] w hw) ?_
      rintro v w' ⟨w1, k, hk, hwk⟩
      exact ⟨w1, k, k, hwk, SubP.refl _, h2 v w1 k hk ⟨w', hwk⟩⟩
    · obtain ⟨R, h1, h2⟩ := h
      refine vres_wp (h1 [] w hw) ?_
      rintro v w' ⟨k, hk, hwk⟩
      exact ⟨w0, k, k, hwk, SubP.refl _, h2 v k hk ⟨w', hwk⟩⟩
    · split at h
      · obtain ⟨v, h1, h2⟩ := h
        unfold Oper.wp
        rw [h1 w0 w .refl hw]
        exact ⟨w0, S, hs, hw, hsub, h2⟩
      · obtain ⟨R, h1, h2⟩ := h
        refine vres_wp (h1 [] w hw) ?_
        rintro v w' ⟨w1, hk, hwk⟩
        exact ⟨w1, S, hs, hwk, hsub, (h2 v w1 hk ⟨w', hwk⟩).2⟩
  · rename_i hg
    rw [if_neg hg] at h
    exact ⟨w0, S, hs, hw, hsub, h⟩
/-! ### Which operation waits for which -/
inductive Rch (ops : Array Oper) : Nat → Nat → Prop
  | one {j : Nat} {o : Oper} {e : Edge} (h : ops[j]? = some o) (he : e ∈ o.after) (hb : Region.binds .any e = true) : Rch ops j e.on
  | more {j i : Nat} {o : Oper} {e : Edge} (h : ops[j]? = some o) (he : e ∈ o.after) (hb : Region.binds .any e = true) (hr : Rch ops e.on i) : Rch ops j i
def msk (acc : List Nat) : List Edge → Nat
  | [] => 0
  | e :: l => if Region.binds .any e then (1 <<< e.on) ||| lk acc e.on ||| msk acc l else msk acc l
def ancGo : List Oper → List Nat → List Nat
  | [], acc => acc
  | o :: l, acc => ancGo l (acc ++ [msk acc o.after.toList])
theorem msk_spec (acc : List Nat) (i : Nat) : ∀ l : List Edge, (msk acc l).testBit i = true → ∃ e ∈ l, Region.binds .any e = true ∧ (e.on = i ∨ (lk acc e.on).testBit i = true)
  | [], h => by simp [msk] at h
  | e :: l, h => by
    unfold msk at h
    split at h
    · rename_i hb
      simp only [Nat.testBit_or, Bool.or_eq_true] at h
      rcases h with (h | h) | h
      · refine ⟨e, .head _, hb, .inl ?_⟩
        rw [Nat.one_shiftLeft, Nat.testBit_two_pow] at h
        simpa using h
      · exact ⟨e, .head _, hb, .inr h⟩
      · obtain ⟨e', h1, h2⟩ := msk_spec acc i l h; exact ⟨e', .tail _ h1, h2⟩
    · obtain ⟨e', h1, h2⟩ := msk_spec acc i l h; exact ⟨e', .tail _ h1, h2⟩
theorem lk_append_left : ∀ (l m : List Nat) (i : Nat), i < l.length → lk (l ++ m) i = lk l i
  | x :: l, m, 0, _ => rfl
  | x :: l, m, i + 1, h => lk_append_left l m i (by simpa using h)
theorem lk_append_last : ∀ (l : List Nat) (x : Nat), lk (l ++ [x]) l.length = x
  | [], _ => rfl
  | y :: l, x => lk_append_last l x
theorem lk_out : ∀ (l : List Nat) (i : Nat), l.length ≤ i → lk l i = 0
  | [], _, _ => rfl
  | x :: l, 0, h => by simp at h
  | x :: l, i + 1, h => lk_out l i (by simpa using h)
theorem ancGo_spec : ∀ (l : List Oper) (acc : List Nat) (k : Nat), acc.length = k → (∀ j, l[j]? = ops[k + j]?) → (∀ j i, (lk acc j).testBit i = true → Rch ops j i) → ∀ j i, (lk (ancGo l acc) j).testBit i = true → Rch ops j i
  | [], acc, _, _, _, h => h
  | o :: l, acc, k, hk, hl, h => by
    refine ancGo_spec l _ (k + 1) (by simp [hk]) (fun j => by have := hl (j + 1); simpa [Nat.add_assoc, Nat.add_comm 1 j] using this) ?_
    intro j i hb
    rcases Nat.lt_trichotomy j acc.length with hj | hj | hj
    · rw [lk_append_left _ _ _ hj] at hb; exact h j i hb
    · subst hj
      rw [lk_append_last] at hb
      have ho : ops[acc.length]? = some o := by have := hl 0; simp at this; rw [hk]; exact this.symm
      obtain ⟨e, h1, h2, h3⟩ := msk_spec acc i _ hb
      rcases h3 with h3 | h3
      · subst h3; exact .one ho (by simpa using h1) h2
      · exact .more ho (by simpa using h1) h2 (h _ _ h3)
    · rw [lk_out _ _ (by simp; omega)] at hb
      simp at hb
/-- The sets that are listed in some order. -/
def Shut (ops : Array Oper) (listed : Array Bool) : Prop := ∀ j oj, ops[j]? = some oj → listed.getD j false = true → ∀ e ∈ oj.after, Region.binds .any e = true → listed.getD e.on false = true
theorem Rch.listed {listed : Array Bool} (hs : Shut ops listed) {j i : Nat} (h : Rch ops j i) (hj : ∀ o, ops[j]? = some o → ∀ e ∈ o.after, Region.binds .any e = true → listed.getD e.on false = true) : listed.getD i false = true := by
  induction h with
  | one h he hb => exact hj _ h _ he hb
  | more h he hb hr ih => exact ih (fun o ho e' he' hb' => hs _ o ho (hj _ h _ he hb) e' he' hb')
/-- What the text of a region is looked over for, once. -/
def allI (p : Nat → Oper → Bool) : Nat → List Oper → Bool
  | _, [] => true
  | k, o :: l => p k o && allI p (k + 1) l
theorem allI_spec {p : Nat → Oper → Bool} : ∀ (l : List Oper) (k : Nat), allI p k l = true → ∀ (j : Nat) (o : Oper), l[j]? = some o → p (k + j) o = true
  | [], _, _, j, o, ho => by simp at ho
  | x :: l, k, h, j, o, ho => by
    simp only [allI, Bool.and_eq_true] at h
    cases j with
    | zero => simp at ho; subst ho; exact h.1
    | succ j => have := allI_spec l (k + 1) h.2 j o (by simpa using ho); rwa [show k + (j + 1) = k + 1 + j by omega]
def chk (l : List Oper) (fl : List Nat) : Bool :=
  Region.noSelect l.toArray && (let an := ancGo l []
  allI (fun j oj => oj.after.toList.all (fun e => !Region.binds .any e || Nat.blt e.on j) && allI (fun i oi => Nat.ble j i || (lk an j).testBit i || (oi.apart l.toArray oj && swapOk (lk fl i) (lk fl j))) 0 l) 0 l)
theorem wpAny_rk {l : List Oper} (hsel : ∀ (j : Nat) (o : Oper) cs b, l.toArray[j]? = some o → o.op ≠ .select cs b)
    (htopo : ∀ j oj, l[j]? = some oj → ∀ e ∈ oj.after, Region.binds .any e = true → e.on < j)
    (hpair : ∀ i j oi oj, l[i]? = some oi → l[j]? = some oj → i < j → Rch l.toArray j i ∨ (oi.apart l.toArray oj = true ∧ swapOk (lk fl i) (lk fl j) = true)) :
    ∀ (fuel : Nat) (w0 : Wd) (listed : Array Bool) (π : List Nat) (S hs : HS) (a : Act) (w : World), Hp B w0 w hs → SubP S hs → rkI P B l.toArray fl (Q .normal) w0 π S a hs →
    (∀ i, i ∈ π ↔ i < l.length ∧ listed.getD i true = false) → π.Pairwise (· < ·) → Shut l.toArray listed → listed.size = l.length → π.length ≤ fuel → wpAny P .any l.toArray Q fuel listed a w := by
  have hop : ∀ (j : Nat), l.toArray[j]? = l[j]? := fun j => by simp
  have key : ∀ (listed : Array Bool) (i : Nat) (π : List Nat), (∀ i, i ∈ π ↔ i < l.length ∧ listed.getD i true = false) → i ∈ Region.ready .any l.toArray listed → i ∈ π := by
    intro listed i π hπ hi
    obtain ⟨h1, o, h2, _⟩ := mem_ready.1 hi
    rw [hop] at h2
    exact (hπ i).2 ⟨(List.getElem?_eq_some_iff.1 h2).1, h1⟩
  have done : ∀ (w0 : Wd) (listed : Array Bool) (π : List Nat) (S hs : HS) (a : Act) (w : World), Hp B w0 w hs → rkI P B l.toArray fl (Q .normal) w0 π S a hs → (∀ i, i ∈ π ↔ i < l.length ∧ listed.getD i true = false) → π.Pairwise (· < ·) → listed.size = l.length → Region.ready .any l.toArray listed = [] → Q .normal a w := by
    intro w0 listed π S hs a w hw h hπ hsort hsz hr
    cases π with
    | nil => exact h w hw
    | cons i π =>
      exfalso
      obtain ⟨h1, h2⟩ := (hπ i).1 (.head _)
      have hi : i ∈ Region.ready .any l.toArray listed := by
        refine mem_ready.2 ⟨h2, l[i], by simp [h1], fun e he hb => ?_⟩
        have h3 := htopo i l[i] (by simp [h1]) e he hb
        have h4 : e.on < listed.size := by omega
        by_cases h5 : listed.getD e.on true = false
        · have h6 := (hπ e.on).2 ⟨by omega, h5⟩
          rcases List.mem_cons.1 h6 with h6 | h6
          · omega
          · have := (List.pairwise_cons.1 hsort).1 _ h6; omega
        · simpa [h4] using h5
      rw [hr] at hi; cases hi
  intro fuel
  induction fuel with
  | zero =>
    intro w0 listed π S hs a w hw hsub h hπ hsort hshut hsz hlen
    have : π = [] := List.eq_nil_of_length_eq_zero (by omega)
    subst this
    have hr : Region.ready .any l.toArray listed = [] := by
      cases hr : Region.ready .any l.toArray listed with
      | nil => rfl
      | cons i r => have := key listed i [] hπ (by rw [hr]; exact .head _); cases this
    exact ⟨hr, h w hw⟩
  | succ fuel ih =>
    intro w0 listed π S hs a w hw hsub h hπ hsort hshut hsz hlen
    refine ⟨fun hr => done w0 listed π S hs a w hw h hπ hsort hsz hr, fun i hi => ?_⟩
    have hmem := key listed i π hπ hi
    obtain ⟨π1, π2, rfl⟩ := List.append_of_mem hmem
    obtain ⟨h1, oi, hoi, h2⟩ := mem_ready.1 hi
    have hsort' := List.pairwise_append.1 hsort
    have hmv := rkI_front (P := P) (B := B) (fl := fl) (K := Q .normal) hoi hsel w0 π1 π2 S hs a ⟨w, hw⟩ hsub (fun y hy => by
      have hyi : y < i := hsort'.2.2 y hy i (.head _)
      obtain ⟨h3, h4⟩ := (hπ y).1 (List.mem_append_left _ hy)
      refine ⟨l[y], by simp [h3], ?_⟩
      rcases hpair y i l[y] oi (by simp [h3]) (by rw [← hop]; exact hoi) hyi with h5 | h5
      · exfalso
        have := h5.listed hshut (fun o ho e he hb => by rw [hoi] at ho; cases ho; exact h2 e he hb)
        simp [hsz, h3] at this h4
        rw [h4] at this; cases this
      · exact h5) h
    refine wpOp_mono ?_ (rkI_exec hoi hw hsub hmv)
    rintro a' w' ⟨w1, S', h', hw', hsub', hrk⟩
    have hil : i < l.length := by rw [hop] at hoi; exact (List.getElem?_eq_some_iff.1 hoi).1
    refine ih w1 _ (π1 ++ π2) S' h' a' w' hw' hsub' hrk ?_ ?_ ?_ (by simp [hsz]) (by simp at hlen ⊢; omega)
    · intro j
      by_cases hji : i = j
      · subst hji
        constructor
        · intro hj
          exfalso
          rcases List.mem_append.1 hj with hj | hj
          · have := hsort'.2.2 i hj i (.head _); omega
          · have := (List.pairwise_cons.1 hsort'.2.1).1 i hj; omega
        · rintro ⟨_, hj⟩
          simp [hsz, hil] at hj
      · rw [getD_set_ne true hji, ← hπ j]
        simp [List.mem_append, Ne.symm hji]
    · exact List.pairwise_append.2 ⟨hsort'.1, (List.pairwise_cons.1 hsort'.2.1).2, fun x hx y hy => hsort'.2.2 x hx y (.tail _ hy)⟩
    · intro j oj hj hl' e he hb
      by_cases hji : i = j
      · subst hji
        rw [hoi] at hj; cases hj
        exact getD_set_true (h2 e he hb)
      · rw [getD_set_ne false hji] at hl'
        exact getD_set_true (hshut j oj hj hl' e he hb)
end
end Go.Proofs.YtnbickholedckaaGreatDoor
namespace Go.Proofs.YtnbickholedckaaGreatDoor
open Go.RowKit
/-- A slice of the call's own: none at all, or at the head of a block of its own. -/
def RowOk (oa : Option Addr) (c : Nat) (size : Nat) (xs : List Value) (blk : HS) : Prop :=
  (oa = none ∧ c = 0 ∧ xs = [] ∧ blk = []) ∨ ∃ b z, oa = some ⟨b, 0, none⟩ ∧ blk = [(b, xs ++ z)] ∧ (xs ++ z).length = c * size ∧ c ≤ maxLen
theorem RowOk.nil {size : Nat} : RowOk none 0 size [] [] := .inl ⟨rfl, rfl, rfl, rfl⟩
theorem RowOk.new {b n size : Nat} {xs : List Value} (h : xs.length = n * size) (hn : n ≤ maxLen) : RowOk (some ⟨b, 0, none⟩) n size xs [(b, xs)] := .inr ⟨b, [], rfl, by simp, by simpa using h, hn⟩
/-- Some blocks are taken out of memory. -/
def Take (blk H rest : HS) : Prop := H.Perm (blk ++ rest)
theorem Take.head {blk r : HS} : Take blk (blk ++ r) r := .refl _
theorem Take.nil {r : HS} : Take [] r r := .refl _
theorem Take.one {p : Nat × List Value} {r : HS} : Take [p] (p :: r) r := .refl _
theorem Take.tail {blk H r : HS} {p : Nat × List Value} (h : Take blk H r) : Take blk (p :: H) (p :: r) := by
  refine (h.cons p).trans ?_
  exact List.perm_middle.symm
theorem Take.app {blk H r x : HS} (h : Take blk H r) : Take blk (x ++ H) (x ++ r) := by
  refine (h.append_left x).trans ?_
  rw [← List.append_assoc, ← List.append_assoc]
  exact List.perm_append_comm.append_right r
theorem SubP.app {S hs : HS} (x : HS) (h : SubP S hs) : SubP S (x ++ hs) := let ⟨y, h1, h2⟩ := h; ⟨x ++ y, h1.append_left x, h2.trans (List.sublist_append_right _ _)⟩
theorem sbA {α : Type} {l m x : List α} (h : l.Sublist m) : l.Sublist (x ++ m) := h.trans (List.sublist_append_right _ _)
theorem sbL {α : Type} {l m : List α} : l.Sublist (l ++ m) := List.sublist_append_left _ _
theorem mmT {α : Type} {p a : α} {l : List α} (h : p ∈ l) : p ∈ a :: l := .tail _ h
theorem mmA {α : Type} {p : α} {l x : List α} (h : p ∈ l) : p ∈ x ++ l := List.mem_append_right _ h
theorem ivs_snoc (m : List Int) (x : Int) : ivs m ++ [iv x] = ivs (m ++ [x]) := by simp [ivs]
/-- The cells of a slice's elements, and their bytes. -/
def ap (P : Program) (t : TypeId) : Option (Nat × Nat) :=
  match P.underlying t with
  | some (.slice e) => match P.info? e with
    | some i => match i.zero with
      | some z => if z.cells.size = i.size ∧ 0 < i.size then some (i.size, i.bytes) else none
      | none => none
    | none => none
  | _ => none
section
variable {P : Program} {n : NN} {B : Nat} {w0 : Wd} {fr : FR} {hs hs' : HS} {K : Act → World → Prop} {ops : Array Oper} {l : List Oper} {d : Nat} {ty : TypeId} {pos : String} {aft : Array Edge}
theorem Hp.drew {w : World} (h : Hp B w0 w hs) : Hp B w0 w.drew hs := ⟨⟨h.below.os, h.below.tape, h.below.output, h.below.size, h.below.block⟩, h.big, h.mem, h.nodup, h.obj, h.ond⟩
theorem Sl.row {oa : Option Addr} {c : Nat} {m : List Int} {blk : HS} (h : RowOk oa c 1 (ivs m) blk) : Sl B w0 blk oa m := by
  rcases h with ⟨rfl, _, h2, _⟩ | ⟨b, z, rfl, rfl, _, _⟩
  · have : m = [] := by simpa [ivs] using h2
    subst this; exact Sl.nil
  · exact Sl.own' (.head _)
/-- Cells of a block. -/
theorem Hp.cells_at {w : World} (h : Hp B w0 w hs) {b : Nat} {cs : List Value} (hm : (b, cs) ∈ hs) : ∀ (j : Nat) (v : Value), cs[j]? = some v → w.cell? ((⟨b, 0, none⟩ : Addr).add j) = some v := fun j v hj => by
  rw [add_own, Nat.zero_add, h.cell hm, hj]
theorem o_notD {t' : TypeId} {x : Operand} {p : Prop} [Decidable p] (hx : opv fr x = some (.bool (decide p))) : OpF P n B w0 (.unOp .not t' x) ty fr hs (.bool (decide (¬ p))) := by
  have h := o_not (P := P) (n := n) (B := B) (w0 := w0) (ty := ty) (hs := hs) (t := t') hx
  rwa [decide_not]
theorem ld_two {t : TypeId} {b o : Nat} {cs : List Value} {x y : Value} (ht : sh P t = some (true, 2)) (hm : (b, cs) ∈ hs) (hx : cs[o]? = some x) (hy : cs[o + 1]? = some y) : Ld P B w0 hs t ⟨b, o, none⟩ (.agg #[x, y]) := by
  refine ld_own (vs := [x, y]) ht hm ?_ rfl
  obtain ⟨h1, h2⟩ := List.getElem?_eq_some_iff.1 hx
  obtain ⟨h3, h4⟩ := List.getElem?_eq_some_iff.1 hy
  rw [List.drop_eq_getElem_cons h1, List.drop_eq_getElem_cons h3]
  simp [h2, h4]
/-- One more element, or more, behind a row: what the run comes to. -/
theorem run_app {t t' : TypeId} {size bytes k m c c' : Nat} {oa : Option Addr} {bb : Nat} {xs news : List Value} {blk H rest : HS} {w : World} (hap : ap P t = some (size, bytes)) (hw : Hp B w0 w H) (hT : Take blk H rest)
    (hr : RowOk oa c size xs blk) (hk : xs.length = k * size) (hm : (bb, news) ∈ rest) (hl : news.length = m * size) (h0 : 0 < m) (hf : Flat news) (hb : k + m ≤ 1000000) (hby : bytes ≤ 1000000) :
    ∃ oa2 c2 blk2 w2, (Builtin.append_ #[t, t] t' #[.slice oa k c, .slice (some ⟨bb, 0, none⟩) m c']).run P w = .ok (.slice oa2 (k + m) c2) w2 ∧ RowOk oa2 c2 size (xs ++ news) blk2 ∧ Hp B w0 w2 (blk2 ++ rest) := by
  unfold ap at hap
  split at hap
  · rename_i e hu
    split at hap
    · rename_i i hi
      split at hap
      · rename_i z hz
        split at hap
        · rename_i hzs
          simp only [Option.some.injEq, Prod.mk.injEq] at hap
          obtain ⟨hs1, hs2⟩ := hap
          obtain ⟨hzs, hsz⟩ := hzs
          subst hs1 hs2
          have hwp := hw.perm hT
          have hmul : (k + m) * i.bytes ≤ 140737488355328 := Nat.le_trans (Nat.mul_le_mul hb hby) (by decide)
          have hnews := hwp.cells_at (List.mem_append_right blk hm)
          have hrest : Hp B w0 w rest := hwp.sub (List.sublist_append_right _ _)
          have fresh : ∀ old, ∃ z2, Hp B w0 (w.drew.alloc (.cells (xs.toArray ++ news.toArray ++ Builtin.zeroCells z.cells (grownCap w (k + m) old e - (k + m))) e)) ((w.heap.size, (xs ++ news) ++ z2) :: rest) ∧ ((xs ++ news) ++ z2).length = grownCap w (k + m) old e * i.size := fun old => by
            refine ⟨(Builtin.zeroCells z.cells (grownCap w (k + m) old e - (k + m))).toList, ?_, ?_⟩
            · have := hrest.drew.fresh (xs.toArray ++ news.toArray ++ Builtin.zeroCells z.cells (grownCap w (k + m) old e - (k + m))) e
              rw [show w.drew.heap.size = w.heap.size from rfl] at this
              simpa using this
            · have hge := grownCap_ge w (k + m) old e
              simp only [List.length_append, Array.length_toList, size_zeroCells, hzs, hk, hl]
              rw [← Nat.add_mul, ← Nat.add_mul]
              congr 1; omega
          rcases hr with ⟨rfl, rfl, rfl, rfl⟩ | ⟨b, z1, rfl, rfl, hlen, hc⟩
          · have hk0 : k = 0 := by
              simp only [List.length_nil] at hk
              rcases Nat.eq_zero_or_pos k with h | h
              · exact h
              · have := Nat.mul_pos h hsz; omega
            subst hk0
            have hr := run_append_nil (P := P) w t t' e i z hu hi hz ⟨bb, 0, none⟩ m c' news hl hnews h0 (by omega) (by have := hmul; simp only [Nat.zero_add] at this; omega)
            obtain ⟨z2, h2, h3⟩ := fresh 0
            simp only [Nat.zero_add, List.nil_append, Array.empty_append] at hr h2 h3 ⊢
            exact ⟨_, _, [(w.heap.size, news ++ z2)], _, hr, .inr ⟨_, z2, rfl, rfl, h3, grownCap_le_maxLen w m 0 e (by simp only [maxLen]; omega)⟩, h2⟩
          · by_cases hroom : k + m ≤ c
            · have hfit : k * i.size + news.length ≤ (xs ++ z1).length := by rw [hlen, hl, ← Nat.add_mul]; exact Nat.mul_le_mul_right _ hroom
              have hu1 : Upd b (xs ++ z1) (setAll (xs ++ z1) (k * i.size) news) ([(b, xs ++ z1)] ++ rest) ([(b, setAll (xs ++ z1) (k * i.size) news)] ++ rest) := .head _
              obtain ⟨w2, h1, h2⟩ := run_storeCells_own (P := P) b news (k * i.size) (xs ++ z1) _ _ w hwp hf hfit hu1 (k * i.size) (Nat.le_refl _)
              have hff := run_firstCells_some (P := P) w i.size m ⟨bb, 0, none⟩ m c' news hl hnews
              have e1 : setAll (xs ++ z1) (k * i.size) news = (xs ++ news) ++ (xs ++ z1).drop (k * i.size + news.length) := by
                rw [setAll_take _ _ _ hfit, ← hk, List.take_left]
              rw [e1] at h2
              refine ⟨_, _, _, w2, ?_, .inr ⟨b, _, rfl, rfl, ?_, hc⟩, h2⟩
              · simp only [Nat.sub_self] at h1
                simp [Builtin.append_, run_underlying hu, sizeOf, typeInfo, hi, Builtin.lenOf, hroom, hff, add_own, h1]
              · rw [← e1, setAll_length]; exact hlen
            · have holds : ∀ j u, xs[j]? = some u → w.cell? ((⟨b, 0, none⟩ : Addr).add j) = some u := fun j u hj => hwp.cells_at (.head _) j u (by rw [List.getElem?_append_left (List.getElem?_eq_some_iff.1 hj).1]; exact hj)
              have hr := run_append_grow (P := P) w t t' e i z hu hi hz ⟨b, 0, none⟩ k c xs hk holds ⟨bb, 0, none⟩ m c' news hl hnews (by omega) (by omega) (growslice_fits (by omega) hmul)
              obtain ⟨z2, h2, h3⟩ := fresh c
              exact ⟨_, _, [(w.heap.size, (xs ++ news) ++ z2)], _, hr, .inr ⟨_, z2, rfl, rfl, h3, grownCap_le_maxLen w _ _ e (by simp only [maxLen]; omega)⟩, h2⟩
        · cases hap
      · cases hap
    · cases hap
  · cases hap
theorem run_appO {t t' : TypeId} {size bytes k m c c' : Nat} {oa : Option Addr} {bb : Nat} {xs news : List Value} {blk H rest : HS} {w : World} {x y : Operand} {a : Act} (hap : ap P t = some (size, bytes)) (ha : Fr n a fr) (hx : opv fr x = some (.slice oa k c)) (hy : opv fr y = some (.slice (some ⟨bb, 0, none⟩) m c')) (hw : Hp B w0 w H) (hT : Take blk H rest)
    (hr : RowOk oa c size xs blk) (hk : xs.length = k * size) (hm : (bb, news) ∈ rest) (hl : news.length = m * size) (h0 : 0 < m) (hf : Flat news) (hb : k + m ≤ 1000000) (hby : bytes ≤ 1000000) (dst : Option Nat) :
    ∃ oa2 c2 blk2 w2, (execOp a.eval ⟨dst, .call ⟨.builtin .append, #[x, y], #[t, t]⟩, t', pos, aft, none⟩).run P w = .ok (.value (.slice oa2 (k + m) c2)) w2 ∧ RowOk oa2 c2 size (xs ++ news) blk2 ∧ Hp B w0 w2 (blk2 ++ rest) := by
  obtain ⟨oa2, c2, blk2, w2, h1, h2, h3⟩ := run_app (P := P) (t' := t') (c' := c') hap hw hT hr hk hm hl h0 hf hb hby
  refine ⟨oa2, c2, blk2, w2, ?_, h2, h3⟩
  simp only [execOp, resolve, invoke, builtin, Sem.run_bind, Sem.run_pure, Result.andThen_ok, List.map_toArray, List.map_cons, List.map_nil, ha.opv hx, ha.opv hy, h1]
/-- In a region with a fixed order. -/
theorem s_app {t : TypeId} {size bytes k m c c' : Nat} {oa : Option Addr} {bb : Nat} {xs news : List Value} {blk rest : HS} {x y : Operand} (hap : ap P t = some (size, bytes)) (hx : opv fr x = some (.slice oa k c)) (hy : opv fr y = some (.slice (some ⟨bb, 0, none⟩) m c')) (hT : Take blk hs rest)
    (hr : RowOk oa c size xs blk) (hk : xs.length = k * size) (hm : (bb, news) ∈ rest) (hl : news.length = m * size) (h0 : 0 < m) (hf : Flat news) (hb : k + m ≤ 1000000) (hby : bytes ≤ 1000000) (hn : d < n.n)
    (h : ∀ oa2 c2 blk2, RowOk oa2 c2 size (xs ++ news) blk2 → Sat n B w0 (sl P ops K l) ((d, .slice oa2 (k + m) c2) :: fr) (blk2 ++ rest)) :
    Sat n B w0 (sl P ops K (⟨some d, .call ⟨.builtin .append, #[x, y], #[t, t]⟩, ty, pos, aft, none⟩ :: l)) fr hs := sat_mk fun a w ha hw => by
  obtain ⟨oa2, c2, blk2, w2, h1, h2, h3⟩ := run_appO (P := P) (t' := ty) (pos := pos) (aft := aft) (dst := some d) hap ha hx hy hw hT hr hk hm hl h0 hf hb hby
  have h4 := sat_el (h oa2 c2 blk2 h2) _ _ (ha.put hn _) h3
  unfold sl
  rw [if_pos (by simp [Region.wanted])]
  unfold Oper.wp
  rw [h1]
  exact h4
/-- New numbers, all 0. -/
theorem s_makeI {t : TypeId} {bytes k : Nat} {m : Int} {x y : Operand} (hap : ap P t = some (1, bytes)) (hz : zs P t = some [Value.int .i64 0].toArray) (hx : opv fr x = some (.int .i64 m)) (hy : opv fr y = some (.int .i64 m)) (hm : m = (k : Int)) (hb : k ≤ 1000000) (hby : bytes ≤ 1000000) (hn : d < n.n)
    (h : ∀ b, Sat n B w0 (sl P ops K l) ((d, .slice (some ⟨b, 0, none⟩) k k) :: fr) ((b, ivs (List.replicate k 0)) :: hs)) :
    Sat n B w0 (sl P ops K (⟨some d, .makeSlice t x y, ty, pos, aft, none⟩ :: l)) fr hs := sat_mk fun a w ha hw => by
  subst hm
  unfold ap at hap
  unfold zs at hz
  split at hap
  · rename_i e hu
    simp only [hu] at hz
    split at hap
    · rename_i i hi
      split at hap
      · rename_i z hzz
        split at hap
        · simp only [Option.some.injEq, Prod.mk.injEq] at hap
          obtain ⟨hs1, hs2⟩ := hap
          have hzc : z.cells = #[Value.int .i64 0] := by simpa [zc, hi, hzz] using hz
          have hmul : (i.bytes : Int) * (k : Int) ≤ 281474976710656 := by
            have h1 : i.bytes * k ≤ 1000000 * 1000000 := Nat.mul_le_mul (hs2 ▸ hby) hb
            have h2 : ((i.bytes * k : Nat) : Int) ≤ 281474976710656 := by omega
            rwa [Int.natCast_mul] at h2
          have hr := run_make (P := P) w t e i z hu hi hzz .i64 .i64 k k (by omega) (Int.le_refl _) hmul (by omega)
          have hc : (madeCells z.cells ((k : Int).toNat * i.size)).toList = ivs (List.replicate k 0) := by
            rw [hs1, hzc]
            apply List.ext_getElem?
            intro j
            simp only [madeCells, ivs, List.map_replicate, List.getElem?_replicate]
            by_cases hj : j < k
            · simp [hj, Nat.mod_one, iv]
            · simp [hj]
          have hrun : (execOp a.eval ⟨some d, .makeSlice t x y, ty, pos, aft, none⟩).run P w = .ok (.value (.slice (some ⟨w.heap.size, 0, none⟩) k k)) (w.alloc (.cells (madeCells z.cells ((k : Int).toNat * i.size)) e)) := by
            simp [execOp, ha.opv hx, ha.opv hy, hr]
          have hfr := hw.fresh (madeCells z.cells ((k : Int).toNat * i.size)) e
          rw [hc] at hfr
          have h4 := sat_el (h w.heap.size) _ _ (ha.put hn _) hfr
          unfold sl
          rw [if_pos (by simp [Region.wanted])]
          unfold Oper.wp
          rw [hrun]
          exact h4
        · cases hap
      · cases hap
    · cases hap
  · cases hap
end
/-! ### Proved on the spot -/
theorem SBt {α : Type} {l m : List α} (h : l.Sublist m := by with_reducible first | exact sb0 | exact sb1 | exact sb2 | exact sb3 | exact sb4 | exact sb5 | exact sb6 | exact sb7 | exact sb8 | exact sbL | ((repeat (first | exact sb0 | exact sbL | refine .cons _ ?_ | refine sbA ?_)); done)) : l.Sublist m := h
theorem SCt {α : Type} {l m : List α} (h : l.Sublist m := by with_reducible ((repeat (first | exact sb0 | exact sbL | refine .cons_cons _ ?_ | refine .cons _ ?_ | refine .append (.refl _) ?_ | refine sbA ?_)); done)) : l.Sublist m := h
theorem MMt {α : Type} {x : α} {l : List α} (h : x ∈ l := by with_reducible first | exact mm0 | exact mm1 | exact mm2 | exact mm3 | exact mm4 | exact mm5 | exact mm6 | exact mm7 | exact mm8 | ((repeat (first | exact mm0 | refine mmT ?_ | refine mmA ?_)); done)) : x ∈ l := h
theorem MDt {α : Type} {x : α} {l : List α} (h : x ∈ l := by first | exact mm0 | exact mm1 | exact mm2 | exact mm3 | exact mm4 | exact mm5 | exact mm6 | exact mm7 | exact mm8 | ((repeat (first | exact mm0 | refine mmT ?_ | refine mmA ?_)); done)) : x ∈ l := h
end Go.Proofs.YtnbickholedckaaGreatDoor
namespace Go.Proofs.YtnbickholedckaaGreatDoor
open Go.RowKit
section
variable (P : Program) (B : Nat) (ops : Array Oper) (K : Act → World → Prop)
def rkL : Wd → List Nat → List Oper → HS → Act → HS → Prop
  | w0, _, [], _, a, hs => ∀ w, Hp B w0 w hs → K a w
  | w0, fl, o :: l, S, a, hs => st P B w0 (Region.wanted o (yielded ops a.tmps)) (execOp a.eval o) (lk fl 0) S hs (fun v w1 S' h' => rkL w1 fl.tail l S' (a.put o.dst v) h')
end
theorem lk_drop : ∀ (fl : List Nat) (k : Nat), lk (fl.drop k) 0 = lk fl k
  | [], k => by simp [lk]
  | x :: fl, 0 => rfl
  | x :: fl, k + 1 => lk_drop fl k
section
variable {P : Program} {B : Nat} {w0 : Wd} {ops : Array Oper} {K : Act → World → Prop} {Q : Exit → Act → World → Prop}
theorem rkI_of_rkL {fl : List Nat} : ∀ (w0 : Wd) (l : List Oper) (k : Nat) (S hs : HS) (a : Act), In B w0 hs → SubP S hs → (∀ j, l[j]? = ops[k + j]?) → rkL P B ops K w0 (fl.drop k) l S a hs → rkI P B ops fl K w0 (List.range' k l.length) S a hs
  | _, [], k, S, hs, a, _, _, _, h => h
  | w0, o :: l, k, S, hs, a, hin, hsub, hl, h => by
    have ho : ops[k]? = some o := by simpa using (hl 0).symm
    simp only [List.length_cons, List.range'_succ]
    unfold rkI
    simp only [ho]
    unfold rkL at h
    rw [lk_drop] at h
    refine st_mono hin hsub (fun v w1 S' k' hi hs' hh => ?_) h
    refine rkI_of_rkL w1 l (k + 1) S' k' _ hi hs' (fun j => by have := hl (j + 1); simpa [Nat.add_assoc, Nat.add_comm 1 j] using this) ?_
    rw [List.tail_drop] at hh
    exact hh
theorem Region.noSelect_at {l : List Oper} (h : Region.noSelect l.toArray = true) : ∀ (j : Nat) (o : Oper) cs b, l.toArray[j]? = some o → o.op ≠ .select cs b := Region.noSelect_spec h
theorem getD_replicate_false' (m j : Nat) : (Array.replicate m false).getD j false = false := by
  rcases Nat.lt_or_ge j m with h | h
  · simp [h]
  · simp [h]
/-- **One walk in the text's order serves every order.** -/
theorem c_drawn {n : NN} {fr : FR} {hs : HS} {id : Nat} {l : List Oper} (fl : List Nat) (S : HS) (hS : S.Sublist hs) (hm : P.follows .mixedOrders = true) (hc : chk l fl = true)
    (h : ∀ a, Fr n a fr → rkL P B l.toArray (Q .normal) w0 fl l S a hs) : Sat n B w0 ((Code.region id l.toArray true).wp P Q) fr hs := sat_mk fun a w ha hw => by
  simp only [chk, Bool.and_eq_true] at hc
  obtain ⟨hsel, hall⟩ := hc
  have hw' : Hp B w0 { w with drawn := w.drawn + 1 } hs := hw.drew
  have han := ancGo_spec (ops := l.toArray) l [] 0 rfl (by simp) (by intro j i hb; simp [lk] at hb)
  have hall' := allI_spec l 0 hall
  refine wp_region_any hm (wpAny_rk (P := P) (B := B) (Q := Q) (fl := fl) (Region.noSelect_at hsel) ?_ ?_ _ w0 _ (List.range' 0 l.length) S hs a _ hw' (.of hS) (rkI_of_rkL w0 l 0 S hs a ⟨_, hw'⟩ (.of hS) (by simp) (h a ha)) ?_ ?_ ?_ (by simp) (by simp))
  · intro j oj hj e he hb
    have h1 := hall' j oj hj
    simp only [Bool.and_eq_true, List.all_eq_true] at h1
    have h2 := h1.1 e (by simpa using he)
    simp only [hb, Bool.not_true, Bool.false_or, Nat.zero_add] at h2
    simpa using h2
  · intro i j oi oj hi hj hij
    have h1 := hall' j oj hj
    simp only [Bool.and_eq_true] at h1
    have h2 := allI_spec l 0 h1.2 i oi hi
    simp only [Nat.zero_add, Bool.or_eq_true, Bool.and_eq_true] at h2
    rcases h2 with (h2 | h2) | h2
    · have := Nat.le_of_ble_eq_true h2; omega
    · exact .inl (han j i h2)
    · exact .inr h2
  · intro i
    simp only [List.mem_range'_1, Nat.zero_le, Nat.zero_add, true_and]
    constructor
    · intro hi; exact ⟨hi, by simp [hi]⟩
    · exact fun h => h.1
  · exact List.pairwise_lt_range'
  · intro j oj hj hl
    rw [getD_replicate_false'] at hl; cases hl
end
def Rk (P : Program) (n : NN) (B : Nat) (w0 : Wd) (ops : Array Oper) (K : Act → World → Prop) (fl : List Nat) (l : List Oper) (S : HS) (fr : FR) (hs : HS) : Prop := ∀ a, Fr n a fr → rkL P B ops K w0 fl l S a hs
/-- Which memory a value may hang on. -/
def selS : Nat → HS → HS → Option HS
  | 0, S, _ => some S
  | 1, _, hs => some hs
  | _, _, _ => none
/-- What stays of the fixed memory behind an operation that turns memory. -/
def Kp (f : Nat) (S h S' : HS) : Prop := (f = 3 ∧ S' = S ∧ SubP S h) ∨ (4 ≤ f ∧ S' = h)
theorem kp4 {S h : HS} : Kp 4 S h h := .inr ⟨Nat.le_refl _, rfl⟩
theorem kp3 {S h : HS} (hs : S.Sublist h) : Kp 3 S h S := .inl ⟨rfl, rfl, .of hs⟩
theorem kp3' {S h : HS} (hs : SubP S h) : Kp 3 S h S := .inl ⟨rfl, rfl, hs⟩
theorem Upd.app {b : Nat} {cs cs' : List Value} {hs hs' : HS} (h : Upd b cs cs' hs hs') : ∀ F : HS, Upd b cs cs' (F ++ hs) (F ++ hs')
  | [] => h
  | p :: F => .tail p (h.app F)
section
variable {P : Program} {n : NN} {B : Nat} {w0 : Wd} {fr : FR} {hs hs' S S' X : HS} {K : Act → World → Prop} {Q : Exit → Act → World → Prop} {ops : Array Oper} {l : List Oper} {d f : Nat} {fl : List Nat} {ty : TypeId} {pos : String} {aft : Array Edge} {v u : Value}
theorem c_drawnR {id : Nat} (fl : List Nat) (S : HS) (hS : S.Sublist hs) (hm : P.follows .mixedOrders = true) (hc : chk l fl = true) (h : Rk P n B w0 l.toArray (Q .normal) fl l S fr hs) : Sat n B w0 ((Code.region id l.toArray true).wp P Q) fr hs := c_drawn fl S hS hm hc h
theorem k_nil (h : Sat n B w0 K fr hs) : Rk P n B w0 ops K fl [] S fr hs := fun a ha w hw => sat_el h a w ha hw
theorem k_sub {fr' : FR} (hs1 : Sub fr' fr) (h : Rk P n B w0 ops K fl l S fr' hs) : Rk P n B w0 ops K fl l S fr hs := fun a ha => h a (ha.sub hs1)
theorem st_yes {r : Sem Next} {Y : Value → Wd → HS → HS → Prop} {g : Bool} (hg : g = true) (h : st P B w0 true r f S hs Y) : st P B w0 g r f S hs Y := by rw [hg]; exact h
theorem k_pure {op : Op} (hX : selS f S hs = some X) (hv : OpF P n B w0 op ty fr X v) (hn : d < n.n) (h : Rk P n B w0 ops K fl l S ((d, v) :: fr) hs) :
    Rk P n B w0 ops K (f :: fl) (⟨some d, op, ty, pos, aft, none⟩ :: l) S fr hs := fun a ha => by
  unfold rkL
  refine st_yes (by simp [Region.wanted]) ?_
  unfold st
  rw [if_pos rfl]
  have hk := h _ (ha.put hn v)
  match f, hX with
  | 0, hX =>
    simp only [selS, Option.some.injEq] at hX
    subst hX
    exact ⟨v, fun w hw => by rw [ex_eq]; exact hv a w ha hw, hk⟩
  | 1, hX =>
    simp only [selS, Option.some.injEq] at hX
    subst hX
    exact ⟨v, fun w hw => by rw [ex_eq]; exact hv a w ha hw, hk⟩
theorem k_yes {op : Op} {o : Option Nat} {j dj : Nat} {b : Bool} (hj : (ops[j]?).bind (·.dst) = some dj) (hb : get fr dj = some (.bool b)) (h : Rk P n B w0 ops K fl (⟨o, op, ty, pos, aft, none⟩ :: l) S fr hs) :
    Rk P n B w0 ops K fl (⟨o, op, ty, pos, aft, some (j, b)⟩ :: l) S fr hs := fun a ha => by
  have h1 := h a ha
  unfold rkL at h1 ⊢
  obtain ⟨h2, h3⟩ := ha.get _ _ hb
  have hy : yielded ops a.tmps j = some b := by
    have h4 : a.tmps[dj]? = some (.bool b) := by
      rw [← h3]; simp [Array.getD, ha.size, h2]
    simp [yielded, hj, h4]
  have e1 : Region.wanted ⟨o, op, ty, pos, aft, some (j, b)⟩ (yielded ops a.tmps) = Region.wanted ⟨o, op, ty, pos, aft, none⟩ (yielded ops a.tmps) := by simp [Region.wanted, hy]
  rw [e1]
  exact h1
theorem k_skip {op : Op} {j : Nat} {b : Bool} (hn : d < n.n) (hw : ∀ a, Fr n a fr → Region.wanted ⟨some d, op, ty, pos, aft, some (j, b)⟩ (yielded ops a.tmps) = false) (h : Rk P n B w0 ops K fl.tail l S ((d, undef) :: fr) hs) :
    Rk P n B w0 ops K fl (⟨some d, op, ty, pos, aft, some (j, b)⟩ :: l) S fr hs := fun a ha => by
  unfold rkL
  rw [hw a ha]
  unfold st
  rw [if_neg (by simp)]
  exact h _ (ha.put hn undef)
theorem k_no {op : Op} {j dj : Nat} {b b' : Bool} (hj : (ops[j]?).bind (·.dst) = some dj) (hb : get fr dj = some (.bool b')) (hbb : b' = !b) (hn : d < n.n) (h : Rk P n B w0 ops K fl l S ((d, undef) :: fr) hs) :
    Rk P n B w0 ops K (f :: fl) (⟨some d, op, ty, pos, aft, some (j, b)⟩ :: l) S fr hs := k_skip hn (fun a ha => by
  subst hbb
  obtain ⟨h2, h3⟩ := ha.get _ _ hb
  have hy : yielded ops a.tmps j = some (!b) := by
    have h4 : a.tmps[dj]? = some (.bool (!b)) := by
      rw [← h3]; simp [Array.getD, ha.size, h2]
    simp [yielded, hj, h4]
  simp [Region.wanted, hy]) h
theorem k_und {op : Op} {j dj : Nat} {b : Bool} (hj : (ops[j]?).bind (·.dst) = some dj) (hb : get fr dj = some (.tuple #[])) (hn : d < n.n) (h : Rk P n B w0 ops K fl l S ((d, undef) :: fr) hs) :
    Rk P n B w0 ops K (f :: fl) (⟨some d, op, ty, pos, aft, some (j, b)⟩ :: l) S fr hs := k_skip hn (fun a ha => by
  obtain ⟨h2, h3⟩ := ha.get _ _ hb
  have hy : yielded ops a.tmps j = none := by
    have h4 : a.tmps[dj]? = some (.tuple #[]) := by
      rw [← h3]; simp [Array.getD, ha.size, h2]
    simp [yielded, hj, h4]
  simp [Region.wanted, hy]) h
theorem k_dec {o : Oper} {dj : Nat} {p : Prop} [Decidable p] (hb : get fr dj = some (.bool (decide p)))
    (ht : p → Rk P n B w0 ops K fl (o :: l) S ((dj, .bool true) :: fr) hs) (hf : ¬ p → Rk P n B w0 ops K fl (o :: l) S ((dj, .bool false) :: fr) hs) :
    Rk P n B w0 ops K fl (o :: l) S fr hs := by
  by_cases hp : p
  · exact k_sub (Sub.cons (by rw [hb, decide_eq_true hp]) (fun _ _ h => h)) (ht hp)
  · exact k_sub (Sub.cons (by rw [hb, decide_eq_false hp]) (fun _ _ h => h)) (hf hp)
theorem k_decb {o : Oper} {dj : Nat} {c : Bool} (hb : get fr dj = some (.bool c))
    (ht : c = true → Rk P n B w0 ops K fl (o :: l) S ((dj, .bool true) :: fr) hs) (hf : c = false → Rk P n B w0 ops K fl (o :: l) S ((dj, .bool false) :: fr) hs) :
    Rk P n B w0 ops K fl (o :: l) S fr hs := by
  cases c with
  | true => exact k_sub (Sub.cons hb (fun _ _ h => h)) (ht rfl)
  | false => exact k_sub (Sub.cons hb (fun _ _ h => h)) (hf rfl)
theorem k_new {o : Oper} {c : List Value} (k : Option Nat) (hg : o.guard = none) (hd : o.dst = some d) (hrun : ∀ a, Fr n a fr → ∃ e, ∀ w, (execOp a.eval o).run P w = .ok (.value (newv k w.heap.size)) (w.alloc (.cells c.toArray e))) (hn : d < n.n)
    (h : ∀ b, Rk P n B w0 ops K fl l S ((d, newv k b) :: fr) ((b, c) :: hs)) : Rk P n B w0 ops K (2 :: fl) (o :: l) S fr hs := fun a ha => by
  unfold rkL
  refine st_yes (by simp [Region.wanted, hg]) ?_
  unfold st
  rw [if_pos rfl]
  obtain ⟨e, he⟩ := hrun a ha
  refine ⟨c.toArray, e, k, he, fun b _ => ?_⟩
  rw [hd]
  exact h b _ (ha.put hn _)
theorem k_alloc {t : TypeId} {z : List Value} (hz : zc P t = some z.toArray) (hn : d < n.n) (h : ∀ b, Rk P n B w0 ops K fl l S ((d, .pointer (some ⟨b, 0, none⟩)) :: fr) ((b, z) :: hs)) :
    Rk P n B w0 ops K (2 :: fl) (⟨some d, .alloc t, ty, pos, aft, none⟩ :: l) S fr hs := k_new none rfl rfl (fun a _ => by
  unfold zc at hz
  cases hi : P.info? t with
  | none => simp [hi] at hz
  | some i =>
    simp only [hi, Option.map_eq_some_iff] at hz
    obtain ⟨v, hv, hvz⟩ := hz
    refine ⟨t, fun w => ?_⟩
    rw [← hvz]
    simp [execOp, Instr.alloc, zeroValue, typeInfo, hi, hv, newVar, newRow, newv]) hn h
theorem k_box {t : TypeId} {x : Operand} {cs : List Value} (hx : opv fr x = some v) (hv : v.cells = cs.toArray) (hn : d < n.n) (h : ∀ b, Rk P n B w0 ops K fl l S ((d, .pointer (some ⟨b, 0, none⟩)) :: fr) ((b, cs) :: hs)) :
    Rk P n B w0 ops K (2 :: fl) (⟨some d, .box t x, ty, pos, aft, none⟩ :: l) S fr hs := k_new none rfl rfl (fun a ha => ⟨t, fun w => by
  rw [← hv]
  simp [execOp, Instr.box, newVar, newRow, ha.opv hx, newv]⟩) hn h
theorem run_bslice {t : TypeId} {len : Nat} {xs : List (Nat × Operand)} {vs : List Value} {z : List Value} {b : Bool} {k : Nat} (hx : partv fr xs = some (enumV 0 vs)) (ht : sc P t = some (b, k)) (hz : zs P t = some z.toArray) (hlen : vs.length = len) (hka : AllZ (fun v => v.cells.size = k) vs) (hle : len * k ≤ 16777216) {a : Act} (ha : Fr n a fr) :
    ∃ e, ∀ w, (execOp a.eval ⟨some d, .buildSlice t len xs.toArray, ty, pos, aft, none⟩).run P w = .ok (.value (newv (some len) w.heap.size)) (w.alloc (.cells (flatV vs).toArray e)) := by
  unfold sc at ht
  unfold zs at hz
  split at ht
  · rename_i e hu
    simp only [hu] at hz
    unfold zc at hz
    cases hi : P.info? e with
    | none => simp [hi] at hz
    | some i =>
      simp only [hi, Option.map_eq_some_iff] at hz
      obtain ⟨zv, hzv, hzz⟩ := hz
      have h1 : (xs.toArray.map (fun (i, x) => (i, a.eval x))) = (enumV 0 vs).toArray := by rw [← partv_map ha xs _ hx]; simp
      have hk : ∀ v ∈ vs, v.cells.size = k := hka.of
      have h2 : ∀ c : Array Value, c.size = len * k → Instr.fill (fun i => some (i * k, k)) c (enumV 0 vs) = some (flatV vs).toArray := fun c hc => by
        refine fill_bldL _ _ c _ ?_
        rw [bldL_enum k vs 0 c.toList hk (by simp [hlen, hc])]
        simp only [Nat.zero_mul, List.take_zero, List.nil_append, Nat.zero_add, hlen]
        rw [List.drop_eq_nil_of_le (by simp [hc])]
        simp
      refine ⟨e, fun w => ?_⟩
      have h3 : ¬ (len * k > 2 ^ 24) := by omega
      by_cases h0 : len * k = 0
      · have h4 := h2 ((Array.range (len * k)).map (#[][· % 0]!)) (by simp)
        simp only [execOp, h1, Instr.buildSlice, Sem.run_bind, underlying, run_program, hu, Result.andThen_ok, Sem.run_pure, run_sizeOf ht, if_neg h3, if_pos h0]
        simp only [List.size_toArray, List.length_nil]
        rw [h4]
        simp [newRow, newv]
      · have h4 := h2 ((Array.range (len * k)).map (zv.cells[· % zv.cells.size]!)) (by simp)
        simp only [execOp, h1, Instr.buildSlice, Sem.run_bind, underlying, run_program, hu, Result.andThen_ok, Sem.run_pure, run_sizeOf ht, if_neg h3, if_neg h0, zeroValue, typeInfo, hi, hzv]
        rw [h4]
        simp [newRow, newv]
  · cases ht
theorem k_bs1 {t : TypeId} {x : Operand} {cs z : List Value} {b : Bool} {k : Nat} (hx : opv fr x = some v) (hv : v.cells = cs.toArray) (ht : sc P t = some (b, k)) (hz : zs P t = some z.toArray) (hk : cs.length = k) (hk2 : k ≤ 1000) (hn : d < n.n)
    (h : ∀ bb, Rk P n B w0 ops K fl l S ((d, .slice (some ⟨bb, 0, none⟩) 1 1) :: fr) ((bb, cs) :: hs)) :
    Rk P n B w0 ops K (2 :: fl) (⟨some d, .buildSlice t 1 #[(0, x)], ty, pos, aft, none⟩ :: l) S fr hs := k_new (some 1) rfl rfl (fun a ha => by
  have := run_bslice (P := P) (d := d) (ty := ty) (pos := pos) (aft := aft) (t := t) (xs := [(0, x)]) (vs := [v]) (by simp [partv, hx, enumV]) ht hz rfl ⟨by show v.cells.size = k; rw [hv]; simpa using hk, trivial⟩ (by simp; omega) ha
  rw [show flatV [v] = cs by simp [flatV, hv]] at this
  exact this) hn h
/-! ### Operations that turn memory -/
theorem k_eff {o : Oper} {R : Value → HS → Prop} (hf : effF f = true) (hg : o.guard = none) (hrun : ∀ a, Fr n a fr → ∀ F w, Hp B w0 w (F ++ hs) → vres P (fun v w' => ∃ h, R v h ∧ Hp B w0 w' (F ++ h)) ((execOp a.eval o).run P w))
    (h : ∀ a, Fr n a fr → ∀ v h, R v h → ∃ S', Kp f S h S' ∧ rkL P B ops K w0 fl l S' (a.put o.dst v) h) : Rk P n B w0 ops K (f :: fl) (o :: l) S fr hs := fun a ha => by
  unfold rkL
  refine st_yes (by simp [Region.wanted, hg]) ?_
  unfold st
  rw [if_pos rfl]
  match f, hf with
  | 3, _ =>
    refine ⟨R, hrun a ha, fun v x hx _ => ?_⟩
    obtain ⟨S', hk, hr⟩ := h a ha v x hx
    rcases hk with ⟨_, rfl, hk⟩ | ⟨hk, _⟩
    · exact ⟨hk, hr⟩
    · omega
  | 4, _ =>
    refine ⟨R, hrun a ha, fun v x hx _ => ?_⟩
    obtain ⟨S', hk, hr⟩ := h a ha v x hx
    rcases hk with ⟨hk, _⟩ | ⟨_, rfl⟩
    · omega
    · exact hr
  | 5, _ =>
    refine ⟨fun v w1 x => w1 = w0 ∧ R v x, fun F w hw => vres_mono (fun v w' ⟨x, hx, hw'⟩ => ⟨w0, x, ⟨rfl, hx⟩, hw'⟩) (hrun a ha F w hw), fun v w1 x ⟨e, hx⟩ _ => ?_⟩
    subst e
    obtain ⟨S', hk, hr⟩ := h a ha v x hx
    rcases hk with ⟨hk, _⟩ | ⟨_, rfl⟩
    · omega
    · exact hr
/-- An operation that turns objects that are no cells, where all else waits. -/
theorem k_effW {o : Oper} {R : Value → Wd → HS → Prop} (hg : o.guard = none) (hrun : ∀ a, Fr n a fr → ∀ F w, Hp B w0 w (F ++ hs) → vres P (fun v w' => ∃ w1 h, R v w1 h ∧ Hp B w1 w' (F ++ h)) ((execOp a.eval o).run P w))
    (h : ∀ a, Fr n a fr → ∀ v w1 h, R v w1 h → rkL P B ops K w1 fl l h (a.put o.dst v) h) : Rk P n B w0 ops K (5 :: fl) (o :: l) S fr hs := fun a ha => by
  unfold rkL
  refine st_yes (by simp [Region.wanted, hg]) ?_
  unfold st
  rw [if_pos rfl]
  exact ⟨R, hrun a ha, fun v w1 x hx _ => h a ha v w1 x hx⟩
/-- An operation that looks at maps, beside one that lets keys in with zeros. -/
theorem k_pure6 {op : Op} (k : Nat) (hf : f = (2 * k) + 6) (hv : ∀ w1, Ext0 k w0 w1 → OpF P n B w1 op ty fr hs v) (hn : d < n.n) (h : Rk P n B w0 ops K fl l S ((d, v) :: fr) hs) :
    Rk P n B w0 ops K (f :: fl) (⟨some d, op, ty, pos, aft, none⟩ :: l) S fr hs := fun a ha => by
  unfold rkL
  refine st_yes (by simp [Region.wanted]) ?_
  subst hf
  have h1 : (2 * k) % 2 = 0 := by omega
  have h2 : (2 * k) / 2 = k := by omega
  show st P B w0 true _ ((2 * k) + 6) S hs _
  simp only [st, if_true, if_pos h1, h2]
  exact ⟨v, fun w1 w he hw => by rw [ex_eq]; exact hv w1 he a w ha hw, h _ (ha.put hn v)⟩
/-- An operation that lets a key in with a zero. -/
theorem k_eff7 {o : Oper} {R : Value → Wd → Prop} (k : Nat) (hf : f = (2 * k + 1) + 6) (hg : o.guard = none) (hrun : ∀ a, Fr n a fr → ∀ F w, Hp B w0 w (F ++ hs) → vres P (fun v w' => ∃ w1, R v w1 ∧ Hp B w1 w' (F ++ hs)) ((execOp a.eval o).run P w))
    (h : ∀ a, Fr n a fr → ∀ v w1, R v w1 → Ext0 k w0 w1 ∧ rkL P B ops K w1 fl l S (a.put o.dst v) hs) : Rk P n B w0 ops K (f :: fl) (o :: l) S fr hs := fun a ha => by
  unfold rkL
  refine st_yes (by simp [Region.wanted, hg]) ?_
  subst hf
  have h1 : ¬ (2 * k + 1) % 2 = 0 := by omega
  have h2 : (2 * k + 1) / 2 = k := by omega
  show st P B w0 true _ ((2 * k + 1) + 6) S hs _
  simp only [st, if_true, if_neg h1, h2]
  exact ⟨R, hrun a ha, fun v w1 hx _ => h a ha v w1 hx⟩
theorem k_store {t : TypeId} {x y : Operand} {b o k : Nat} {bb : Bool} {cs : List Value} (hfl : effF f = true) (hx : opv fr x = some (.pointer (some ⟨b, o, none⟩))) (hy : opv fr y = some v) (ht : sh P t = some (bb, k)) (hk : v.cells.size = k)
    (hf : Flat v.cells.toList) (hl : o + k ≤ cs.length) (hu : Upd b cs (setAll cs o v.cells.toList) hs hs') (hS : Kp f S hs' S') (h : Rk P n B w0 ops K fl l S' fr hs') :
    Rk P n B w0 ops K (f :: fl) (⟨none, .store t x y, ty, pos, aft, none⟩ :: l) S fr hs := by
  refine k_eff (R := fun _ h => h = hs') hfl rfl (fun a ha F w hw => ?_) (fun a ha u h' hh => ?_)
  · obtain ⟨w', h1, h2⟩ := run_storeCells_own (P := P) b v.cells.toList o cs _ _ w hw hf (by simp [hk]; omega) (hu.app F) o (Nat.le_refl _)
    simp only [Nat.sub_self] at h1
    have hrun : (execOp a.eval ⟨none, .store t x y, ty, pos, aft, none⟩).run P w = .ok .skip w' := by
      simp [execOp, Instr.storeAt, ha.opv hx, ha.opv hy, Instr.sureAddr, storeVar, run_sizeOf ht, hk, h1]
    rw [hrun]
    exact ⟨hs', rfl, h2⟩
  · subst hh
    exact ⟨S', hS, h a ha⟩
theorem k_storeW {t : TypeId} {x y : Operand} {b k : Nat} {bb : Bool} {cs vs : List Value} (hfl : effF f = true) (hx : opv fr x = some (.pointer (some ⟨b, 0, none⟩))) (hy : opv fr y = some v) (hv : v.cells = vs.toArray) (ht : sh P t = some (bb, k)) (hk : vs.length = k)
    (hf : Flat vs) (hu : Upd b cs vs hs hs') (hl : cs.length = k) (hS : Kp f S hs' S') (h : Rk P n B w0 ops K fl l S' fr hs') :
    Rk P n B w0 ops K (f :: fl) (⟨none, .store t x y, ty, pos, aft, none⟩ :: l) S fr hs := by
  refine k_store hfl hx hy ht (by rw [hv]; simpa using hk) (by rw [hv]; exact hf) (cs := cs) (by omega) (hs' := hs') ?_ hS h
  rw [hv]
  show Upd b cs (setAll cs 0 vs) hs hs'
  rw [setAll_whole _ _ (by omega)]
  exact hu
theorem k_store1 {t : TypeId} {x y : Operand} {b o : Nat} {cs : List Value} (hfl : effF f = true) (hx : opv fr x = some (.pointer (some ⟨b, o, none⟩))) (hy : opv fr y = some v) (hv : v.cells = #[v]) (h1 : v.oneCell' = true) (ht : sh P t = some (false, 1))
    (hu : Upd b cs (cs.set o v) hs hs') (hl : o < cs.length) (hS : Kp f S hs' S') (h : Rk P n B w0 ops K fl l S' fr hs') :
    Rk P n B w0 ops K (f :: fl) (⟨none, .store t x y, ty, pos, aft, none⟩ :: l) S fr hs := by
  refine k_store hfl hx hy ht (by rw [hv]; rfl) (by rw [hv]; exact flat1 h1) (cs := cs) (by omega) (hs' := hs') ?_ hS h
  rw [hv]
  exact hu
theorem k_storeI {t : TypeId} {x y : Operand} {b o : Nat} {m : List Int} {z : Int} (hfl : effF f = true) (hx : opv fr x = some (.pointer (some ⟨b, o, none⟩))) (hy : opv fr y = some (iv z)) (ht : sh P t = some (false, 1))
    (hu : Upd b (ivs m) (ivs (m.set o z)) hs hs') (hl : o < m.length) (hS : Kp f S hs' S') (h : Rk P n B w0 ops K fl l S' fr hs') :
    Rk P n B w0 ops K (f :: fl) (⟨none, .store t x y, ty, pos, aft, none⟩ :: l) S fr hs :=
  k_store1 hfl hx hy rfl rfl ht (by rw [ivs_set]; exact hu) (by rw [ivs_length]; exact hl) hS h
/-- A call that leaves memory as it was, but for new blocks of which the caller may forget. -/
theorem k_callV {g : Nat} {xs : List Operand} {vs : List Value} {ts : Array TypeId} (hfl : effF f = true) (hf : isGo P g = true) (hv : argv fr xs = some vs) (hc : ∀ F, Fn P g vs.toArray B w0 (F ++ hs) (fun u h => u = v ∧ h = F ++ hs)) (hS : Kp f S hs S') (hn : d < n.n)
    (h : Rk P n B w0 ops K fl l S' ((d, v) :: fr) hs) :
    Rk P n B w0 ops K (f :: fl) (⟨some d, .call { callee := .value (.func g), args := xs.toArray, argTypes := ts }, ty, pos, aft, none⟩ :: l) S fr hs := by
  refine k_eff (R := fun u h => u = v ∧ h = hs) hfl rfl (fun a ha F w hw => ?_) ?_
  · rw [run_call hf ha hv (some d) w]
    refine (fn_el (hc F) w hw).mono ?_
    rintro e w' ⟨u, h', rfl, ⟨rfl, rfl⟩, hw'⟩
    exact ⟨u, rfl, hs, ⟨rfl, rfl⟩, hw'⟩
  · rintro a ha u h' ⟨rfl, rfl⟩
    exact ⟨S', hS, h _ (ha.put hn _)⟩
/-- A call that makes new blocks. -/
theorem k_callN {g : Nat} {xs : List Operand} {vs : List Value} {ts : Array TypeId} {R : Value → HS → Prop} (hfl : effF f = true) (hf : isGo P g = true) (hv : argv fr xs = some vs) (hc : ∀ F, Fn P g vs.toArray B w0 (F ++ hs) (fun u h => ∃ blk, R u blk ∧ h = blk ++ (F ++ hs))) (hn : d < n.n)
    (h : ∀ u blk, R u blk → ∃ S', Kp f S (blk ++ hs) S' ∧ Rk P n B w0 ops K fl l S' ((d, u) :: fr) (blk ++ hs)) :
    Rk P n B w0 ops K (f :: fl) (⟨some d, .call { callee := .value (.func g), args := xs.toArray, argTypes := ts }, ty, pos, aft, none⟩ :: l) S fr hs := by
  refine k_eff (R := fun u h => ∃ blk, R u blk ∧ h = blk ++ hs) hfl rfl (fun a ha F w hw => ?_) ?_
  · rw [run_call hf ha hv (some d) w]
    refine (fn_el (hc F) w hw).mono ?_
    rintro e w' ⟨u, h', rfl, ⟨blk, hR, rfl⟩, hw'⟩
    refine ⟨u, rfl, blk ++ hs, ⟨blk, hR, rfl⟩, hw'.perm ?_⟩
    rw [← List.append_assoc, ← List.append_assoc]
    exact List.perm_append_comm.append_right hs
  · rintro a ha u h' ⟨blk, hR, rfl⟩
    obtain ⟨S', hk, hr⟩ := h u blk hR
    exact ⟨S', hk, hr _ (ha.put hn _)⟩
theorem k_app {t : TypeId} {size bytes k m c c' : Nat} {oa : Option Addr} {bb : Nat} {xs news : List Value} {blk rest : HS} {x y : Operand} (hfl : effF f = true) (hap : ap P t = some (size, bytes)) (hx : opv fr x = some (.slice oa k c)) (hy : opv fr y = some (.slice (some ⟨bb, 0, none⟩) m c')) (hT : Take blk hs rest)
    (hr : RowOk oa c size xs blk) (hk : xs.length = k * size) (hm : (bb, news) ∈ rest) (hl : news.length = m * size) (h0 : 0 < m) (hf : Flat news) (hb : k + m ≤ 1000000) (hby : bytes ≤ 1000000) (hn : d < n.n)
    (h : ∀ oa2 c2 blk2, RowOk oa2 c2 size (xs ++ news) blk2 → ∃ S', Kp f S (blk2 ++ rest) S' ∧ Rk P n B w0 ops K fl l S' ((d, .slice oa2 (k + m) c2) :: fr) (blk2 ++ rest)) :
    Rk P n B w0 ops K (f :: fl) (⟨some d, .call ⟨.builtin .append, #[x, y], #[t, t]⟩, ty, pos, aft, none⟩ :: l) S fr hs := by
  refine k_eff (R := fun u h => ∃ oa2 c2 blk2, u = .slice oa2 (k + m) c2 ∧ RowOk oa2 c2 size (xs ++ news) blk2 ∧ h = blk2 ++ rest) hfl rfl (fun a ha F w hw => ?_) ?_
  · obtain ⟨oa2, c2, blk2, w2, h1, h2, h3⟩ := run_appO (P := P) (t' := ty) (pos := pos) (aft := aft) (dst := some d) (rest := F ++ rest) hap ha hx hy hw hT.app hr hk (List.mem_append_right F hm) hl h0 hf hb hby
    rw [h1]
    refine ⟨blk2 ++ rest, ⟨oa2, c2, blk2, rfl, h2, rfl⟩, h3.perm ?_⟩
    rw [← List.append_assoc, ← List.append_assoc]
    exact List.perm_append_comm.append_right rest
  · rintro a ha u h' ⟨oa2, c2, blk2, rfl, h2, rfl⟩
    obtain ⟨S', hk', hr'⟩ := h oa2 c2 blk2 h2
    exact ⟨S', hk', hr' _ (ha.put hn _)⟩
end
attribute [irreducible] Rk
end Go.Proofs.YtnbickholedckaaGreatDoor
