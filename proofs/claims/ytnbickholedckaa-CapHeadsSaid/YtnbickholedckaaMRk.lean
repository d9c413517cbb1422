/- Steps of a walk through a region that draws its order. Nothing here speaks of one program. -/
import Derived.Test.YtnbickholedckaaMOwn
namespace Go.Proofs.Ytnbickholedckaa
open Go.RowKit

section
variable (P : Program) (B : Nat) (ops : Array Oper) (K : Act → World → Prop)
def rkL : Wd → List Nat → List Oper → HS → Act → HS → Prop
  | w0, _, [], _, a, hs => ∀ w, Hp B w0 w hs → K a w
  | w0, fl, o :: l, S, a, hs => st P B w0 (Region.wanted o (yielded ops a.tmps)) (execOp a.eval o) (lk fl 0) S hs (fun v w1 S' h' => rkL w1 fl.tail l S' (a.put o.dst v) h')
end
theorem lk_drop : ∀ (fl : List Nat) (k : Nat), lk (fl.drop k) 0 = lk fl k
  | [], k => by simp [lk]
  | x :: fl, 0 => rfl
  | x :: fl, k + 1 => lk_drop fl k
section
variable {P : Program} {B : Nat} {w0 : Wd} {ops : Array Oper} {K : Act → World → Prop} {Q : Exit → Act → World → Prop}
theorem rkI_of_rkL {fl : List Nat} : ∀ (w0 : Wd) (l : List Oper) (k : Nat) (S hs : HS) (a : Act), In B w0 hs → SubP S hs → (∀ j, l[j]? = ops[k + j]?) → rkL P B ops K w0 (fl.drop k) l S a hs → rkI P B ops fl K w0 (List.range' k l.length) S a hs
  | _, [], k, S, hs, a, _, _, _, h => h
  | w0, o :: l, k, S, hs, a, hin, hsub, hl, h => by
    have ho : ops[k]? = some o := by simpa using (hl 0).symm
    simp only [List.length_cons, List.range'_succ]
    unfold rkI
    simp only [ho]
    unfold rkL at h
    rw [lk_drop] at h
    refine st_mono hin hsub (fun v w1 S' k' hi hs' hh => ?_) h
    refine rkI_of_rkL w1 l (k + 1) S' k' _ hi hs' (fun j => by have := hl (j + 1); simpa [Nat.add_assoc, Nat.add_comm 1 j] using this) ?_
    rw [List.tail_drop] at hh
    exact hh
theorem Region.noSelect_at {l : List Oper} (h : Region.noSelect l.toArray = true) : ∀ (j : Nat) (o : Oper) cs b, l.toArray[j]? = some o → o.op ≠ .select cs b := Region.noSelect_spec h
theorem getD_replicate_false' (m j : Nat) : (Array.replicate m false).getD j false = false := by
  rcases Nat.lt_or_ge j m with h | h
  · simp [h]
  · simp [h]
/-- **One walk in the text's order serves every order.** -/
theorem c_drawn {n : NN} {fr : FR} {hs : HS} {id : Nat} {l : List Oper} (fl : List Nat) (S : HS) (hS : S.Sublist hs) (hm : P.follows .mixedOrders = true) (hc : chk l fl = true)
    (h : ∀ a, Fr n a fr → rkL P B l.toArray (Q .normal) w0 fl l S a hs) : Sat n B w0 ((Code.region id l.toArray true).wp P Q) fr hs := sat_mk fun a w ha hw => by
  simp only [chk, Bool.and_eq_true] at hc
  obtain ⟨hsel, hall⟩ := hc
  have hw' : Hp B w0 { w with drawn := w.drawn + 1 } hs := hw.drew
  have han := ancGo_spec (ops := l.toArray) l [] 0 rfl (by simp) (by intro j i hb; simp [lk] at hb)
  have hall' := allI_spec l 0 hall
  refine wp_region_any hm (wpAny_rk (P := P) (B := B) (Q := Q) (fl := fl) (Region.noSelect_at hsel) ?_ ?_ _ w0 _ (List.range' 0 l.length) S hs a _ hw' (.of hS) (rkI_of_rkL w0 l 0 S hs a ⟨_, hw'⟩ (.of hS) (by simp) (h a ha)) ?_ ?_ ?_ (by simp) (by simp))
  · intro j oj hj e he hb
    have h1 := hall' j oj hj
    simp only [Bool.and_eq_true, List.all_eq_true] at h1
    have h2 := h1.1 e (by simpa using he)
    simp only [hb, Bool.not_true, Bool.false_or, Nat.zero_add] at h2
    simpa using h2
  · intro i j oi oj hi hj hij
    have h1 := hall' j oj hj
    simp only [Bool.and_eq_true] at h1
    have h2 := allI_spec l 0 h1.2 i oi hi
    simp only [Nat.zero_add, Bool.or_eq_true, Bool.and_eq_true] at h2
    rcases h2 with (h2 | h2) | h2
    · have := Nat.le_of_ble_eq_true h2; omega
    · exact .inl (han j i h2)
    · exact .inr h2
  · intro i
    simp only [List.mem_range'_1, Nat.zero_le, Nat.zero_add, true_and]
    constructor
    · intro hi; exact ⟨hi, by simp [hi]⟩
    · exact fun h => h.1
  · exact List.pairwise_lt_range'
  · intro j oj hj hl
    rw [getD_replicate_false'] at hl; cases hl
end

def Rk (P : Program) (n : NN) (B : Nat) (w0 : Wd) (ops : Array Oper) (K : Act → World → Prop) (fl : List Nat) (l : List Oper) (S : HS) (fr : FR) (hs : HS) : Prop := ∀ a, Fr n a fr → rkL P B ops K w0 fl l S a hs
/-- Which memory a value may hang on. -/
def selS : Nat → HS → HS → Option HS
  | 0, S, _ => some S
  | 1, _, hs => some hs
  | _, _, _ => none
/-- What stays of the fixed memory behind an operation that turns memory. -/
def Kp (f : Nat) (S h S' : HS) : Prop := (f = 3 ∧ S' = S ∧ SubP S h) ∨ (4 ≤ f ∧ S' = h)
theorem kp4 {S h : HS} : Kp 4 S h h := .inr ⟨Nat.le_refl _, rfl⟩
theorem kp3 {S h : HS} (hs : S.Sublist h) : Kp 3 S h S := .inl ⟨rfl, rfl, .of hs⟩
theorem kp3' {S h : HS} (hs : SubP S h) : Kp 3 S h S := .inl ⟨rfl, rfl, hs⟩
theorem Upd.app {b : Nat} {cs cs' : List Value} {hs hs' : HS} (h : Upd b cs cs' hs hs') : ∀ F : HS, Upd b cs cs' (F ++ hs) (F ++ hs')
  | [] => h
  | p :: F => .tail p (h.app F)
section
variable {P : Program} {n : NN} {B : Nat} {w0 : Wd} {fr : FR} {hs hs' S S' X : HS} {K : Act → World → Prop} {Q : Exit → Act → World → Prop} {ops : Array Oper} {l : List Oper} {d f : Nat} {fl : List Nat} {ty : TypeId} {pos : String} {aft : Array Edge} {v u : Value}
theorem c_drawnR {id : Nat} (fl : List Nat) (S : HS) (hS : S.Sublist hs) (hm : P.follows .mixedOrders = true) (hc : chk l fl = true) (h : Rk P n B w0 l.toArray (Q .normal) fl l S fr hs) : Sat n B w0 ((Code.region id l.toArray true).wp P Q) fr hs := c_drawn fl S hS hm hc h
theorem k_nil (h : Sat n B w0 K fr hs) : Rk P n B w0 ops K fl [] S fr hs := fun a ha w hw => sat_el h a w ha hw
theorem k_sub {fr' : FR} (hs1 : Sub fr' fr) (h : Rk P n B w0 ops K fl l S fr' hs) : Rk P n B w0 ops K fl l S fr hs := fun a ha => h a (ha.sub hs1)
theorem st_yes {r : Sem Next} {Y : Value → Wd → HS → HS → Prop} {g : Bool} (hg : g = true) (h : st P B w0 true r f S hs Y) : st P B w0 g r f S hs Y := by rw [hg]; exact h
theorem k_pure {op : Op} (hX : selS f S hs = some X) (hv : OpF P n B w0 op ty fr X v) (hn : d < n.n) (h : Rk P n B w0 ops K fl l S ((d, v) :: fr) hs) :
    Rk P n B w0 ops K (f :: fl) (⟨some d, op, ty, pos, aft, none⟩ :: l) S fr hs := fun a ha => by
  unfold rkL
  refine st_yes (by simp [Region.wanted]) ?_
  unfold st
  rw [if_pos rfl]
  have hk := h _ (ha.put hn v)
  match f, hX with
  | 0, hX =>
    simp only [selS, Option.some.injEq] at hX
    subst hX
    exact ⟨v, fun w hw => by rw [ex_eq]; exact hv a w ha hw, hk⟩
  | 1, hX =>
    simp only [selS, Option.some.injEq] at hX
    subst hX
    exact ⟨v, fun w hw => by rw [ex_eq]; exact hv a w ha hw, hk⟩
theorem k_yes {op : Op} {o : Option Nat} {j dj : Nat} {b : Bool} (hj : (ops[j]?).bind (·.dst) = some dj) (hb : get fr dj = some (.bool b)) (h : Rk P n B w0 ops K fl (⟨o, op, ty, pos, aft, none⟩ :: l) S fr hs) :
    Rk P n B w0 ops K fl (⟨o, op, ty, pos, aft, some (j, b)⟩ :: l) S fr hs := fun a ha => by
  have h1 := h a ha
  unfold rkL at h1 ⊢
  obtain ⟨h2, h3⟩ := ha.get _ _ hb
  have hy : yielded ops a.tmps j = some b := by
    have h4 : a.tmps[dj]? = some (.bool b) := by
      rw [← h3]; simp [Array.getD, ha.size, h2]
    simp [yielded, hj, h4]
  have e1 : Region.wanted ⟨o, op, ty, pos, aft, some (j, b)⟩ (yielded ops a.tmps) = Region.wanted ⟨o, op, ty, pos, aft, none⟩ (yielded ops a.tmps) := by simp [Region.wanted, hy]
  rw [e1]
  exact h1
theorem k_skip {op : Op} {j : Nat} {b : Bool} (hn : d < n.n) (hw : ∀ a, Fr n a fr → Region.wanted ⟨some d, op, ty, pos, aft, some (j, b)⟩ (yielded ops a.tmps) = false) (h : Rk P n B w0 ops K fl.tail l S ((d, undef) :: fr) hs) :
    Rk P n B w0 ops K fl (⟨some d, op, ty, pos, aft, some (j, b)⟩ :: l) S fr hs := fun a ha => by
  unfold rkL
  rw [hw a ha]
  unfold st
  rw [if_neg (by simp)]
  exact h _ (ha.put hn undef)
theorem k_no {op : Op} {j dj : Nat} {b b' : Bool} (hj : (ops[j]?).bind (·.dst) = some dj) (hb : get fr dj = some (.bool b')) (hbb : b' = !b) (hn : d < n.n) (h : Rk P n B w0 ops K fl l S ((d, undef) :: fr) hs) :
    Rk P n B w0 ops K (f :: fl) (⟨some d, op, ty, pos, aft, some (j, b)⟩ :: l) S fr hs := k_skip hn (fun a ha => by
  subst hbb
  obtain ⟨h2, h3⟩ := ha.get _ _ hb
  have hy : yielded ops a.tmps j = some (!b) := by
    have h4 : a.tmps[dj]? = some (.bool (!b)) := by
      rw [← h3]; simp [Array.getD, ha.size, h2]
    simp [yielded, hj, h4]
  simp [Region.wanted, hy]) h
theorem k_und {op : Op} {j dj : Nat} {b : Bool} (hj : (ops[j]?).bind (·.dst) = some dj) (hb : get fr dj = some (.tuple #[])) (hn : d < n.n) (h : Rk P n B w0 ops K fl l S ((d, undef) :: fr) hs) :
    Rk P n B w0 ops K (f :: fl) (⟨some d, op, ty, pos, aft, some (j, b)⟩ :: l) S fr hs := k_skip hn (fun a ha => by
  obtain ⟨h2, h3⟩ := ha.get _ _ hb
  have hy : yielded ops a.tmps j = none := by
    have h4 : a.tmps[dj]? = some (.tuple #[]) := by
      rw [← h3]; simp [Array.getD, ha.size, h2]
    simp [yielded, hj, h4]
  simp [Region.wanted, hy]) h
theorem k_dec {o : Oper} {dj : Nat} {p : Prop} [Decidable p] (hb : get fr dj = some (.bool (decide p)))
    (ht : p → Rk P n B w0 ops K fl (o :: l) S ((dj, .bool true) :: fr) hs) (hf : ¬ p → Rk P n B w0 ops K fl (o :: l) S ((dj, .bool false) :: fr) hs) :
    Rk P n B w0 ops K fl (o :: l) S fr hs := by
  by_cases hp : p
  · exact k_sub (Sub.cons (by rw [hb, decide_eq_true hp]) (fun _ _ h => h)) (ht hp)
  · exact k_sub (Sub.cons (by rw [hb, decide_eq_false hp]) (fun _ _ h => h)) (hf hp)
theorem k_decb {o : Oper} {dj : Nat} {c : Bool} (hb : get fr dj = some (.bool c))
    (ht : c = true → Rk P n B w0 ops K fl (o :: l) S ((dj, .bool true) :: fr) hs) (hf : c = false → Rk P n B w0 ops K fl (o :: l) S ((dj, .bool false) :: fr) hs) :
    Rk P n B w0 ops K fl (o :: l) S fr hs := by
  cases c with
  | true => exact k_sub (Sub.cons hb (fun _ _ h => h)) (ht rfl)
  | false => exact k_sub (Sub.cons hb (fun _ _ h => h)) (hf rfl)
theorem k_eq {t : Nat} (hb : get fr t = some v) (he : v = u) (h : Rk P n B w0 ops K fl l S ((t, u) :: fr) hs) : Rk P n B w0 ops K fl l S fr hs := by
  subst he; exact k_sub (Sub.cons hb (fun _ _ h => h)) h

/-! ### New blocks -/
theorem k_new {o : Oper} {c : List Value} (k : Option Nat) (hg : o.guard = none) (hd : o.dst = some d) (hrun : ∀ a, Fr n a fr → ∃ e, ∀ w, (execOp a.eval o).run P w = .ok (.value (newv k w.heap.size)) (w.alloc (.cells c.toArray e))) (hn : d < n.n)
    (h : ∀ b, Rk P n B w0 ops K fl l S ((d, newv k b) :: fr) ((b, c) :: hs)) : Rk P n B w0 ops K (2 :: fl) (o :: l) S fr hs := fun a ha => by
  unfold rkL
  refine st_yes (by simp [Region.wanted, hg]) ?_
  unfold st
  rw [if_pos rfl]
  obtain ⟨e, he⟩ := hrun a ha
  refine ⟨c.toArray, e, k, he, fun b _ => ?_⟩
  rw [hd]
  exact h b _ (ha.put hn _)
theorem k_alloc {t : TypeId} {z : List Value} (hz : zc P t = some z.toArray) (hn : d < n.n) (h : ∀ b, Rk P n B w0 ops K fl l S ((d, .pointer (some ⟨b, 0, none⟩)) :: fr) ((b, z) :: hs)) :
    Rk P n B w0 ops K (2 :: fl) (⟨some d, .alloc t, ty, pos, aft, none⟩ :: l) S fr hs := k_new none rfl rfl (fun a _ => by
  unfold zc at hz
  cases hi : P.info? t with
  | none => simp [hi] at hz
  | some i =>
    simp only [hi, Option.map_eq_some_iff] at hz
    obtain ⟨v, hv, hvz⟩ := hz
    refine ⟨t, fun w => ?_⟩
    rw [← hvz]
    simp [execOp, Instr.alloc, zeroValue, typeInfo, hi, hv, newVar, newRow, newv]) hn h
theorem k_box {t : TypeId} {x : Operand} {cs : List Value} (hx : opv fr x = some v) (hv : v.cells = cs.toArray) (hn : d < n.n) (h : ∀ b, Rk P n B w0 ops K fl l S ((d, .pointer (some ⟨b, 0, none⟩)) :: fr) ((b, cs) :: hs)) :
    Rk P n B w0 ops K (2 :: fl) (⟨some d, .box t x, ty, pos, aft, none⟩ :: l) S fr hs := k_new none rfl rfl (fun a ha => ⟨t, fun w => by
  rw [← hv]
  simp [execOp, Instr.box, newVar, newRow, ha.opv hx, newv]⟩) hn h
theorem run_bslice {t : TypeId} {len : Nat} {xs : List (Nat × Operand)} {vs : List Value} {z : List Value} {b : Bool} {k : Nat} (hx : partv fr xs = some (enumV 0 vs)) (ht : sc P t = some (b, k)) (hz : zs P t = some z.toArray) (hlen : vs.length = len) (hka : AllZ (fun v => v.cells.size = k) vs) (hle : len * k ≤ 16777216) {a : Act} (ha : Fr n a fr) :
    ∃ e, ∀ w, (execOp a.eval ⟨some d, .buildSlice t len xs.toArray, ty, pos, aft, none⟩).run P w = .ok (.value (newv (some len) w.heap.size)) (w.alloc (.cells (flatV vs).toArray e)) := by
  unfold sc at ht
  unfold zs at hz
  split at ht
  · rename_i e hu
    simp only [hu] at hz
    unfold zc at hz
    cases hi : P.info? e with
    | none => simp [hi] at hz
    | some i =>
      simp only [hi, Option.map_eq_some_iff] at hz
      obtain ⟨zv, hzv, hzz⟩ := hz
      have h1 : (xs.toArray.map (fun (i, x) => (i, a.eval x))) = (enumV 0 vs).toArray := by rw [← partv_map ha xs _ hx]; simp
      have hk : ∀ v ∈ vs, v.cells.size = k := hka.of
      have h2 : ∀ c : Array Value, c.size = len * k → Instr.fill (fun i => some (i * k, k)) c (enumV 0 vs) = some (flatV vs).toArray := fun c hc => by
        refine fill_bldL _ _ c _ ?_
        rw [bldL_enum k vs 0 c.toList hk (by simp [hlen, hc])]
        simp only [Nat.zero_mul, List.take_zero, List.nil_append, Nat.zero_add, hlen]
        rw [List.drop_eq_nil_of_le (by simp [hc])]
        simp
      refine ⟨e, fun w => ?_⟩
      have h3 : ¬ (len * k > 2 ^ 24) := by omega
      by_cases h0 : len * k = 0
      · have h4 := h2 ((Array.range (len * k)).map (#[][· % 0]!)) (by simp)
        simp only [execOp, h1, Instr.buildSlice, Sem.run_bind, underlying, run_program, hu, Result.andThen_ok, Sem.run_pure, run_sizeOf ht, if_neg h3, if_pos h0]
        simp only [List.size_toArray, List.length_nil]
        rw [h4]
        simp [newRow, newv]
      · have h4 := h2 ((Array.range (len * k)).map (zv.cells[· % zv.cells.size]!)) (by simp)
        simp only [execOp, h1, Instr.buildSlice, Sem.run_bind, underlying, run_program, hu, Result.andThen_ok, Sem.run_pure, run_sizeOf ht, if_neg h3, if_neg h0, zeroValue, typeInfo, hi, hzv]
        rw [h4]
        simp [newRow, newv]
  · cases ht
theorem k_bs1 {t : TypeId} {x : Operand} {cs z : List Value} {b : Bool} {k : Nat} (hx : opv fr x = some v) (hv : v.cells = cs.toArray) (ht : sc P t = some (b, k)) (hz : zs P t = some z.toArray) (hk : cs.length = k) (hk2 : k ≤ 1000) (hn : d < n.n)
    (h : ∀ bb, Rk P n B w0 ops K fl l S ((d, .slice (some ⟨bb, 0, none⟩) 1 1) :: fr) ((bb, cs) :: hs)) :
    Rk P n B w0 ops K (2 :: fl) (⟨some d, .buildSlice t 1 #[(0, x)], ty, pos, aft, none⟩ :: l) S fr hs := k_new (some 1) rfl rfl (fun a ha => by
  have := run_bslice (P := P) (d := d) (ty := ty) (pos := pos) (aft := aft) (t := t) (xs := [(0, x)]) (vs := [v]) (by simp [partv, hx, enumV]) ht hz rfl ⟨by show v.cells.size = k; rw [hv]; simpa using hk, trivial⟩ (by simp; omega) ha
  rw [show flatV [v] = cs by simp [flatV, hv]] at this
  exact this) hn h

/-! ### Operations that turn memory -/
theorem k_eff {o : Oper} {R : Value → HS → Prop} (hf : effF f = true) (hg : o.guard = none) (hrun : ∀ a, Fr n a fr → ∀ F w, Hp B w0 w (F ++ hs) → vres P (fun v w' => ∃ h, R v h ∧ Hp B w0 w' (F ++ h)) ((execOp a.eval o).run P w))
    (h : ∀ a, Fr n a fr → ∀ v h, R v h → ∃ S', Kp f S h S' ∧ rkL P B ops K w0 fl l S' (a.put o.dst v) h) : Rk P n B w0 ops K (f :: fl) (o :: l) S fr hs := fun a ha => by
  unfold rkL
  refine st_yes (by simp [Region.wanted, hg]) ?_
  unfold st
  rw [if_pos rfl]
  match f, hf with
  | 3, _ =>
    refine ⟨R, hrun a ha, fun v x hx _ => ?_⟩
    obtain ⟨S', hk, hr⟩ := h a ha v x hx
    rcases hk with ⟨_, rfl, hk⟩ | ⟨hk, _⟩
    · exact ⟨hk, hr⟩
    · omega
  | 4, _ =>
    refine ⟨R, hrun a ha, fun v x hx _ => ?_⟩
    obtain ⟨S', hk, hr⟩ := h a ha v x hx
    rcases hk with ⟨hk, _⟩ | ⟨_, rfl⟩
    · omega
    · exact hr
  | 5, _ =>
    refine ⟨fun v w1 x => w1 = w0 ∧ R v x, fun F w hw => vres_mono (fun v w' ⟨x, hx, hw'⟩ => ⟨w0, x, ⟨rfl, hx⟩, hw'⟩) (hrun a ha F w hw), fun v w1 x ⟨e, hx⟩ _ => ?_⟩
    subst e
    obtain ⟨S', hk, hr⟩ := h a ha v x hx
    rcases hk with ⟨hk, _⟩ | ⟨_, rfl⟩
    · omega
    · exact hr
/-- An operation that turns objects that are no cells, where all else waits. -/
theorem k_effW {o : Oper} {R : Value → Wd → HS → Prop} (hg : o.guard = none) (hrun : ∀ a, Fr n a fr → ∀ F w, Hp B w0 w (F ++ hs) → vres P (fun v w' => ∃ w1 h, R v w1 h ∧ Hp B w1 w' (F ++ h)) ((execOp a.eval o).run P w))
    (h : ∀ a, Fr n a fr → ∀ v w1 h, R v w1 h → rkL P B ops K w1 fl l h (a.put o.dst v) h) : Rk P n B w0 ops K (5 :: fl) (o :: l) S fr hs := fun a ha => by
  unfold rkL
  refine st_yes (by simp [Region.wanted, hg]) ?_
  unfold st
  rw [if_pos rfl]
  exact ⟨R, hrun a ha, fun v w1 x hx _ => h a ha v w1 x hx⟩
/-- An operation that looks at maps, beside one that lets keys in with zeros. -/
theorem k_pure6 {op : Op} (k : Nat) (hf : f = (2 * k) + 6) (hv : ∀ w1, Ext0 k w0 w1 → OpF P n B w1 op ty fr hs v) (hn : d < n.n) (h : Rk P n B w0 ops K fl l S ((d, v) :: fr) hs) :
    Rk P n B w0 ops K (f :: fl) (⟨some d, op, ty, pos, aft, none⟩ :: l) S fr hs := fun a ha => by
  unfold rkL
  refine st_yes (by simp [Region.wanted]) ?_
  subst hf
  have h1 : (2 * k) % 2 = 0 := by omega
  have h2 : (2 * k) / 2 = k := by omega
  show st P B w0 true _ ((2 * k) + 6) S hs _
  simp only [st, if_true, if_pos h1, h2]
  exact ⟨v, fun w1 w he hw => by rw [ex_eq]; exact hv w1 he a w ha hw, h _ (ha.put hn v)⟩
/-- An operation that lets a key in with a zero. -/
theorem k_eff7 {o : Oper} {R : Value → Wd → Prop} (k : Nat) (hf : f = (2 * k + 1) + 6) (hg : o.guard = none) (hrun : ∀ a, Fr n a fr → ∀ F w, Hp B w0 w (F ++ hs) → vres P (fun v w' => ∃ w1, R v w1 ∧ Hp B w1 w' (F ++ hs)) ((execOp a.eval o).run P w))
    (h : ∀ a, Fr n a fr → ∀ v w1, R v w1 → Ext0 k w0 w1 ∧ rkL P B ops K w1 fl l S (a.put o.dst v) hs) : Rk P n B w0 ops K (f :: fl) (o :: l) S fr hs := fun a ha => by
  unfold rkL
  refine st_yes (by simp [Region.wanted, hg]) ?_
  subst hf
  have h1 : ¬ (2 * k + 1) % 2 = 0 := by omega
  have h2 : (2 * k + 1) / 2 = k := by omega
  show st P B w0 true _ ((2 * k + 1) + 6) S hs _
  simp only [st, if_true, if_neg h1, h2]
  exact ⟨R, hrun a ha, fun v w1 hx _ => h a ha v w1 hx⟩
theorem k_store {t : TypeId} {x y : Operand} {b o k : Nat} {bb : Bool} {cs : List Value} (hfl : effF f = true) (hx : opv fr x = some (.pointer (some ⟨b, o, none⟩))) (hy : opv fr y = some v) (ht : sh P t = some (bb, k)) (hk : v.cells.size = k)
    (hf : Flat v.cells.toList) (hl : o + k ≤ cs.length) (hu : Upd b cs (setAll cs o v.cells.toList) hs hs') (hS : Kp f S hs' S') (h : Rk P n B w0 ops K fl l S' fr hs') :
    Rk P n B w0 ops K (f :: fl) (⟨none, .store t x y, ty, pos, aft, none⟩ :: l) S fr hs := by
  refine k_eff (R := fun _ h => h = hs') hfl rfl (fun a ha F w hw => ?_) (fun a ha u h' hh => ?_)
  · obtain ⟨w', h1, h2⟩ := run_storeCells_own (P := P) b v.cells.toList o cs _ _ w hw hf (by simp [hk]; omega) (hu.app F) o (Nat.le_refl _)
    simp only [Nat.sub_self] at h1
    have hrun : (execOp a.eval ⟨none, .store t x y, ty, pos, aft, none⟩).run P w = .ok .skip w' := by
      simp [execOp, Instr.storeAt, ha.opv hx, ha.opv hy, Instr.sureAddr, storeVar, run_sizeOf ht, hk, h1]
    rw [hrun]
    exact ⟨hs', rfl, h2⟩
  · subst hh
    exact ⟨S', hS, h a ha⟩
theorem k_storeW {t : TypeId} {x y : Operand} {b k : Nat} {bb : Bool} {cs vs : List Value} (hfl : effF f = true) (hx : opv fr x = some (.pointer (some ⟨b, 0, none⟩))) (hy : opv fr y = some v) (hv : v.cells = vs.toArray) (ht : sh P t = some (bb, k)) (hk : vs.length = k)
    (hf : Flat vs) (hu : Upd b cs vs hs hs') (hl : cs.length = k) (hS : Kp f S hs' S') (h : Rk P n B w0 ops K fl l S' fr hs') :
    Rk P n B w0 ops K (f :: fl) (⟨none, .store t x y, ty, pos, aft, none⟩ :: l) S fr hs := by
  refine k_store hfl hx hy ht (by rw [hv]; simpa using hk) (by rw [hv]; exact hf) (cs := cs) (by omega) (hs' := hs') ?_ hS h
  rw [hv]
  show Upd b cs (setAll cs 0 vs) hs hs'
  rw [setAll_whole _ _ (by omega)]
  exact hu
theorem k_store1 {t : TypeId} {x y : Operand} {b o : Nat} {cs : List Value} (hfl : effF f = true) (hx : opv fr x = some (.pointer (some ⟨b, o, none⟩))) (hy : opv fr y = some v) (hv : v.cells = #[v]) (h1 : v.oneCell' = true) (ht : sh P t = some (false, 1))
    (hu : Upd b cs (cs.set o v) hs hs') (hl : o < cs.length) (hS : Kp f S hs' S') (h : Rk P n B w0 ops K fl l S' fr hs') :
    Rk P n B w0 ops K (f :: fl) (⟨none, .store t x y, ty, pos, aft, none⟩ :: l) S fr hs := by
  refine k_store hfl hx hy ht (by rw [hv]; rfl) (by rw [hv]; exact flat1 h1) (cs := cs) (by omega) (hs' := hs') ?_ hS h
  rw [hv]
  exact hu
theorem k_storeI {t : TypeId} {x y : Operand} {b o : Nat} {m : List Int} {z : Int} (hfl : effF f = true) (hx : opv fr x = some (.pointer (some ⟨b, o, none⟩))) (hy : opv fr y = some (iv z)) (ht : sh P t = some (false, 1))
    (hu : Upd b (ivs m) (ivs (m.set o z)) hs hs') (hl : o < m.length) (hS : Kp f S hs' S') (h : Rk P n B w0 ops K fl l S' fr hs') :
    Rk P n B w0 ops K (f :: fl) (⟨none, .store t x y, ty, pos, aft, none⟩ :: l) S fr hs :=
  k_store1 hfl hx hy rfl rfl ht (by rw [ivs_set]; exact hu) (by rw [ivs_length]; exact hl) hS h
/-- A call that leaves memory as it was, but for new blocks of which the caller may forget. -/
theorem k_callV {g : Nat} {xs : List Operand} {vs : List Value} {ts : Array TypeId} (hfl : effF f = true) (hf : isGo P g = true) (hv : argv fr xs = some vs) (hc : ∀ F, Fn P g vs.toArray B w0 (F ++ hs) (fun u h => u = v ∧ h = F ++ hs)) (hS : Kp f S hs S') (hn : d < n.n)
    (h : Rk P n B w0 ops K fl l S' ((d, v) :: fr) hs) :
    Rk P n B w0 ops K (f :: fl) (⟨some d, .call { callee := .value (.func g), args := xs.toArray, argTypes := ts }, ty, pos, aft, none⟩ :: l) S fr hs := by
  refine k_eff (R := fun u h => u = v ∧ h = hs) hfl rfl (fun a ha F w hw => ?_) ?_
  · rw [run_call hf ha hv (some d) w]
    refine (fn_el (hc F) w hw).mono ?_
    rintro e w' ⟨u, h', rfl, ⟨rfl, rfl⟩, hw'⟩
    exact ⟨u, rfl, hs, ⟨rfl, rfl⟩, hw'⟩
  · rintro a ha u h' ⟨rfl, rfl⟩
    exact ⟨S', hS, h _ (ha.put hn _)⟩
/-- A call that makes new blocks. -/
theorem k_callN {g : Nat} {xs : List Operand} {vs : List Value} {ts : Array TypeId} {R : Value → HS → Prop} (hfl : effF f = true) (hf : isGo P g = true) (hv : argv fr xs = some vs) (hc : ∀ F, Fn P g vs.toArray B w0 (F ++ hs) (fun u h => ∃ blk, R u blk ∧ h = blk ++ (F ++ hs))) (hn : d < n.n)
    (h : ∀ u blk, R u blk → ∃ S', Kp f S (blk ++ hs) S' ∧ Rk P n B w0 ops K fl l S' ((d, u) :: fr) (blk ++ hs)) :
    Rk P n B w0 ops K (f :: fl) (⟨some d, .call { callee := .value (.func g), args := xs.toArray, argTypes := ts }, ty, pos, aft, none⟩ :: l) S fr hs := by
  refine k_eff (R := fun u h => ∃ blk, R u blk ∧ h = blk ++ hs) hfl rfl (fun a ha F w hw => ?_) ?_
  · rw [run_call hf ha hv (some d) w]
    refine (fn_el (hc F) w hw).mono ?_
    rintro e w' ⟨u, h', rfl, ⟨blk, hR, rfl⟩, hw'⟩
    refine ⟨u, rfl, blk ++ hs, ⟨blk, hR, rfl⟩, hw'.perm ?_⟩
    rw [← List.append_assoc, ← List.append_assoc]
    exact List.perm_append_comm.append_right hs
  · rintro a ha u h' ⟨blk, hR, rfl⟩
    obtain ⟨S', hk, hr⟩ := h u blk hR
    exact ⟨S', hk, hr _ (ha.put hn _)⟩
theorem k_app {t : TypeId} {size bytes k m c c' : Nat} {oa : Option Addr} {bb : Nat} {xs news : List Value} {blk rest : HS} {x y : Operand} (hfl : effF f = true) (hap : ap P t = some (size, bytes)) (hx : opv fr x = some (.slice oa k c)) (hy : opv fr y = some (.slice (some ⟨bb, 0, none⟩) m c')) (hT : Take blk hs rest)
    (hr : RowOk oa c size xs blk) (hk : xs.length = k * size) (hm : (bb, news) ∈ rest) (hl : news.length = m * size) (h0 : 0 < m) (hf : Flat news) (hb : k + m ≤ 1000000) (hby : bytes ≤ 1000000) (hn : d < n.n)
    (h : ∀ oa2 c2 blk2, RowOk oa2 c2 size (xs ++ news) blk2 → ∃ S', Kp f S (blk2 ++ rest) S' ∧ Rk P n B w0 ops K fl l S' ((d, .slice oa2 (k + m) c2) :: fr) (blk2 ++ rest)) :
    Rk P n B w0 ops K (f :: fl) (⟨some d, .call ⟨.builtin .append, #[x, y], #[t, t]⟩, ty, pos, aft, none⟩ :: l) S fr hs := by
  refine k_eff (R := fun u h => ∃ oa2 c2 blk2, u = .slice oa2 (k + m) c2 ∧ RowOk oa2 c2 size (xs ++ news) blk2 ∧ h = blk2 ++ rest) hfl rfl (fun a ha F w hw => ?_) ?_
  · obtain ⟨oa2, c2, blk2, w2, h1, h2, h3⟩ := run_appO (P := P) (t' := ty) (pos := pos) (aft := aft) (dst := some d) (rest := F ++ rest) hap ha hx hy hw hT.app hr hk (List.mem_append_right F hm) hl h0 hf hb hby
    rw [h1]
    refine ⟨blk2 ++ rest, ⟨oa2, c2, blk2, rfl, h2, rfl⟩, h3.perm ?_⟩
    rw [← List.append_assoc, ← List.append_assoc]
    exact List.perm_append_comm.append_right rest
  · rintro a ha u h' ⟨oa2, c2, blk2, rfl, h2, rfl⟩
    obtain ⟨S', hk', hr'⟩ := h oa2 c2 blk2 h2
    exact ⟨S', hk', hr' _ (ha.put hn _)⟩
end
attribute [irreducible] Rk
end Go.Proofs.Ytnbickholedckaa
