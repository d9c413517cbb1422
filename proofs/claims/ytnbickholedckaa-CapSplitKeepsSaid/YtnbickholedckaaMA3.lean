/- slices.SortFunc at rows of numbers: the library's contract, turned to the walk's own words. -/
import Derived.Shelf.SlSortCmp.WholeK
import Derived.Test.YtnbickholedckaaMA2
import Derived.Laws.Cover3
import Derived.Shelf.Sort.Plain
import Derived.Shelf.Slices.CompactI
namespace Go.Proofs.Ytnbickholedckaa
open Go.RowKit Go.Shelf Go.Sort
section
variable {P : Program} {B : Nat} {w0 : Wd} {hs : HS}
/-- What memory is behind a call that has kept all: what it was, and more. -/
theorem hp_grow {W w : World} {h : HS} (hw : Hp W.heap.size ⟨W, []⟩ w h) : ∃ q os, w = grow (W.drewN q) os := by
  refine ⟨w.drawn - W.drawn, w.heap.extract W.heap.size w.heap.size, ?_⟩
  have hd : W.drawn ≤ w.drawn := hw.dr
  have hsz : W.heap.size ≤ w.heap.size := hw.below.size
  have e : w.heap = W.heap ++ w.heap.extract W.heap.size w.heap.size := by
    apply Array.ext_getElem?
    intro i
    rw [Array.getElem?_append]
    by_cases hi : i < W.heap.size
    · rw [if_pos hi]; exact hw.below.block i hi
    · rw [if_neg hi, Array.getElem?_extract]
      by_cases h2 : i - W.heap.size < min w.heap.size w.heap.size - W.heap.size
      · rw [if_pos h2]; congr 1; omega
      · rw [if_neg h2]; exact Array.getElem?_eq_none (by omega)
  have h1 : w.os = W.os := hw.below.os
  have h2 : w.tape = W.tape := hw.below.tape
  have h3 : w.output = W.output := hw.below.output
  cases w
  cases W
  simp only [grow, World.drewN] at *
  subst h1 h2 h3
  rw [← e]
  congr 1
  omega
theorem fn_grow {g : Nat} {args : Array Value} {u : Value} {W : World} (h : Fn P g args W.heap.size ⟨W, []⟩ [] (fun v _ => v = u)) : Calls P g args W fun e w' => e = .returned u ∧ ∃ q os', w' = grow (W.drewN q) os' :=
  ((fn_el h) W (Hp.refl W)).mono fun _ _ ⟨_, _, he, hv, hw⟩ => ⟨by rw [he, hv], hp_grow hw⟩
/-! ### Rows of k numbers -/
theorem gD_l {l r : List Int} {i : Nat} (h : i < l.length) : (l ++ r).getD i 0 = l.getD i 0 := by
  rw [List.getD_eq_getElem?_getD, List.getD_eq_getElem?_getD, List.getElem?_append_left h]
theorem gD_r {l r : List Int} {i : Nat} (h : l.length ≤ i) : (l ++ r).getD i 0 = r.getD (i - l.length) 0 := by
  rw [List.getD_eq_getElem?_getD, List.getD_eq_getElem?_getD, List.getElem?_append_right h]
def Rw (k : Nat) : Type := { x : List Int // x.length = k }
instance (k : Nat) : Inhabited (Rw k) := ⟨⟨List.replicate k 0, by simp⟩⟩
def encR {k : Nat} (x : Rw k) : List Value := ivs x.1
def rw_ (k : Nat) (l : List Int) (i : Nat) : Rw k := ⟨(List.range k).map fun j => l.getD (i * k + j) 0, by simp⟩
def rwl (k n : Nat) (l : List Int) : List (Rw k) := (List.range n).map (rw_ k l)
def fla {k : Nat} (d : List (Rw k)) : List Int := (d.map (·.1)).flatten
theorem fla_len {k : Nat} : ∀ d : List (Rw k), (fla d).length = d.length * k
  | [] => by simp [fla]
  | x :: d => by
    have := fla_len d
    unfold fla at this ⊢
    simp only [List.map_cons, List.flatten_cons, List.length_append, List.length_cons, Nat.add_mul, Nat.one_mul, this, x.2]
    omega
theorem fla_get {k : Nat} : ∀ (d : List (Rw k)) (i j : Nat), i < d.length → j < k → (fla d).getD (i * k + j) 0 = (d.getD i default).1.getD j 0
  | [], i, j, h, _ => by cases h
  | x :: d, 0, j, _, hj => by
    unfold fla
    simp only [List.map_cons, List.flatten_cons, Nat.zero_mul, Nat.zero_add, List.getD_cons_zero]
    rw [gD_l (by rw [x.2]; exact hj)]
  | x :: d, i + 1, j, h, hj => by
    have := fla_get d i j (by simpa using h) hj
    unfold fla at this ⊢
    simp only [List.map_cons, List.flatten_cons, List.getD_cons_succ]
    rw [gD_r (by rw [x.2, Nat.add_mul, Nat.one_mul]; omega), x.2, ← this]
    congr 1
    rw [Nat.add_mul, Nat.one_mul]; omega
theorem rw_fla {k : Nat} {d : List (Rw k)} {i : Nat} (h : i < d.length) : rw_ k (fla d) i = d.getD i default := by
  apply Subtype.ext
  unfold rw_
  apply List.ext_getElem?
  intro j
  rw [List.getElem?_map]
  by_cases hj : j < k
  · have hx : j < (d.getD i default).1.length := by rw [(d.getD i default).2]; exact hj
    rw [List.getElem?_range hj, Option.map_some, fla_get d i j h hj, List.getElem?_eq_getElem hx, List.getD_eq_getElem?_getD, List.getElem?_eq_getElem hx]; rfl
  · rw [List.getElem?_eq_none (by simp; omega), List.getElem?_eq_none (by rw [(d.getD i default).2]; omega)]; rfl
theorem rwl_fla {k : Nat} (d : List (Rw k)) : rwl k d.length (fla d) = d := by
  apply List.ext_getElem?
  intro i
  unfold rwl
  rw [List.getElem?_map]
  by_cases hi : i < d.length
  · rw [List.getElem?_range hi, Option.map_some, rw_fla hi, List.getElem?_eq_getElem hi, List.getD_eq_getElem?_getD, List.getElem?_eq_getElem hi]; rfl
  · rw [List.getElem?_eq_none (by simp; omega), List.getElem?_eq_none (by omega)]; rfl
theorem get_rwl {k n : Nat} {l : List Int} {i : Nat} (h : i < n) : (rwl k n l).toArray[i]! = rw_ k l i := by
  rw [getElem!_pos _ i (by simpa [rwl] using h)]
  simp [rwl]
theorem rwl_len (k n : Nat) (l : List Int) : (rwl k n l).length = n := by simp [rwl]
theorem rwl_size (k n : Nat) (l : List Int) : (rwl k n l).toArray.size = n := by simp [rwl]
/-- The flat row. -/
theorem flat_rwl {k n : Nat} {l : List Int} (hl : l.length = n * k) : flatK encR k (rwl k n l).toArray = (ivs l).toArray := by
  refine ext_get! (by simp [rwl_len, ivs_length, hl]) fun t ht => ?_
  have ht' : t < n * k := by simpa [rwl_len] using ht
  have k0 : 0 < k := by rcases Nat.eq_zero_or_pos k with h | h; · subst h; simp at ht'
                        · exact h
  rw [get_flatK _ _ _ _ (by rw [rwl_size]; exact ht')]
  have hq : t / k < n := (Nat.div_lt_iff_lt_mul k0).2 ht'
  have hr : t % k < k := Nat.mod_lt _ k0
  rw [get_rwl hq]
  rw [getElem!_pos _ (t % k) (by rw [encR, ivs_length, (rw_ k l (t / k)).2]; exact hr), getElem!_pos _ t (by simp [ivs_length]; omega)]
  simp only [encR, rw_, ivs, List.getElem_map, List.getElem_range, List.getElem_toArray]
  have e : t / k * k + t % k = t := Nat.div_add_mod' t k
  rw [e, List.getD_eq_getElem?_getD, List.getElem?_eq_getElem (by omega)]; rfl
theorem rwl_of_flat {k n : Nat} {d : List (Rw k)} (hn : d.length = n) : flatK encR k d.toArray = (ivs (fla d)).toArray := by
  subst hn
  rw [← flat_rwl (n := d.length) (k := k) (l := fla d) (fla_len d), rwl_fla]
/-! ### The call -/
theorem hp_put {b k n : Nat} {l z : List Value} {F : Array Value} {w : World} {q : Nat} {os : Array Obj} (hw : Hp B w0 w ((b, l ++ z) :: hs)) (hF : F.size = l.length) : Hp B w0 (grow (putRow id (Sort.ahead w q) b 0 F) os) ((b, F.toList ++ z) :: hs) := by
  obtain ⟨hB, e, he⟩ := hw.mem _ (.head _)
  simp only at hB he
  have hlt : b < w.heap.size := (Array.getElem?_eq_some_iff.1 he).1
  have hblk : ∀ i, i ≠ b → i < w.heap.size → (grow (putRow id (Sort.ahead w q) b 0 F) os).heap[i]? = w.heap[i]? := fun i hi hl => by
    simp only [grow, putRow, mapBlock, Sort.ahead]
    rw [Array.getElem?_append, if_pos (by simpa using hl), Array.getElem?_modify, if_neg (Ne.symm hi)]
  have hb : (grow (putRow id (Sort.ahead w q) b 0 F) os).heap[b]? = some (.cells (F.toList ++ z).toArray e (0, 0)) := by
    simp only [grow, putRow, mapBlock, Sort.ahead]
    rw [Array.getElem?_append, if_pos (by simpa using hlt), Array.getElem?_modify, if_pos rfl, he]
    simp only [Option.map_some, onCells]
    congr 2
    apply Array.ext
    · simp [putCells, hF]
    · intro i h1 h2
      simp only [putCells, Array.getElem_mapIdx]
      by_cases hi : i < F.size
      · rw [if_pos ⟨Nat.zero_le _, by omega⟩]
        simp only [Nat.sub_zero, id]
        rw [getElem!_pos F i hi]
        simp only [List.getElem_toArray]
        rw [List.getElem_append_left (by simpa using hi)]
        simp
      · rw [if_neg (by omega)]
        simp only [List.getElem_toArray]
        rw [List.getElem_append_right (by omega), List.getElem_append_right (by simpa using hi)]
        congr 1
        simp [hF]
  have ne : ∀ p ∈ hs, p.1 ≠ b := fun p hp hpe => by
    have := hw.nodup
    simp only [List.map_cons, List.nodup_cons] at this
    exact this.1 (hpe ▸ List.mem_map_of_mem hp)
  refine ⟨⟨hw.below.os, hw.below.tape, hw.below.output, ?_, fun i hi => ?_⟩, ?_, fun p hp => ?_, ?_, fun p hp => ?_, hw.ond, ?_⟩
  · have := hw.below.size
    simp [grow, putRow, mapBlock, Sort.ahead]; omega
  · rw [hblk i (by omega) (by omega)]; exact hw.below.block i hi
  · have := hw.big
    simp [grow, putRow, mapBlock, Sort.ahead]; omega
  · rcases List.mem_cons.1 hp with rfl | hp
    · exact ⟨hB, e, hb⟩
    · obtain ⟨h1, e', h2⟩ := hw.mem p (.tail _ hp)
      exact ⟨h1, e', by rw [hblk p.1 (ne p hp) (Array.getElem?_eq_some_iff.1 h2).1]; exact h2⟩
  · have := hw.nodup
    simpa using this
  · obtain ⟨h1, h2, h3⟩ := hw.obj p hp
    refine ⟨h1, ?_, h3⟩
    rw [hblk p.1 (fun hpe => ?_) (Array.getElem?_eq_some_iff.1 h2).1]; exact h2
    rw [hpe, he, Option.some.injEq] at h2
    rw [← h2] at h3
    cases h3
  · have := hw.dr
    simp [grow, putRow, mapBlock, Sort.ahead]; omega
/-- What a sort leaves: the rows in another order, none less than one before it. -/
structure Srt (k n : Nat) (cf : Rw k → Rw k → Int) (l l' : List Int) : Prop where
  len : l'.length = n * k
  perm : (rwl k n l').Perm (rwl k n l)
  sorted : ∀ i j, i < j → j < n → ¬ cf (rw_ k l' j) (rw_ k l' i) < 0
theorem fn_sort {ρ : Ren} (L : SlLaysF0.n6 P ρ) {k n c g b : Nat} (aE : ∀ w, (isAgg (ρ.t 24)).run P w = .ok true w) (zE : ∀ w, (Go.sizeOf (ρ.t 24)).run P w = .ok k w) {cf : Rw k → Rw k → Int} (hO : SWO (ltOf cf)) (hg : isGo P g = true)
    (hc : ∀ (x y : Rw k) B w0, Fn P g #[.agg (ivs x.1).toArray, .agg (ivs y.1).toArray] B w0 [] (fun v _ => v = iv (cf x y))) {l : List Int} {z : List Value} (hl : l.length = n * k) (hn : n < 4611686018427387904) :
    Fn P (ρ.f 6) #[.slice (some ⟨b, 0, none⟩) n c, .func (.func g) #[] #[]] B w0 ((b, ivs l ++ z) :: hs) (fun v h => v = .tuple #[] ∧ ∃ l', Srt k n cf l l' ∧ h = (b, ivs l' ++ z) :: hs) := fn_mk fun w hw => by
  obtain ⟨hB, e, he⟩ := hw.mem _ (.head _)
  simp only at hB he
  have hlt : b < w.heap.size := (Array.getElem?_eq_some_iff.1 he).1
  have hsz := rwl_size k n l
  have hH : HoldsK encR k w b 0 (rwl k n l).toArray := by
    unfold HoldsK Holds
    rw [flat_rwl hl]
    intro j hj
    have hj' : j < l.length := by simpa [ivs_length] using hj
    rw [Nat.zero_add]
    refine ⟨?_, ?_⟩
    · rw [hw.cell (.head _) j, List.getElem?_append_left (by rw [ivs_length]; exact hj')]
      rw [getElem!_pos _ j hj]
      simp [ivs, hj']
    · exact hw.free (.head _) j
  have eg : ∀ args w, (callFunc g args).run P w = .ok (.enter g args) w := fun args w => by
    unfold isGo at hg
    split at hg
    · rename_i fn hfn
      simp only [Bool.and_eq_true, Bool.not_eq_true'] at hg
      obtain ⟨h1, h2⟩ := hg
      have h3 : ¬ fn.body = none := by intro hb; simp [hb] at h1
      have h2' : ¬ fn.name = "runtime.NumGoroutine" := by simpa using h2
      simp [callFunc, hfn, h2', h3]
    · cases hg
  have hcmp : CmpLays P g #[] encR k cf b 0 (rwl k n l).toArray.size w := fun m os dk _ x y => by
    have := fn_grow (hc x y (sortWorldK encR k w b 0 m dk os).heap.size ⟨sortWorldK encR k w b 0 m dk os, []⟩)
    simpa [encR, iv] using this
  have h := AnyQ.slices_SortFunc L k aE zE encR (fun x => by rw [encR, ivs_length, x.2]) (fun x v hv => by
    simp only [encR, ivs, List.mem_map] at hv
    obtain ⟨i, _, rfl⟩ := hv
    rfl) cf hO g #[] b 0 c (rwl k n l).toArray w eg hcmp hH hlt (by rw [hsz]; exact hn)
  rw [hsz] at h
  refine h.mono ?_
  rintro e' w' ⟨rfl, d', q, os, hp, hs', rfl⟩
  have hd : d'.size = n := by rw [hp.1, hsz]
  refine ⟨_, _, rfl, ⟨rfl, fla d'.toList, ⟨by rw [fla_len]; simp [hd], ?_, ?_⟩, rfl⟩, ?_⟩
  · have h2 := hp.2.2
    rw [Array.extract_eq_self_of_le (by omega), Array.extract_eq_self_of_le (Nat.le_of_eq hsz)] at h2
    have : rwl k n (fla d'.toList) = d'.toList := by have := rwl_fla d'.toList; rwa [Array.length_toList, hd] at this
    rw [this]
    simpa using h2
  · intro i j hij hj
    have h2 := hs' i j (Nat.zero_le _) hij hj
    rw [rw_fla (by simp; omega), rw_fla (by simp; omega)]
    simp only [ltOf, decide_eq_false_iff_not] at h2
    rw [getElem!_pos d' i (by omega), getElem!_pos d' j (by omega)] at h2
    simpa [List.getD_eq_getElem?_getD, hd, hj, show i < n by omega] using h2
  · have e2 := rwl_of_flat (k := k) (d := d'.toList) (n := n) (by simp [hd])
    have := hp_put (k := k) (n := n) (q := q) (os := os) (F := flatK encR k d') (l := ivs l) (z := z) hw (by simp [ivs_length, hl, hd])
    unfold sortWorldK putRowK
    rw [show (ivs (fla d'.toList)) = (flatK encR k d').toList from by rw [show d' = d'.toList.toArray from rfl, e2]]
    exact this
end
end Go.Proofs.Ytnbickholedckaa

namespace Go.Proofs.Ytnbickholedckaa
open Go.RowKit
section
variable {P : Program} {n : NN} {B : Nat} {w0 : Wd} {fr : FR} {hs : HS} {ty : TypeId}
theorem run_eqN {t e : TypeId} {oa : Option Addr} {m c : Nat} (hu : P.underlying t = some (.slice e)) (w : World) : (Op.equal t (.slice oa m c) (.slice none 0 0)).run P w = .ok oa.isNone w := run_equal_slice_nil w t e oa m c hu
theorem o_eqlN {t t' : TypeId} {x y : Operand} {b : Bool} {k m c : Nat} {oa : Option Addr} (ht : sc P t = some (b, k)) (hx : opv fr x = some (.slice oa m c)) (hy : opv fr y = some (.slice none 0 0)) : OpF P n B w0 (.binOp .eql t x y t') ty fr hs (.bool oa.isNone) := fun a w ha _ => by
  obtain ⟨e, hu, _⟩ := sc_el ht
  simp only [ex, execOp, ha.opv hx, ha.opv hy, Sem.run_bind]
  have : (eqGuard .eql t x y (.slice oa m c) (.slice none 0 0)).run P w = .ok () w := rfl
  rw [this]
  simp [binOp, run_eqN hu]
end
section
variable {P : Program} {n : NN} {B : Nat} {w0 : Wd} {fr : FR} {hs S : HS} {ty : TypeId} {K : Act → World → Prop} {ops : Array Oper} {l : List Oper} {d : Nat} {fl : List Nat} {pos : String} {aft : Array Edge} {v u r : Value}
theorem k_bs2 {t : TypeId} {x y : Operand} {z : List Value} {b : Bool} (hx : opv fr x = some v) (hy : opv fr y = some u) (h1 : v.cells = #[v]) (h2 : u.cells = #[u]) (ht : sc P t = some (b, 1)) (hz : zs P t = some z.toArray) (hn : d < n.n)
    (h : ∀ bb, Rk P n B w0 ops K fl l S ((d, .slice (some ⟨bb, 0, none⟩) 2 2) :: fr) ((bb, [v, u]) :: hs)) :
    Rk P n B w0 ops K (2 :: fl) (⟨some d, .buildSlice t 2 #[(0, x), (1, y)], ty, pos, aft, none⟩ :: l) S fr hs := k_new (some 2) rfl rfl (fun a ha => by
  have := run_bslice (P := P) (d := d) (ty := ty) (pos := pos) (aft := aft) (t := t) (xs := [(0, x), (1, y)]) (vs := [v, u]) (by simp [partv, hx, hy, enumV]) ht hz rfl ⟨by show v.cells.size = 1; rw [h1]; rfl, by show u.cells.size = 1; rw [h2]; rfl, trivial⟩ (by simp) ha
  rw [show flatV [v, u] = [v, u] by simp [flatV, h1, h2]] at this
  exact this) hn h
theorem k_bs3 {t : TypeId} {x y q : Operand} {z : List Value} {b : Bool} (hx : opv fr x = some v) (hy : opv fr y = some u) (hq : opv fr q = some r) (h1 : v.cells = #[v]) (h2 : u.cells = #[u]) (h3 : r.cells = #[r]) (ht : sc P t = some (b, 1)) (hz : zs P t = some z.toArray) (hn : d < n.n)
    (h : ∀ bb, Rk P n B w0 ops K fl l S ((d, .slice (some ⟨bb, 0, none⟩) 3 3) :: fr) ((bb, [v, u, r]) :: hs)) :
    Rk P n B w0 ops K (2 :: fl) (⟨some d, .buildSlice t 3 #[(0, x), (1, y), (2, q)], ty, pos, aft, none⟩ :: l) S fr hs := k_new (some 3) rfl rfl (fun a ha => by
  have := run_bslice (P := P) (d := d) (ty := ty) (pos := pos) (aft := aft) (t := t) (xs := [(0, x), (1, y), (2, q)]) (vs := [v, u, r]) (by simp [partv, hx, hy, hq, enumV]) ht hz rfl ⟨by show v.cells.size = 1; rw [h1]; rfl, by show u.cells.size = 1; rw [h2]; rfl, by show r.cells.size = 1; rw [h3]; rfl, trivial⟩ (by simp) ha
  rw [show flatV [v, u, r] = [v, u, r] by simp [flatV, h1, h2, h3]] at this
  exact this) hn h
end
end Go.Proofs.Ytnbickholedckaa

namespace Go.Proofs.Ytnbickholedckaa
open Go.RowKit Go.Shelf Go.Sort
section
variable {P : Program} {B : Nat} {w0 : Wd} {hs : HS}
theorem putRow_ivs (w : World) (b off : Nat) (l : List Int) : putRow (Value.int .i64) w b off l.toArray = putRow id w b off (ivs l).toArray := by
  unfold putRow
  congr 1
  funext c
  unfold putCells
  congr 1
  funext k x
  simp only [List.size_toArray, ivs_length]
  by_cases h : off ≤ k ∧ k < off + l.length
  · rw [if_pos h, if_pos h, getElem!_pos l.toArray (k - off) (by simp; omega), getElem!_pos (ivs l).toArray (k - off) (by simp [ivs_length]; omega)]
    simp [ivs, iv]
  · rw [if_neg h, if_neg h]
theorem holds_ivs {w : World} {b : Nat} {l : List Int} {z : List Value} (hw : Hp B w0 w ((b, ivs l ++ z) :: hs)) : Holds (Value.int .i64) w b 0 l.toArray := by
  intro j hj
  have hj' : j < l.length := by simpa using hj
  rw [Nat.zero_add]
  refine ⟨?_, hw.free (.head _) j⟩
  rw [hw.cell (.head _) j, List.getElem?_append_left (by rw [ivs_length]; exact hj'), getElem!_pos _ j hj]
  simp [ivs, iv, hj']
def srtI (l : List Int) : List Int := l.mergeSort fun x y => decide (x ≤ y)
theorem srtI_len (l : List Int) : (srtI l).length = l.length := List.length_mergeSort l
theorem srtI_mem {l : List Int} {x : Int} : x ∈ srtI l ↔ x ∈ l := List.mem_mergeSort
theorem srtI_ord (l : List Int) : (srtI l).Pairwise (· ≤ ·) := by
  have := List.pairwise_mergeSort (le := fun x y : Int => decide (x ≤ y)) (fun a b c h1 h2 => by simp at *; omega) (fun a b => by simp; omega) l
  exact this.imp fun h => by simpa using h
theorem fn_sortI {ρ : Ren} (L : Lays.n189 P ρ) {n c b : Nat} {l : List Int} {z : List Value} (hl : l.length = n) (hn : n < 4611686018427387904) :
    Fn P (ρ.f 189) #[.slice (some ⟨b, 0, none⟩) n c] B w0 ((b, ivs l ++ z) :: hs) (fun v h => v = .tuple #[] ∧ h = (b, ivs (srtI l) ++ z) :: hs) := fn_mk fun w hw => by
  subst hl
  obtain ⟨hB, e, he⟩ := hw.mem _ (.head _)
  simp only at hB he
  refine (Any.slices_Sort_int L b 0 c l w (holds_ivs hw) (Array.getElem?_eq_some_iff.1 he).1 hn).mono ?_
  rintro e' w' ⟨rfl, q, os, rfl⟩
  refine ⟨_, _, rfl, ⟨rfl, rfl⟩, ?_⟩
  have := hp_put (k := 1) (n := 0) (q := q) (os := os) (F := (ivs (srtI l)).toArray) (l := ivs l) (z := z) hw (by simp [ivs_length, srtI_len])
  rw [← putRow_ivs] at this
  exact this
def cpt (l : List Int) : List Int := Go.Lib.compact l
theorem cpt_le (l : List Int) : (cpt l).length ≤ l.length := by
  have := List.length_filter_le (Go.Lib.keeps l.toArray) (List.range l.length)
  simpa [cpt, Go.Lib.compact, Go.Lib.compactUpTo] using this
theorem fn_cpt {ρ : Ren} (L : Lays2.n20 P ρ) {n c b : Nat} {l : List Int} {z : List Value} (hl : l.length = n) (hn : n ≤ 1000000) (hc : n ≤ c) :
    Fn P (ρ.f 20) #[.slice (some ⟨b, 0, none⟩) n c] B w0 ((b, ivs l ++ z) :: hs) (fun v h => v = .slice (some ⟨b, 0, none⟩) (cpt l).length c ∧ h = (b, ivs (cpt l) ++ (ivs (List.replicate (n - (cpt l).length) 0) ++ z)) :: hs) := fn_mk fun w hw => by
  subst hl
  refine (Any.slices_Compact_int L b 0 c l w (holds_ivs hw) (by omega) hc).mono ?_
  rintro e' w' ⟨rfl, q, rfl⟩
  refine ⟨_, _, rfl, ⟨rfl, rfl⟩, ?_⟩
  have hle := cpt_le l
  have := hp_put (k := 1) (n := 0) (q := q) (os := #[]) (F := (ivs (cpt l ++ List.replicate (l.length - (cpt l).length) 0)).toArray) (l := ivs l) (z := z) hw (by simp [ivs_length]; omega)
  rw [← putRow_ivs, grow_empty] at this
  rw [show ivs (cpt l) ++ (ivs (List.replicate (l.length - (cpt l).length) 0) ++ z) = (ivs (cpt l ++ List.replicate (l.length - (cpt l).length) 0)) ++ z by simp [ivs]]
  exact this
/-! ### What a sorted list without repetitions is -/
theorem cpt_mem {l : List Int} {x : Int} : x ∈ cpt l ↔ x ∈ l := by
  unfold cpt Go.Lib.compact Go.Lib.compactUpTo
  constructor
  · intro h
    obtain ⟨j, hj, rfl⟩ := List.mem_map.1 h
    have hlt := List.mem_range.1 (List.mem_filter.1 hj).1
    rw [getElem!_pos l.toArray j (by simpa using hlt)]
    simp
  · intro h
    obtain ⟨j, hj, rfl⟩ := List.mem_iff_getElem.1 h
    have key : ∀ j, j < l.length → ∃ i, i < l.length ∧ Go.Lib.keeps l.toArray i = true ∧ l.toArray[i]! = l.toArray[j]! := fun j => by
      induction j with
      | zero => intro h0; exact ⟨0, h0, by simp [Go.Lib.keeps], rfl⟩
      | succ j ih =>
        intro h0
        by_cases e : l.toArray[j + 1]! = l.toArray[j]!
        · obtain ⟨i, a, b, c⟩ := ih (by omega)
          exact ⟨i, a, b, c.trans e.symm⟩
        · exact ⟨j + 1, h0, by unfold Go.Lib.keeps; exact decide_eq_true (.inr (by rw [Nat.add_sub_cancel]; exact e)), rfl⟩
    obtain ⟨i, a, b, c⟩ := key j hj
    refine List.mem_map.2 ⟨i, List.mem_filter.2 ⟨List.mem_range.2 a, b⟩, ?_⟩
    rw [c, getElem!_pos l.toArray j (by simpa using hj)]
    simp
theorem cpt_ord {l : List Int} (h : l.Pairwise (· ≤ ·)) : (cpt l).Pairwise (· < ·) := by
  unfold cpt Go.Lib.compact Go.Lib.compactUpTo
  rw [List.pairwise_map]
  have key : ∀ i j, i < j → j < l.length → Go.Lib.keeps l.toArray j = true → l.toArray[i]! < l.toArray[j]! := fun i j hij hj hk => by
    have g : ∀ t, t < l.length → ∃ h : t < l.length, l.toArray[t]! = l[t] := fun t ht => ⟨ht, by rw [getElem!_pos l.toArray t (by simpa using ht)]; simp⟩
    have hle : ∀ a b, a ≤ b → b < l.length → l.toArray[a]! ≤ l.toArray[b]! := fun a b hab hb => by
      obtain ⟨ha', e1⟩ := g a (by omega)
      obtain ⟨hb', e2⟩ := g b hb
      rw [e1, e2]
      by_cases e : a = b
      · subst e; exact Int.le_refl _
      · exact List.pairwise_iff_getElem.1 h a b ha' hb' (by omega)
    simp only [Go.Lib.keeps, decide_eq_true_eq] at hk
    have h1 := hle i (j - 1) (by omega) (by omega)
    have h2 := hle (j - 1) j (by omega) hj
    rcases hk with hk | hk
    · omega
    · omega
  have hr : ((List.range l.length).filter (Go.Lib.keeps l.toArray)).Pairwise (· < ·) := (List.pairwise_lt_range).filter _
  refine List.Pairwise.imp_of_mem ?_ hr
  intro a b ha hb hab
  exact key a b hab (List.mem_range.1 (List.mem_filter.1 hb).1) (List.mem_filter.1 hb).2
end
end Go.Proofs.Ytnbickholedckaa
