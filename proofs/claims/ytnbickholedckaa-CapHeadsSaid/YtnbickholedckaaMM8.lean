/- slices.SortFunc at rows of numbers: the library's contract, turned to the walk's own words. -/
import Derived.Shelf.SlSortCmp.WholeK
import Derived.Test.YtnbickholedckaaMM7
namespace Go.Proofs.Ytnbickholedckaa
open Go.RowKit Go.Shelf Go.Sort
section
variable {P : Program} {B : Nat} {w0 : Wd} {hs : HS}
/-- What memory is behind a call that has kept all: what it was, and more. -/
theorem hp_grow {W w : World} {h : HS} (hw : Hp W.heap.size ⟨W, []⟩ w h) : ∃ q os, w = grow (W.drewN q) os := by
  refine ⟨w.drawn - W.drawn, w.heap.extract W.heap.size w.heap.size, ?_⟩
  have hd : W.drawn ≤ w.drawn := hw.dr
  have hsz : W.heap.size ≤ w.heap.size := hw.below.size
  have e : w.heap = W.heap ++ w.heap.extract W.heap.size w.heap.size := by
    apply Array.ext_getElem?
    intro i
    rw [Array.getElem?_append]
    by_cases hi : i < W.heap.size
    · rw [if_pos hi]; exact hw.below.block i hi
    · rw [if_neg hi, Array.getElem?_extract]
      by_cases h2 : i - W.heap.size < min w.heap.size w.heap.size - W.heap.size
      · rw [if_pos h2]; congr 1; omega
      · rw [if_neg h2]; exact Array.getElem?_eq_none (by omega)
  have h1 : w.os = W.os := hw.below.os
  have h2 : w.tape = W.tape := hw.below.tape
  have h3 : w.output = W.output := hw.below.output
  cases w
  cases W
  simp only [grow, World.drewN] at *
  subst h1 h2 h3
  rw [← e]
  congr 1
  omega
theorem fn_grow {g : Nat} {args : Array Value} {u : Value} {W : World} (h : Fn P g args W.heap.size ⟨W, []⟩ [] (fun v _ => v = u)) : Calls P g args W fun e w' => e = .returned u ∧ ∃ q os', w' = grow (W.drewN q) os' :=
  ((fn_el h) W (Hp.refl W)).mono fun _ _ ⟨_, _, he, hv, hw⟩ => ⟨by rw [he, hv], hp_grow hw⟩
/-! ### Rows of k numbers -/
theorem gD_l {l r : List Int} {i : Nat} (h : i < l.length) : (l ++ r).getD i 0 = l.getD i 0 := by
  rw [List.getD_eq_getElem?_getD, List.getD_eq_getElem?_getD, List.getElem?_append_left h]
theorem gD_r {l r : List Int} {i : Nat} (h : l.length ≤ i) : (l ++ r).getD i 0 = r.getD (i - l.length) 0 := by
  rw [List.getD_eq_getElem?_getD, List.getD_eq_getElem?_getD, List.getElem?_append_right h]
def Rw (k : Nat) : Type := { x : List Int // x.length = k }
instance (k : Nat) : Inhabited (Rw k) := ⟨⟨List.replicate k 0, by simp⟩⟩
def encR {k : Nat} (x : Rw k) : List Value := ivs x.1
def rw_ (k : Nat) (l : List Int) (i : Nat) : Rw k := ⟨(List.range k).map fun j => l.getD (i * k + j) 0, by simp⟩
def rwl (k n : Nat) (l : List Int) : List (Rw k) := (List.range n).map (rw_ k l)
def fla {k : Nat} (d : List (Rw k)) : List Int := (d.map (·.1)).flatten
theorem fla_len {k : Nat} : ∀ d : List (Rw k), (fla d).length = d.length * k
  | [] => by simp [fla]
  | x :: d => by
    have := fla_len d
    unfold fla at this ⊢
    simp only [List.map_cons, List.flatten_cons, List.length_append, List.length_cons, Nat.add_mul, Nat.one_mul, this, x.2]
    omega
theorem fla_get {k : Nat} : ∀ (d : List (Rw k)) (i j : Nat), i < d.length → j < k → (fla d).getD (i * k + j) 0 = (d.getD i default).1.getD j 0
  | [], i, j, h, _ => by cases h
  | x :: d, 0, j, _, hj => by
    unfold fla
    simp only [List.map_cons, List.flatten_cons, Nat.zero_mul, Nat.zero_add, List.getD_cons_zero]
    rw [gD_l (by rw [x.2]; exact hj)]
  | x :: d, i + 1, j, h, hj => by
    have := fla_get d i j (by simpa using h) hj
    unfold fla at this ⊢
    simp only [List.map_cons, List.flatten_cons, List.getD_cons_succ]
    rw [gD_r (by rw [x.2, Nat.add_mul, Nat.one_mul]; omega), x.2, ← this]
    congr 1
    rw [Nat.add_mul, Nat.one_mul]; omega
theorem rw_fla {k : Nat} {d : List (Rw k)} {i : Nat} (h : i < d.length) : rw_ k (fla d) i = d.getD i default := by
  apply Subtype.ext
  unfold rw_
  apply List.ext_getElem?
  intro j
  rw [List.getElem?_map]
  by_cases hj : j < k
  · have hx : j < (d.getD i default).1.length := by rw [(d.getD i default).2]; exact hj
    rw [List.getElem?_range hj, Option.map_some, fla_get d i j h hj, List.getElem?_eq_getElem hx, List.getD_eq_getElem?_getD, List.getElem?_eq_getElem hx]; rfl
  · rw [List.getElem?_eq_none (by simp; omega), List.getElem?_eq_none (by rw [(d.getD i default).2]; omega)]; rfl
theorem rwl_fla {k : Nat} (d : List (Rw k)) : rwl k d.length (fla d) = d := by
  apply List.ext_getElem?
  intro i
  unfold rwl
  rw [List.getElem?_map]
  by_cases hi : i < d.length
  · rw [List.getElem?_range hi, Option.map_some, rw_fla hi, List.getElem?_eq_getElem hi, List.getD_eq_getElem?_getD, List.getElem?_eq_getElem hi]; rfl
  · rw [List.getElem?_eq_none (by simp; omega), List.getElem?_eq_none (by omega)]; rfl
theorem get_rwl {k n : Nat} {l : List Int} {i : Nat} (h : i < n) : (rwl k n l).toArray[i]! = rw_ k l i := by
  rw [getElem!_pos _ i (by simpa [rwl] using h)]
  simp [rwl]
theorem rwl_len (k n : Nat) (l : List Int) : (rwl k n l).length = n := by simp [rwl]
theorem rwl_size (k n : Nat) (l : List Int) : (rwl k n l).toArray.size = n := by simp [rwl]
/-- The flat row. -/
theorem flat_rwl {k n : Nat} {l : List Int} (hl : l.length = n * k) : flatK encR k (rwl k n l).toArray = (ivs l).toArray := by
  refine ext_get! (by simp [rwl_len, ivs_length, hl]) fun t ht => ?_
  have ht' : t < n * k := by simpa [rwl_len] using ht
  have k0 : 0 < k := by rcases Nat.eq_zero_or_pos k with h | h; · subst h; simp at ht'
                        · exact h
  rw [get_flatK _ _ _ _ (by rw [rwl_size]; exact ht')]
  have hq : t / k < n := (Nat.div_lt_iff_lt_mul k0).2 ht'
  have hr : t % k < k := Nat.mod_lt _ k0
  rw [get_rwl hq]
  rw [getElem!_pos _ (t % k) (by rw [encR, ivs_length, (rw_ k l (t / k)).2]; exact hr), getElem!_pos _ t (by simp [ivs_length]; omega)]
  simp only [encR, rw_, ivs, List.getElem_map, List.getElem_range, List.getElem_toArray]
  have e : t / k * k + t % k = t := Nat.div_add_mod' t k
  rw [e, List.getD_eq_getElem?_getD, List.getElem?_eq_getElem (by omega)]; rfl
theorem rwl_of_flat {k n : Nat} {d : List (Rw k)} (hn : d.length = n) : flatK encR k d.toArray = (ivs (fla d)).toArray := by
  subst hn
  rw [← flat_rwl (n := d.length) (k := k) (l := fla d) (fla_len d), rwl_fla]
/-! ### The call -/
theorem hp_put {b k n : Nat} {l z : List Value} {F : Array Value} {w : World} {q : Nat} {os : Array Obj} (hw : Hp B w0 w ((b, l ++ z) :: hs)) (hF : F.size = l.length) : Hp B w0 (grow (putRow id (Sort.ahead w q) b 0 F) os) ((b, F.toList ++ z) :: hs) := by
  obtain ⟨hB, e, he⟩ := hw.mem _ (.head _)
  simp only at hB he
  have hlt : b < w.heap.size := (Array.getElem?_eq_some_iff.1 he).1
  have hblk : ∀ i, i ≠ b → i < w.heap.size → (grow (putRow id (Sort.ahead w q) b 0 F) os).heap[i]? = w.heap[i]? := fun i hi hl => by
    simp only [grow, putRow, mapBlock, Sort.ahead]
    rw [Array.getElem?_append, if_pos (by simpa using hl), Array.getElem?_modify, if_neg (Ne.symm hi)]
  have hb : (grow (putRow id (Sort.ahead w q) b 0 F) os).heap[b]? = some (.cells (F.toList ++ z).toArray e (0, 0)) := by
    simp only [grow, putRow, mapBlock, Sort.ahead]
    rw [Array.getElem?_append, if_pos (by simpa using hlt), Array.getElem?_modify, if_pos rfl, he]
    simp only [Option.map_some, onCells]
    congr 2
    apply Array.ext
    · simp [putCells, hF]
    · intro i h1 h2
      simp only [putCells, Array.getElem_mapIdx]
      by_cases hi : i < F.size
      · rw [if_pos ⟨Nat.zero_le _, by omega⟩]
        simp only [Nat.sub_zero, id]
        rw [getElem!_pos F i hi]
        simp only [List.getElem_toArray]
        rw [List.getElem_append_left (by simpa using hi)]
        simp
      · rw [if_neg (by omega)]
        simp only [List.getElem_toArray]
        rw [List.getElem_append_right (by omega), List.getElem_append_right (by simpa using hi)]
        congr 1
        simp [hF]
  have ne : ∀ p ∈ hs, p.1 ≠ b := fun p hp hpe => by
    have := hw.nodup
    simp only [List.map_cons, List.nodup_cons] at this
    exact this.1 (hpe ▸ List.mem_map_of_mem hp)
  refine ⟨⟨hw.below.os, hw.below.tape, hw.below.output, ?_, fun i hi => ?_⟩, ?_, fun p hp => ?_, ?_, fun p hp => ?_, hw.ond, ?_⟩
  · have := hw.below.size
    simp [grow, putRow, mapBlock, Sort.ahead]; omega
  · rw [hblk i (by omega) (by omega)]; exact hw.below.block i hi
  · have := hw.big
    simp [grow, putRow, mapBlock, Sort.ahead]; omega
  · rcases List.mem_cons.1 hp with rfl | hp
    · exact ⟨hB, e, hb⟩
    · obtain ⟨h1, e', h2⟩ := hw.mem p (.tail _ hp)
      exact ⟨h1, e', by rw [hblk p.1 (ne p hp) (Array.getElem?_eq_some_iff.1 h2).1]; exact h2⟩
  · have := hw.nodup
    simpa using this
  · obtain ⟨h1, h2, h3⟩ := hw.obj p hp
    refine ⟨h1, ?_, h3⟩
    rw [hblk p.1 (fun hpe => ?_) (Array.getElem?_eq_some_iff.1 h2).1]; exact h2
    rw [hpe, he, Option.some.injEq] at h2
    rw [← h2] at h3
    cases h3
  · have := hw.dr
    simp [grow, putRow, mapBlock, Sort.ahead]; omega
/-- What a sort leaves: the rows in another order, none less than one before it. -/
structure Srt (k n : Nat) (cf : Rw k → Rw k → Int) (l l' : List Int) : Prop where
  len : l'.length = n * k
  perm : (rwl k n l').Perm (rwl k n l)
  sorted : ∀ i j, i < j → j < n → ¬ cf (rw_ k l' j) (rw_ k l' i) < 0
theorem fn_sort {ρ : Ren} (L : SlLaysF0.n6 P ρ) {k n c g b : Nat} (aE : ∀ w, (isAgg (ρ.t 24)).run P w = .ok true w) (zE : ∀ w, (Go.sizeOf (ρ.t 24)).run P w = .ok k w) {cf : Rw k → Rw k → Int} (hO : SWO (ltOf cf)) (hg : isGo P g = true)
    (hc : ∀ (x y : Rw k) B w0, Fn P g #[.agg (ivs x.1).toArray, .agg (ivs y.1).toArray] B w0 [] (fun v _ => v = iv (cf x y))) {l : List Int} {z : List Value} (hl : l.length = n * k) (hn : n < 4611686018427387904) :
    Fn P (ρ.f 6) #[.slice (some ⟨b, 0, none⟩) n c, .func (.func g) #[] #[]] B w0 ((b, ivs l ++ z) :: hs) (fun v h => v = .tuple #[] ∧ ∃ l', Srt k n cf l l' ∧ h = (b, ivs l' ++ z) :: hs) := fn_mk fun w hw => by
  obtain ⟨hB, e, he⟩ := hw.mem _ (.head _)
  simp only at hB he
  have hlt : b < w.heap.size := (Array.getElem?_eq_some_iff.1 he).1
  have hsz := rwl_size k n l
  have hH : HoldsK encR k w b 0 (rwl k n l).toArray := by
    unfold HoldsK Holds
    rw [flat_rwl hl]
    intro j hj
    have hj' : j < l.length := by simpa [ivs_length] using hj
    rw [Nat.zero_add]
    refine ⟨?_, ?_⟩
    · rw [hw.cell (.head _) j, List.getElem?_append_left (by rw [ivs_length]; exact hj')]
      rw [getElem!_pos _ j hj]
      simp [ivs, hj']
    · exact hw.free (.head _) j
  have eg : ∀ args w, (callFunc g args).run P w = .ok (.enter g args) w := fun args w => by
    unfold isGo at hg
    split at hg
    · rename_i fn hfn
      simp only [Bool.and_eq_true, Bool.not_eq_true'] at hg
      obtain ⟨h1, h2⟩ := hg
      have h3 : ¬ fn.body = none := by intro hb; simp [hb] at h1
      have h2' : ¬ fn.name = "runtime.NumGoroutine" := by simpa using h2
      simp [callFunc, hfn, h2', h3]
    · cases hg
  have hcmp : CmpLays P g #[] encR k cf b 0 (rwl k n l).toArray.size w := fun m os dk _ x y => by
    have := fn_grow (hc x y (sortWorldK encR k w b 0 m dk os).heap.size ⟨sortWorldK encR k w b 0 m dk os, []⟩)
    simpa [encR, iv] using this
  have h := AnyQ.slices_SortFunc L k aE zE encR (fun x => by rw [encR, ivs_length, x.2]) (fun x v hv => by
    simp only [encR, ivs, List.mem_map] at hv
    obtain ⟨i, _, rfl⟩ := hv
    rfl) cf hO g #[] b 0 c (rwl k n l).toArray w eg hcmp hH hlt (by rw [hsz]; exact hn)
  rw [hsz] at h
  refine h.mono ?_
  rintro e' w' ⟨rfl, d', q, os, hp, hs', rfl⟩
  have hd : d'.size = n := by rw [hp.1, hsz]
  refine ⟨_, _, rfl, ⟨rfl, fla d'.toList, ⟨by rw [fla_len]; simp [hd], ?_, ?_⟩, rfl⟩, ?_⟩
  · have h2 := hp.2.2
    rw [Array.extract_eq_self_of_le (by omega), Array.extract_eq_self_of_le (Nat.le_of_eq hsz)] at h2
    have : rwl k n (fla d'.toList) = d'.toList := by have := rwl_fla d'.toList; rwa [Array.length_toList, hd] at this
    rw [this]
    simpa using h2
  · intro i j hij hj
    have h2 := hs' i j (Nat.zero_le _) hij hj
    rw [rw_fla (by simp; omega), rw_fla (by simp; omega)]
    simp only [ltOf, decide_eq_false_iff_not] at h2
    rw [getElem!_pos d' i (by omega), getElem!_pos d' j (by omega)] at h2
    simpa [List.getD_eq_getElem?_getD, hd, hj, show i < n by omega] using h2
  · have e2 := rwl_of_flat (k := k) (d := d'.toList) (n := n) (by simp [hd])
    have := hp_put (k := k) (n := n) (q := q) (os := os) (F := flatK encR k d') (l := ivs l) (z := z) hw (by simp [ivs_length, hl, hd])
    unfold sortWorldK putRowK
    rw [show (ivs (fla d'.toList)) = (flatK encR k d').toList from by rw [show d' = d'.toList.toArray from rfl, e2]]
    exact this
end
end Go.Proofs.Ytnbickholedckaa
