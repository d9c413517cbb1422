/- A row put whole: memory behind a sort (for frames that say nothing of draws). -/
import Derived.Shelf.Sort.Plain
import Derived.Test.YtmblgbcipniecaaGreatDoorMA2
import Derived.Laws.Cover3
import Derived.Shelf.Slices.CompactI
namespace Go.Proofs.YtmblgbcipniecaaGreatDoor
open Go.RowKit Go.Shelf Go.Sort
section
variable {P : Program} {B : Nat} {w0 : Wd} {hs : HS}
theorem hp_put {b k n : Nat} {l z : List Value} {F : Array Value} {w : World} {q : Nat} {os : Array Obj} (hw : Hp B w0 w ((b, l ++ z) :: hs)) (hF : F.size = l.length) : Hp B w0 (grow (putRow id (Sort.ahead w q) b 0 F) os) ((b, F.toList ++ z) :: hs) := by
  obtain ⟨hB, e, he⟩ := hw.mem _ (.head _)
  simp only at hB he
  have hlt : b < w.heap.size := (Array.getElem?_eq_some_iff.1 he).1
  have hblk : ∀ i, i ≠ b → i < w.heap.size → (grow (putRow id (Sort.ahead w q) b 0 F) os).heap[i]? = w.heap[i]? := fun i hi hl => by
    simp only [grow, putRow, mapBlock, Sort.ahead]
    rw [Array.getElem?_append, if_pos (by simpa using hl), Array.getElem?_modify, if_neg (Ne.symm hi)]
  have hb : (grow (putRow id (Sort.ahead w q) b 0 F) os).heap[b]? = some (.cells (F.toList ++ z).toArray e (0, 0)) := by
    simp only [grow, putRow, mapBlock, Sort.ahead]
    rw [Array.getElem?_append, if_pos (by simpa using hlt), Array.getElem?_modify, if_pos rfl, he]
    simp only [Option.map_some, onCells]
    congr 2
    apply Array.ext
    · simp [putCells, hF]
    · intro i h1 h2
      simp only [putCells, Array.getElem_mapIdx]
      by_cases hi : i < F.size
      · rw [if_pos ⟨Nat.zero_le _, by omega⟩]
        simp only [Nat.sub_zero, id]
        rw [getElem!_pos F i hi]
        simp only [List.getElem_toArray]
        rw [List.getElem_append_left (by simpa using hi)]
        simp
      · rw [if_neg (by omega)]
        simp only [List.getElem_toArray]
        rw [List.getElem_append_right (by omega), List.getElem_append_right (by simpa using hi)]
        congr 1
        simp [hF]
  have ne : ∀ p ∈ hs, p.1 ≠ b := fun p hp hpe => by
    have := hw.nodup
    simp only [List.map_cons, List.nodup_cons] at this
    exact this.1 (hpe ▸ List.mem_map_of_mem hp)
  refine ⟨⟨hw.below.os, hw.below.tape, hw.below.output, ?_, fun i hi => ?_⟩, ?_, fun p hp => ?_, ?_, fun p hp => ?_, hw.ond⟩
  · have := hw.below.size
    simp [grow, putRow, mapBlock, Sort.ahead]; omega
  · rw [hblk i (by omega) (by omega)]; exact hw.below.block i hi
  · have := hw.big
    simp [grow, putRow, mapBlock, Sort.ahead]; omega
  · rcases List.mem_cons.1 hp with rfl | hp
    · exact ⟨hB, e, hb⟩
    · obtain ⟨h1, e', h2⟩ := hw.mem p (.tail _ hp)
      exact ⟨h1, e', by rw [hblk p.1 (ne p hp) (Array.getElem?_eq_some_iff.1 h2).1]; exact h2⟩
  · have := hw.nodup
    simpa using this
  · obtain ⟨h1, h2, h3⟩ := hw.obj p hp
    refine ⟨h1, ?_, fun q hq => ?_⟩
    · rw [hblk p.1 (fun hpe => h3 _ (.head _) hpe.symm) (Array.getElem?_eq_some_iff.1 h2).1]; exact h2
    · rcases List.mem_cons.1 hq with rfl | hq
      · exact h3 (b, l ++ z) (.head _)
      · exact h3 q (.tail _ hq)
end
end Go.Proofs.YtmblgbcipniecaaGreatDoor

namespace Go.Proofs.YtmblgbcipniecaaGreatDoor
open Go.RowKit
section
variable {P : Program} {n : NN} {B : Nat} {w0 : Wd} {fr : FR} {hs : HS} {ty : TypeId}
theorem run_eqN {t e : TypeId} {oa : Option Addr} {m c : Nat} (hu : P.underlying t = some (.slice e)) (w : World) : (Op.equal t (.slice oa m c) (.slice none 0 0)).run P w = .ok oa.isNone w := run_equal_slice_nil w t e oa m c hu
theorem o_eqlN {t t' : TypeId} {x y : Operand} {b : Bool} {k m c : Nat} {oa : Option Addr} (ht : sc P t = some (b, k)) (hx : opv fr x = some (.slice oa m c)) (hy : opv fr y = some (.slice none 0 0)) : OpF P n B w0 (.binOp .eql t x y t') ty fr hs (.bool oa.isNone) := fun a w ha _ => by
  obtain ⟨e, hu, _⟩ := sc_el ht
  simp only [ex, execOp, ha.opv hx, ha.opv hy, Sem.run_bind]
  have : (eqGuard .eql t x y (.slice oa m c) (.slice none 0 0)).run P w = .ok () w := rfl
  rw [this]
  simp [binOp, run_eqN hu]
end
section
variable {P : Program} {n : NN} {B : Nat} {w0 : Wd} {fr : FR} {hs S : HS} {ty : TypeId} {K : Act → World → Prop} {ops : Array Oper} {l : List Oper} {d : Nat} {fl : List Nat} {pos : String} {aft : Array Edge} {v u r : Value}
theorem k_bs2 {t : TypeId} {x y : Operand} {z : List Value} {b : Bool} (hx : opv fr x = some v) (hy : opv fr y = some u) (h1 : v.cells = #[v]) (h2 : u.cells = #[u]) (ht : sc P t = some (b, 1)) (hz : zs P t = some z.toArray) (hn : d < n.n)
    (h : ∀ bb, Rk P n B w0 ops K fl l S ((d, .slice (some ⟨bb, 0, none⟩) 2 2) :: fr) ((bb, [v, u]) :: hs)) :
    Rk P n B w0 ops K (2 :: fl) (⟨some d, .buildSlice t 2 #[(0, x), (1, y)], ty, pos, aft, none⟩ :: l) S fr hs := k_new (some 2) rfl rfl (fun a ha => by
  have := run_bslice (P := P) (d := d) (ty := ty) (pos := pos) (aft := aft) (t := t) (xs := [(0, x), (1, y)]) (vs := [v, u]) (by simp [partv, hx, hy, enumV]) ht hz rfl ⟨by show v.cells.size = 1; rw [h1]; rfl, by show u.cells.size = 1; rw [h2]; rfl, trivial⟩ (by simp) ha
  rw [show flatV [v, u] = [v, u] by simp [flatV, h1, h2]] at this
  exact this) hn h
theorem k_bs3 {t : TypeId} {x y q : Operand} {z : List Value} {b : Bool} (hx : opv fr x = some v) (hy : opv fr y = some u) (hq : opv fr q = some r) (h1 : v.cells = #[v]) (h2 : u.cells = #[u]) (h3 : r.cells = #[r]) (ht : sc P t = some (b, 1)) (hz : zs P t = some z.toArray) (hn : d < n.n)
    (h : ∀ bb, Rk P n B w0 ops K fl l S ((d, .slice (some ⟨bb, 0, none⟩) 3 3) :: fr) ((bb, [v, u, r]) :: hs)) :
    Rk P n B w0 ops K (2 :: fl) (⟨some d, .buildSlice t 3 #[(0, x), (1, y), (2, q)], ty, pos, aft, none⟩ :: l) S fr hs := k_new (some 3) rfl rfl (fun a ha => by
  have := run_bslice (P := P) (d := d) (ty := ty) (pos := pos) (aft := aft) (t := t) (xs := [(0, x), (1, y), (2, q)]) (vs := [v, u, r]) (by simp [partv, hx, hy, hq, enumV]) ht hz rfl ⟨by show v.cells.size = 1; rw [h1]; rfl, by show u.cells.size = 1; rw [h2]; rfl, by show r.cells.size = 1; rw [h3]; rfl, trivial⟩ (by simp) ha
  rw [show flatV [v, u, r] = [v, u, r] by simp [flatV, h1, h2, h3]] at this
  exact this) hn h
end
end Go.Proofs.YtmblgbcipniecaaGreatDoor

namespace Go.Proofs.YtmblgbcipniecaaGreatDoor
open Go.RowKit Go.Shelf Go.Sort
section
variable {P : Program} {B : Nat} {w0 : Wd} {hs : HS}
theorem putRow_ivs (w : World) (b off : Nat) (l : List Int) : putRow (Value.int .i64) w b off l.toArray = putRow id w b off (ivs l).toArray := by
  unfold putRow
  congr 1
  funext c
  unfold putCells
  congr 1
  funext k x
  simp only [List.size_toArray, ivs_length]
  by_cases h : off ≤ k ∧ k < off + l.length
  · rw [if_pos h, if_pos h, getElem!_pos l.toArray (k - off) (by simp; omega), getElem!_pos (ivs l).toArray (k - off) (by simp [ivs_length]; omega)]
    simp [ivs, iv]
  · rw [if_neg h, if_neg h]
theorem holds_ivs {w : World} {b : Nat} {l : List Int} {z : List Value} (hw : Hp B w0 w ((b, ivs l ++ z) :: hs)) : Holds (Value.int .i64) w b 0 l.toArray := by
  intro j hj
  have hj' : j < l.length := by simpa using hj
  rw [Nat.zero_add]
  refine ⟨?_, hw.free (.head _) j⟩
  rw [hw.cell (.head _) j, List.getElem?_append_left (by rw [ivs_length]; exact hj'), getElem!_pos _ j hj]
  simp [ivs, iv, hj']
def srtI (l : List Int) : List Int := l.mergeSort fun x y => decide (x ≤ y)
theorem srtI_len (l : List Int) : (srtI l).length = l.length := List.length_mergeSort l
theorem srtI_mem {l : List Int} {x : Int} : x ∈ srtI l ↔ x ∈ l := List.mem_mergeSort
theorem srtI_ord (l : List Int) : (srtI l).Pairwise (· ≤ ·) := by
  have := List.pairwise_mergeSort (le := fun x y : Int => decide (x ≤ y)) (fun a b c h1 h2 => by simp at *; omega) (fun a b => by simp; omega) l
  exact this.imp fun h => by simpa using h
theorem fn_sortI {ρ : Ren} (L : Lays.n189 P ρ) {n c b : Nat} {l : List Int} {z : List Value} (hl : l.length = n) (hn : n < 4611686018427387904) :
    Fn P (ρ.f 189) #[.slice (some ⟨b, 0, none⟩) n c] B w0 ((b, ivs l ++ z) :: hs) (fun v h => v = .tuple #[] ∧ h = (b, ivs (srtI l) ++ z) :: hs) := fn_mk fun w hw => by
  subst hl
  obtain ⟨hB, e, he⟩ := hw.mem _ (.head _)
  simp only at hB he
  refine (Any.slices_Sort_int L b 0 c l w (holds_ivs hw) (Array.getElem?_eq_some_iff.1 he).1 hn).mono ?_
  rintro e' w' ⟨rfl, q, os, rfl⟩
  refine ⟨_, _, rfl, ⟨rfl, rfl⟩, ?_⟩
  have := hp_put (k := 1) (n := 0) (q := q) (os := os) (F := (ivs (srtI l)).toArray) (l := ivs l) (z := z) hw (by simp [ivs_length, srtI_len])
  rw [← putRow_ivs] at this
  exact this
def cpt (l : List Int) : List Int := Go.Lib.compact l
theorem cpt_le (l : List Int) : (cpt l).length ≤ l.length := by
  have := List.length_filter_le (Go.Lib.keeps l.toArray) (List.range l.length)
  simpa [cpt, Go.Lib.compact, Go.Lib.compactUpTo] using this
theorem fn_cpt {ρ : Ren} (L : Lays2.n20 P ρ) {n c b : Nat} {l : List Int} {z : List Value} (hl : l.length = n) (hn : n ≤ 1000000) (hc : n ≤ c) :
    Fn P (ρ.f 20) #[.slice (some ⟨b, 0, none⟩) n c] B w0 ((b, ivs l ++ z) :: hs) (fun v h => v = .slice (some ⟨b, 0, none⟩) (cpt l).length c ∧ h = (b, ivs (cpt l) ++ (ivs (List.replicate (n - (cpt l).length) 0) ++ z)) :: hs) := fn_mk fun w hw => by
  subst hl
  refine (Any.slices_Compact_int L b 0 c l w (holds_ivs hw) (by omega) hc).mono ?_
  rintro e' w' ⟨rfl, q, rfl⟩
  refine ⟨_, _, rfl, ⟨rfl, rfl⟩, ?_⟩
  have hle := cpt_le l
  have := hp_put (k := 1) (n := 0) (q := q) (os := #[]) (F := (ivs (cpt l ++ List.replicate (l.length - (cpt l).length) 0)).toArray) (l := ivs l) (z := z) hw (by simp [ivs_length]; omega)
  rw [← putRow_ivs, grow_empty] at this
  rw [show ivs (cpt l) ++ (ivs (List.replicate (l.length - (cpt l).length) 0) ++ z) = (ivs (cpt l ++ List.replicate (l.length - (cpt l).length) 0)) ++ z by simp [ivs]]
  exact this
/-! ### What a sorted list without repetitions is -/
theorem cpt_mem {l : List Int} {x : Int} : x ∈ cpt l ↔ x ∈ l := by
  unfold cpt Go.Lib.compact Go.Lib.compactUpTo
  constructor
  · intro h
    obtain ⟨j, hj, rfl⟩ := List.mem_map.1 h
    have hlt := List.mem_range.1 (List.mem_filter.1 hj).1
    rw [getElem!_pos l.toArray j (by simpa using hlt)]
    simp
  · intro h
    obtain ⟨j, hj, rfl⟩ := List.mem_iff_getElem.1 h
    have key : ∀ j, j < l.length → ∃ i, i < l.length ∧ Go.Lib.keeps l.toArray i = true ∧ l.toArray[i]! = l.toArray[j]! := fun j => by
      induction j with
      | zero => intro h0; exact ⟨0, h0, by simp [Go.Lib.keeps], rfl⟩
      | succ j ih =>
        intro h0
        by_cases e : l.toArray[j + 1]! = l.toArray[j]!
        · obtain ⟨i, a, b, c⟩ := ih (by omega)
          exact ⟨i, a, b, c.trans e.symm⟩
        · exact ⟨j + 1, h0, by unfold Go.Lib.keeps; exact decide_eq_true (.inr (by rw [Nat.add_sub_cancel]; exact e)), rfl⟩
    obtain ⟨i, a, b, c⟩ := key j hj
    refine List.mem_map.2 ⟨i, List.mem_filter.2 ⟨List.mem_range.2 a, b⟩, ?_⟩
    rw [c, getElem!_pos l.toArray j (by simpa using hj)]
    simp
theorem cpt_ord {l : List Int} (h : l.Pairwise (· ≤ ·)) : (cpt l).Pairwise (· < ·) := by
  unfold cpt Go.Lib.compact Go.Lib.compactUpTo
  rw [List.pairwise_map]
  have key : ∀ i j, i < j → j < l.length → Go.Lib.keeps l.toArray j = true → l.toArray[i]! < l.toArray[j]! := fun i j hij hj hk => by
    have g : ∀ t, t < l.length → ∃ h : t < l.length, l.toArray[t]! = l[t] := fun t ht => ⟨ht, by rw [getElem!_pos l.toArray t (by simpa using ht)]; simp⟩
    have hle : ∀ a b, a ≤ b → b < l.length → l.toArray[a]! ≤ l.toArray[b]! := fun a b hab hb => by
      obtain ⟨ha', e1⟩ := g a (by omega)
      obtain ⟨hb', e2⟩ := g b hb
      rw [e1, e2]
      by_cases e : a = b
      · subst e; exact Int.le_refl _
      · exact List.pairwise_iff_getElem.1 h a b ha' hb' (by omega)
    simp only [Go.Lib.keeps, decide_eq_true_eq] at hk
    have h1 := hle i (j - 1) (by omega) (by omega)
    have h2 := hle (j - 1) j (by omega) hj
    rcases hk with hk | hk
    · omega
    · omega
  have hr : ((List.range l.length).filter (Go.Lib.keeps l.toArray)).Pairwise (· < ·) := (List.pairwise_lt_range).filter _
  refine List.Pairwise.imp_of_mem ?_ hr
  intro a b ha hb hab
  exact key a b hab (List.mem_range.1 (List.mem_filter.1 hb).1) (List.mem_filter.1 hb).2
end
end Go.Proofs.YtmblgbcipniecaaGreatDoor
