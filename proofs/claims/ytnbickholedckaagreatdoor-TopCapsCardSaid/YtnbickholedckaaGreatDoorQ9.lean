/- Texts of this claim, put together; the parts that it needs. -/
import Derived.Test.YtnbickholedckaaGreatDoorQ8
import Derived.Shelf.Sort.Plain
import Derived.Laws.Cover3
import Derived.Shelf.Slices.CompactI
namespace Go.Proofs.YtnbickholedckaaGreatDoor
open Go.RowKit Go.Shelf Go.Sort
section
variable {P : Program} {B : Nat} {w0 : Wd} {hs : HS}
theorem hp_put {b k n : Nat} {l z : List Value} {F : Array Value} {w : World} {q : Nat} {os : Array Obj} (hw : Hp B w0 w ((b, l ++ z) :: hs)) (hF : F.size = l.length) : Hp B w0 (grow (putRow id (Sort.ahead w q) b 0 F) os) ((b, F.toList ++ z) :: hs) := by
  obtain ⟨hB, e, he⟩ := hw.mem _ (.head _)
  simp only at hB he
  have hlt : b < w.heap.size := (Array.getElem?_eq_some_iff.1 he).1
  have hblk : ∀ i, i ≠ b → i < w.heap.size → (grow (putRow id (Sort.ahead w q) b 0 F) os).heap[i]? = w.heap[i]? := fun i hi hl => by
    simp only [grow, putRow, mapBlock, Sort.ahead]
    rw [Array.getElem?_append, if_pos (by simpa using hl), Array.getElem?_modify, if_neg (Ne.symm hi)]
  have hb : (grow (putRow id (Sort.ahead w q) b 0 F) os).heap[b]? = some (.cells (F.toList ++ z).toArray e (0, 0)) := by
    simp only [grow, putRow, mapBlock, Sort.ahead]
    rw [Array.getElem?_append, if_pos (by simpa using hlt), Array.getElem?_modify, if_pos rfl, he]
    simp only [Option.map_some, onCells]
    congr 2
    apply Array.ext
    · simp [putCells, hF]
    · intro i h1 h2
      simp only [putCells, Array.getElem_mapIdx]
      by_cases hi : i < F.size
      · rw [if_pos ⟨Nat.zero_le _, by omega⟩]
        simp only [Nat.sub_zero, id]
        rw [getElem!_pos F i hi]
        simp only [List.getElem_toArray]
        rw [List.getElem_append_left (by simpa using hi)]
        simp
      · rw [if_neg (by omega)]
        simp only [List.getElem_toArray]
        rw [List.getElem_append_right (by omega), List.getElem_append_right (by simpa using hi)]
        congr 1
        simp [hF]
  have ne : ∀ p ∈ hs, p.1 ≠ b := fun p hp hpe => by
    have := hw.nodup
    simp only [List.map_cons, List.nodup_cons] at this
    exact this.1 (hpe ▸ List.mem_map_of_mem hp)
  refine ⟨⟨hw.below.os, hw.below.tape, hw.below.output, ?_, fun i hi => ?_⟩, ?_, fun p hp => ?_, ?_, fun p hp => ?_, hw.ond⟩
  · have := hw.below.size
    simp [grow, putRow, mapBlock, Sort.ahead]; omega
  · rw [hblk i (by omega) (by omega)]; exact hw.below.block i hi
  · have := hw.big
    simp [grow, putRow, mapBlock, Sort.ahead]; omega
  · rcases List.mem_cons.1 hp with rfl | hp
    · exact ⟨hB, e, hb⟩
    · obtain ⟨h1, e', h2⟩ := hw.mem p (.tail _ hp)
      exact ⟨h1, e', by rw [hblk p.1 (ne p hp) (Array.getElem?_eq_some_iff.1 h2).1]; exact h2⟩
  · have := hw.nodup
    simpa using this
  · obtain ⟨h1, h2, h3⟩ := hw.obj p hp
    refine ⟨h1, ?_, fun q hq => ?_⟩
    · rw [hblk p.1 (fun hpe => h3 _ (.head _) hpe.symm) (Array.getElem?_eq_some_iff.1 h2).1]; exact h2
    · rcases List.mem_cons.1 hq with rfl | hq
      · exact h3 (b, l ++ z) (.head _)
      · exact h3 q (.tail _ hq)
end
end Go.Proofs.YtnbickholedckaaGreatDoor
namespace Go.Proofs.YtnbickholedckaaGreatDoor
open Go.RowKit
section
variable {P : Program} {n : NN} {B : Nat} {w0 : Wd} {fr : FR} {hs : HS} {ty : TypeId}
theorem run_eqN {t e : TypeId} {oa : Option Addr} {m c : Nat} (hu : P.underlying t = some (.slice e)) (w : World) : (Op.equal t (.slice oa m c) (.slice none 0 0)).run P w = .ok oa.isNone w := run_equal_slice_nil w t e oa m c hu
theorem o_eqlN {t t' : TypeId} {x y : Operand} {b : Bool} {k m c : Nat} {oa : Option Addr} (ht : sc P t = some (b, k)) (hx : opv fr x = some (.slice oa m c)) (hy : opv fr y = some (.slice none 0 0)) : OpF P n B w0 (.binOp .eql t x y t') ty fr hs (.bool oa.isNone) := fun a w ha _ => by
  obtain ⟨e, hu, _⟩ := sc_el ht
  simp only [ex, execOp, ha.opv hx, ha.opv hy, Sem.run_bind]
  have : (eqGuard .eql t x y (.slice oa m c) (.slice none 0 0)).run P w = .ok () w := rfl
  rw [this]
  simp [binOp, run_eqN hu]
end
section
variable {P : Program} {n : NN} {B : Nat} {w0 : Wd} {fr : FR} {hs S : HS} {ty : TypeId} {K : Act → World → Prop} {ops : Array Oper} {l : List Oper} {d : Nat} {fl : List Nat} {pos : String} {aft : Array Edge} {v u r : Value}
theorem k_bs2 {t : TypeId} {x y : Operand} {z : List Value} {b : Bool} (hx : opv fr x = some v) (hy : opv fr y = some u) (h1 : v.cells = #[v]) (h2 : u.cells = #[u]) (ht : sc P t = some (b, 1)) (hz : zs P t = some z.toArray) (hn : d < n.n)
    (h : ∀ bb, Rk P n B w0 ops K fl l S ((d, .slice (some ⟨bb, 0, none⟩) 2 2) :: fr) ((bb, [v, u]) :: hs)) :
    Rk P n B w0 ops K (2 :: fl) (⟨some d, .buildSlice t 2 #[(0, x), (1, y)], ty, pos, aft, none⟩ :: l) S fr hs := k_new (some 2) rfl rfl (fun a ha => by
  have := run_bslice (P := P) (d := d) (ty := ty) (pos := pos) (aft := aft) (t := t) (xs := [(0, x), (1, y)]) (vs := [v, u]) (by simp [partv, hx, hy, enumV]) ht hz rfl ⟨by show v.cells.size = 1; rw [h1]; rfl, by show u.cells.size = 1; rw [h2]; rfl, trivial⟩ (by simp) ha
  rw [show flatV [v, u] = [v, u] by simp [flatV, h1, h2]] at this
  exact this) hn h
end
end Go.Proofs.YtnbickholedckaaGreatDoor
namespace Go.Proofs.YtnbickholedckaaGreatDoor
open Go.RowKit Go.Shelf Go.Sort
section
variable {P : Program} {B : Nat} {w0 : Wd} {hs : HS}
theorem putRow_ivs (w : World) (b off : Nat) (l : List Int) : putRow (Value.int .i64) w b off l.toArray = putRow id w b off (ivs l).toArray := by
  unfold putRow
  congr 1
  funext c
  unfold putCells
  congr 1
  funext k x
  simp only [List.size_toArray, ivs_length]
  by_cases h : off ≤ k ∧ k < off + l.length
  · rw [if_pos h, if_pos h, getElem!_pos l.toArray (k - off) (by simp; omega), getElem!_pos (ivs l).toArray (k - off) (by simp [ivs_length]; omega)]
    simp [ivs, iv]
  · rw [if_neg h, if_neg h]
theorem holds_ivs {w : World} {b : Nat} {l : List Int} {z : List Value} (hw : Hp B w0 w ((b, ivs l ++ z) :: hs)) : Holds (Value.int .i64) w b 0 l.toArray := by
  intro j hj
  have hj' : j < l.length := by simpa using hj
  rw [Nat.zero_add]
  refine ⟨?_, hw.free (.head _) j⟩
  rw [hw.cell (.head _) j, List.getElem?_append_left (by rw [ivs_length]; exact hj'), getElem!_pos _ j hj]
  simp [ivs, iv, hj']
def srtI (l : List Int) : List Int := l.mergeSort fun x y => decide (x ≤ y)
theorem srtI_len (l : List Int) : (srtI l).length = l.length := List.length_mergeSort l
theorem srtI_mem {l : List Int} {x : Int} : x ∈ srtI l ↔ x ∈ l := List.mem_mergeSort
theorem srtI_ord (l : List Int) : (srtI l).Pairwise (· ≤ ·) := by
  have := List.pairwise_mergeSort (le := fun x y : Int => decide (x ≤ y)) (fun a b c h1 h2 => by simp at *; omega) (fun a b => by simp; omega) l
  exact this.imp fun h => by simpa using h
theorem fn_sortI {ρ : Ren} (L : Lays.n189 P ρ) {n c b : Nat} {l : List Int} {z : List Value} (hl : l.length = n) (hn : n < 4611686018427387904) :
    Fn P (ρ.f 189) #[.slice (some ⟨b, 0, none⟩) n c] B w0 ((b, ivs l ++ z) :: hs) (fun v h => v = .tuple #[] ∧ h = (b, ivs (srtI l) ++ z) :: hs) := fn_mk fun w hw => by
  subst hl
  obtain ⟨hB, e, he⟩ := hw.mem _ (.head _)
  simp only at hB he
  refine (Any.slices_Sort_int L b 0 c l w (holds_ivs hw) (Array.getElem?_eq_some_iff.1 he).1 hn).mono ?_
  rintro e' w' ⟨rfl, q, os, rfl⟩
  refine ⟨_, _, rfl, ⟨rfl, rfl⟩, ?_⟩
  have := hp_put (k := 1) (n := 0) (q := q) (os := os) (F := (ivs (srtI l)).toArray) (l := ivs l) (z := z) hw (by simp [ivs_length, srtI_len])
  rw [← putRow_ivs] at this
  exact this
def cpt (l : List Int) : List Int := Go.Lib.compact l
theorem cpt_le (l : List Int) : (cpt l).length ≤ l.length := by
  have := List.length_filter_le (Go.Lib.keeps l.toArray) (List.range l.length)
  simpa [cpt, Go.Lib.compact, Go.Lib.compactUpTo] using this
theorem fn_cpt {ρ : Ren} (L : Lays2.n20 P ρ) {n c b : Nat} {l : List Int} {z : List Value} (hl : l.length = n) (hn : n ≤ 1000000) (hc : n ≤ c) :
    Fn P (ρ.f 20) #[.slice (some ⟨b, 0, none⟩) n c] B w0 ((b, ivs l ++ z) :: hs) (fun v h => v = .slice (some ⟨b, 0, none⟩) (cpt l).length c ∧ h = (b, ivs (cpt l) ++ (ivs (List.replicate (n - (cpt l).length) 0) ++ z)) :: hs) := fn_mk fun w hw => by
  subst hl
  refine (Any.slices_Compact_int L b 0 c l w (holds_ivs hw) (by omega) hc).mono ?_
  rintro e' w' ⟨rfl, q, rfl⟩
  refine ⟨_, _, rfl, ⟨rfl, rfl⟩, ?_⟩
  have hle := cpt_le l
  have := hp_put (k := 1) (n := 0) (q := q) (os := #[]) (F := (ivs (cpt l ++ List.replicate (l.length - (cpt l).length) 0)).toArray) (l := ivs l) (z := z) hw (by simp [ivs_length]; omega)
  rw [← putRow_ivs, grow_empty] at this
  rw [show ivs (cpt l) ++ (ivs (List.replicate (l.length - (cpt l).length) 0) ++ z) = (ivs (cpt l ++ List.replicate (l.length - (cpt l).length) 0)) ++ z by simp [ivs]]
  exact this
/-! ### What a sorted list without repetitions is -/
theorem cpt_mem {l : List Int} {x : Int} : x ∈ cpt l ↔ x ∈ l := by
  unfold cpt Go.Lib.compact Go.Lib.compactUpTo
  constructor
  · intro h
    obtain ⟨j, hj, rfl⟩ := List.mem_map.1 h
    have hlt := List.mem_range.1 (List.mem_filter.1 hj).1
    rw [getElem!_pos l.toArray j (by simpa using hlt)]
    simp
  · intro h
    obtain ⟨j, hj, rfl⟩ := List.mem_iff_getElem.1 h
    have key : ∀ j, j < l.length → ∃ i, i < l.length ∧ Go.Lib.keeps l.toArray i = true ∧ l.toArray[i]! = l.toArray[j]! := fun j => by
      induction j with
      | zero => intro h0; exact ⟨0, h0, by simp [Go.Lib.keeps], rfl⟩
      | succ j ih =>
        intro h0
        by_cases e : l.toArray[j + 1]! = l.toArray[j]!
        · obtain ⟨i, a, b, c⟩ := ih (by omega)
          exact ⟨i, a, b, c.trans e.symm⟩
        · exact ⟨j + 1, h0, by unfold Go.Lib.keeps; exact decide_eq_true (.inr (by rw [Nat.add_sub_cancel]; exact e)), rfl⟩
    obtain ⟨i, a, b, c⟩ := key j hj
    refine List.mem_map.2 ⟨i, List.mem_filter.2 ⟨List.mem_range.2 a, b⟩, ?_⟩
    rw [c, getElem!_pos l.toArray j (by simpa using hj)]
    simp
theorem cpt_ord {l : List Int} (h : l.Pairwise (· ≤ ·)) : (cpt l).Pairwise (· < ·) := by
  unfold cpt Go.Lib.compact Go.Lib.compactUpTo
  rw [List.pairwise_map]
  have key : ∀ i j, i < j → j < l.length → Go.Lib.keeps l.toArray j = true → l.toArray[i]! < l.toArray[j]! := fun i j hij hj hk => by
    have g : ∀ t, t < l.length → ∃ h : t < l.length, l.toArray[t]! = l[t] := fun t ht => ⟨ht, by rw [getElem!_pos l.toArray t (by simpa using ht)]; simp⟩
    have hle : ∀ a b, a ≤ b → b < l.length → l.toArray[a]! ≤ l.toArray[b]! := fun a b hab hb => by
      obtain ⟨ha', e1⟩ := g a (by omega)
      obtain ⟨hb', e2⟩ := g b hb
      rw [e1, e2]
      by_cases e : a = b
      · subst e; exact Int.le_refl _
      · exact List.pairwise_iff_getElem.1 h a b ha' hb' (by omega)
    simp only [Go.Lib.keeps, decide_eq_true_eq] at hk
    have h1 := hle i (j - 1) (by omega) (by omega)
    have h2 := hle (j - 1) j (by omega) hj
    rcases hk with hk | hk
    · omega
    · omega
  have hr : ((List.range l.length).filter (Go.Lib.keeps l.toArray)).Pairwise (· < ·) := (List.pairwise_lt_range).filter _
  refine List.Pairwise.imp_of_mem ?_ hr
  intro a b ha hb hab
  exact key a b hab (List.mem_range.1 (List.mem_filter.1 hb).1) (List.mem_filter.1 hb).2
end
end Go.Proofs.YtnbickholedckaaGreatDoor
namespace Go.Proofs.YtnbickholedckaaGreatDoor
open Go.RowKit
attribute [local irreducible] OpF Ld CellAt Sl Sv pcA usP
theorem UpdM.app {m : Nat} {o o' : Obj} {ms ms' : List (Nat × Obj)} (h : UpdM m o o' ms ms') : ∀ l : List (Nat × Obj), UpdM m o o' (l ++ ms) (l ++ ms')
  | [] => h
  | p :: l => .tail p (UpdM.app h l)
theorem z109 : zc Tryz.prog 103 = some #[.map none] := by kernel_rfl
theorem sh109 : sh Tryz.prog 103 = some (false, 1) := by kernel_rfl
theorem le_tr {a b c : Wd} (h : a.le b) (h' : b.le c) : a.le c := ⟨h'.1.trans h.1, h.2.trans h'.2⟩
def mks (Ds : List Nat) (ms : List (Nat × Obj)) : List (Nat × Obj) := (Ds.map fun D => (D, Obj.deferred (some []))) ++ ms
theorem mks_sub (Ds : List Nat) (ms : List (Nat × Obj)) : ms.Sublist (mks Ds ms) := List.sublist_append_right _ _
/-- The points in memory. -/
structure Pr where
  oa : Option Addr
  c : Nat
  p : Pt
  blk : HS
def prv (rs : List Pr) : List Value := rs.flatMap fun r => [.slice r.oa r.p.cs.length r.c, .bool r.p.inn, iv r.p.an, iv r.p.df]
def prb (rs : List Pr) : HS := rs.foldl (fun acc r => r.blk ++ acc) []
theorem prb_snoc (rs : List Pr) (r : Pr) : prb (rs ++ [r]) = r.blk ++ prb rs := by simp [prb]
theorem prv_snoc (rs : List Pr) (r : Pr) : prv (rs ++ [r]) = prv rs ++ [.slice r.oa r.p.cs.length r.c, .bool r.p.inn, iv r.p.an, iv r.p.df] := by simp [prv]
theorem prv_len (rs : List Pr) : (prv rs).length = rs.length * 4 := by
  induction rs with
  | nil => rfl
  | cons r rs ih => simp only [prv, List.flatMap_cons, List.length_append, List.length_cons, List.length_nil] at ih ⊢; omega
def PrR (pts : List Pt) (v : Value) (blk : HS) : Prop := ∃ oa c rs bo, v = .slice oa rs.length c ∧ RowOk oa c 4 (prv rs) bo ∧ (∀ r ∈ rs, RowOk r.oa r.c 1 (ivs (nats r.p.cs)) r.blk) ∧ rs.map (·.p) = pts ∧ blk = bo ++ prb rs
structure PnI where
  i : Nat
  Ds : List Nat
  L : Mp
  oa : Option Addr
  c : Nat
  rs : List Pr
  bo : HS
structure PnJ where
  k : Nat
  L : Mp
  oa : Option Addr
  c : Nat
  k6 : HS
section
variable {n : NN} {B : Nat} {w1 : Wd} {fr : FR} {hs : HS}
theorem e_round {ι : Type} {C : ι → Prop} {V : ι → Wd} {H : ι → HS} (j : ι) (hC : C j) (hb : (V j).le w1) (hH : (H j).Sublist hs) : Sat n B w1 (onlyN (fun _ w => ∃ j, C j ∧ Hp B (V j) w (H j)) .normal) fr hs :=
  sat_mk fun _ _ _ hw => ⟨j, hC, (hw.sub hH).base hb⟩
theorem e_asg {F : FR} {V : Wd} {H : HS} (h : SubL F fr) (hb : V.le w1) (hH : H.Sublist hs) : Sat n B w1 (onlyN (fun a w => Fr n a F ∧ Hp B V w H) .normal) fr hs :=
  sat_mk fun _ _ ha hw => ⟨ha.sub h.sub, (hw.sub hH).base hb⟩
end
theorem o_lssF {P : Program} {n : NN} {B : Nat} {w0 : Wd} {fr : FR} {hs : HS} {ty t t' : TypeId} {x y : Operand} {a b : Int} (hx : opv fr x = some (iv a)) (hy : opv fr y = some (iv b)) (h : ¬ a < b) : OpF P n B w0 (.binOp .lss t x y t') ty fr hs (.bool false) := by
  have := o_lss (P := P) (n := n) (B := B) (w0 := w0) (hs := hs) (ty := ty) (t := t) (t' := t') hx hy
  rwa [decide_eq_false h] at this
def agF (ps : List Pc) (x : Nat) : Int := (pcA ps (pcG (sdF ps) ps.length x)).an.getD (x - fsN (sdF ps) (pcG (sdF ps) ps.length x)) 0
theorem agF_in {ps : List Pc} (hA : allOK ps.length (sdF ps) (anF ps)) {x : Nat} (hx : x < fsN (sdF ps) ps.length) : 0 ≤ agF ps x ∧ agF ps x ≤ 359 := by
  obtain ⟨_, h1, h2, h3⟩ := sdx hx
  have e : (sdF ps (pcG (sdF ps) ps.length x)).length = (pcA ps (pcG (sdF ps) ps.length x)).sd.length := rfl
  have := ((hA _ h1).2.2.1 (x - fsN (sdF ps) (pcG (sdF ps) ps.length x)) (by omega)).2
  unfold anF at this
  unfold agF
  omega
theorem nats_take {l : List Nat} {j x : Nat} (h : l[j]? = some x) : ivs (nats (l.take (j + 1))) = ivs (nats (l.take j)) ++ [iv (x : Int)] := by rw [take_snoc h, nats_snoc]
theorem asum_take (ag : Nat → Int) {l : List Nat} {j x : Nat} (h : l[j]? = some x) : asum ag (l.take (j + 1)) = asum ag (l.take j) + ag x := by rw [take_snoc h, asum_app]; simp [asum]
set_option maxRecDepth 100000 in
set_option maxHeartbeats 8000000 in
theorem k_points (s : Sw) (ps : List Pc) (mu : Nat → Nat) (hN : fsN (sdF ps) ps.length ≤ 48) (hA : allOK ps.length (sdF ps) (anF ps)) (hNet : NetN (fsN (sdF ps) ps.length) (nxN (sdF ps) ps.length) (pvN (sdF ps) ps.length) mu) (B : Nat) (w0 : Wd) (hs : HS) (hS : SewAt B w0 hs s ps mu) :
    Fn Tryz.prog 29 #[.pointer (some ⟨s.b, 0, none⟩)] B w0 hs (fun v h => ∃ blk, PrR (ptsL (fsN (sdF ps) ps.length) (nxN (sdF ps) ps.length) mu (agF ps) (fsN (sdF ps) ps.length)) v blk ∧ h = blk ++ hs) := by
  have hmt : ∀ {x : Nat}, mu x ≠ x → mtF mu x = (mu x : Int) := fun h => if_neg h
  have hmf : ∀ {x : Nat}, mu x = x → mtF mu x = -1 := fun h => if_pos h
  have hll : ∀ i, i < ps.length → (pcA ps i).an.length = (pcA ps i).sd.length := fun i hi => (hA i hi).2.1
  have kt := fun (W : Wd) (hle : w0.le W) x (hx : x < fsN (sdF ps) ps.length) hs' (h : hs.Sublist hs') => k_turned2 s ps mu x hN hx B W hs' ((hS.base hle).sub h)
  have ka : ∀ (W : Wd) (hle : w0.le W) x (hx : x < fsN (sdF ps) ps.length) hs' (h : hs.Sublist hs'), Fn Tryz.prog 45 #[.pointer (some ⟨s.b, 0, none⟩), iv x] B W hs' (fun v h => v = iv (agF ps x) ∧ h = hs') := fun W hle x hx hs' h => k_angle s ps mu x hN hx hll B W hs' ((hS.base hle).sub h)
  have hme := fun hs' (h : hs.Sublist hs') => hS.me' h
  have hcl := fun (W : Wd) (hle : w0.le W) x (hx : x < fsN (sdF ps) ps.length) hs' (h : hs.Sublist hs') => (hS.base hle).mt h hx
  have hag := fun x (hx : x < fsN (sdF ps) ps.length) => agF_in hA hx
  have kit := fun c (hc : c < fsN (sdF ps) ps.length) k m cl hw b2 b3 => k_iter s ps mu hN hNet c hc k m cl hw B b2 b3
  have hs3 := fun x (hx : x < fsN (sdF ps) ps.length) => hS.s3 hx
  generalize agF ps = ag at *
  generalize hn : fsN (sdF ps) ps.length = n at *
  generalize hnx : nxN (sdF ps) ps.length = nx at *
  generalize hpv : pvN (sdF ps) ps.length = pv at *
  refine fn_enterG Tryz.func29 rfl Tryz.ntmps29 (by simp) ?_
  repeat' (first | ((with_reducible apply kP (.box 69 _)); refine sB (fun b1 => ?_)) | ((with_reducible apply kP (.alloc 103)); refine s_alloc (z := [.map none]) z109 (by first | decide | exact ltd rfl) (fun b4 => ?_)) | ((with_reducible apply kN); refine s_store1 rfl rfl rfl rfl sh109 (.head _) (Nat.zero_lt_succ _) ?_) | ((with_reducible apply kP (.makeMap _ _)); refine s_makeMap false (by first | decide | exact ltd rfl) (fun mp => ?_)) | ((with_reducible apply kP (.load 27 _)); refine sP ?_ (o_load rfl (ld_one (shTOf rfl) (own (hme _ SBt) rfl)))) | ((with_reducible apply kDP (.load 27 _)); refine dP ?_ (hX := rfl) (hv := o_load rfl (ld_one (shTOf rfl) (own (hme _ SBt) rfl)))) | ((with_reducible apply kQO (.load 27 _)); refine qP ?_ (o_load rfl (ld_one (shTOf rfl) (own (hme _ SBt) rfl)))) | (with_reducible first | refine g_seq ?_ | refine g_block ?_ | refine g_skip ?_ | refine g_exit ?_ | refine g_ret ?_ | refine si_nil ?_) | ((with_reducible apply kGD 12); refine g_drawn [0, 0, 1, 1, 3, 1, 1, 4] _ (List.Sublist.refl _) mixed (by kernel_rfl) (by rfl) ?_) | ((with_reducible apply kGD 13); refine g_drawn [1, 1, 1, 1, 1, 1, 1, 1, 1, 0, 0, 0, 0, 1, 1, 3, 1, 1, 1, 1] _ (List.Sublist.refl _) mixed (by kernel_rfl) (by rfl) ?_) | ((with_reducible apply gCI); first | refine gT ?_ | refine gF ?_ | (refine gI (fun h => ?_) (fun h => ?_) <;> (try (exfalso; omega))) | refine gBB (fun h => ?_) (fun h => ?_)) | ((with_reducible apply gRI); refine g_quiet mixed (by kernel_rfl) (by rfl) ?_) | (refine g_region ?_) | ((with_reducible apply kYo _); refine si_one rfl ?_) | ((with_reducible apply kRg 12); refine cD [0, 0, 1, 1, 3, 1, 1, 4] ?_) | ((with_reducible apply kRg 13); refine cD [1, 1, 1, 1, 1, 1, 1, 1, 1, 0, 0, 0, 0, 1, 1, 3, 1, 1, 1, 1] ?_) | (with_reducible first | refine c_seq ?_ | refine c_reg ?_ | refine c_region ?_ | refine c_block ?_ | refine c_skip ?_ | refine c_exit ?_ | refine c_ret ?_ | refine s_nil ?_ | refine x_then ?_ | refine x_then_exit ?_ | refine x_then_ret ?_ | refine x_block ?_ | refine x_block_ret ?_ | refine x_block_same ?_ | refine x_block_other (by first | rfl | decide) ?_ | refine q_nil ?_ | refine k_nil ?_) | ((with_reducible apply kN); first | refine stP ?_ | refine stI ?_ | refine st1 ?_ | refine stW ?_) | ((with_reducible apply kP (.alloc _)); refine sA (fun b => ?_)) | ((with_reducible apply kP (.box _ _)); first | refine sBA (fun b => ?_) | refine sB (fun b => ?_)) | ((with_reducible apply kP (.buildSlice _ 1 _)); first | refine sl1A (fun b => ?_) | refine sl1 (fun b => ?_)) | ((with_reducible apply kP (.call ⟨.builtin .append, _, _⟩)); refine sAp (fun oa2 c2 blk2 hrow2 => ?_)) | ((with_reducible apply kP _); refine sP ?_) | ((with_reducible apply kP _); refine sX ?_) | ((with_reducible apply kC); first | refine cT ?_ | refine cF ?_ | (refine cI (fun h => ?_) (fun h => ?_) <;> (try (exfalso; omega))) | refine cB (fun h => ?_) (fun h => ?_)) | ((with_reducible apply kDG); first | refine dY1 ?_ | refine dNo1 ?_ | refine dU1 ?_ | (refine dD1 (fun h => ?_) (fun h => ?_) <;> (try (exfalso; omega))) | refine dB1 (fun h => ?_) (fun h => ?_)) | ((with_reducible apply kDN); first | refine dtI ?_ | refine dt1 ?_ | refine dtW ?_) | ((with_reducible apply kDP _); refine dP ?_) | ((with_reducible apply kDP _); refine dX ?_))
  refine g_loop (fun t : PnI => t.Ds.map mkD) (fun t : PnI => ⟨w0.w, mks t.Ds ((mp, mapO false t.L) :: w0.ms)⟩) (fun t : PnI => [(1, .pointer (some ⟨b1, 0, none⟩)), (3, .slice t.oa t.rs.length t.c), (4, .pointer (some ⟨b4, 0, none⟩)), (13, iv n), (14, iv t.i)]) (fun t => t.bo ++ (prb t.rs ++ ((b4, [.map (some mp)]) :: (b1, [.pointer (some ⟨s.b, 0, none⟩)]) :: hs)))
    (fun t => t.i ≤ n ∧ SnM 1 (fun x => ∃ y : Nat, x = [((y : Nat) : Int)] ∧ seen2 n nx mu t.i y) t.L ∧ RowOk t.oa t.c 4 (prv t.rs) t.bo ∧ (∀ r ∈ t.rs, RowOk r.oa r.c 1 (ivs (nats r.p.cs)) r.blk) ∧ t.rs.map (·.p) = ptsL n nx mu ag t.i ∧ t.rs.length ≤ t.i)
    (fun t => n - t.i) ⟨0, [], [], none, 0, [], []⟩ ⟨Nat.zero_le _, SnM.nil 1 (fun x => by rintro ⟨y, _, _, j, hj, _⟩; exact absurd hj (Nat.not_lt_zero _)), RowOk.nil, fun r hr => (by cases hr), rfl, Nat.le_refl _⟩ rfl (.refl _) (by repeat' first | trivial | rfl | apply And.intro) (.refl _) ?_
  rintro ⟨i, Ds, L, oa, c, rs, bo⟩ ⟨hi, hSn, hro, hrr, hrl, hrc⟩
  dsimp only at hi hSn hro hrr hrl hrc ⊢
  have hle : ∀ (Ds : List Nat) (L : Mp), w0.le ⟨w0.w, mks Ds ((mp, mapO false L) :: w0.ms)⟩ := fun Ds L => ⟨rfl, (List.Sublist.cons _ (.refl _)).trans (mks_sub _ _)⟩
  by_cases hi' : i < n
  · have look : ∀ (y : Nat) (S : Nat → Prop) (L : Mp), SnM 1 (fun x => ∃ y : Nat, x = [((y : Nat) : Int)] ∧ S y) L → ∀ b : Bool, (b = true ↔ S y) → lkp L [(y : Int)] (.bool false) = .bool b := fun y S L h b hb => h.look _ (by
      rw [hb]
      constructor
      · exact fun h => ⟨y, rfl, h⟩
      · rintro ⟨z, hz, h⟩
        have : (y : Int) = (z : Int) := by simpa using hz
        rwa [show y = z by omega])
    have hmem : (mp, mapO false L) ∈ mks Ds ((mp, mapO false L) :: w0.ms) := (mks_sub _ _).subset (.head _)
    by_cases hfst : ptF n nx mu i = true
    · have hl0 := look i _ L hSn false (by simp only [Bool.false_eq_true, false_iff]; exact (seen2_fst hi').1 hfst)
      obtain ⟨k, m, cl, hw⟩ := hNet.way hi'
      have kr := fun W hs' => k_around s i B W hs'
      repeat' (first | ((with_reducible apply kP (.load 103 _)); refine sP ?_ (o_load rfl (ld_one sh109 (own MMt rfl)))) | ((with_reducible apply kDP (.load 103 _)); refine dP ?_ (hX := rfl) (hv := o_load rfl (ld_one sh109 (own MMt rfl)))) | ((with_reducible apply kQO (.load 103 _)); refine qP ?_ (o_load rfl (ld_one sh109 (own MMt rfl)))) | ((with_reducible apply kP (.lookup _ _ _ _)); refine sP ?_ (hl0 ▸ o_lookup (x := [(i : Int)]) mp109 rfl rfl hmem rfl hSn.len)) | ((with_reducible apply kP (.load 69 _)); refine sP ?_ (o_load rfl (ld_one (shTOf rfl) (own MMt rfl)))) | ((with_reducible apply kDP (.load 69 _)); refine dP ?_ (hX := rfl) (hv := o_load rfl (ld_one (shTOf rfl) (own MMt rfl)))) | ((with_reducible apply kQO (.load 69 _)); refine qP ?_ (o_load rfl (ld_one (shTOf rfl) (own MMt rfl)))) | ((with_reducible apply kP (.build 54 _)); refine sP ?_ (o_build (out := [.slice none 0 0, .bool true, iv 0, iv 0]) rfl (zcTOf rfl) (plTOf rfl) rfl)) | ((with_reducible apply kDP (.build 54 _)); refine dP ?_ (hX := rfl) (hv := o_build (out := [.slice none 0 0, .bool true, iv 0, iv 0]) rfl (zcTOf rfl) (plTOf rfl) rfl)) | ((with_reducible apply kQO (.build 54 _)); refine qP ?_ (o_build (out := [.slice none 0 0, .bool true, iv 0, iv 0]) rfl (zcTOf rfl) (plTOf rfl) rfl)) | ((with_reducible apply kP (.alloc 54)); refine sA (fun b6 => ?_)) | ((with_reducible apply kN); refine stW ?_ (hf := flat_cons rfl (flat_cons rfl (flat_cons rfl (flat1 rfl))))) | ((with_reducible apply kF 49); refine sR 49 (kr _ _) ?_; rintro v7 h7 ⟨blk7, ⟨b2, b3, rfl, rfl⟩, rfl⟩) | (with_reducible first | refine g_seq ?_ | refine g_block ?_ | refine g_skip ?_ | refine g_exit ?_ | refine g_ret ?_ | refine si_nil ?_) | ((with_reducible apply kGD 12); refine g_drawn [0, 0, 1, 1, 3, 1, 1, 4] _ (List.Sublist.refl _) mixed (by kernel_rfl) (by rfl) ?_) | ((with_reducible apply kGD 13); refine g_drawn [1, 1, 1, 1, 1, 1, 1, 1, 1, 0, 0, 0, 0, 1, 1, 3, 1, 1, 1, 1] _ (List.Sublist.refl _) mixed (by kernel_rfl) (by rfl) ?_) | ((with_reducible apply gCI); first | refine gT ?_ | refine gF ?_ | (refine gI (fun h => ?_) (fun h => ?_) <;> (try (exfalso; omega))) | refine gBB (fun h => ?_) (fun h => ?_)) | ((with_reducible apply gRI); refine g_quiet mixed (by kernel_rfl) (by rfl) ?_) | (refine g_region ?_) | ((with_reducible apply kYo _); refine si_one rfl ?_) | ((with_reducible apply kRg 12); refine cD [0, 0, 1, 1, 3, 1, 1, 4] ?_) | ((with_reducible apply kRg 13); refine cD [1, 1, 1, 1, 1, 1, 1, 1, 1, 0, 0, 0, 0, 1, 1, 3, 1, 1, 1, 1] ?_) | (with_reducible first | refine c_seq ?_ | refine c_reg ?_ | refine c_region ?_ | refine c_block ?_ | refine c_skip ?_ | refine c_exit ?_ | refine c_ret ?_ | refine s_nil ?_ | refine x_then ?_ | refine x_then_exit ?_ | refine x_then_ret ?_ | refine x_block ?_ | refine x_block_ret ?_ | refine x_block_same ?_ | refine x_block_other (by first | rfl | decide) ?_ | refine q_nil ?_ | refine k_nil ?_) | ((with_reducible apply kN); first | refine stP ?_ | refine stI ?_ | refine st1 ?_ | refine stW ?_) | ((with_reducible apply kP (.alloc _)); refine sA (fun b => ?_)) | ((with_reducible apply kP (.box _ _)); first | refine sBA (fun b => ?_) | refine sB (fun b => ?_)) | ((with_reducible apply kP (.buildSlice _ 1 _)); first | refine sl1A (fun b => ?_) | refine sl1 (fun b => ?_)) | ((with_reducible apply kP (.call ⟨.builtin .append, _, _⟩)); refine sAp (fun oa2 c2 blk2 hrow2 => ?_)) | ((with_reducible apply kP _); refine sP ?_) | ((with_reducible apply kP _); refine sX ?_) | ((with_reducible apply kC); first | refine cT ?_ | refine cF ?_ | (refine cI (fun h => ?_) (fun h => ?_) <;> (try (exfalso; omega))) | refine cB (fun h => ?_) (fun h => ?_)) | ((with_reducible apply kDG); first | refine dY1 ?_ | refine dNo1 ?_ | refine dU1 ?_ | (refine dD1 (fun h => ?_) (fun h => ?_) <;> (try (exfalso; omega))) | refine dB1 (fun h => ?_) (fun h => ?_)) | ((with_reducible apply kDN); first | refine dtI ?_ | refine dt1 ?_ | refine dtW ?_) | ((with_reducible apply kDP _); refine dP ?_) | ((with_reducible apply kDP _); refine dX ?_))
      dsimp only [List.cons_append, List.nil_append]
      have hlt := fun x (hx : x ∈ wayL nx pv mu i k m) => hw.lt hNet hi' hx
      have hlen := hw.len hNet hi'
      have hseen := fun y => seen2_yes hw hNet hi' y
      have hit := kit i hi' k m cl hw b2 b3
      have hcls := hw.cls hNet hi'
      have hsrt := fun l => hw.sorted (l := l) hNet hi'
      have hinn := hw.inn hNet hi'
      have hasm := hw.asum (ag := ag) hNet hi'
      have h0x : i ∈ wayL nx pv mu i k m := mem_wayL.2 (.inl ⟨0, Nat.zero_le _, rfl⟩)
      generalize hxs : wayL nx pv mu i k m = xs at *
      have hin := asum_in (ag := ag) (l := xs) (fun x hx => hag x (hlt x hx))
      refine g_range rfl (goF rfl) hit (by first | decide | exact ltd rfl) (fun t : PnJ => ⟨w0.w, mks Ds ((mp, mapO false t.L) :: w0.ms)⟩)
        (fun t : PnJ => t.k6 ++ ((b3, [iv i]) :: (b2, [.pointer (some ⟨s.b, 0, none⟩)]) :: (b6, [.slice t.oa t.k t.c, .bool (innT pv mu (xs.take t.k)), iv (asum ag (xs.take t.k)), iv 0]) :: (bo ++ (prb rs ++ ((b4, [.map (some mp)]) :: (b1, [.pointer (some ⟨s.b, 0, none⟩)]) :: hs)))))
        (fun j t => t.k = j ∧ j ≤ xs.length ∧ SnM 1 (fun x => ∃ y : Nat, x = [((y : Nat) : Int)] ∧ (seen2 n nx mu i y ∨ y ∈ xs.take j)) t.L ∧ RowOk t.oa t.c 1 (ivs (nats (xs.take j))) t.k6)
        (fun v => [(7, v), (1, .pointer (some ⟨b1, 0, none⟩)), (4, .pointer (some ⟨b4, 0, none⟩)), (6, .pointer (some ⟨b6, 0, none⟩))])
        ⟨0, L, none, 0, []⟩ ⟨rfl, Nat.zero_le _, ⟨hSn.len, hSn.yes, fun x => by rw [hSn.mem x]; exact ⟨fun ⟨y, e, h⟩ => ⟨y, e, .inl h⟩, fun ⟨y, e, h⟩ => ⟨y, e, h.resolve_right (by simp)⟩⟩⟩, by dsimp only; rw [List.take_zero]; exact RowOk.nil⟩ (.refl _) (by dsimp only; rw [List.take_zero]; exact List.Sublist.refl _) ?_ ?_ ?_ ?_
      · rintro j ⟨j', L1, oa1, c1, k6⟩ _ W' hW'
        exact ⟨(hS.base (le_tr (hle Ds L1) hW')).sub SBt, MMt, MMt⟩
      · intro j t v hv hC l D o
        repeat' (first | (with_reducible first | refine g_seq ?_ | refine g_block ?_ | refine g_skip ?_ | refine g_exit ?_ | refine g_ret ?_ | refine si_nil ?_) | ((with_reducible apply kGD 12); refine g_drawn [0, 0, 1, 1, 3, 1, 1, 4] _ (List.Sublist.refl _) mixed (by kernel_rfl) (by rfl) ?_) | ((with_reducible apply kGD 13); refine g_drawn [1, 1, 1, 1, 1, 1, 1, 1, 1, 0, 0, 0, 0, 1, 1, 3, 1, 1, 1, 1] _ (List.Sublist.refl _) mixed (by kernel_rfl) (by rfl) ?_) | ((with_reducible apply gCI); first | refine gT ?_ | refine gF ?_ | (refine gI (fun h => ?_) (fun h => ?_) <;> (try (exfalso; omega))) | refine gBB (fun h => ?_) (fun h => ?_)) | ((with_reducible apply gRI); refine g_quiet mixed (by kernel_rfl) (by rfl) ?_) | (refine g_region ?_) | ((with_reducible apply kYo _); refine si_one rfl ?_) | ((with_reducible apply kRg 12); refine cD [0, 0, 1, 1, 3, 1, 1, 4] ?_) | ((with_reducible apply kRg 13); refine cD [1, 1, 1, 1, 1, 1, 1, 1, 1, 0, 0, 0, 0, 1, 1, 3, 1, 1, 1, 1] ?_) | (with_reducible first | refine c_seq ?_ | refine c_reg ?_ | refine c_region ?_ | refine c_block ?_ | refine c_skip ?_ | refine c_exit ?_ | refine c_ret ?_ | refine s_nil ?_ | refine x_then ?_ | refine x_then_exit ?_ | refine x_then_ret ?_ | refine x_block ?_ | refine x_block_ret ?_ | refine x_block_same ?_ | refine x_block_other (by first | rfl | decide) ?_ | refine q_nil ?_ | refine k_nil ?_) | ((with_reducible apply kN); first | refine stP ?_ | refine stI ?_ | refine st1 ?_ | refine stW ?_) | ((with_reducible apply kP (.alloc _)); refine sA (fun b => ?_)) | ((with_reducible apply kP (.box _ _)); first | refine sBA (fun b => ?_) | refine sB (fun b => ?_)) | ((with_reducible apply kP (.buildSlice _ 1 _)); first | refine sl1A (fun b => ?_) | refine sl1 (fun b => ?_)) | ((with_reducible apply kP (.call ⟨.builtin .append, _, _⟩)); refine sAp (fun oa2 c2 blk2 hrow2 => ?_)) | ((with_reducible apply kP _); refine sP ?_) | ((with_reducible apply kP _); refine sX ?_) | ((with_reducible apply kC); first | refine cT ?_ | refine cF ?_ | (refine cI (fun h => ?_) (fun h => ?_) <;> (try (exfalso; omega))) | refine cB (fun h => ?_) (fun h => ?_)) | ((with_reducible apply kDG); first | refine dY1 ?_ | refine dNo1 ?_ | refine dU1 ?_ | (refine dD1 (fun h => ?_) (fun h => ?_) <;> (try (exfalso; omega))) | refine dB1 (fun h => ?_) (fun h => ?_)) | ((with_reducible apply kDN); first | refine dtI ?_ | refine dt1 ?_ | refine dtW ?_) | ((with_reducible apply kDP _); refine dP ?_) | ((with_reducible apply kDP _); refine dX ?_))
        exact e_asg (by repeat' first | trivial | rfl | apply And.intro) (.refl _) (.refl _)
      · rintro j ⟨j', L1, oa1, c1, k6⟩ v hv ⟨rfl, hj, hSj, hr6⟩ l D o
        dsimp only at hj hSj hr6 ⊢
        obtain ⟨x, hx, rfl⟩ : ∃ x, xs[j']? = some x ∧ v = iv ((x : Nat) : Int) := by
          rw [List.getElem?_map] at hv
          cases hx : xs[j']? with
          | none => rw [hx] at hv; cases hv
          | some x => rw [hx] at hv; exact ⟨x, rfl, by simpa using hv.symm⟩
        have hjl : j' < xs.length := (List.getElem?_eq_some_iff.1 hx).1
        have hxm := List.mem_of_getElem? hx
        have hxn := hlt x hxm
        have hpn := hNet.pl x hxn
        have hl6 : (ivs (nats (xs.take j'))).length = j' * 1 := by rw [ivs_length, nats_len, List.length_take]; omega
        have hagx := hag x hxn
        have hsum := asum_in (ag := ag) (l := xs.take j') (fun y hy => hag y (hlt y (List.mem_of_mem_take hy)))
        rw [List.length_take, Nat.min_eq_left hj] at hsum
        have hS2 : SnM 1 (fun z => ∃ y : Nat, z = [((y : Nat) : Int)] ∧ (seen2 n nx mu i y ∨ y ∈ xs.take (j' + 1))) (mset L1 [(x : Int)] (.bool true)) := hSj.step rfl (fun z => by
          rw [take_snoc hx]
          constructor
          · rintro ⟨y, e, h | h⟩
            · exact .inl ⟨y, e, .inl h⟩
            · rcases List.mem_append.1 h with h | h
              · exact .inl ⟨y, e, .inr h⟩
              · rw [List.mem_singleton] at h; exact .inr (by rw [e, h])
          · rintro (⟨y, e, h | h⟩ | e)
            · exact ⟨y, e, .inl h⟩
            · exact ⟨y, e, .inr (List.mem_append_left _ h)⟩
            · exact ⟨_, e, .inr (List.mem_append_right _ (List.mem_singleton.2 rfl))⟩)
        have htk := nats_take hx
        have hat := asum_take ag hx
        have hit' := innT_snoc pv mu (xs.take j') x
        rw [← take_snoc hx] at hit'
        have hlw : ∀ L, w0.le ⟨w0.w, (l, o) :: (D, .deferred (some [])) :: mks Ds ((mp, mapO false L) :: w0.ms)⟩ := fun L => ⟨rfl, .cons _ (.cons _ (hle Ds L).2)⟩
        have hup : ∀ L L', UpdM mp (mapO false L) (mapO false L') ((l, o) :: (D, .deferred (some [])) :: mks Ds ((mp, mapO false L) :: w0.ms)) ((l, o) :: (D, .deferred (some [])) :: mks Ds ((mp, mapO false L') :: w0.ms)) := fun L L' => .tail _ (.tail _ (UpdM.app (.head _) _))
        have i3 := hs3 x hxn
        have ktx := fun hs' h => kt _ (hlw (mset L1 [(x : Int)] (.bool true))) x hxn hs' h
        have kax := fun hs' h => ka _ (hlw (mset L1 [(x : Int)] (.bool true))) x hxn hs' h
        have hcx := fun hs' h => hcl _ (hlw (mset L1 [(x : Int)] (.bool true))) x hxn hs' h
        have hcp := fun hs' h => hcl _ (hlw (mset L1 [(x : Int)] (.bool true))) _ hpn hs' h
        generalize innT pv mu (xs.take j') = inn at *
        generalize asum ag (xs.take j') = sm at *
        by_cases hf : mu x = x
        · have hiv : innT pv mu (xs.take (j' + 1)) = false := by rw [hit']; simp [hf]
          rw [hmf hf] at hcx
          rw [hiv] at hit'
          clear hcp kr kit hseen hsrt hcls hinn hasm hlt hag hs3 kt ka hcl look hle hll hw hNet hmt hmf hlw hro hrr hrl
          repeat' (first | ((with_reducible apply kP (.load 103 _)); refine sP ?_ (o_load rfl (ld_one sh109 (own MMt rfl)))) | ((with_reducible apply kDP (.load 103 _)); refine dP ?_ (hX := rfl) (hv := o_load rfl (ld_one sh109 (own MMt rfl)))) | ((with_reducible apply kQO (.load 103 _)); refine qP ?_ (o_load rfl (ld_one sh109 (own MMt rfl)))) | ((with_reducible apply kN); refine s_mapUpdate (x := [(x : Int)]) (v := .bool true) mp109 rfl rfl rfl rfl hSj.len (hup _ _) ?_) | ((with_reducible apply kP (.call ⟨.builtin .append, _, _⟩)); refine sAp (fun oa7 c7 k7 hr7 => ?_) (hr := hr6) (hk := hl6)) | ((with_reducible apply kN); refine stC ?_) | ((with_reducible apply kP (.load 69 _)); refine sP ?_ (o_load rfl (ld_one (shTOf rfl) (own MMt rfl)))) | ((with_reducible apply kDP (.load 69 _)); refine dP ?_ (hX := rfl) (hv := o_load rfl (ld_one (shTOf rfl) (own MMt rfl)))) | ((with_reducible apply kQO (.load 69 _)); refine qP ?_ (o_load rfl (ld_one (shTOf rfl) (own MMt rfl)))) | ((with_reducible apply kP (.load 27 (.tmp 42))); refine sP ?_ (o_load rfl (ld_one (shTOf rfl) (own (hme _ SBt) rfl)))) | ((with_reducible apply kDP (.load 27 (.tmp 42))); refine dP ?_ (hX := rfl) (hv := o_load rfl (ld_one (shTOf rfl) (own (hme _ SBt) rfl)))) | ((with_reducible apply kQO (.load 27 (.tmp 42))); refine qP ?_ (o_load rfl (ld_one (shTOf rfl) (own (hme _ SBt) rfl)))) | ((with_reducible apply kP (.load 27 (.tmp 51))); refine sP ?_ (o_load rfl (ld_one (shTOf rfl) (own (hme _ SBt) rfl)))) | ((with_reducible apply kDP (.load 27 (.tmp 51))); refine dP ?_ (hX := rfl) (hv := o_load rfl (ld_one (shTOf rfl) (own (hme _ SBt) rfl)))) | ((with_reducible apply kQO (.load 27 (.tmp 51))); refine qP ?_ (o_load rfl (ld_one (shTOf rfl) (own (hme _ SBt) rfl)))) | ((with_reducible apply kP (.load 27 (.tmp 27))); refine sP ?_ (o_load rfl (ld_one (shTOf rfl) (own MMt rfl)))) | ((with_reducible apply kDP (.load 27 (.tmp 27))); refine dP ?_ (hX := rfl) (hv := o_load rfl (ld_one (shTOf rfl) (own MMt rfl)))) | ((with_reducible apply kQO (.load 27 (.tmp 27))); refine qP ?_ (o_load rfl (ld_one (shTOf rfl) (own MMt rfl)))) | ((with_reducible apply kP (.load 3 (.tmp 33))); refine sP ?_ (o_load rfl (ld_one (shTOf rfl) (own MMt rfl)))) | ((with_reducible apply kDP (.load 3 (.tmp 33))); refine dP ?_ (hX := rfl) (hv := o_load rfl (ld_one (shTOf rfl) (own MMt rfl)))) | ((with_reducible apply kQO (.load 3 (.tmp 33))); refine qP ?_ (o_load rfl (ld_one (shTOf rfl) (own MMt rfl)))) | ((with_reducible apply kP (.load 3 (.tmp 45))); refine sP ?_ (o_load rfl (ld_one (shTOf rfl) (hcx _ SBt)))) | ((with_reducible apply kDP (.load 3 (.tmp 45))); refine dP ?_ (hX := rfl) (hv := o_load rfl (ld_one (shTOf rfl) (hcx _ SBt)))) | ((with_reducible apply kQO (.load 3 (.tmp 45))); refine qP ?_ (o_load rfl (ld_one (shTOf rfl) (hcx _ SBt)))) | ((with_reducible apply kDF 45); refine dC 45 (fun F => kax _ SBt) ?_) | ((with_reducible apply kDF 44); refine dC 44 (fun F => ktx _ SBt) ?_) | ((with_reducible apply kDN); refine dtC ?_) | (with_reducible first | refine g_seq ?_ | refine g_block ?_ | refine g_skip ?_ | refine g_exit ?_ | refine g_ret ?_ | refine si_nil ?_) | ((with_reducible apply kGD 12); refine g_drawn [0, 0, 1, 1, 3, 1, 1, 4] _ (List.Sublist.refl _) mixed (by kernel_rfl) (by rfl) ?_) | ((with_reducible apply kGD 13); refine g_drawn [1, 1, 1, 1, 1, 1, 1, 1, 1, 0, 0, 0, 0, 1, 1, 3, 1, 1, 1, 1] _ (List.Sublist.refl _) mixed (by kernel_rfl) (by rfl) ?_) | ((with_reducible apply gCI); first | refine gT ?_ | refine gF ?_ | (refine gI (fun h => ?_) (fun h => ?_) <;> (try (exfalso; omega))) | refine gBB (fun h => ?_) (fun h => ?_)) | ((with_reducible apply gRI); refine g_quiet mixed (by kernel_rfl) (by rfl) ?_) | (refine g_region ?_) | ((with_reducible apply kYo _); refine si_one rfl ?_) | ((with_reducible apply kRg 12); refine cD [0, 0, 1, 1, 3, 1, 1, 4] ?_) | ((with_reducible apply kRg 13); refine cD [1, 1, 1, 1, 1, 1, 1, 1, 1, 0, 0, 0, 0, 1, 1, 3, 1, 1, 1, 1] ?_) | (with_reducible first | refine c_seq ?_ | refine c_reg ?_ | refine c_region ?_ | refine c_block ?_ | refine c_skip ?_ | refine c_exit ?_ | refine c_ret ?_ | refine s_nil ?_ | refine x_then ?_ | refine x_then_exit ?_ | refine x_then_ret ?_ | refine x_block ?_ | refine x_block_ret ?_ | refine x_block_same ?_ | refine x_block_other (by first | rfl | decide) ?_ | refine q_nil ?_ | refine k_nil ?_) | ((with_reducible apply kN); first | refine stP ?_ | refine stI ?_ | refine st1 ?_ | refine stW ?_) | ((with_reducible apply kP (.alloc _)); refine sA (fun b => ?_)) | ((with_reducible apply kP (.box _ _)); first | refine sBA (fun b => ?_) | refine sB (fun b => ?_)) | ((with_reducible apply kP (.buildSlice _ 1 _)); first | refine sl1A (fun b => ?_) | refine sl1 (fun b => ?_)) | ((with_reducible apply kP (.call ⟨.builtin .append, _, _⟩)); refine sAp (fun oa2 c2 blk2 hrow2 => ?_)) | ((with_reducible apply kP _); refine sP ?_) | ((with_reducible apply kP _); refine sX ?_) | ((with_reducible apply kC); first | refine cT ?_ | refine cF ?_ | (refine cI (fun h => ?_) (fun h => ?_) <;> (try (exfalso; omega))) | refine cB (fun h => ?_) (fun h => ?_)) | ((with_reducible apply kDG); first | refine dY1 ?_ | refine dNo1 ?_ | refine dU1 ?_ | (refine dD1 (fun h => ?_) (fun h => ?_) <;> (try (exfalso; omega))) | refine dB1 (fun h => ?_) (fun h => ?_)) | ((with_reducible apply kDN); first | refine dtI ?_ | refine dt1 ?_ | refine dtW ?_) | ((with_reducible apply kDP _); refine dP ?_) | ((with_reducible apply kDP _); refine dX ?_))
          have hr7' : RowOk oa7 c7 1 (ivs (nats (xs.take (j' + 1)))) k7 := by rw [htk]; exact hr7
          first
            | exact e_round (⟨j' + 1, mset L1 [(x : Int)] (.bool true), oa7, c7, k7⟩ : PnJ) ⟨rfl, hjl, hS2, hr7'⟩ (.refl _) (by dsimp only; rw [hat, hiv]; exact .append (.refl _) (.cons _ (.refl _)))
            | trace_state
        · rw [hmt hf] at hcx
          by_cases hg : mu (pv x) = pv x
          · have hiv : innT pv mu (xs.take (j' + 1)) = false := by rw [hit']; simp [hg]
            rw [hmf hg] at hcp
            clear kr kit hseen hsrt hcls hinn hasm hlt hag hs3 kt ka hcl look hle hll hw hNet hmt hmf hlw hro hrr hrl
            repeat' (first | ((with_reducible apply kP (.load 103 _)); refine sP ?_ (o_load rfl (ld_one sh109 (own MMt rfl)))) | ((with_reducible apply kDP (.load 103 _)); refine dP ?_ (hX := rfl) (hv := o_load rfl (ld_one sh109 (own MMt rfl)))) | ((with_reducible apply kQO (.load 103 _)); refine qP ?_ (o_load rfl (ld_one sh109 (own MMt rfl)))) | ((with_reducible apply kN); refine s_mapUpdate (x := [(x : Int)]) (v := .bool true) mp109 rfl rfl rfl rfl hSj.len (hup _ _) ?_) | ((with_reducible apply kP (.call ⟨.builtin .append, _, _⟩)); refine sAp (fun oa7 c7 k7 hr7 => ?_) (hr := hr6) (hk := hl6)) | ((with_reducible apply kN); refine stC ?_) | ((with_reducible apply kP (.load 69 _)); refine sP ?_ (o_load rfl (ld_one (shTOf rfl) (own MMt rfl)))) | ((with_reducible apply kDP (.load 69 _)); refine dP ?_ (hX := rfl) (hv := o_load rfl (ld_one (shTOf rfl) (own MMt rfl)))) | ((with_reducible apply kQO (.load 69 _)); refine qP ?_ (o_load rfl (ld_one (shTOf rfl) (own MMt rfl)))) | ((with_reducible apply kP (.load 27 (.tmp 42))); refine sP ?_ (o_load rfl (ld_one (shTOf rfl) (own (hme _ SBt) rfl)))) | ((with_reducible apply kDP (.load 27 (.tmp 42))); refine dP ?_ (hX := rfl) (hv := o_load rfl (ld_one (shTOf rfl) (own (hme _ SBt) rfl)))) | ((with_reducible apply kQO (.load 27 (.tmp 42))); refine qP ?_ (o_load rfl (ld_one (shTOf rfl) (own (hme _ SBt) rfl)))) | ((with_reducible apply kP (.load 27 (.tmp 51))); refine sP ?_ (o_load rfl (ld_one (shTOf rfl) (own (hme _ SBt) rfl)))) | ((with_reducible apply kDP (.load 27 (.tmp 51))); refine dP ?_ (hX := rfl) (hv := o_load rfl (ld_one (shTOf rfl) (own (hme _ SBt) rfl)))) | ((with_reducible apply kQO (.load 27 (.tmp 51))); refine qP ?_ (o_load rfl (ld_one (shTOf rfl) (own (hme _ SBt) rfl)))) | ((with_reducible apply kP (.load 27 (.tmp 27))); refine sP ?_ (o_load rfl (ld_one (shTOf rfl) (own MMt rfl)))) | ((with_reducible apply kDP (.load 27 (.tmp 27))); refine dP ?_ (hX := rfl) (hv := o_load rfl (ld_one (shTOf rfl) (own MMt rfl)))) | ((with_reducible apply kQO (.load 27 (.tmp 27))); refine qP ?_ (o_load rfl (ld_one (shTOf rfl) (own MMt rfl)))) | ((with_reducible apply kP (.load 3 (.tmp 33))); refine sP ?_ (o_load rfl (ld_one (shTOf rfl) (own MMt rfl)))) | ((with_reducible apply kDP (.load 3 (.tmp 33))); refine dP ?_ (hX := rfl) (hv := o_load rfl (ld_one (shTOf rfl) (own MMt rfl)))) | ((with_reducible apply kQO (.load 3 (.tmp 33))); refine qP ?_ (o_load rfl (ld_one (shTOf rfl) (own MMt rfl)))) | ((with_reducible apply kP (.load 3 (.tmp 45))); refine sP ?_ (o_load rfl (ld_one (shTOf rfl) (hcx _ SBt)))) | ((with_reducible apply kDP (.load 3 (.tmp 45))); refine dP ?_ (hX := rfl) (hv := o_load rfl (ld_one (shTOf rfl) (hcx _ SBt)))) | ((with_reducible apply kQO (.load 3 (.tmp 45))); refine qP ?_ (o_load rfl (ld_one (shTOf rfl) (hcx _ SBt)))) | ((with_reducible apply kP (.binOp .lss _ (.tmp 46) _ _)); refine sP ?_ (o_lssF rfl rfl (by omega))) | ((with_reducible apply kDP (.binOp .lss _ (.tmp 46) _ _)); refine dP ?_ (hX := rfl) (hv := o_lssF rfl rfl (by omega))) | ((with_reducible apply kQO (.binOp .lss _ (.tmp 46) _ _)); refine qP ?_ (o_lssF rfl rfl (by omega))) | ((with_reducible apply kP (.load 3 (.tmp 56))); refine sP ?_ (o_load rfl (ld_one (shTOf rfl) (hcp _ SBt)))) | ((with_reducible apply kDP (.load 3 (.tmp 56))); refine dP ?_ (hX := rfl) (hv := o_load rfl (ld_one (shTOf rfl) (hcp _ SBt)))) | ((with_reducible apply kQO (.load 3 (.tmp 56))); refine qP ?_ (o_load rfl (ld_one (shTOf rfl) (hcp _ SBt)))) | ((with_reducible apply kDF 45); refine dC 45 (fun F => kax _ SBt) ?_) | ((with_reducible apply kDF 44); refine dC 44 (fun F => ktx _ SBt) ?_) | ((with_reducible apply kDN); refine dtC ?_) | (with_reducible first | refine g_seq ?_ | refine g_block ?_ | refine g_skip ?_ | refine g_exit ?_ | refine g_ret ?_ | refine si_nil ?_) | ((with_reducible apply kGD 12); refine g_drawn [0, 0, 1, 1, 3, 1, 1, 4] _ (List.Sublist.refl _) mixed (by kernel_rfl) (by rfl) ?_) | ((with_reducible apply kGD 13); refine g_drawn [1, 1, 1, 1, 1, 1, 1, 1, 1, 0, 0, 0, 0, 1, 1, 3, 1, 1, 1, 1] _ (List.Sublist.refl _) mixed (by kernel_rfl) (by rfl) ?_) | ((with_reducible apply gCI); first | refine gT ?_ | refine gF ?_ | (refine gI (fun h => ?_) (fun h => ?_) <;> (try (exfalso; omega))) | refine gBB (fun h => ?_) (fun h => ?_)) | ((with_reducible apply gRI); refine g_quiet mixed (by kernel_rfl) (by rfl) ?_) | (refine g_region ?_) | ((with_reducible apply kYo _); refine si_one rfl ?_) | ((with_reducible apply kRg 12); refine cD [0, 0, 1, 1, 3, 1, 1, 4] ?_) | ((with_reducible apply kRg 13); refine cD [1, 1, 1, 1, 1, 1, 1, 1, 1, 0, 0, 0, 0, 1, 1, 3, 1, 1, 1, 1] ?_) | (with_reducible first | refine c_seq ?_ | refine c_reg ?_ | refine c_region ?_ | refine c_block ?_ | refine c_skip ?_ | refine c_exit ?_ | refine c_ret ?_ | refine s_nil ?_ | refine x_then ?_ | refine x_then_exit ?_ | refine x_then_ret ?_ | refine x_block ?_ | refine x_block_ret ?_ | refine x_block_same ?_ | refine x_block_other (by first | rfl | decide) ?_ | refine q_nil ?_ | refine k_nil ?_) | ((with_reducible apply kN); first | refine stP ?_ | refine stI ?_ | refine st1 ?_ | refine stW ?_) | ((with_reducible apply kP (.alloc _)); refine sA (fun b => ?_)) | ((with_reducible apply kP (.box _ _)); first | refine sBA (fun b => ?_) | refine sB (fun b => ?_)) | ((with_reducible apply kP (.buildSlice _ 1 _)); first | refine sl1A (fun b => ?_) | refine sl1 (fun b => ?_)) | ((with_reducible apply kP (.call ⟨.builtin .append, _, _⟩)); refine sAp (fun oa2 c2 blk2 hrow2 => ?_)) | ((with_reducible apply kP _); refine sP ?_) | ((with_reducible apply kP _); refine sX ?_) | ((with_reducible apply kC); first | refine cT ?_ | refine cF ?_ | (refine cI (fun h => ?_) (fun h => ?_) <;> (try (exfalso; omega))) | refine cB (fun h => ?_) (fun h => ?_)) | ((with_reducible apply kDG); first | refine dY1 ?_ | refine dNo1 ?_ | refine dU1 ?_ | (refine dD1 (fun h => ?_) (fun h => ?_) <;> (try (exfalso; omega))) | refine dB1 (fun h => ?_) (fun h => ?_)) | ((with_reducible apply kDN); first | refine dtI ?_ | refine dt1 ?_ | refine dtW ?_) | ((with_reducible apply kDP _); refine dP ?_) | ((with_reducible apply kDP _); refine dX ?_))
            have hr7' : RowOk oa7 c7 1 (ivs (nats (xs.take (j' + 1)))) k7 := by rw [htk]; exact hr7
            first
              | exact e_round (⟨j' + 1, mset L1 [(x : Int)] (.bool true), oa7, c7, k7⟩ : PnJ) ⟨rfl, hjl, hS2, hr7'⟩ (.refl _) (by dsimp only; rw [hat, hiv]; exact .append (.refl _) (.cons _ (.refl _)))
              | trace_state
          · have hiv : innT pv mu (xs.take (j' + 1)) = inn := by rw [hit']; simp [hf, hg]
            rw [hmt hg] at hcp
            clear kr kit hseen hsrt hcls hinn hasm hlt hag hs3 kt ka hcl look hle hll hw hNet hmt hmf hlw hro hrr hrl
            repeat' (first | ((with_reducible apply kP (.load 103 _)); refine sP ?_ (o_load rfl (ld_one sh109 (own MMt rfl)))) | ((with_reducible apply kDP (.load 103 _)); refine dP ?_ (hX := rfl) (hv := o_load rfl (ld_one sh109 (own MMt rfl)))) | ((with_reducible apply kQO (.load 103 _)); refine qP ?_ (o_load rfl (ld_one sh109 (own MMt rfl)))) | ((with_reducible apply kN); refine s_mapUpdate (x := [(x : Int)]) (v := .bool true) mp109 rfl rfl rfl rfl hSj.len (hup _ _) ?_) | ((with_reducible apply kP (.call ⟨.builtin .append, _, _⟩)); refine sAp (fun oa7 c7 k7 hr7 => ?_) (hr := hr6) (hk := hl6)) | ((with_reducible apply kN); refine stC ?_) | ((with_reducible apply kP (.load 69 _)); refine sP ?_ (o_load rfl (ld_one (shTOf rfl) (own MMt rfl)))) | ((with_reducible apply kDP (.load 69 _)); refine dP ?_ (hX := rfl) (hv := o_load rfl (ld_one (shTOf rfl) (own MMt rfl)))) | ((with_reducible apply kQO (.load 69 _)); refine qP ?_ (o_load rfl (ld_one (shTOf rfl) (own MMt rfl)))) | ((with_reducible apply kP (.load 27 (.tmp 42))); refine sP ?_ (o_load rfl (ld_one (shTOf rfl) (own (hme _ SBt) rfl)))) | ((with_reducible apply kDP (.load 27 (.tmp 42))); refine dP ?_ (hX := rfl) (hv := o_load rfl (ld_one (shTOf rfl) (own (hme _ SBt) rfl)))) | ((with_reducible apply kQO (.load 27 (.tmp 42))); refine qP ?_ (o_load rfl (ld_one (shTOf rfl) (own (hme _ SBt) rfl)))) | ((with_reducible apply kP (.load 27 (.tmp 51))); refine sP ?_ (o_load rfl (ld_one (shTOf rfl) (own (hme _ SBt) rfl)))) | ((with_reducible apply kDP (.load 27 (.tmp 51))); refine dP ?_ (hX := rfl) (hv := o_load rfl (ld_one (shTOf rfl) (own (hme _ SBt) rfl)))) | ((with_reducible apply kQO (.load 27 (.tmp 51))); refine qP ?_ (o_load rfl (ld_one (shTOf rfl) (own (hme _ SBt) rfl)))) | ((with_reducible apply kP (.load 27 (.tmp 27))); refine sP ?_ (o_load rfl (ld_one (shTOf rfl) (own MMt rfl)))) | ((with_reducible apply kDP (.load 27 (.tmp 27))); refine dP ?_ (hX := rfl) (hv := o_load rfl (ld_one (shTOf rfl) (own MMt rfl)))) | ((with_reducible apply kQO (.load 27 (.tmp 27))); refine qP ?_ (o_load rfl (ld_one (shTOf rfl) (own MMt rfl)))) | ((with_reducible apply kP (.load 3 (.tmp 33))); refine sP ?_ (o_load rfl (ld_one (shTOf rfl) (own MMt rfl)))) | ((with_reducible apply kDP (.load 3 (.tmp 33))); refine dP ?_ (hX := rfl) (hv := o_load rfl (ld_one (shTOf rfl) (own MMt rfl)))) | ((with_reducible apply kQO (.load 3 (.tmp 33))); refine qP ?_ (o_load rfl (ld_one (shTOf rfl) (own MMt rfl)))) | ((with_reducible apply kP (.load 3 (.tmp 45))); refine sP ?_ (o_load rfl (ld_one (shTOf rfl) (hcx _ SBt)))) | ((with_reducible apply kDP (.load 3 (.tmp 45))); refine dP ?_ (hX := rfl) (hv := o_load rfl (ld_one (shTOf rfl) (hcx _ SBt)))) | ((with_reducible apply kQO (.load 3 (.tmp 45))); refine qP ?_ (o_load rfl (ld_one (shTOf rfl) (hcx _ SBt)))) | ((with_reducible apply kP (.binOp .lss _ (.tmp 46) _ _)); refine sP ?_ (o_lssF rfl rfl (by omega))) | ((with_reducible apply kDP (.binOp .lss _ (.tmp 46) _ _)); refine dP ?_ (hX := rfl) (hv := o_lssF rfl rfl (by omega))) | ((with_reducible apply kQO (.binOp .lss _ (.tmp 46) _ _)); refine qP ?_ (o_lssF rfl rfl (by omega))) | ((with_reducible apply kP (.binOp .lss _ (.tmp 57) _ _)); refine sP ?_ (o_lssF rfl rfl (by omega))) | ((with_reducible apply kDP (.binOp .lss _ (.tmp 57) _ _)); refine dP ?_ (hX := rfl) (hv := o_lssF rfl rfl (by omega))) | ((with_reducible apply kQO (.binOp .lss _ (.tmp 57) _ _)); refine qP ?_ (o_lssF rfl rfl (by omega))) | ((with_reducible apply kP (.load 3 (.tmp 56))); refine sP ?_ (o_load rfl (ld_one (shTOf rfl) (hcp _ SBt)))) | ((with_reducible apply kDP (.load 3 (.tmp 56))); refine dP ?_ (hX := rfl) (hv := o_load rfl (ld_one (shTOf rfl) (hcp _ SBt)))) | ((with_reducible apply kQO (.load 3 (.tmp 56))); refine qP ?_ (o_load rfl (ld_one (shTOf rfl) (hcp _ SBt)))) | ((with_reducible apply kDF 45); refine dC 45 (fun F => kax _ SBt) ?_) | ((with_reducible apply kDF 44); refine dC 44 (fun F => ktx _ SBt) ?_) | ((with_reducible apply kDN); refine dtC ?_) | (with_reducible first | refine g_seq ?_ | refine g_block ?_ | refine g_skip ?_ | refine g_exit ?_ | refine g_ret ?_ | refine si_nil ?_) | ((with_reducible apply kGD 12); refine g_drawn [0, 0, 1, 1, 3, 1, 1, 4] _ (List.Sublist.refl _) mixed (by kernel_rfl) (by rfl) ?_) | ((with_reducible apply kGD 13); refine g_drawn [1, 1, 1, 1, 1, 1, 1, 1, 1, 0, 0, 0, 0, 1, 1, 3, 1, 1, 1, 1] _ (List.Sublist.refl _) mixed (by kernel_rfl) (by rfl) ?_) | ((with_reducible apply gCI); first | refine gT ?_ | refine gF ?_ | (refine gI (fun h => ?_) (fun h => ?_) <;> (try (exfalso; omega))) | refine gBB (fun h => ?_) (fun h => ?_)) | ((with_reducible apply gRI); refine g_quiet mixed (by kernel_rfl) (by rfl) ?_) | (refine g_region ?_) | ((with_reducible apply kYo _); refine si_one rfl ?_) | ((with_reducible apply kRg 12); refine cD [0, 0, 1, 1, 3, 1, 1, 4] ?_) | ((with_reducible apply kRg 13); refine cD [1, 1, 1, 1, 1, 1, 1, 1, 1, 0, 0, 0, 0, 1, 1, 3, 1, 1, 1, 1] ?_) | (with_reducible first | refine c_seq ?_ | refine c_reg ?_ | refine c_region ?_ | refine c_block ?_ | refine c_skip ?_ | refine c_exit ?_ | refine c_ret ?_ | refine s_nil ?_ | refine x_then ?_ | refine x_then_exit ?_ | refine x_then_ret ?_ | refine x_block ?_ | refine x_block_ret ?_ | refine x_block_same ?_ | refine x_block_other (by first | rfl | decide) ?_ | refine q_nil ?_ | refine k_nil ?_) | ((with_reducible apply kN); first | refine stP ?_ | refine stI ?_ | refine st1 ?_ | refine stW ?_) | ((with_reducible apply kP (.alloc _)); refine sA (fun b => ?_)) | ((with_reducible apply kP (.box _ _)); first | refine sBA (fun b => ?_) | refine sB (fun b => ?_)) | ((with_reducible apply kP (.buildSlice _ 1 _)); first | refine sl1A (fun b => ?_) | refine sl1 (fun b => ?_)) | ((with_reducible apply kP (.call ⟨.builtin .append, _, _⟩)); refine sAp (fun oa2 c2 blk2 hrow2 => ?_)) | ((with_reducible apply kP _); refine sP ?_) | ((with_reducible apply kP _); refine sX ?_) | ((with_reducible apply kC); first | refine cT ?_ | refine cF ?_ | (refine cI (fun h => ?_) (fun h => ?_) <;> (try (exfalso; omega))) | refine cB (fun h => ?_) (fun h => ?_)) | ((with_reducible apply kDG); first | refine dY1 ?_ | refine dNo1 ?_ | refine dU1 ?_ | (refine dD1 (fun h => ?_) (fun h => ?_) <;> (try (exfalso; omega))) | refine dB1 (fun h => ?_) (fun h => ?_)) | ((with_reducible apply kDN); first | refine dtI ?_ | refine dt1 ?_ | refine dtW ?_) | ((with_reducible apply kDP _); refine dP ?_) | ((with_reducible apply kDP _); refine dX ?_))
            have hr7' : RowOk oa7 c7 1 (ivs (nats (xs.take (j' + 1)))) k7 := by rw [htk]; exact hr7
            first
              | exact e_round (⟨j' + 1, mset L1 [(x : Int)] (.bool true), oa7, c7, k7⟩ : PnJ) ⟨rfl, hjl, hS2, hr7'⟩ (.refl _) (by dsimp only; rw [hat, hiv]; exact .append (.refl _) (.cons _ (.refl _)))
              | trace_state
      · rintro ⟨j', L1, oa1, c1, k6⟩ ⟨hj', hj, hSj, hr6⟩ D
        dsimp only at hj' hj hSj hr6 ⊢
        rw [List.length_map] at hj' hj hSj hr6
        rw [List.take_length] at hSj hr6
        subst hj'
        rw [List.take_length, hinn, hasm]
        rw [hasm] at hin
        rcases hr6 with ⟨_, _, h3, _⟩ | ⟨b7, z7, rfl, rfl, hz7, hc7⟩
        · exfalso
          have := congrArg List.length h3
          rw [ivs_length, nats_len] at this
          have h4 : xs.length = 0 := this
          rw [List.length_eq_zero_iff.1 h4] at h0x
          cases h0x
        have hsr : srtI (nats xs) = nats (clsL n nx mu i) := hsrt _ (List.mergeSort_perm _ _) (srtI_ord _)
        have hln : (clsL n nx mu i).length = xs.length := hcls.length_eq.symm
        have ks : ∀ (W : Wd) hs', Fn Tryz.prog 30 #[.slice (some ⟨b7, 0, none⟩) xs.length c1] B W ((b7, ivs (nats xs) ++ z7) :: hs') (fun v h => v = .tuple #[] ∧ h = (b7, ivs (nats (clsL n nx mu i)) ++ z7) :: hs') := fun W hs' => by
          rw [← hsr]; exact fn_sortI Tryz.sortI (nats_len xs) (by omega)
        have hS2 : SnM 1 (fun x => ∃ y : Nat, x = [((y : Nat) : Int)] ∧ seen2 n nx mu (i + 1) y) L1 := ⟨hSj.len, hSj.yes, fun x => by
          rw [hSj.mem x]
          exact ⟨fun ⟨y, e, h⟩ => ⟨y, e, (hseen y).2 h⟩, fun ⟨y, e, h⟩ => ⟨y, e, (hseen y).1 h⟩⟩⟩
        have hpl := prv_len rs
        have hsn := fun r => prv_snoc rs r
        have hbn := fun r => prb_snoc rs r
        have hpy := ptsL_yes (n := n) (nx := nx) (mu := mu) (ag := ag) hfst
        have hpt : ptO n nx mu ag i = ⟨clsL n nx mu i, innB n nx mu i, asum ag (clsL n nx mu i), (if innB n nx mu i then 360 else 180) - asum ag (clsL n nx mu i)⟩ := rfl
        have hrow : RowOk (some ⟨b7, 0, none⟩) c1 1 (ivs (nats (clsL n nx mu i))) [(b7, ivs (nats (clsL n nx mu i)) ++ z7)] := .inr ⟨b7, z7, rfl, rfl, by rw [List.length_append, ivs_length, nats_len] at hz7 ⊢; omega, hc7⟩
        clear kr kit hseen hsrt hcls hinn hasm hlt hag hs3 kt ka hcl look hw hNet hmt hmf hll hit hmem hl0 hSj
        generalize asum ag (clsL n nx mu i) = sm at *
        cases hb : innB n nx mu i
        all_goals
          rw [hb] at hpt
          simp only [Bool.false_eq_true, ↓reduceIte] at hpt
          repeat' (first | ((with_reducible apply kP (.load 27 (.tmp 61))); refine sP ?_ (o_load rfl (ld_one (shTOf rfl) (own MMt rfl)))) | ((with_reducible apply kDP (.load 27 (.tmp 61))); refine dP ?_ (hX := rfl) (hv := o_load rfl (ld_one (shTOf rfl) (own MMt rfl)))) | ((with_reducible apply kQO (.load 27 (.tmp 61))); refine qP ?_ (o_load rfl (ld_one (shTOf rfl) (own MMt rfl)))) | ((with_reducible apply kP (.load 3 (.tmp 64))); refine sP ?_ (o_load rfl (ld_one (shTOf rfl) (own MMt rfl)))) | ((with_reducible apply kDP (.load 3 (.tmp 64))); refine dP ?_ (hX := rfl) (hv := o_load rfl (ld_one (shTOf rfl) (own MMt rfl)))) | ((with_reducible apply kQO (.load 3 (.tmp 64))); refine qP ?_ (o_load rfl (ld_one (shTOf rfl) (own MMt rfl)))) | ((with_reducible apply kP (.load 3 (.tmp 70))); refine sP ?_ (o_load rfl (ld_one (shTOf rfl) (own MMt rfl)))) | ((with_reducible apply kDP (.load 3 (.tmp 70))); refine dP ?_ (hX := rfl) (hv := o_load rfl (ld_one (shTOf rfl) (own MMt rfl)))) | ((with_reducible apply kQO (.load 3 (.tmp 70))); refine qP ?_ (o_load rfl (ld_one (shTOf rfl) (own MMt rfl)))) | ((with_reducible apply kP (.load 4 (.tmp 68))); refine sP ?_ (o_load rfl (ld_one (shTOf rfl) (own MMt rfl)))) | ((with_reducible apply kDP (.load 4 (.tmp 68))); refine dP ?_ (hX := rfl) (hv := o_load rfl (ld_one (shTOf rfl) (own MMt rfl)))) | ((with_reducible apply kQO (.load 4 (.tmp 68))); refine qP ?_ (o_load rfl (ld_one (shTOf rfl) (own MMt rfl)))) | ((with_reducible apply kF 30); refine s_mut1 (goTOf rfl) rfl (by with_reducible ((repeat (first | exact Take.head | exact Take.one | apply Take.tail | apply Take.app)); done)) (ks _ _) (by first | decide | exact ltd rfl) ?_) | ((with_reducible apply kN); refine stC ?_) | ((with_reducible apply kP (.call ⟨.builtin .append, _, _⟩)); refine sAp (fun oa8 c8 k8 hr8 => ?_) (hr := hro) (hk := hpl) (hf := flat_cons rfl (flat_cons rfl (flat_cons rfl (flat1 rfl))))) | (with_reducible first | refine g_seq ?_ | refine g_block ?_ | refine g_skip ?_ | refine g_exit ?_ | refine g_ret ?_ | refine si_nil ?_) | ((with_reducible apply kGD 12); refine g_drawn [0, 0, 1, 1, 3, 1, 1, 4] _ (List.Sublist.refl _) mixed (by kernel_rfl) (by rfl) ?_) | ((with_reducible apply kGD 13); refine g_drawn [1, 1, 1, 1, 1, 1, 1, 1, 1, 0, 0, 0, 0, 1, 1, 3, 1, 1, 1, 1] _ (List.Sublist.refl _) mixed (by kernel_rfl) (by rfl) ?_) | ((with_reducible apply gCI); first | refine gT ?_ | refine gF ?_ | (refine gI (fun h => ?_) (fun h => ?_) <;> (try (exfalso; omega))) | refine gBB (fun h => ?_) (fun h => ?_)) | ((with_reducible apply gRI); refine g_quiet mixed (by kernel_rfl) (by rfl) ?_) | (refine g_region ?_) | ((with_reducible apply kYo _); refine si_one rfl ?_) | ((with_reducible apply kRg 12); refine cD [0, 0, 1, 1, 3, 1, 1, 4] ?_) | ((with_reducible apply kRg 13); refine cD [1, 1, 1, 1, 1, 1, 1, 1, 1, 0, 0, 0, 0, 1, 1, 3, 1, 1, 1, 1] ?_) | (with_reducible first | refine c_seq ?_ | refine c_reg ?_ | refine c_region ?_ | refine c_block ?_ | refine c_skip ?_ | refine c_exit ?_ | refine c_ret ?_ | refine s_nil ?_ | refine x_then ?_ | refine x_then_exit ?_ | refine x_then_ret ?_ | refine x_block ?_ | refine x_block_ret ?_ | refine x_block_same ?_ | refine x_block_other (by first | rfl | decide) ?_ | refine q_nil ?_ | refine k_nil ?_) | ((with_reducible apply kN); first | refine stP ?_ | refine stI ?_ | refine st1 ?_ | refine stW ?_) | ((with_reducible apply kP (.alloc _)); refine sA (fun b => ?_)) | ((with_reducible apply kP (.box _ _)); first | refine sBA (fun b => ?_) | refine sB (fun b => ?_)) | ((with_reducible apply kP (.buildSlice _ 1 _)); first | refine sl1A (fun b => ?_) | refine sl1 (fun b => ?_)) | ((with_reducible apply kP (.call ⟨.builtin .append, _, _⟩)); refine sAp (fun oa2 c2 blk2 hrow2 => ?_)) | ((with_reducible apply kP _); refine sP ?_) | ((with_reducible apply kP _); refine sX ?_) | ((with_reducible apply kC); first | refine cT ?_ | refine cF ?_ | (refine cI (fun h => ?_) (fun h => ?_) <;> (try (exfalso; omega))) | refine cB (fun h => ?_) (fun h => ?_)) | ((with_reducible apply kDG); first | refine dY1 ?_ | refine dNo1 ?_ | refine dU1 ?_ | (refine dD1 (fun h => ?_) (fun h => ?_) <;> (try (exfalso; omega))) | refine dB1 (fun h => ?_) (fun h => ?_)) | ((with_reducible apply kDN); first | refine dtI ?_ | refine dt1 ?_ | refine dtW ?_) | ((with_reducible apply kDP _); refine dP ?_) | ((with_reducible apply kDP _); refine dX ?_))
          have hr8' : RowOk oa8 c8 4 (prv (rs ++ [(⟨some ⟨b7, 0, none⟩, c1, ptO n nx mu ag i, [(b7, ivs (nats (clsL n nx mu i)) ++ z7)]⟩ : Pr)])) k8 := by
            rw [hsn, hpt]; dsimp only; rw [hln]; exact hr8
          rw [show rs.length + 1 = (rs ++ [(⟨some ⟨b7, 0, none⟩, c1, ptO n nx mu ag i, [(b7, ivs (nats (clsL n nx mu i)) ++ z7)]⟩ : Pr)]).length by simp]
          refine g_end (⟨i + 1, D :: Ds, L1, oa8, c8, rs ++ [(⟨some ⟨b7, 0, none⟩, c1, ptO n nx mu ag i, [(b7, ivs (nats (clsL n nx mu i)) ++ z7)]⟩ : Pr)], k8⟩ : PnI) ⟨hi', hS2, hr8', fun r hr => ?_, ?_, by simp; omega⟩ (by dsimp only; omega) rfl (.refl _) (by repeat' first | trivial | rfl | apply And.intro) (by dsimp only; rw [hbn]; exact .append (.refl _) (.cons _ (.cons_cons _ (.cons _ (.cons _ (.cons _ (.refl _)))))))
          · rcases List.mem_append.1 hr with hr | hr
            · exact hrr r hr
            · rw [List.mem_singleton] at hr; subst hr; exact hrow
          · dsimp only
            rw [hpy, List.map_append, hrl]
            rfl
    · have hfs : ptF n nx mu i = false := by simpa using hfst
      have hsn : seen2 n nx mu i i := by
        by_cases h : seen2 n nx mu i i
        · exact h
        · exact absurd ((seen2_fst hi').2 h) hfst
      have hl0 := look i _ L hSn true (by simp only [true_iff]; exact hsn)
      have hSi : SnM 1 (fun x => ∃ y : Nat, x = [((y : Nat) : Int)] ∧ seen2 n nx mu (i + 1) y) L := ⟨hSn.len, hSn.yes, fun x => by
        rw [hSn.mem x]
        exact ⟨fun ⟨y, e, h⟩ => ⟨y, e, (seen2_no hfs hi' y).2 h⟩, fun ⟨y, e, h⟩ => ⟨y, e, (seen2_no hfs hi' y).1 h⟩⟩⟩
      repeat' (first | ((with_reducible apply kP (.load 103 _)); refine sP ?_ (o_load rfl (ld_one sh109 (own MMt rfl)))) | ((with_reducible apply kDP (.load 103 _)); refine dP ?_ (hX := rfl) (hv := o_load rfl (ld_one sh109 (own MMt rfl)))) | ((with_reducible apply kQO (.load 103 _)); refine qP ?_ (o_load rfl (ld_one sh109 (own MMt rfl)))) | ((with_reducible apply kP (.lookup _ _ _ _)); refine sP ?_ (hl0 ▸ o_lookup (x := [(i : Int)]) mp109 rfl rfl hmem rfl hSn.len)) | (with_reducible first | refine g_seq ?_ | refine g_block ?_ | refine g_skip ?_ | refine g_exit ?_ | refine g_ret ?_ | refine si_nil ?_) | ((with_reducible apply kGD 12); refine g_drawn [0, 0, 1, 1, 3, 1, 1, 4] _ (List.Sublist.refl _) mixed (by kernel_rfl) (by rfl) ?_) | ((with_reducible apply kGD 13); refine g_drawn [1, 1, 1, 1, 1, 1, 1, 1, 1, 0, 0, 0, 0, 1, 1, 3, 1, 1, 1, 1] _ (List.Sublist.refl _) mixed (by kernel_rfl) (by rfl) ?_) | ((with_reducible apply gCI); first | refine gT ?_ | refine gF ?_ | (refine gI (fun h => ?_) (fun h => ?_) <;> (try (exfalso; omega))) | refine gBB (fun h => ?_) (fun h => ?_)) | ((with_reducible apply gRI); refine g_quiet mixed (by kernel_rfl) (by rfl) ?_) | (refine g_region ?_) | ((with_reducible apply kYo _); refine si_one rfl ?_) | ((with_reducible apply kRg 12); refine cD [0, 0, 1, 1, 3, 1, 1, 4] ?_) | ((with_reducible apply kRg 13); refine cD [1, 1, 1, 1, 1, 1, 1, 1, 1, 0, 0, 0, 0, 1, 1, 3, 1, 1, 1, 1] ?_) | (with_reducible first | refine c_seq ?_ | refine c_reg ?_ | refine c_region ?_ | refine c_block ?_ | refine c_skip ?_ | refine c_exit ?_ | refine c_ret ?_ | refine s_nil ?_ | refine x_then ?_ | refine x_then_exit ?_ | refine x_then_ret ?_ | refine x_block ?_ | refine x_block_ret ?_ | refine x_block_same ?_ | refine x_block_other (by first | rfl | decide) ?_ | refine q_nil ?_ | refine k_nil ?_) | ((with_reducible apply kN); first | refine stP ?_ | refine stI ?_ | refine st1 ?_ | refine stW ?_) | ((with_reducible apply kP (.alloc _)); refine sA (fun b => ?_)) | ((with_reducible apply kP (.box _ _)); first | refine sBA (fun b => ?_) | refine sB (fun b => ?_)) | ((with_reducible apply kP (.buildSlice _ 1 _)); first | refine sl1A (fun b => ?_) | refine sl1 (fun b => ?_)) | ((with_reducible apply kP (.call ⟨.builtin .append, _, _⟩)); refine sAp (fun oa2 c2 blk2 hrow2 => ?_)) | ((with_reducible apply kP _); refine sP ?_) | ((with_reducible apply kP _); refine sX ?_) | ((with_reducible apply kC); first | refine cT ?_ | refine cF ?_ | (refine cI (fun h => ?_) (fun h => ?_) <;> (try (exfalso; omega))) | refine cB (fun h => ?_) (fun h => ?_)) | ((with_reducible apply kDG); first | refine dY1 ?_ | refine dNo1 ?_ | refine dU1 ?_ | (refine dD1 (fun h => ?_) (fun h => ?_) <;> (try (exfalso; omega))) | refine dB1 (fun h => ?_) (fun h => ?_)) | ((with_reducible apply kDN); first | refine dtI ?_ | refine dt1 ?_ | refine dtW ?_) | ((with_reducible apply kDP _); refine dP ?_) | ((with_reducible apply kDP _); refine dX ?_))
      exact g_end (⟨i + 1, Ds, L, oa, c, rs, bo⟩ : PnI) ⟨hi', hSi, hro, hrr, by dsimp only; rw [ptsL_no hfs]; exact hrl, by dsimp only; omega⟩ (by dsimp only; omega) rfl (.refl _) (by repeat' first | trivial | rfl | apply And.intro) SCt
  · obtain rfl : n = i := by omega
    repeat' (first | (with_reducible first | refine g_seq ?_ | refine g_block ?_ | refine g_skip ?_ | refine g_exit ?_ | refine g_ret ?_ | refine si_nil ?_) | ((with_reducible apply kGD 12); refine g_drawn [0, 0, 1, 1, 3, 1, 1, 4] _ (List.Sublist.refl _) mixed (by kernel_rfl) (by rfl) ?_) | ((with_reducible apply kGD 13); refine g_drawn [1, 1, 1, 1, 1, 1, 1, 1, 1, 0, 0, 0, 0, 1, 1, 3, 1, 1, 1, 1] _ (List.Sublist.refl _) mixed (by kernel_rfl) (by rfl) ?_) | ((with_reducible apply gCI); first | refine gT ?_ | refine gF ?_ | (refine gI (fun h => ?_) (fun h => ?_) <;> (try (exfalso; omega))) | refine gBB (fun h => ?_) (fun h => ?_)) | ((with_reducible apply gRI); refine g_quiet mixed (by kernel_rfl) (by rfl) ?_) | (refine g_region ?_) | ((with_reducible apply kYo _); refine si_one rfl ?_) | ((with_reducible apply kRg 12); refine cD [0, 0, 1, 1, 3, 1, 1, 4] ?_) | ((with_reducible apply kRg 13); refine cD [1, 1, 1, 1, 1, 1, 1, 1, 1, 0, 0, 0, 0, 1, 1, 3, 1, 1, 1, 1] ?_) | (with_reducible first | refine c_seq ?_ | refine c_reg ?_ | refine c_region ?_ | refine c_block ?_ | refine c_skip ?_ | refine c_exit ?_ | refine c_ret ?_ | refine s_nil ?_ | refine x_then ?_ | refine x_then_exit ?_ | refine x_then_ret ?_ | refine x_block ?_ | refine x_block_ret ?_ | refine x_block_same ?_ | refine x_block_other (by first | rfl | decide) ?_ | refine q_nil ?_ | refine k_nil ?_) | ((with_reducible apply kN); first | refine stP ?_ | refine stI ?_ | refine st1 ?_ | refine stW ?_) | ((with_reducible apply kP (.alloc _)); refine sA (fun b => ?_)) | ((with_reducible apply kP (.box _ _)); first | refine sBA (fun b => ?_) | refine sB (fun b => ?_)) | ((with_reducible apply kP (.buildSlice _ 1 _)); first | refine sl1A (fun b => ?_) | refine sl1 (fun b => ?_)) | ((with_reducible apply kP (.call ⟨.builtin .append, _, _⟩)); refine sAp (fun oa2 c2 blk2 hrow2 => ?_)) | ((with_reducible apply kP _); refine sP ?_) | ((with_reducible apply kP _); refine sX ?_) | ((with_reducible apply kC); first | refine cT ?_ | refine cF ?_ | (refine cI (fun h => ?_) (fun h => ?_) <;> (try (exfalso; omega))) | refine cB (fun h => ?_) (fun h => ?_)) | ((with_reducible apply kDG); first | refine dY1 ?_ | refine dNo1 ?_ | refine dU1 ?_ | (refine dD1 (fun h => ?_) (fun h => ?_) <;> (try (exfalso; omega))) | refine dB1 (fun h => ?_) (fun h => ?_)) | ((with_reducible apply kDN); first | refine dtI ?_ | refine dt1 ?_ | refine dtW ?_) | ((with_reducible apply kDP _); refine dP ?_) | ((with_reducible apply kDP _); refine dX ?_))
    exact e_retG1 (Ds := Ds) (ms := (mp, mapO false L) :: w0.ms) (hs' := bo ++ (prb rs ++ hs)) rfl rfl (.cons _ (.refl _)) rfl rfl ⟨_, ⟨oa, c, rs, bo, rfl, hro, hrr, hrl, rfl⟩, by rw [List.append_assoc]⟩ SCt
end Go.Proofs.YtnbickholedckaaGreatDoor
namespace Go.Proofs.YtnbickholedckaaGreatDoor
open Go.RowKit
attribute [local irreducible] OpF Ld CellAt Sl Sv pcA usP
def nC (ps : List Pc) : Nat := fsN (sdF ps) ps.length
def nxC (ps : List Pc) : Nat → Nat := nxN (sdF ps) ps.length
def pvC (ps : List Pc) : Nat → Nat := pvN (sdF ps) ps.length
def muC (ps : List Pc) (sm : List Int) (m : Nat) : Nat → Nat := muS (smL (sdF ps) sm m)
def vdC (ps : List Pc) (sm : List Int) (m : Nat) (e : Int) : Int := vdE ps.length (sdF ps) (anF ps) m sm e
structure VdC (ps : List Pc) (sm : List Int) (m : Nat) (e : Int) : Prop where
  n1 : 1 ≤ ps.length
  n8 : ps.length ≤ 8
  e0 : 0 ≤ e ∧ e ≤ 5
  ok : allOK ps.length (sdF ps) (anF ps)
  se : ∀ t, t < m → seE ps.length (sdF ps) sm e t = 0
theorem vdC_0 {ps : List Pc} {sm : List Int} {m : Nat} {e : Int} (h : vdC ps sm m e = 0) : VdC ps sm m e := by
  unfold vdC vdE at h
  by_cases h1 : 1 ≤ ps.length ∧ ps.length ≤ 8
  · rw [if_neg (by simp only [h1, and_self, not_true_eq_false, not_false_eq_true])] at h
    by_cases h2 : 0 ≤ e ∧ e ≤ 5
    · by_cases h3 : allOK ps.length (sdF ps) (anF ps)
      · rw [if_neg (by simp only [h2, h3, and_self, not_true_eq_false, or_self, not_false_eq_true])] at h
        exact ⟨h1.1, h1.2, h2, h3, fstE_iff.1 h⟩
      · rw [if_pos (.inr h3)] at h; cases h
    · rw [if_pos (.inl h2)] at h; cases h
  · rw [if_pos h1] at h; cases h
section
variable {ps : List Pc} {sm : List Int} {m : Nat} {e : Int}
theorem VdC.n48 (h : VdC ps sm m e) : nC ps ≤ 48 := by
  have h1 := fs_le6 h.ok (Nat.le_refl _)
  have h2 := h.n8
  unfold nC
  omega
theorem VdC.okS (h : VdC ps sm m e) : OkS (nC ps) (smL (sdF ps) sm m) := smL_ok h.se
theorem VdC.net (h : VdC ps sm m e) : NetN (nC ps) (nxC ps) (pvC ps) (muC ps sm m) := h.okS.net (cap_net (sdF ps) ps.length)
end
theorem SewR.at {B : Nat} {w0 : Wd} {hs : HS} {s : Sw} {ps : List Pc} {sm : List Int} {mu : Nat → Nat} {k1 k2 k3 : HS} (hC : CapM B w0 hs s.oP s.oS ps sm) (r : SewR s (sdF ps) ps.length mu k1 k2 k3) :
    SewAt B w0 (k3 ++ (k1 ++ (k2 ++ [(s.b, s.cells ps.length (fsN (sdF ps) ps.length))])) ++ hs) s ps mu := by
  have h0 : hs.Sublist (k3 ++ (k1 ++ (k2 ++ [(s.b, s.cells ps.length (fsN (sdF ps) ps.length))])) ++ hs) := List.sublist_append_right _ _
  refine ⟨by simp, hC.pcs.sub h0, fun i hi => (hC.sds i hi).sub h0, fun i hi => (hC.ans i hi).sub h0, ?_, ?_, ?_⟩
  · exact (Sl.row r.r1).sub (((List.sublist_append_left _ _).trans (List.sublist_append_right _ _)).trans (List.sublist_append_left _ _))
  · exact (Sl.row r.r2).sub ((((List.sublist_append_left _ _).trans (List.sublist_append_right _ _)).trans (List.sublist_append_right _ _)).trans (List.sublist_append_left _ _))
  · exact (Sl.row r.r3).sub ((List.sublist_append_left _ _).trans (List.sublist_append_left _ _))
def ptsC (ps : List Pc) (sm : List Int) (m : Nat) : List Pt := ptsL (nC ps) (nxC ps) (muC ps sm m) (agF ps) (nC ps)
def lpsC (ps : List Pc) (sm : List Int) (m : Nat) : List (List Nat) := lpsL (nC ps) (nxC ps) (muC ps sm m) (nC ps)
set_option maxRecDepth 100000 in
set_option maxHeartbeats 8000000 in
theorem k_Points (ps : List Pc) (oP oS : Option Addr) (cP m cS : Nat) (sm : List Int) (e : Int) (hn : ps.length ≤ 10000) (hsm : sm.length = m * 4) (hm : m ≤ 10000) (B : Nat) (w0 : Wd) (hs : HS) (hC : CapM B w0 hs oP oS ps sm) :
    Fn Tryz.prog 10 #[.agg #[.slice oP ps.length cP, .slice oS m cS, iv e]] B w0 hs (fun v h => (vdC ps sm m e ≠ 0 ∧ v = .tuple #[.slice none 0 0, iv (vdC ps sm m e)] ∧ h = hs) ∨ (vdC ps sm m e = 0 ∧ ∃ x blk, PrR (ptsC ps sm m) x blk ∧ v = .tuple #[x, iv 0] ∧ h = blk ++ hs)) := by
  have kv := fun hs' (h : hs.Sublist hs') => k_Validate ps oP oS cP m cS sm e hn hsm hm B w0 hs' (hC.sub h)
  by_cases hv : vdC ps sm m e = 0
  · have V := vdC_0 hv
    have ks := fun hs' (h : hs.Sublist hs') => k_sew ps oP oS cP m cS sm e V.n8 V.n1 hsm hm V.ok V.se B w0 hs' (hC.sub h)
    have hv' : vdE ps.length (sdF ps) (anF ps) m sm e = 0 := hv
    rw [hv'] at kv
    refine fn_enter Tryz.func10 rfl Tryz.ntmps10 (by simp) ?_
    repeat' (first | ((with_reducible apply kP (.box 25 _)); refine sBA (fun b1 => ?_)) | ((with_reducible apply kF 6); refine sC 6 (kv _ SBt) ?_) | ((with_reducible apply kF 28); refine sR 28 (ks _ SBt) ?_; rintro v7 h7 ⟨blk7, ⟨s, k1, k2, k3, rfl, q1, q2, q3, q4, hR, rfl⟩, rfl⟩) | (with_reducible first | refine c_seq ?_ | refine c_reg ?_ | refine c_region ?_ | refine c_block ?_ | refine c_skip ?_ | refine c_exit ?_ | refine c_ret ?_ | refine s_nil ?_ | refine x_then ?_ | refine x_then_exit ?_ | refine x_then_ret ?_ | refine x_block ?_ | refine x_block_ret ?_ | refine x_block_same ?_ | refine x_block_other (by first | rfl | decide) ?_ | refine q_nil ?_ | refine k_nil ?_) | ((with_reducible apply kP (.box _ _)); first | refine sBA (fun b => ?_) | refine sB (fun b => ?_)) | ((with_reducible apply kP _); refine sP ?_) | ((with_reducible apply kP _); refine sX ?_) | ((with_reducible apply kC); first | refine cT ?_ | refine cF ?_ | (refine cI (fun h => ?_) (fun h => ?_) <;> (try (exfalso; omega))) | refine cB (fun h => ?_) (fun h => ?_)))
    subst q1 q2 q3 q4
    have hA := SewR.at (hC.sub (hs' := (b1, [.slice s.oP ps.length cP, .slice s.oS s.nS cS, iv s.e]) :: hs) (.cons _ (.refl _))) hR
    have kp := k_points s ps _ V.n48 V.ok V.net _ _ _ hA
    repeat' (first | ((with_reducible apply kF 29); refine sR 29 (kp) ?_; rintro v8 h8 ⟨blk8, hP8, rfl⟩) | (with_reducible first | refine c_seq ?_ | refine c_reg ?_ | refine c_region ?_ | refine c_block ?_ | refine c_skip ?_ | refine c_exit ?_ | refine c_ret ?_ | refine s_nil ?_ | refine x_then ?_ | refine x_then_exit ?_ | refine x_then_ret ?_ | refine x_block ?_ | refine x_block_ret ?_ | refine x_block_same ?_ | refine x_block_other (by first | rfl | decide) ?_ | refine q_nil ?_ | refine k_nil ?_) | ((with_reducible apply kP (.box _ _)); first | refine sBA (fun b => ?_) | refine sB (fun b => ?_)) | ((with_reducible apply kP _); refine sP ?_) | ((with_reducible apply kP _); refine sX ?_) | ((with_reducible apply kC); first | refine cT ?_ | refine cF ?_ | (refine cI (fun h => ?_) (fun h => ?_) <;> (try (exfalso; omega))) | refine cB (fun h => ?_) (fun h => ?_)))
    exact e_ret2 (hs' := blk8 ++ hs) rfl rfl rfl (.inr ⟨hv, _, blk8, hP8, rfl, rfl⟩) (.append (.refl _) (List.sublist_append_of_sublist_right (.cons _ (.refl _))))
  · have hv' : vdE ps.length (sdF ps) (anF ps) m sm e ≠ 0 := hv
    have hv2 : vdC ps sm m e = vdE ps.length (sdF ps) (anF ps) m sm e := rfl
    rw [hv2]
    generalize vdE ps.length (sdF ps) (anF ps) m sm e = z at *
    refine fn_enter Tryz.func10 rfl Tryz.ntmps10 (by simp) ?_
    repeat' (first | ((with_reducible apply kP (.box 25 _)); refine sBA (fun b1 => ?_)) | ((with_reducible apply kF 6); refine sC 6 (kv _ SBt) ?_) | (with_reducible first | refine c_seq ?_ | refine c_reg ?_ | refine c_region ?_ | refine c_block ?_ | refine c_skip ?_ | refine c_exit ?_ | refine c_ret ?_ | refine s_nil ?_ | refine x_then ?_ | refine x_then_exit ?_ | refine x_then_ret ?_ | refine x_block ?_ | refine x_block_ret ?_ | refine x_block_same ?_ | refine x_block_other (by first | rfl | decide) ?_ | refine q_nil ?_ | refine k_nil ?_) | ((with_reducible apply kP (.box _ _)); first | refine sBA (fun b => ?_) | refine sB (fun b => ?_)) | ((with_reducible apply kP _); refine sP ?_) | ((with_reducible apply kP _); refine sX ?_) | ((with_reducible apply kC); first | refine cT ?_ | refine cF ?_ | (refine cI (fun h => ?_) (fun h => ?_) <;> (try (exfalso; omega))) | refine cB (fun h => ?_) (fun h => ?_)))
    exact e_ret2 (hs' := hs) rfl rfl rfl (.inl ⟨hv', rfl, rfl⟩) SCt
set_option maxRecDepth 100000 in
set_option maxHeartbeats 8000000 in
theorem k_Loops (ps : List Pc) (oP oS : Option Addr) (cP m cS : Nat) (sm : List Int) (e : Int) (hn : ps.length ≤ 10000) (hsm : sm.length = m * 4) (hm : m ≤ 10000) (B : Nat) (w0 : Wd) (hs : HS) (hC : CapM B w0 hs oP oS ps sm) :
    Fn Tryz.prog 15 #[.agg #[.slice oP ps.length cP, .slice oS m cS, iv e]] B w0 hs (fun v h => (vdC ps sm m e ≠ 0 ∧ v = .tuple #[.slice none 0 0, iv (vdC ps sm m e)] ∧ h = hs) ∨ (vdC ps sm m e = 0 ∧ ∃ x blk, LrR ((lpsC ps sm m).map nats) x blk ∧ v = .tuple #[x, iv 0] ∧ h = blk ++ hs)) := by
  have kv := fun hs' (h : hs.Sublist hs') => k_Validate ps oP oS cP m cS sm e hn hsm hm B w0 hs' (hC.sub h)
  by_cases hv : vdC ps sm m e = 0
  · have V := vdC_0 hv
    have ks := fun hs' (h : hs.Sublist hs') => k_sew ps oP oS cP m cS sm e V.n8 V.n1 hsm hm V.ok V.se B w0 hs' (hC.sub h)
    have hv' : vdE ps.length (sdF ps) (anF ps) m sm e = 0 := hv
    rw [hv'] at kv
    refine fn_enter Tryz.func15 rfl Tryz.ntmps15 (by simp) ?_
    repeat' (first | ((with_reducible apply kP (.box 25 _)); refine sBA (fun b1 => ?_)) | ((with_reducible apply kF 6); refine sC 6 (kv _ SBt) ?_) | ((with_reducible apply kF 28); refine sR 28 (ks _ SBt) ?_; rintro v7 h7 ⟨blk7, ⟨s, k1, k2, k3, rfl, q1, q2, q3, q4, hR, rfl⟩, rfl⟩) | (with_reducible first | refine c_seq ?_ | refine c_reg ?_ | refine c_region ?_ | refine c_block ?_ | refine c_skip ?_ | refine c_exit ?_ | refine c_ret ?_ | refine s_nil ?_ | refine x_then ?_ | refine x_then_exit ?_ | refine x_then_ret ?_ | refine x_block ?_ | refine x_block_ret ?_ | refine x_block_same ?_ | refine x_block_other (by first | rfl | decide) ?_ | refine q_nil ?_ | refine k_nil ?_) | ((with_reducible apply kP (.box _ _)); first | refine sBA (fun b => ?_) | refine sB (fun b => ?_)) | ((with_reducible apply kP _); refine sP ?_) | ((with_reducible apply kP _); refine sX ?_) | ((with_reducible apply kC); first | refine cT ?_ | refine cF ?_ | (refine cI (fun h => ?_) (fun h => ?_) <;> (try (exfalso; omega))) | refine cB (fun h => ?_) (fun h => ?_)))
    subst q1 q2 q3 q4
    have hA := SewR.at (hC.sub (hs' := (b1, [.slice s.oP ps.length cP, .slice s.oS s.nS cS, iv s.e]) :: hs) (.cons _ (.refl _))) hR
    have kp := k_loops s ps _ V.n48 V.net _ _ _ hA
    repeat' (first | ((with_reducible apply kF 32); refine sR 32 (kp) ?_; rintro v8 h8 ⟨blk8, hP8, rfl⟩) | (with_reducible first | refine c_seq ?_ | refine c_reg ?_ | refine c_region ?_ | refine c_block ?_ | refine c_skip ?_ | refine c_exit ?_ | refine c_ret ?_ | refine s_nil ?_ | refine x_then ?_ | refine x_then_exit ?_ | refine x_then_ret ?_ | refine x_block ?_ | refine x_block_ret ?_ | refine x_block_same ?_ | refine x_block_other (by first | rfl | decide) ?_ | refine q_nil ?_ | refine k_nil ?_) | ((with_reducible apply kP (.box _ _)); first | refine sBA (fun b => ?_) | refine sB (fun b => ?_)) | ((with_reducible apply kP _); refine sP ?_) | ((with_reducible apply kP _); refine sX ?_) | ((with_reducible apply kC); first | refine cT ?_ | refine cF ?_ | (refine cI (fun h => ?_) (fun h => ?_) <;> (try (exfalso; omega))) | refine cB (fun h => ?_) (fun h => ?_)))
    exact e_ret2 (hs' := blk8 ++ hs) rfl rfl rfl (.inr ⟨hv, _, blk8, hP8, rfl, rfl⟩) (.append (.refl _) (List.sublist_append_of_sublist_right (.cons _ (.refl _))))
  · have hv' : vdE ps.length (sdF ps) (anF ps) m sm e ≠ 0 := hv
    have hv2 : vdC ps sm m e = vdE ps.length (sdF ps) (anF ps) m sm e := rfl
    rw [hv2]
    generalize vdE ps.length (sdF ps) (anF ps) m sm e = z at *
    refine fn_enter Tryz.func15 rfl Tryz.ntmps15 (by simp) ?_
    repeat' (first | ((with_reducible apply kP (.box 25 _)); refine sBA (fun b1 => ?_)) | ((with_reducible apply kF 6); refine sC 6 (kv _ SBt) ?_) | (with_reducible first | refine c_seq ?_ | refine c_reg ?_ | refine c_region ?_ | refine c_block ?_ | refine c_skip ?_ | refine c_exit ?_ | refine c_ret ?_ | refine s_nil ?_ | refine x_then ?_ | refine x_then_exit ?_ | refine x_then_ret ?_ | refine x_block ?_ | refine x_block_ret ?_ | refine x_block_same ?_ | refine x_block_other (by first | rfl | decide) ?_ | refine q_nil ?_ | refine k_nil ?_) | ((with_reducible apply kP (.box _ _)); first | refine sBA (fun b => ?_) | refine sB (fun b => ?_)) | ((with_reducible apply kP _); refine sP ?_) | ((with_reducible apply kP _); refine sX ?_) | ((with_reducible apply kC); first | refine cT ?_ | refine cF ?_ | (refine cI (fun h => ?_) (fun h => ?_) <;> (try (exfalso; omega))) | refine cB (fun h => ?_) (fun h => ?_)))
    exact e_ret2 (hs' := hs) rfl rfl rfl (.inl ⟨hv', rfl, rfl⟩) SCt
/-- The Euler number. -/
def euC (ps : List Pc) (sm : List Int) (m : Nat) : Int := (ptsC ps sm m).length - ((nC ps : Int) - m) + ps.length
theorem PrR.v {pts : List Pt} {v : Value} {blk : HS} (h : PrR pts v blk) : ∃ oa c, v = .slice oa pts.length c := by
  obtain ⟨oa, c, rs, bo, rfl, _, _, rfl, _⟩ := h
  exact ⟨oa, c, by rw [List.length_map]⟩
theorem LrR.v {ls : List (List Int)} {v : Value} {blk : HS} (h : LrR ls v blk) : ∃ oa c, v = .slice oa ls.length c := by
  obtain ⟨oa, c, rs, bo, rfl, _, _, rfl, _⟩ := h
  exact ⟨oa, c, by rw [List.length_map]⟩
set_option maxRecDepth 100000 in
set_option maxHeartbeats 8000000 in
theorem k_Euler (ps : List Pc) (oP oS : Option Addr) (cP m cS : Nat) (sm : List Int) (e : Int) (hn : ps.length ≤ 10000) (hsm : sm.length = m * 4) (hm : m ≤ 10000) (B : Nat) (w0 : Wd) (hs : HS) (hC : CapM B w0 hs oP oS ps sm) :
    Fn Tryz.prog 11 #[.agg #[.slice oP ps.length cP, .slice oS m cS, iv e]] B w0 hs (fun v h => v = .tuple #[iv (if vdC ps sm m e = 0 then euC ps sm m else 0), iv (vdC ps sm m e)] ∧ h = hs) := by
  have kv := fun hs' (h : hs.Sublist hs') => k_Validate ps oP oS cP m cS sm e hn hsm hm B w0 hs' (hC.sub h)
  by_cases hv : vdC ps sm m e = 0
  · have V := vdC_0 hv
    have ks := fun hs' (h : hs.Sublist hs') => k_sew ps oP oS cP m cS sm e V.n8 V.n1 hsm hm V.ok V.se B w0 hs' (hC.sub h)
    have hv' : vdE ps.length (sdF ps) (anF ps) m sm e = 0 := hv
    rw [hv'] at kv
    rw [if_pos hv, hv]
    have hpl : (ptsC ps sm m).length ≤ 48 := by
      unfold ptsC
      rw [ptsL_len]
      unfold ccE
      rw [← cnN_filter]
      have := List.length_filter_le (fun i => decide (rpE (ptE (nC ps) (nxC ps) (muC ps sm m)) i = i)) (List.range (nC ps))
      have h2 := V.n48
      rw [List.length_range] at this
      omega
    have hnn : fsN (sdF ps) ps.length ≤ 48 := V.n48
    have hn8 := V.n8
    have hpl' : (ptsL (fsN (sdF ps) ps.length) (nxN (sdF ps) ps.length) (muC ps sm m) (agF ps) (fsN (sdF ps) ps.length)).length ≤ 48 := hpl
    refine fn_enter Tryz.func11 rfl Tryz.ntmps11 (by simp) ?_
    repeat' (first | ((with_reducible apply kP (.box 25 _)); refine sBA (fun b1 => ?_)) | ((with_reducible apply kF 6); refine sC 6 (kv _ SBt) ?_) | ((with_reducible apply kF 28); refine sR 28 (ks _ SBt) ?_; rintro v7 h7 ⟨blk7, ⟨s, k1, k2, k3, rfl, q1, q2, q3, q4, hR, rfl⟩, rfl⟩) | ((with_reducible apply kRg 5); refine cD [1, 3, 1, 0, 0, 0, 0, 0, 0, 0, 0, 0, 1, 0, 0, 0, 1, 1, 1] ?_) | (with_reducible first | refine c_seq ?_ | refine c_reg ?_ | refine c_region ?_ | refine c_block ?_ | refine c_skip ?_ | refine c_exit ?_ | refine c_ret ?_ | refine s_nil ?_ | refine x_then ?_ | refine x_then_exit ?_ | refine x_then_ret ?_ | refine x_block ?_ | refine x_block_ret ?_ | refine x_block_same ?_ | refine x_block_other (by first | rfl | decide) ?_ | refine q_nil ?_ | refine k_nil ?_) | ((with_reducible apply kP (.box _ _)); first | refine sBA (fun b => ?_) | refine sB (fun b => ?_)) | ((with_reducible apply kP _); refine sP ?_) | ((with_reducible apply kP _); refine sX ?_) | ((with_reducible apply kC); first | refine cT ?_ | refine cF ?_ | (refine cI (fun h => ?_) (fun h => ?_) <;> (try (exfalso; omega))) | refine cB (fun h => ?_) (fun h => ?_)) | ((with_reducible apply kDP _); refine dP ?_) | ((with_reducible apply kDP _); refine dX ?_))
    subst q1 q2 q3 q4
    have hA := SewR.at (hC.sub (hs' := (b1, [.slice s.oP ps.length cP, .slice s.oS s.nS cS, iv s.e]) :: hs) (.cons _ (.refl _))) hR
    have kp := fun hs' (h : List.Sublist _ hs') => k_points s ps _ V.n48 V.ok V.net B w0 hs' (hA.sub h)
    have hme := fun hs' (h : List.Sublist _ hs') => hA.me' (hs' := hs') h
    repeat' (first | ((with_reducible apply kDF 29); (first | refine dN3 29 (fun F => kp _ SBt) ?_ | refine dN4 29 (fun F => kp _ SBt) ?_); rintro v8 blk8 hP8; obtain ⟨oa8, c8, rfl⟩ := PrR.v hP8) | ((with_reducible apply kP (.load 27 _)); refine sP ?_ (o_load rfl (ld_one (shTOf rfl) (own (hme _ SBt) rfl)))) | ((with_reducible apply kDP (.load 27 _)); refine dP ?_ (hX := rfl) (hv := o_load rfl (ld_one (shTOf rfl) (own (hme _ SBt) rfl)))) | ((with_reducible apply kQO (.load 27 _)); refine qP ?_ (o_load rfl (ld_one (shTOf rfl) (own (hme _ SBt) rfl)))) | ((with_reducible apply kRg 5); refine cD [1, 3, 1, 0, 0, 0, 0, 0, 0, 0, 0, 0, 1, 0, 0, 0, 1, 1, 1] ?_) | (with_reducible first | refine c_seq ?_ | refine c_reg ?_ | refine c_region ?_ | refine c_block ?_ | refine c_skip ?_ | refine c_exit ?_ | refine c_ret ?_ | refine s_nil ?_ | refine x_then ?_ | refine x_then_exit ?_ | refine x_then_ret ?_ | refine x_block ?_ | refine x_block_ret ?_ | refine x_block_same ?_ | refine x_block_other (by first | rfl | decide) ?_ | refine q_nil ?_ | refine k_nil ?_) | ((with_reducible apply kP (.box _ _)); first | refine sBA (fun b => ?_) | refine sB (fun b => ?_)) | ((with_reducible apply kP _); refine sP ?_) | ((with_reducible apply kP _); refine sX ?_) | ((with_reducible apply kC); first | refine cT ?_ | refine cF ?_ | (refine cI (fun h => ?_) (fun h => ?_) <;> (try (exfalso; omega))) | refine cB (fun h => ?_) (fun h => ?_)) | ((with_reducible apply kDP _); refine dP ?_) | ((with_reducible apply kDP _); refine dX ?_))
    exact e_ret2 (hs' := hs) rfl rfl rfl ⟨rfl, rfl⟩ (List.sublist_append_of_sublist_right (List.sublist_append_of_sublist_right (.cons _ (.refl _))))
  · have hv' : vdE ps.length (sdF ps) (anF ps) m sm e ≠ 0 := hv
    have hv2 : vdC ps sm m e = vdE ps.length (sdF ps) (anF ps) m sm e := rfl
    rw [if_neg hv, hv2]
    generalize vdE ps.length (sdF ps) (anF ps) m sm e = z at *
    refine fn_enter Tryz.func11 rfl Tryz.ntmps11 (by simp) ?_
    repeat' (first | ((with_reducible apply kP (.box 25 _)); refine sBA (fun b1 => ?_)) | ((with_reducible apply kF 6); refine sC 6 (kv _ SBt) ?_) | ((with_reducible apply kRg 5); refine cD [1, 3, 1, 0, 0, 0, 0, 0, 0, 0, 0, 0, 1, 0, 0, 0, 1, 1, 1] ?_) | (with_reducible first | refine c_seq ?_ | refine c_reg ?_ | refine c_region ?_ | refine c_block ?_ | refine c_skip ?_ | refine c_exit ?_ | refine c_ret ?_ | refine s_nil ?_ | refine x_then ?_ | refine x_then_exit ?_ | refine x_then_ret ?_ | refine x_block ?_ | refine x_block_ret ?_ | refine x_block_same ?_ | refine x_block_other (by first | rfl | decide) ?_ | refine q_nil ?_ | refine k_nil ?_) | ((with_reducible apply kP (.box _ _)); first | refine sBA (fun b => ?_) | refine sB (fun b => ?_)) | ((with_reducible apply kP _); refine sP ?_) | ((with_reducible apply kP _); refine sX ?_) | ((with_reducible apply kC); first | refine cT ?_ | refine cF ?_ | (refine cI (fun h => ?_) (fun h => ?_) <;> (try (exfalso; omega))) | refine cB (fun h => ?_) (fun h => ?_)) | ((with_reducible apply kDP _); refine dP ?_) | ((with_reducible apply kDP _); refine dX ?_))
    exact e_ret2 (hs' := hs) rfl rfl rfl ⟨rfl, rfl⟩ SCt
end Go.Proofs.YtnbickholedckaaGreatDoor
namespace Go.Proofs.YtnbickholedckaaGreatDoor
open Go.RowKit
attribute [local irreducible] OpF Ld CellAt
theorem Sv.own1 {B : Nat} {w0 : Wd} {hs : HS} {b : Nat} {l : List Value} (hm : (b, l) ∈ hs) : Sv B w0 hs (some ⟨b, 0, none⟩) l := fun i hi => ⟨rfl, fun w hw => by rw [ea_own, hw.cell hm, Nat.zero_add]⟩
attribute [local irreducible] Sl Sv pcA usP vdC euC lpsC
end Go.Proofs.YtnbickholedckaaGreatDoor
namespace Go.Proofs.YtnbickholedckaaGreatDoor
open Go.RowKit
def sEase : List UInt8 := [101, 97, 115, 101]
def sPiece : List UInt8 := [112, 105, 101, 99, 101]
def sSeam : List UInt8 := [115, 101, 97, 109]
/-- Two rows, one number of each after the other. -/
def zzT (sd an : List Int) : Nat → List Int
  | 0 => []
  | k + 1 => zzT sd an k ++ [sd.getD k 0, an.getD k 0]
theorem zzT_len (sd an : List Int) : ∀ k, (zzT sd an k).length = 2 * k
  | 0 => rfl
  | k + 1 => by rw [zzT, List.length_append, zzT_len sd an k]; simp; omega
/-- The first k pieces' lines; the first k seams'. -/
def pcsT (ps : List Pc) : Nat → List UInt8
  | 0 => []
  | k + 1 => pcsT ps k ++ lnT sPiece (zzT (pcA ps k).sd (pcA ps k).an (pcA ps k).sd.length)
def smsT (sm : List Int) : Nat → List UInt8
  | 0 => []
  | k + 1 => smsT sm k ++ lnT sSeam [smA sm k, smI sm k, smB sm k, smJ sm k]
def capT (ps : List Pc) (sm : List Int) (m : Nat) (e : Int) : List UInt8 := lnT sEase [e] ++ pcsT ps ps.length ++ smsT sm m
theorem itoa_le {x : Int} (h : 0 ≤ x ∧ x ≤ 1000000) : (Go.Lib.itoa x).length ≤ 7 := by
  obtain ⟨u, rfl⟩ : ∃ u : Nat, x = (u : Int) := ⟨x.toNat, by omega⟩
  rw [itoa_nat]
  exact dec_len 6 u (by omega)
theorem nmT_len {l : List Int} (h : ∀ x ∈ l, 0 ≤ x ∧ x ≤ 1000000) : (nmT l).length ≤ 8 * l.length := by
  induction l with
  | nil => simp [nmT]
  | cons x l ih =>
    have h1 := ih (fun y hy => h y (.tail _ hy))
    have h2 := itoa_le (h x (.head _))
    have e : nmT (x :: l) = (32 :: Go.Lib.itoa x) ++ nmT l := by unfold nmT; simp
    rw [e, List.length_append, List.length_cons, List.length_cons]
    omega
theorem lnT_len {w : List UInt8} {l : List Int} (h : ∀ x ∈ l, 0 ≤ x ∧ x ≤ 1000000) : (lnT w l).length ≤ w.length + 8 * l.length + 1 := by
  have := nmT_len h
  unfold lnT
  simp only [List.length_append, List.length_cons, List.length_nil]
  omega
theorem zzT_mem {sd an : List Int} {q : Int → Prop} : ∀ k, (∀ i, i < k → q (sd.getD i 0) ∧ q (an.getD i 0)) → ∀ x ∈ zzT sd an k, q x
  | 0, _, x, hx => by cases hx
  | k + 1, h, x, hx => by
    rw [zzT, List.mem_append] at hx
    rcases hx with hx | hx
    · exact zzT_mem k (fun i hi => h i (by omega)) x hx
    · have hk := h k (by omega)
      simp only [List.mem_cons, List.not_mem_nil, or_false] at hx
      rcases hx with rfl | rfl
      · exact hk.1
      · exact hk.2
/-- Numbers of a valid cap. -/
structure TxC (ps : List Pc) (sm : List Int) (m : Nat) (e : Int) : Prop where
  n8 : ps.length ≤ 8
  e0 : 0 ≤ e ∧ e ≤ 1000000
  sd6 : ∀ i, i < ps.length → (pcA ps i).sd.length ≤ 6 ∧ (pcA ps i).an.length = (pcA ps i).sd.length
  sdb : ∀ i, i < ps.length → ∀ j, j < (pcA ps i).sd.length → (0 ≤ (pcA ps i).sd.getD j 0 ∧ (pcA ps i).sd.getD j 0 ≤ 1000000) ∧ (0 ≤ (pcA ps i).an.getD j 0 ∧ (pcA ps i).an.getD j 0 ≤ 1000000)
  smb : ∀ k, k < m → (0 ≤ smA sm k ∧ smA sm k ≤ 1000000) ∧ (0 ≤ smI sm k ∧ smI sm k ≤ 1000000) ∧ (0 ≤ smB sm k ∧ smB sm k ≤ 1000000) ∧ (0 ≤ smJ sm k ∧ smJ sm k ≤ 1000000)
section
variable {ps : List Pc} {sm : List Int} {m : Nat} {e : Int}
theorem VdC.tx (V : VdC ps sm m e) : TxC ps sm m e := by
  refine ⟨V.n8, ⟨V.e0.1, by have := V.e0.2; omega⟩, fun i hi => ?_, fun i hi j hj => ?_, fun k hk => ?_⟩
  · have h := V.ok i hi
    exact ⟨h.1.2, h.2.1⟩
  · have h := (V.ok i hi).2.2.1 j hj
    unfold sdOK at h
    unfold sdF anF at h
    omega
  · have h := V.se k hk
    have h5 : hsP ps.length (sdF ps) (smA sm k) (smI sm k) ∧ hsP ps.length (sdF ps) (smB sm k) (smJ sm k) := by
      refine Classical.byContradiction fun hc => ?_
      unfold seE at h
      rw [if_pos hc] at h
      cases h
    have g : ∀ a : Int, 0 ≤ a ∧ a < (ps.length : Int) → (sdF ps a.toNat).length ≤ 6 := fun a ha => (V.ok a.toNat (by omega)).1.2
    obtain ⟨⟨h1, h2⟩, h3, h4⟩ := h5
    have g1 := g _ h1
    have g2 := g _ h3
    have n8 := V.n8
    exact ⟨by omega, by omega, by omega, by omega⟩
theorem pcsT_len (T : TxC ps sm m e) : ∀ k, k ≤ ps.length → (pcsT ps k).length ≤ 102 * k
  | 0, _ => Nat.zero_le _
  | k + 1, hk => by
    have h1 := pcsT_len T k (by omega)
    have h2 := T.sd6 k hk
    have h3 := lnT_len (w := sPiece) (zzT_mem (q := fun x => 0 ≤ x ∧ x ≤ 1000000) (sd := (pcA ps k).sd) (an := (pcA ps k).an) (pcA ps k).sd.length (fun j hj => T.sdb k hk j hj))
    rw [zzT_len, show sPiece.length = 5 from rfl] at h3
    rw [pcsT, List.length_append]
    omega
theorem smsT_len (T : TxC ps sm m e) : ∀ k, k ≤ m → (smsT sm k).length ≤ 37 * k
  | 0, _ => Nat.zero_le _
  | k + 1, hk => by
    have h1 := smsT_len T k (by omega)
    have h3 := lnT_len (w := sSeam) (l := [smA sm k, smI sm k, smB sm k, smJ sm k]) (fun x hx => by
      obtain ⟨a, b, c, d⟩ := T.smb k hk
      simp only [List.mem_cons, List.not_mem_nil, or_false] at hx
      rcases hx with rfl | rfl | rfl | rfl <;> assumption)
    rw [show sSeam.length = 4 from rfl, show [smA sm k, smI sm k, smB sm k, smJ sm k].length = 4 from rfl] at h3
    rw [smsT, List.length_append]
    omega
theorem easeT_len (T : TxC ps sm m e) : (lnT sEase [e]).length ≤ 13 := by
  have h3 := lnT_len (w := sEase) (l := [e]) (fun x hx => by rw [List.mem_singleton.1 hx]; exact T.e0)
  rw [show sEase.length = 4 from rfl, show [e].length = 1 from rfl] at h3
  omega
end
end Go.Proofs.YtnbickholedckaaGreatDoor
namespace Go.Proofs.YtnbickholedckaaGreatDoor
open Go.RowKit
theorem itoa_num {x : Int} (h : 0 ≤ x ∧ x ≤ 1000000) : (∀ c ∈ Go.Lib.itoa x, 48 ≤ c.toNat ∧ c.toNat ≤ 57) ∧ Go.Lib.atoiAll (Go.Lib.itoa x) = .ok x := by
  obtain ⟨u, rfl⟩ : ∃ u : Nat, x = (u : Int) := ⟨x.toNat, by omega⟩
  rw [itoa_nat]
  exact ⟨dec_dig u, atoi_dec (by omega)⟩
theorem itoa_no {x : Int} (h : 0 ≤ x ∧ x ≤ 1000000) (c : UInt8) (hc : c.toNat < 48) : c ∉ Go.Lib.itoa x := fun hm => by
  have := (itoa_num h).1 c hm
  omega
def NumOk (l : List Int) : Prop := ∀ x ∈ l, 0 ≤ x ∧ x ≤ 1000000
theorem nmT_cons (x : Int) (l : List Int) : nmT (x :: l) = 32 :: (Go.Lib.itoa x ++ nmT l) := by unfold nmT; simp
theorem nmT_no {l : List Int} (h : NumOk l) (c : UInt8) (hc : c.toNat < 48) (h32 : c ≠ 32) : c ∉ nmT l := by
  induction l with
  | nil => simp [nmT]
  | cons x l ih =>
    rw [nmT_cons]
    intro hm
    rcases List.mem_cons.1 hm with e | hm
    · exact h32 e
    · rcases List.mem_append.1 hm with hm | hm
      · exact itoa_no (h x (.head _)) c hc hm
      · exact ih (fun y hy => h y (.tail _ hy)) hm
/-- The words of a line. -/
theorem wds_line : ∀ {l : List Int} {w : List UInt8}, NumOk l → (32 : UInt8) ∉ w → wds 32 (w ++ nmT l) = w :: l.map Go.Lib.itoa
  | [], w, _, hw => by rw [show nmT [] = [] from rfl, List.append_nil, wds_no hw]; rfl
  | x :: l, w, h, hw => by
    have ih := wds_line (l := l) (w := Go.Lib.itoa x) (fun y hy => h y (.tail _ hy)) (itoa_no (h x (.head _)) 32 (by decide))
    rw [nmT_cons, wds_app _ hw, ih]
    rfl
/-- What was read so far. -/
structure Rd where
  P : List (List Int × List Int)
  S : List Int
  E : Int
def evT (L : List Int) : Nat → List Int
  | 0 => []
  | k + 1 => evT L k ++ [L.getD (2 * k) 0]
def odT (L : List Int) : Nat → List Int
  | 0 => []
  | k + 1 => odT L k ++ [L.getD (2 * k + 1) 0]
/-- The program's way. -/
def npP : List (List UInt8) → List Int → Option (List Int)
  | [], L => some L
  | w :: ws, L => match Go.Lib.atoiAll w with
    | .ok x => npP ws (L ++ [x])
    | _ => none
def sgP (r : Rd) (w : List UInt8) (L : List Int) : Rd :=
  if w = sEase ∧ L.length = 1 then { r with E := L.getD 0 0 }
  else if w = sPiece ∧ L.length % 2 = 0 then { r with P := r.P ++ [(evT L (L.length / 2), odT L (L.length / 2))] }
  else if w = sSeam ∧ L.length = 4 then { r with S := r.S ++ L } else r
def rdP (r : Rd) (line : List UInt8) : Rd := match wds 32 line with
  | [] => r
  | w :: ws => match npP ws [] with
    | none => r
    | some L => sgP r w L
theorem npP_num {l : List Int} (h : NumOk l) : ∀ L, npP (l.map Go.Lib.itoa) L = some (L ++ l) := by
  induction l with
  | nil => intro L; simp [npP]
  | cons x l ih =>
    intro L
    rw [List.map_cons, npP, (itoa_num (h x (.head _))).2]
    dsimp only
    rw [ih (fun y hy => h y (.tail _ hy)), List.append_assoc]
    rfl
theorem rdP_line {r : Rd} {l : List Int} {w : List UInt8} (h : NumOk l) (hw : (32 : UInt8) ∉ w) : rdP r (w ++ nmT l) = sgP r w l := by
  unfold rdP
  rw [wds_line h hw]
  dsimp only
  rw [npP_num h]
  rfl
end Go.Proofs.YtnbickholedckaaGreatDoor
namespace Go.Proofs.YtnbickholedckaaGreatDoor
open Go.RowKit
theorem zzT_get (sd an : List Int) : ∀ n i, i < n → (zzT sd an n).getD (2 * i) 0 = sd.getD i 0 ∧ (zzT sd an n).getD (2 * i + 1) 0 = an.getD i 0
  | 0, i, h => by omega
  | n + 1, i, h => by
    have hl := zzT_len sd an n
    rw [zzT]
    simp only [List.getD_eq_getElem?_getD]
    by_cases hi : i < n
    · have ih := zzT_get sd an n i hi
      simp only [List.getD_eq_getElem?_getD] at ih
      rw [List.getElem?_append_left (by omega), List.getElem?_append_left (by omega)]
      exact ih
    · obtain rfl : i = n := by omega
      rw [List.getElem?_append_right (by omega), List.getElem?_append_right (by omega), hl, Nat.sub_self, show 2 * i + 1 - 2 * i = 1 by omega]
      exact ⟨rfl, rfl⟩
theorem take_get {l : List Int} {k : Nat} (h : k < l.length) : l.take (k + 1) = l.take k ++ [l.getD k 0] := by
  rw [List.take_succ_eq_append_getElem h, List.getD_eq_getElem?_getD, List.getElem?_eq_getElem h]
  rfl
theorem evT_zz {sd an : List Int} {n : Nat} (h1 : n ≤ sd.length) : ∀ k, k ≤ n → evT (zzT sd an n) k = sd.take k
  | 0, _ => rfl
  | k + 1, h => by rw [evT, evT_zz h1 k (by omega), (zzT_get sd an n k (by omega)).1, take_get (by omega)]
theorem odT_zz {sd an : List Int} {n : Nat} (h1 : n ≤ an.length) : ∀ k, k ≤ n → odT (zzT sd an n) k = an.take k
  | 0, _ => rfl
  | k + 1, h => by rw [odT, odT_zz h1 k (by omega), (zzT_get sd an n k (by omega)).2, take_get (by omega)]
/-- How lines are read. -/
structure RdOk (rd : Rd → List UInt8 → Rd) : Prop where
  ease : ∀ r x, 0 ≤ x ∧ x ≤ 1000000 → rd r (sEase ++ nmT [x]) = { r with E := x }
  piece : ∀ r sd an, an.length = sd.length → NumOk (zzT sd an sd.length) → rd r (sPiece ++ nmT (zzT sd an sd.length)) = { r with P := r.P ++ [(sd, an)] }
  seam : ∀ r a b c d, NumOk [a, b, c, d] → rd r (sSeam ++ nmT [a, b, c, d]) = { r with S := r.S ++ [a, b, c, d] }
  nil : ∀ r, rd r [] = r
theorem rdP_ok : RdOk rdP := by
  refine ⟨fun r x h => ?_, fun r sd an h hn => ?_, fun r a b c d h => ?_, fun r => ?_⟩
  · rw [rdP_line (fun y hy => by rw [List.mem_singleton.1 hy]; exact h) (by decide)]
    rfl
  · rw [rdP_line hn (by decide)]
    unfold sgP
    rw [if_neg (fun h => absurd h.1 (by decide)), if_pos ⟨rfl, by rw [zzT_len]; omega⟩, zzT_len, Nat.mul_div_cancel_left _ (by decide), evT_zz (Nat.le_refl _) _ (Nat.le_refl _), odT_zz (by omega) _ (Nat.le_refl _), List.take_length, ← h, List.take_length]
  · rw [rdP_line h (by decide)]
    rfl
  · rfl
theorem wds_ln {w : List UInt8} {l : List Int} (hw : (10 : UInt8) ∉ w) (hl : NumOk l) (rest : List UInt8) : wds 10 (lnT w l ++ rest) = (w ++ nmT l) :: wds 10 rest := by
  have e : lnT w l ++ rest = (w ++ nmT l) ++ 10 :: rest := by unfold lnT; simp
  rw [e, wds_app]
  intro hm
  rcases List.mem_append.1 hm with hm | hm
  · exact hw hm
  · exact nmT_no hl 10 (by decide) (by decide) hm
def prP (p : Pc) : List Int × List Int := (p.sd, p.an)
section
variable {rd : Rd → List UInt8 → Rd} (R : RdOk rd) {ps : List Pc} {sm : List Int} {m : Nat} {e : Int} (T : TxC ps sm m e)
include R T
theorem fold_pcs : ∀ k, k ≤ ps.length → ∀ r rest, (wds 10 (pcsT ps k ++ rest)).foldl rd r = (wds 10 rest).foldl rd { r with P := r.P ++ (ps.take k).map prP }
  | 0, _, r, rest => by simp [pcsT]
  | k + 1, hk, r, rest => by
    have h6 := T.sd6 k hk
    have hb := T.sdb k hk
    have hn : NumOk (zzT (pcA ps k).sd (pcA ps k).an (pcA ps k).sd.length) := zzT_mem _ hb
    rw [pcsT, List.append_assoc, fold_pcs k (by omega), wds_ln (by decide) hn, List.foldl_cons, R.piece _ _ _ h6.2 hn]
    congr 1
    rw [List.take_succ_eq_append_getElem hk, List.map_append, ← List.append_assoc]
    have e1 : ps[k] = pcA ps k := by unfold pcA; rw [List.getD_eq_getElem?_getD, List.getElem?_eq_getElem hk]; rfl
    rw [e1]
    rfl
theorem fold_sms (hsm : sm.length = m * 4) : ∀ k, k ≤ m → ∀ r rest, (wds 10 (smsT sm k ++ rest)).foldl rd r = (wds 10 rest).foldl rd { r with S := r.S ++ sm.take (4 * k) }
  | 0, _, r, rest => by simp [smsT]
  | k + 1, hk, r, rest => by
    obtain ⟨a, b, c, d⟩ := T.smb k hk
    have hn : NumOk [smA sm k, smI sm k, smB sm k, smJ sm k] := fun x hx => by
      simp only [List.mem_cons, List.not_mem_nil, or_false] at hx
      rcases hx with rfl | rfl | rfl | rfl <;> assumption
    rw [smsT, List.append_assoc, fold_sms hsm k (by omega), wds_ln (by decide) hn, List.foldl_cons, R.seam _ _ _ _ _ hn]
    congr 1
    have e1 : sm.take (4 * (k + 1)) = sm.take (4 * k) ++ [smA sm k, smI sm k, smB sm k, smJ sm k] := by
      rw [show 4 * (k + 1) = 4 * k + 1 + 1 + 1 + 1 by omega, take_get (by omega), take_get (by omega), take_get (by omega), take_get (by omega)]
      unfold smA smI smB smJ
      rw [Nat.mul_comm k 4]
      simp
    rw [e1, ← List.append_assoc]
/-- A cap's text is read back. -/
theorem fold_cap (hsm : sm.length = m * 4) : (wds 10 (capT ps sm m e)).foldl rd ⟨[], [], 0⟩ = ⟨ps.map prP, sm, e⟩ := by
  have hn : NumOk [e] := fun x hx => by rw [List.mem_singleton.1 hx]; exact T.e0
  have e1 : capT ps sm m e = lnT sEase [e] ++ (pcsT ps ps.length ++ (smsT sm m ++ [])) := by unfold capT; simp
  rw [e1, wds_ln (by decide) hn, List.foldl_cons, R.ease _ _ T.e0, fold_pcs R T _ (Nat.le_refl _), fold_sms R T hsm _ (Nat.le_refl _), show wds 10 ([] : List UInt8) = [[]] from rfl, List.foldl_cons, R.nil, List.foldl_nil, List.take_length, List.take_of_length_le (by omega)]
  rfl
end
end Go.Proofs.YtnbickholedckaaGreatDoor
namespace Go.Proofs.YtnbickholedckaaGreatDoor
open Go.RowKit
def pcD (P : List (List Int × List Int)) : List Pc := P.map fun x => ⟨none, 0, x.1, none, 0, x.2⟩
theorem pcD_at (ps : List Pc) (i : Nat) : (pcA (pcD (ps.map prP)) i).sd = (pcA ps i).sd ∧ (pcA (pcD (ps.map prP)) i).an = (pcA ps i).an := by
  unfold pcA pcD
  simp only [List.getD_eq_getElem?_getD, List.getElem?_map, List.map_map]
  cases h : ps[i]? with
  | none => exact ⟨rfl, rfl⟩
  | some p => exact ⟨rfl, rfl⟩
theorem pcD_sd (ps : List Pc) : sdF (pcD (ps.map prP)) = sdF ps := funext fun i => (pcD_at ps i).1
theorem pcD_an (ps : List Pc) : anF (pcD (ps.map prP)) = anF ps := funext fun i => (pcD_at ps i).2
theorem pcD_len (ps : List Pc) : (pcD (ps.map prP)).length = ps.length := by unfold pcD; simp
theorem vdC_D (ps : List Pc) (sm : List Int) (m : Nat) (e : Int) : vdC (pcD (ps.map prP)) sm m e = vdC ps sm m e := by
  unfold vdC
  rw [pcD_sd, pcD_an, pcD_len]
theorem pcsT_D (ps : List Pc) : ∀ k, pcsT (pcD (ps.map prP)) k = pcsT ps k
  | 0 => rfl
  | k + 1 => by rw [pcsT, pcsT, pcsT_D ps k, (pcD_at ps k).1, (pcD_at ps k).2]
theorem capT_D (ps : List Pc) (sm : List Int) (m : Nat) (e : Int) : capT (pcD (ps.map prP)) sm m e = capT ps sm m e := by
  unfold capT
  rw [pcsT_D, pcD_len]
def vdD (d : Rd) : Int := vdC (pcD d.P) d.S (d.S.length / 4) d.E
def tD (d : Rd) : List UInt8 := capT (pcD d.P) d.S (d.S.length / 4) d.E
def rd0 : Rd := ⟨[], [], 0⟩
/-- What a parser answers that reads lines so. -/
def paA (rd : Rd → List UInt8 → Rd) (t : List UInt8) : Rd × Int :=
  if 4000 < t.length then (rd0, 4) else
  if vdD ((wds 10 t).foldl rd rd0) = 0 ∧ tD ((wds 10 t).foldl rd rd0) = t then ((wds 10 t).foldl rd rd0, 0) else (rd0, 3)
theorem pa_fmt {rd : Rd → List UInt8 → Rd} (R : RdOk rd) {ps : List Pc} {sm : List Int} {m : Nat} {e : Int} (hsm : sm.length = m * 4) (hv : vdC ps sm m e = 0) (hl : (capT ps sm m e).length ≤ 4000) : paA rd (capT ps sm m e) = (⟨ps.map prP, sm, e⟩, 0) := by
  have h := fold_cap R (vdC_0 hv).tx hsm
  unfold paA
  rw [if_neg (by omega)]
  have e4 : sm.length / 4 = m := by omega
  have h2 : (wds 10 (capT ps sm m e)).foldl rd rd0 = ⟨ps.map prP, sm, e⟩ := h
  rw [h2]
  unfold vdD tD
  dsimp only
  rw [e4, vdC_D, capT_D, if_pos ⟨hv, rfl⟩]
end Go.Proofs.YtnbickholedckaaGreatDoor
