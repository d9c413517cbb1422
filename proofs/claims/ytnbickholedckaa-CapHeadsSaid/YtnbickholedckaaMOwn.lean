/- Rows of the call's own that grow: append. Nothing here speaks of one program. -/
import Derived.Test.YtnbickholedckaaMDrawn
namespace Go.Proofs.Ytnbickholedckaa
open Go.RowKit

/-- A slice of the call's own: none at all, or at the head of a block of its own. -/
def RowOk (oa : Option Addr) (c : Nat) (size : Nat) (xs : List Value) (blk : HS) : Prop :=
  (oa = none ∧ c = 0 ∧ xs = [] ∧ blk = []) ∨ ∃ b z, oa = some ⟨b, 0, none⟩ ∧ blk = [(b, xs ++ z)] ∧ (xs ++ z).length = c * size ∧ c ≤ maxLen
theorem RowOk.nil {size : Nat} : RowOk none 0 size [] [] := .inl ⟨rfl, rfl, rfl, rfl⟩
theorem RowOk.new {b n size : Nat} {xs : List Value} (h : xs.length = n * size) (hn : n ≤ maxLen) : RowOk (some ⟨b, 0, none⟩) n size xs [(b, xs)] := .inr ⟨b, [], rfl, by simp, by simpa using h, hn⟩
/-- Some blocks are taken out of memory. -/
def Take (blk H rest : HS) : Prop := H.Perm (blk ++ rest)
theorem Take.head {blk r : HS} : Take blk (blk ++ r) r := .refl _
theorem Take.nil {r : HS} : Take [] r r := .refl _
theorem Take.one {p : Nat × List Value} {r : HS} : Take [p] (p :: r) r := .refl _
theorem Take.tail {blk H r : HS} {p : Nat × List Value} (h : Take blk H r) : Take blk (p :: H) (p :: r) := by
  refine (h.cons p).trans ?_
  exact List.perm_middle.symm
theorem Take.app {blk H r x : HS} (h : Take blk H r) : Take blk (x ++ H) (x ++ r) := by
  refine (h.append_left x).trans ?_
  rw [← List.append_assoc, ← List.append_assoc]
  exact List.perm_append_comm.append_right r
theorem SubP.app {S hs : HS} (x : HS) (h : SubP S hs) : SubP S (x ++ hs) := let ⟨y, h1, h2⟩ := h; ⟨x ++ y, h1.append_left x, h2.trans (List.sublist_append_right _ _)⟩

theorem sbA {α : Type} {l m x : List α} (h : l.Sublist m) : l.Sublist (x ++ m) := h.trans (List.sublist_append_right _ _)
theorem sbL {α : Type} {l m : List α} : l.Sublist (l ++ m) := List.sublist_append_left _ _
theorem mmT {α : Type} {p a : α} {l : List α} (h : p ∈ l) : p ∈ a :: l := .tail _ h
theorem mmA {α : Type} {p : α} {l x : List α} (h : p ∈ l) : p ∈ x ++ l := List.mem_append_right _ h
theorem ivs_snoc (m : List Int) (x : Int) : ivs m ++ [iv x] = ivs (m ++ [x]) := by simp [ivs]
/-- The cells of a slice's elements, and their bytes. -/
def ap (P : Program) (t : TypeId) : Option (Nat × Nat) :=
  match P.underlying t with
  | some (.slice e) => match P.info? e with
    | some i => match i.zero with
      | some z => if z.cells.size = i.size ∧ 0 < i.size then some (i.size, i.bytes) else none
      | none => none
    | none => none
  | _ => none

section
variable {P : Program} {n : NN} {B : Nat} {w0 : Wd} {fr : FR} {hs hs' : HS} {K : Act → World → Prop} {ops : Array Oper} {l : List Oper} {d : Nat} {ty : TypeId} {pos : String} {aft : Array Edge}
theorem Hp.drew {w : World} (h : Hp B w0 w hs) : Hp B w0 w.drew hs := ⟨⟨h.below.os, h.below.tape, h.below.output, h.below.size, h.below.block⟩, h.big, h.mem, h.nodup, h.obj, h.ond, Nat.le_succ_of_le h.dr⟩
theorem Sl.row {oa : Option Addr} {c : Nat} {m : List Int} {blk : HS} (h : RowOk oa c 1 (ivs m) blk) : Sl B w0 blk oa m := by
  rcases h with ⟨rfl, _, h2, _⟩ | ⟨b, z, rfl, rfl, _, _⟩
  · have : m = [] := by simpa [ivs] using h2
    subst this; exact Sl.nil
  · exact Sl.own' (.head _)
/-- Cells of a block. -/
theorem Hp.cells_at {w : World} (h : Hp B w0 w hs) {b : Nat} {cs : List Value} (hm : (b, cs) ∈ hs) : ∀ (j : Nat) (v : Value), cs[j]? = some v → w.cell? ((⟨b, 0, none⟩ : Addr).add j) = some v := fun j v hj => by
  rw [add_own, Nat.zero_add, h.cell hm, hj]

theorem o_notD {t' : TypeId} {x : Operand} {p : Prop} [Decidable p] (hx : opv fr x = some (.bool (decide p))) : OpF P n B w0 (.unOp .not t' x) ty fr hs (.bool (decide (¬ p))) := by
  have h := o_not (P := P) (n := n) (B := B) (w0 := w0) (ty := ty) (hs := hs) (t := t') hx
  rwa [decide_not]
theorem ld_two {t : TypeId} {b o : Nat} {cs : List Value} {x y : Value} (ht : sh P t = some (true, 2)) (hm : (b, cs) ∈ hs) (hx : cs[o]? = some x) (hy : cs[o + 1]? = some y) : Ld P B w0 hs t ⟨b, o, none⟩ (.agg #[x, y]) := by
  refine ld_own (vs := [x, y]) ht hm ?_ rfl
  obtain ⟨h1, h2⟩ := List.getElem?_eq_some_iff.1 hx
  obtain ⟨h3, h4⟩ := List.getElem?_eq_some_iff.1 hy
  rw [List.drop_eq_getElem_cons h1, List.drop_eq_getElem_cons h3]
  simp [h2, h4]
/-- One more element, or more, behind a row: what the run comes to. -/
theorem run_app {t t' : TypeId} {size bytes k m c c' : Nat} {oa : Option Addr} {bb : Nat} {xs news : List Value} {blk H rest : HS} {w : World} (hap : ap P t = some (size, bytes)) (hw : Hp B w0 w H) (hT : Take blk H rest)
    (hr : RowOk oa c size xs blk) (hk : xs.length = k * size) (hm : (bb, news) ∈ rest) (hl : news.length = m * size) (h0 : 0 < m) (hf : Flat news) (hb : k + m ≤ 1000000) (hby : bytes ≤ 1000000) :
    ∃ oa2 c2 blk2 w2, (Builtin.append_ #[t, t] t' #[.slice oa k c, .slice (some ⟨bb, 0, none⟩) m c']).run P w = .ok (.slice oa2 (k + m) c2) w2 ∧ RowOk oa2 c2 size (xs ++ news) blk2 ∧ Hp B w0 w2 (blk2 ++ rest) := by
  unfold ap at hap
  split at hap
  · rename_i e hu
    split at hap
    · rename_i i hi
      split at hap
      · rename_i z hz
        split at hap
        · rename_i hzs
          simp only [Option.some.injEq, Prod.mk.injEq] at hap
          obtain ⟨hs1, hs2⟩ := hap
          obtain ⟨hzs, hsz⟩ := hzs
          subst hs1 hs2
          have hwp := hw.perm hT
          have hmul : (k + m) * i.bytes ≤ 140737488355328 := Nat.le_trans (Nat.mul_le_mul hb hby) (by decide)
          have hnews := hwp.cells_at (List.mem_append_right blk hm)
          have hrest : Hp B w0 w rest := hwp.sub (List.sublist_append_right _ _)
          have fresh : ∀ old, ∃ z2, Hp B w0 (w.drew.alloc (.cells (xs.toArray ++ news.toArray ++ Builtin.zeroCells z.cells (grownCap w (k + m) old e - (k + m))) e)) ((w.heap.size, (xs ++ news) ++ z2) :: rest) ∧ ((xs ++ news) ++ z2).length = grownCap w (k + m) old e * i.size := fun old => by
            refine ⟨(Builtin.zeroCells z.cells (grownCap w (k + m) old e - (k + m))).toList, ?_, ?_⟩
            · have := hrest.drew.fresh (xs.toArray ++ news.toArray ++ Builtin.zeroCells z.cells (grownCap w (k + m) old e - (k + m))) e
              rw [show w.drew.heap.size = w.heap.size from rfl] at this
              simpa using this
            · have hge := grownCap_ge w (k + m) old e
              simp only [List.length_append, Array.length_toList, size_zeroCells, hzs, hk, hl]
              rw [← Nat.add_mul, ← Nat.add_mul]
              congr 1; omega
          rcases hr with ⟨rfl, rfl, rfl, rfl⟩ | ⟨b, z1, rfl, rfl, hlen, hc⟩
          · have hk0 : k = 0 := by
              simp only [List.length_nil] at hk
              rcases Nat.eq_zero_or_pos k with h | h
              · exact h
              · have := Nat.mul_pos h hsz; omega
            subst hk0
            have hr := run_append_nil (P := P) w t t' e i z hu hi hz ⟨bb, 0, none⟩ m c' news hl hnews h0 (by omega) (by have := hmul; simp only [Nat.zero_add] at this; omega)
            obtain ⟨z2, h2, h3⟩ := fresh 0
            simp only [Nat.zero_add, List.nil_append, Array.empty_append] at hr h2 h3 ⊢
            exact ⟨_, _, [(w.heap.size, news ++ z2)], _, hr, .inr ⟨_, z2, rfl, rfl, h3, grownCap_le_maxLen w m 0 e (by simp only [maxLen]; omega)⟩, h2⟩
          · by_cases hroom : k + m ≤ c
            · have hfit : k * i.size + news.length ≤ (xs ++ z1).length := by rw [hlen, hl, ← Nat.add_mul]; exact Nat.mul_le_mul_right _ hroom
              have hu1 : Upd b (xs ++ z1) (setAll (xs ++ z1) (k * i.size) news) ([(b, xs ++ z1)] ++ rest) ([(b, setAll (xs ++ z1) (k * i.size) news)] ++ rest) := .head _
              obtain ⟨w2, h1, h2⟩ := run_storeCells_own (P := P) b news (k * i.size) (xs ++ z1) _ _ w hwp hf hfit hu1 (k * i.size) (Nat.le_refl _)
              have hff := run_firstCells_some (P := P) w i.size m ⟨bb, 0, none⟩ m c' news hl hnews
              have e1 : setAll (xs ++ z1) (k * i.size) news = (xs ++ news) ++ (xs ++ z1).drop (k * i.size + news.length) := by
                rw [setAll_take _ _ _ hfit, ← hk, List.take_left]
              rw [e1] at h2
              refine ⟨_, _, _, w2, ?_, .inr ⟨b, _, rfl, rfl, ?_, hc⟩, h2⟩
              · simp only [Nat.sub_self] at h1
                simp [Builtin.append_, run_underlying hu, sizeOf, typeInfo, hi, Builtin.lenOf, hroom, hff, add_own, h1]
              · rw [← e1, setAll_length]; exact hlen
            · have holds : ∀ j u, xs[j]? = some u → w.cell? ((⟨b, 0, none⟩ : Addr).add j) = some u := fun j u hj => hwp.cells_at (.head _) j u (by rw [List.getElem?_append_left (List.getElem?_eq_some_iff.1 hj).1]; exact hj)
              have hr := run_append_grow (P := P) w t t' e i z hu hi hz ⟨b, 0, none⟩ k c xs hk holds ⟨bb, 0, none⟩ m c' news hl hnews (by omega) (by omega) (growslice_fits (by omega) hmul)
              obtain ⟨z2, h2, h3⟩ := fresh c
              exact ⟨_, _, [(w.heap.size, (xs ++ news) ++ z2)], _, hr, .inr ⟨_, z2, rfl, rfl, h3, grownCap_le_maxLen w _ _ e (by simp only [maxLen]; omega)⟩, h2⟩
        · cases hap
      · cases hap
    · cases hap
  · cases hap
theorem run_appO {t t' : TypeId} {size bytes k m c c' : Nat} {oa : Option Addr} {bb : Nat} {xs news : List Value} {blk H rest : HS} {w : World} {x y : Operand} {a : Act} (hap : ap P t = some (size, bytes)) (ha : Fr n a fr) (hx : opv fr x = some (.slice oa k c)) (hy : opv fr y = some (.slice (some ⟨bb, 0, none⟩) m c')) (hw : Hp B w0 w H) (hT : Take blk H rest)
    (hr : RowOk oa c size xs blk) (hk : xs.length = k * size) (hm : (bb, news) ∈ rest) (hl : news.length = m * size) (h0 : 0 < m) (hf : Flat news) (hb : k + m ≤ 1000000) (hby : bytes ≤ 1000000) (dst : Option Nat) :
    ∃ oa2 c2 blk2 w2, (execOp a.eval ⟨dst, .call ⟨.builtin .append, #[x, y], #[t, t]⟩, t', pos, aft, none⟩).run P w = .ok (.value (.slice oa2 (k + m) c2)) w2 ∧ RowOk oa2 c2 size (xs ++ news) blk2 ∧ Hp B w0 w2 (blk2 ++ rest) := by
  obtain ⟨oa2, c2, blk2, w2, h1, h2, h3⟩ := run_app (P := P) (t' := t') (c' := c') hap hw hT hr hk hm hl h0 hf hb hby
  refine ⟨oa2, c2, blk2, w2, ?_, h2, h3⟩
  simp only [execOp, resolve, invoke, builtin, Sem.run_bind, Sem.run_pure, Result.andThen_ok, List.map_toArray, List.map_cons, List.map_nil, ha.opv hx, ha.opv hy, h1]
/-- In a region with a fixed order. -/
theorem s_app {t : TypeId} {size bytes k m c c' : Nat} {oa : Option Addr} {bb : Nat} {xs news : List Value} {blk rest : HS} {x y : Operand} (hap : ap P t = some (size, bytes)) (hx : opv fr x = some (.slice oa k c)) (hy : opv fr y = some (.slice (some ⟨bb, 0, none⟩) m c')) (hT : Take blk hs rest)
    (hr : RowOk oa c size xs blk) (hk : xs.length = k * size) (hm : (bb, news) ∈ rest) (hl : news.length = m * size) (h0 : 0 < m) (hf : Flat news) (hb : k + m ≤ 1000000) (hby : bytes ≤ 1000000) (hn : d < n.n)
    (h : ∀ oa2 c2 blk2, RowOk oa2 c2 size (xs ++ news) blk2 → Sat n B w0 (sl P ops K l) ((d, .slice oa2 (k + m) c2) :: fr) (blk2 ++ rest)) :
    Sat n B w0 (sl P ops K (⟨some d, .call ⟨.builtin .append, #[x, y], #[t, t]⟩, ty, pos, aft, none⟩ :: l)) fr hs := sat_mk fun a w ha hw => by
  obtain ⟨oa2, c2, blk2, w2, h1, h2, h3⟩ := run_appO (P := P) (t' := ty) (pos := pos) (aft := aft) (dst := some d) hap ha hx hy hw hT hr hk hm hl h0 hf hb hby
  have h4 := sat_el (h oa2 c2 blk2 h2) _ _ (ha.put hn _) h3
  unfold sl
  rw [if_pos (by simp [Region.wanted])]
  unfold Oper.wp
  rw [h1]
  exact h4
/-- New numbers, all 0. -/
theorem s_makeI {t : TypeId} {bytes k : Nat} {m : Int} {x y : Operand} (hap : ap P t = some (1, bytes)) (hz : zs P t = some [Value.int .i64 0].toArray) (hx : opv fr x = some (.int .i64 m)) (hy : opv fr y = some (.int .i64 m)) (hm : m = (k : Int)) (hb : k ≤ 1000000) (hby : bytes ≤ 1000000) (hn : d < n.n)
    (h : ∀ b, Sat n B w0 (sl P ops K l) ((d, .slice (some ⟨b, 0, none⟩) k k) :: fr) ((b, ivs (List.replicate k 0)) :: hs)) :
    Sat n B w0 (sl P ops K (⟨some d, .makeSlice t x y, ty, pos, aft, none⟩ :: l)) fr hs := sat_mk fun a w ha hw => by
  subst hm
  unfold ap at hap
  unfold zs at hz
  split at hap
  · rename_i e hu
    simp only [hu] at hz
    split at hap
    · rename_i i hi
      split at hap
      · rename_i z hzz
        split at hap
        · simp only [Option.some.injEq, Prod.mk.injEq] at hap
          obtain ⟨hs1, hs2⟩ := hap
          have hzc : z.cells = #[Value.int .i64 0] := by simpa [zc, hi, hzz] using hz
          have hmul : (i.bytes : Int) * (k : Int) ≤ 281474976710656 := by
            have h1 : i.bytes * k ≤ 1000000 * 1000000 := Nat.mul_le_mul (hs2 ▸ hby) hb
            have h2 : ((i.bytes * k : Nat) : Int) ≤ 281474976710656 := by omega
            rwa [Int.natCast_mul] at h2
          have hr := run_make (P := P) w t e i z hu hi hzz .i64 .i64 k k (by omega) (Int.le_refl _) hmul (by omega)
          have hc : (madeCells z.cells ((k : Int).toNat * i.size)).toList = ivs (List.replicate k 0) := by
            rw [hs1, hzc]
            apply List.ext_getElem?
            intro j
            simp only [madeCells, ivs, List.map_replicate, List.getElem?_replicate]
            by_cases hj : j < k
            · simp [hj, Nat.mod_one, iv]
            · simp [hj]
          have hrun : (execOp a.eval ⟨some d, .makeSlice t x y, ty, pos, aft, none⟩).run P w = .ok (.value (.slice (some ⟨w.heap.size, 0, none⟩) k k)) (w.alloc (.cells (madeCells z.cells ((k : Int).toNat * i.size)) e)) := by
            simp [execOp, ha.opv hx, ha.opv hy, hr]
          have hfr := hw.fresh (madeCells z.cells ((k : Int).toNat * i.size)) e
          rw [hc] at hfr
          have h4 := sat_el (h w.heap.size) _ _ (ha.put hn _) hfr
          unfold sl
          rw [if_pos (by simp [Region.wanted])]
          unfold Oper.wp
          rw [hrun]
          exact h4
        · cases hap
      · cases hap
    · cases hap
  · cases hap
end
/-! ### Proved on the spot -/
theorem SBt {α : Type} {l m : List α} (h : l.Sublist m := by with_reducible first | exact sb0 | exact sb1 | exact sb2 | exact sb3 | exact sb4 | exact sb5 | exact sb6 | exact sb7 | exact sb8 | exact sbL | ((repeat (first | exact sb0 | exact sbL | refine .cons _ ?_ | refine sbA ?_)); done)) : l.Sublist m := h
theorem SCt {α : Type} {l m : List α} (h : l.Sublist m := by with_reducible ((repeat (first | exact sb0 | exact sbL | refine .cons_cons _ ?_ | refine .cons _ ?_ | refine .append (.refl _) ?_ | refine sbA ?_)); done)) : l.Sublist m := h
theorem MMt {α : Type} {x : α} {l : List α} (h : x ∈ l := by with_reducible first | exact mm0 | exact mm1 | exact mm2 | exact mm3 | exact mm4 | exact mm5 | exact mm6 | exact mm7 | exact mm8 | ((repeat (first | exact mm0 | refine mmT ?_ | refine mmA ?_)); done)) : x ∈ l := h
theorem MDt {α : Type} {x : α} {l : List α} (h : x ∈ l := by first | exact mm0 | exact mm1 | exact mm2 | exact mm3 | exact mm4 | exact mm5 | exact mm6 | exact mm7 | exact mm8 | ((repeat (first | exact mm0 | refine mmT ?_ | refine mmA ?_)); done)) : x ∈ l := h
end Go.Proofs.Ytnbickholedckaa
