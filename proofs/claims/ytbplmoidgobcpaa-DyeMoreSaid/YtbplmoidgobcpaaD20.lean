/- One lot more. -/
import Derived.Test.YtbplmoidgobcpaaD16
namespace Go.Proofs.Ytbplmoidgobcpaa
open Go.RowKit
section
variable {P : Program} {n B : Nat} {w0 : World} {fr fr' : FR} {hs hs' S S' X : HS} {ty : TypeId} {K : Act → World → Prop}
  {ops : Array Oper} {l : List Oper} {d f : Nat} {fl : List Nat} {pos : String} {aft : Array Edge} {v : Value}
theorem k_appS {t : TypeId} {size bytes k m c c' : Nat} {oa os : Option Addr} {xs news : List Value} {blk rest : HS} {x y : Operand} (hfl : Nat.ble 3 f = true) (hap : ap P t = some (size, bytes)) (hx : opv fr x = some (.slice oa k c)) (hy : opv fr y = some (.slice os m c')) (hT : Take blk hs rest)
    (hr : RowOk oa c size xs blk) (hk : xs.length = k * size) (hm : Sv B w0 hs os news) (hl : news.length = m * size) (hf : Flat news) (hb : k + m ≤ 1000000) (hby : bytes ≤ 1000000) (hn : d < n)
    (h : ∀ oa2 c2 blk2, RowOk oa2 c2 size (xs ++ news) blk2 → ∃ S', Kp f S (blk2 ++ rest) S' ∧ Rk P n B w0 ops K fl l S' ((d, .slice oa2 (k + m) c2) :: fr) (blk2 ++ rest)) :
    Rk P n B w0 ops K (f :: fl) (⟨some d, .call ⟨.builtin .append, #[x, y], #[t, t]⟩, ty, pos, aft, none⟩ :: l) S fr hs := by
  refine k_eff (R := fun u h => ∃ oa2 c2 blk2, u = .slice oa2 (k + m) c2 ∧ RowOk oa2 c2 size (xs ++ news) blk2 ∧ h = blk2 ++ rest) hfl rfl (fun a ha F w hw => ?_) ?_
  · obtain ⟨oa2, c2, blk2, w2, h1, h2, h3⟩ := run_appS (P := P) (t' := ty) (pos := pos) (aft := aft) (dst := some d) (rest := F ++ rest) hap ha hx hy hw hT.app hr hk (hm.sub (List.sublist_append_right _ _)) hl hf hb hby
    rw [h1]
    refine ⟨blk2 ++ rest, ⟨oa2, c2, blk2, rfl, h2, rfl⟩, h3.perm ?_⟩
    rw [← List.append_assoc, ← List.append_assoc]
    exact List.perm_append_comm.append_right rest
  · rintro a ha u h' ⟨oa2, c2, blk2, rfl, h2, rfl⟩
    obtain ⟨S', h3, h4⟩ := h oa2 c2 blk2 h2
    refine ⟨S', h3, ?_⟩
    unfold Rk at h4
    exact h4 _ (ha.put hn _)
theorem k_bs0 {t : TypeId} {z : List Value} {b : Bool} {k : Nat} (ht : sc P t = some (b, k)) (hz : zs P t = some z.toArray) (hk2 : k ≤ 1000) (hn : d < n)
    (h : ∀ bb, Rk P n B w0 ops K fl l S ((d, .slice (some ⟨bb, 0, none⟩) 0 0) :: fr) ((bb, []) :: hs)) :
    Rk P n B w0 ops K (2 :: fl) (⟨some d, .buildSlice t 0 #[], ty, pos, aft, none⟩ :: l) S fr hs := k_new (some 0) rfl rfl (fun a ha => by
  have := run_bslice (P := P) (d := d) (ty := ty) (pos := pos) (aft := aft) (t := t) (xs := []) (vs := []) (by simp [partv, enumV]) ht hz rfl trivial (by simp) ha
  exact this) hn h
end
theorem more_nr {n k o : Nat} {r g : List Int} {x L T C : Int} (hr : r.length = n * 4) (hk : k < n) : nrF (r ++ [x, L, T, C]) g k o = nrF r g k o := by
  unfold nrF
  simp only [List.getD_eq_getElem?_getD, List.getElem?_append_left (show k * 4 + 1 < r.length by omega), List.getElem?_append_left (show k * 4 + 2 < r.length by omega), List.getElem?_append_left (show k * 4 + 3 < r.length by omega)]
theorem more_wt {n k : Nat} {r : List Int} {x L T C : Int} (hr : r.length = n * 4) (hk : k < n) : wt 4 (r ++ [x, L, T, C]) k = wt 4 r k := by
  unfold wt
  simp only [List.getD_eq_getElem?_getD, List.getElem?_append_left (show k * 4 < r.length by omega)]
theorem more_last {n : Nat} {r : List Int} {x L T C : Int} (hr : r.length = n * 4) : wt 4 (r ++ [x, L, T, C]) n = x := by
  unfold wt
  simp only [List.getD_eq_getElem?_getD, ← hr, List.getElem?_append_right (Nat.le_refl _), Nat.sub_self]
  rfl
theorem nrS_congr {M k : Nat} {nr nr' : Nat → Nat → Bool} {S : Nat → Bool} (h : ∀ o, o < M → nr k o = nr' k o) : nrS M nr S k = nrS M nr' S k := by
  rw [Bool.eq_iff_iff, nrS_to, nrS_to]
  exact ⟨fun ⟨i, h1, h2, h3⟩ => ⟨i, h1, h2, by rw [← h i h1]; exact h3⟩, fun ⟨i, h1, h2, h3⟩ => ⟨i, h1, h2, by rw [h i h1]; exact h3⟩⟩
theorem more_bd {n m : Nat} {r g : List Int} {x L T C : Int} (hr : r.length = n * 4) (S : Nat → Bool) :
    bdF (n + 1) m (r ++ [x, L, T, C]) g S = bdF n m r g S + inS (nrS m (nrF (r ++ [x, L, T, C]) g) S) n x := by
  unfold bdF bndS
  rw [sumTo_succ, more_last hr]
  have : sumTo (fun k => inS (nrS m (nrF (r ++ [x, L, T, C]) g) S) k (wt 4 (r ++ [x, L, T, C]) k)) n = sumTo (fun k => inS (nrS m (nrF r g) S) k (wt 4 r k)) n := sumTo_congr n fun k hk => by
    have e : nrS m (nrF (r ++ [x, L, T, C]) g) S k = nrS m (nrF r g) S k := nrS_congr fun o _ => more_nr hr hk
    unfold inS
    rw [e, more_wt hr hk]
  rw [this]; omega
/-- One lot more never serves less, and never more than its weight more. -/
theorem more_best {n m : Nat} {r g : List Int} {x L T C : Int} (hr : r.length = n * 4) (h1 : vlE n m r g = 0) (h2 : vlE (n + 1) m (r ++ [x, L, T, C]) g = 0) :
    bsS n m r g ≤ bsS (n + 1) m (r ++ [x, L, T, C]) g ∧ bsS (n + 1) m (r ++ [x, L, T, C]) g ≤ bsS n m r g + x ∧ 0 ≤ x ∧ x ≤ 1000 ∧ 0 ≤ bsS n m r g ∧ bsS n m r g ≤ 6000 := by
  obtain ⟨_, q2, q3, q4, q5⟩ := fed_start h2
  have hx := q2 n (by omega)
  rw [more_last hr] at hx
  obtain ⟨a1, a2⟩ := fill_fed h1
  obtain ⟨b1, b2⟩ := fill_fed h2
  obtain ⟨S, hS⟩ := tot_meets a1 a2
  obtain ⟨S', hS'⟩ := tot_meets b1 b2
  have e1 : bsS n m r g = bdF n m r g S := (if_pos h1).trans hS
  have e2 : bsS (n + 1) m (r ++ [x, L, T, C]) g = bdF (n + 1) m (r ++ [x, L, T, C]) g S' := (if_pos h2).trans hS'
  have c1 := moV_le h1 S'
  have c2 := moV_le h2 S
  rw [← bs_mo] at c1 c2
  have d1 := more_bd (m := m) (g := g) (x := x) (L := L) (T := T) (C := C) hr S
  have d2 := more_bd (m := m) (g := g) (x := x) (L := L) (T := T) (C := C) hr S'
  have i1 : ∀ S, 0 ≤ inS S n x ∧ inS S n x ≤ x := fun S => by unfold inS; split <;> omega
  have j1 := i1 (nrS m (nrF (r ++ [x, L, T, C]) g) S)
  have j2 := i1 (nrS m (nrF (r ++ [x, L, T, C]) g) S')
  have t0 : bsS n m r g = tot n m (fillR n m r g).2 := if_pos h1
  have t1 : 0 ≤ tot n m (fillR n m r g).2 := sumTo_nonneg m fun o ho => sumTo_nonneg n fun k hk => (a1.ok k hk).2 o ho
  have t2 : tot n m (fillR n m r g).2 ≤ m * 1000 := sumTo_le m fun o ho => by
    have u1 := a1.want o ho
    have u2 := a1.lk o ho
    have u3 := (q3 o ho).2
    omega
  exact ⟨by omega, by omega, hx.1, hx.2, by omega, by omega⟩
end Go.Proofs.Ytbplmoidgobcpaa
