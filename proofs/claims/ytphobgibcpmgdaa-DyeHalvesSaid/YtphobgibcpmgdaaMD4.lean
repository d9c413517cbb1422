/- The table of a search in memory: rows of numbers, marks; calls of function values that change memory; new rows of any cells. -/
import Derived.Test.YtphobgibcpmgdaaMD3
namespace Go.Proofs.Ytphobgibcpmgdaa
open Go.RowKit
section
variable {P : Program} {n B : Nat} {w0 : Wd} {fr fr' : FR} {hs hs' S S' X : HS} {ty : TypeId} {K : Act → World → Prop}
  {ops : Array Oper} {l : List Oper} {d f : Nat} {fl : List Nat} {pos : String} {aft : Array Edge} {v : Value}
/-- New cells, all alike. -/
theorem run_makeZ {t : TypeId} {bytes k : Nat} {x y : Operand} {z0 : Value} (hap : ap P t = some (1, bytes)) (hz : zs P t = some [z0].toArray) (hx : opv fr x = some (.int .i64 k)) (hy : opv fr y = some (.int .i64 k)) (hb : k ≤ 1000000) (hby : bytes ≤ 1000000) {a : Act} (ha : Fr n a fr) :
    ∃ e, ∀ w, (execOp a.eval ⟨some d, .makeSlice t x y, ty, pos, aft, none⟩).run P w = .ok (.value (.slice (some ⟨w.heap.size, 0, none⟩) k k)) (w.alloc (.cells (List.replicate k z0).toArray e)) := by
  unfold ap at hap
  unfold zs at hz
  split at hap
  · rename_i e hu
    simp only [hu] at hz
    split at hap
    · rename_i i hi
      split at hap
      · rename_i z hzz
        split at hap
        · simp only [Option.some.injEq, Prod.mk.injEq] at hap
          obtain ⟨hs1, hs2⟩ := hap
          have hzc : z.cells = #[z0] := by simpa [zc, hi, hzz] using hz
          have hmul : (i.bytes : Int) * (k : Int) ≤ 281474976710656 := by
            have h1 : i.bytes * k ≤ 1000000 * 1000000 := Nat.mul_le_mul (hs2 ▸ hby) hb
            have h2 : ((i.bytes * k : Nat) : Int) ≤ 281474976710656 := by omega
            rwa [Int.natCast_mul] at h2
          have hc : madeCells z.cells ((k : Int).toNat * i.size) = (List.replicate k z0).toArray := by
            rw [hs1, hzc]
            apply Array.toList_inj.1
            apply List.ext_getElem?
            intro j
            simp only [madeCells, List.getElem?_replicate]
            by_cases hj : j < k
            · simp [hj, Nat.mod_one]
            · simp [hj]
          refine ⟨e, fun w => ?_⟩
          have hr := run_make (P := P) w t e i z hu hi hzz .i64 .i64 k k (by omega) (Int.le_refl _) hmul (by omega)
          rw [hc] at hr
          simp [execOp, ha.opv hx, ha.opv hy, hr]
        · cases hap
      · cases hap
    · cases hap
  · cases hap
theorem k_makeZ {t : TypeId} {bytes k : Nat} {x y : Operand} {z0 : Value} (hap : ap P t = some (1, bytes)) (hz : zs P t = some [z0].toArray) (hx : opv fr x = some (.int .i64 k)) (hy : opv fr y = some (.int .i64 k)) (hb : k ≤ 1000000) (hby : bytes ≤ 1000000) (hn : d < n)
    (h : ∀ b, Rk P n B w0 ops K fl l S ((d, .slice (some ⟨b, 0, none⟩) k k) :: fr) ((b, List.replicate k z0) :: hs)) :
    Rk P n B w0 ops K (2 :: fl) (⟨some d, .makeSlice t x y, ty, pos, aft, none⟩ :: l) S fr hs :=
  k_new (some k) rfl rfl (fun a ha => run_makeZ hap hz hx hy hb hby ha) hn h
/-- A call of a function value that changes memory, where all else waits. -/
theorem k_callF {x : Operand} {g : Nat} {xs : List Operand} {vs fs cs us : List Value} {ts : Array TypeId} {R : Value → HS → Prop} (hfl : eff4 f = true) (hf : isGo P g = true) (hx : opv fr x = some (.func (.func g) fs.toArray cs.toArray)) (hv : argv fr xs = some vs) (hu : fs ++ vs ++ cs = us)
    (hc : ∀ F, Fn P g us.toArray B w0 (F ++ hs) (fun u h => ∃ h', R u h' ∧ h = F ++ h')) (hn : d < n) (h : ∀ u h', R u h' → Rk P n B w0 ops K fl l h' ((d, u) :: fr) h') :
    Rk P n B w0 ops K (f :: fl) (⟨some d, .call { callee := .value x, args := xs.toArray, argTypes := ts }, ty, pos, aft, none⟩ :: l) S fr hs := by
  have h4 := eff4_le hfl
  refine k_eff (R := R) (eff4_F hfl) rfl (fun a ha F w hw => ?_) ?_
  · rw [run_callF hf ha hx hv hu (some d) w]
    refine (fn_el (hc F) w hw).mono ?_
    rintro e w' ⟨u, h2, rfl, ⟨h', hR, rfl⟩, hw'⟩
    exact ⟨u, rfl, h', hR, hw'⟩
  · intro a ha u h' hR
    have h5 := h u h' hR
    unfold Rk at h5
    exact ⟨h', .inr ⟨h4, rfl⟩, h5 _ (ha.put hn _)⟩
/-- Blocks in front of those that a call turns. -/
theorem Fn.front {g : Nat} {args : Array Value} {F T : HS} {R : Value → HS → Prop} (h : Fn P g args B w0 (T ++ (F ++ hs)) (fun v x => ∃ T', R v T' ∧ x = T' ++ (F ++ hs))) :
    Fn P g args B w0 (F ++ (T ++ hs)) (fun v x => ∃ h', (∃ T', R v T' ∧ h' = T' ++ hs) ∧ x = F ++ h') := fn_mk fun w hw => by
  have hp : ∀ Y : HS, (Y ++ (F ++ hs)).Perm (F ++ (Y ++ hs)) := fun Y => by
    rw [← List.append_assoc, ← List.append_assoc]
    exact List.perm_append_comm.append_right hs
  refine (fn_el h w (hw.perm (hp T).symm)).mono ?_
  rintro e w' ⟨v, x, rfl, ⟨T', hR, rfl⟩, hw'⟩
  exact ⟨v, _, rfl, ⟨_, ⟨T', hR, rfl⟩, rfl⟩, hw'.perm (hp T')⟩
theorem Upd.left {b : Nat} {cs cs' : List Value} (h : Upd b cs cs' hs hs') (r : HS) : Upd b cs cs' (hs ++ r) (hs' ++ r) := by
  induction h with
  | head hs => exact .head _
  | tail p _ ih => exact .tail _ ih
theorem ld_5 {t : TypeId} {ad : Addr} {v0 v1 v2 v3 v4 : Value} (ht : sh P t = some (true, 5)) (h0 : CellAt B w0 hs (ad.add 0) v0) (h1 : CellAt B w0 hs (ad.add 1) v1) (h2 : CellAt B w0 hs (ad.add 2) v2) (h3 : CellAt B w0 hs (ad.add 3) v3) (h4 : CellAt B w0 hs (ad.add 4) v4) : Ld P B w0 hs t ad (.agg #[v0, v1, v2, v3, v4]) :=
  ld_agg (vs := [v0, v1, v2, v3, v4]) ht rfl fun j v hj => by
    match j with
    | 0 => simp only [List.getElem?_cons_zero, Option.some.injEq] at hj; subst hj; exact h0
    | 1 => simp only [List.getElem?_cons_succ, List.getElem?_cons_zero, Option.some.injEq] at hj; subst hj; exact h1
    | 2 => simp only [List.getElem?_cons_succ, List.getElem?_cons_zero, Option.some.injEq] at hj; subst hj; exact h2
    | 3 => simp only [List.getElem?_cons_succ, List.getElem?_cons_zero, Option.some.injEq] at hj; subst hj; exact h3
    | 4 => simp only [List.getElem?_cons_succ, List.getElem?_cons_zero, Option.some.injEq] at hj; subst hj; exact h4
    | j + 5 => simp at hj
theorem ld_5S {t : TypeId} {oa : Option Addr} {o : Nat} {l : List Int} (ht : sh P t = some (true, 5)) (h : Sl B w0 hs' oa l) (hsub : hs'.Sublist hs) (hl : o + 4 < l.length) : Ld P B w0 hs t (ea oa o) (.agg #[iv (l.getD o 0), iv (l.getD (o + 1) 0), iv (l.getD (o + 2) 0), iv (l.getD (o + 3) 0), iv (l.getD (o + 4) 0)]) := ld_5 ht (h.cell hsub (by omega)) (h.cell hsub (by omega)) (h.cell hsub (by omega)) (h.cell hsub (by omega)) (h.cell hsub hl)
/-- A table's struct. -/
theorem o_bldT {t : TypeId} {x y p q : Operand} {v u r s z0 z1 z2 z3 z4 z5 : Value} (hx : opv fr x = some v) (hy : opv fr y = some u) (hp' : opv fr p = some r) (hq : opv fr q = some s) (h1 : v.cells = #[v]) (h2 : u.cells = #[u]) (h3 : r.cells = #[r]) (h4 : s.cells = #[s])
    (hz : zc P t = some [z0, z1, z2, z3, z4, z5].toArray) (hp : pl P t = some [(0, 1), (1, 1), (2, 1), (3, 1), (4, 1), (5, 1)]) :
    OpF P n B w0 (.build t #[(0, x), (1, y), (3, p), (4, q)]) ty fr hs (.agg #[v, u, z2, r, s, z5]) :=
  o_build (xs := [(0, x), (1, y), (3, p), (4, q)]) (vs := [(0, v), (1, u), (3, r), (4, s)]) (by simp [partv, hx, hy, hp', hq]) hz hp (by simp [bldL, one_sz h1, one_sz h2, one_sz h3, one_sz h4, one_toList h1, one_toList h2, one_toList h3, one_toList h4, setAll])
end
section
variable {n B : Nat} {w0 : Wd} {fr fr' : FR} {hs hs' S S' X : HS} {ty : TypeId} {K : Act → World → Prop}
  {ops : Array Oper} {l : List Oper} {d f : Nat} {fl : List Nat} {pos : String} {aft : Array Edge} {v : Value}
theorem dMkZ {t : TypeId} {bytes k : Nat} {x y : Operand} {z0 : Value} (h : ∀ b, Rk Try.prog n B w0 ops K fl l S ((d, .slice (some ⟨b, 0, none⟩) k k) :: fr) ((b, List.replicate k z0) :: hs)) (hap : getT apT t = some (1, bytes) := by rfl) (hz : getT zsT t = some [z0] := by rfl) (hx : opv fr x = some (.int .i64 k) := by rfl) (hy : opv fr y = some (.int .i64 k) := by rfl) (hb : k ≤ 1000000 := by omega) (hby : bytes ≤ 1000000 := by decide) (hn : d < n := by decide) :
    Rk Try.prog n B w0 ops K (2 :: fl) (⟨some d, .makeSlice t x y, ty, pos, aft, none⟩ :: l) S fr hs := k_makeZ (apTOf hap) (zsTOf hz) hx hy hb hby hn h
theorem kDT (t : Nat) {xs : Array Operand} {ts : Array TypeId} (h : Rk Try.prog n B w0 ops K fl (⟨some d, .call ⟨.value (.tmp t), xs, ts⟩, ty, pos, aft, none⟩ :: l) S fr hs) : Rk Try.prog n B w0 ops K fl (⟨some d, .call ⟨.value (.tmp t), xs, ts⟩, ty, pos, aft, none⟩ :: l) S fr hs := h
theorem dF {t g : Nat} {xs : List Operand} {vs fs cs us : List Value} {ts : Array TypeId} {R : Value → HS → Prop} (hc : ∀ F, Fn Try.prog g us.toArray B w0 (F ++ hs) (fun u h => ∃ h', R u h' ∧ h = F ++ h')) (h : ∀ u h', R u h' → Rk Try.prog n B w0 ops K fl l h' ((d, u) :: fr) h') (hg : isGo Try.prog g = true) (hfl : eff4 f = true := by rfl) (hx : get fr t = some (.func (.func g) fs.toArray cs.toArray) := by rfl) (hv : argv fr xs = some vs := by rfl) (hu : fs ++ vs ++ cs = us := by rfl) (hn : d < n := by decide) :
    Rk Try.prog n B w0 ops K (f :: fl) (⟨some d, .call ⟨.value (.tmp t), xs.toArray, ts⟩, ty, pos, aft, none⟩ :: l) S fr hs := k_callF hfl hg (x := .tmp t) hx hv hu hc hn h
theorem sFG {t g : Nat} {xs : List Operand} {vs fs cs us : List Value} {ts : Array TypeId} {R : Value → HS → Prop} (hc : Fn Try.prog g us.toArray B w0 hs R) (h : ∀ u h', R u h' → Sat n B w0 (sl Try.prog ops K l) ((d, u) :: fr) h') (hg : isGo Try.prog g = true) (hx : get fr t = some (.func (.func g) fs.toArray cs.toArray) := by rfl) (hv : argv fr xs = some vs := by rfl) (hu : fs ++ vs ++ cs = us := by rfl) (hn : d < n := by decide) :
    Sat n B w0 (sl Try.prog ops K (⟨some d, .call ⟨.value (.tmp t), xs.toArray, ts⟩, ty, pos, aft, none⟩ :: l)) fr hs := s_callF hg (x := .tmp t) hx hv hu hc hn h
end
/-! ### Rows and marks -/
def rws (N : Nat) (pr : Nat → Nat) (g : Nat → Nat → Int) : Nat → HS
  | 0 => []
  | m + 1 => (pr m, ivs (tab N (g m))) :: rws N pr g m
def bvs (M : Nat) (f : Nat → Bool) : List Value := (List.range M).map (fun i => .bool (f i))
def spn (N : Nat) (pr : Nat → Nat) (M : Nat) : List Value := (List.range M).map (fun i => .slice (some ⟨pr i, 0, none⟩) N N)
theorem rws_mem {N : Nat} {pr : Nat → Nat} {g : Nat → Nat → Int} {i : Nat} : ∀ {M : Nat}, i < M → (pr i, ivs (tab N (g i))) ∈ rws N pr g M
  | M + 1, h => by
    by_cases e : i = M
    · subst e; exact .head _
    · exact .tail _ (rws_mem (by omega))
theorem rws_congr {N : Nat} {pr : Nat → Nat} {g g' : Nat → Nat → Int} : ∀ {M : Nat}, (∀ i, i < M → g i = g' i) → rws N pr g M = rws N pr g' M
  | 0, _ => rfl
  | M + 1, h => by unfold rws; rw [h M (by omega), rws_congr (fun i hi => h i (by omega))]
theorem rws_upd {N : Nat} {pr : Nat → Nat} {g : Nat → Nat → Int} {w k : Nat} {x : Int} : ∀ {M : Nat}, w < M → Upd (pr w) (ivs (tab N (g w))) (ivs ((tab N (g w)).set k x)) (rws N pr g M) (rws N pr (up2 g w k x) M)
  | M + 1, h => by
    unfold rws
    by_cases e : w = M
    · subst e
      have e1 : rws N pr (up2 g w k x) w = rws N pr g w := rws_congr fun i hi => up2_ne _ _ _ (by omega)
      have e2 : tab N (up2 g w k x w) = (tab N (g w)).set k x := by rw [tab_set]; exact tab_ext fun i _ => up2_same _ _ _ _ _
      rw [e1, e2]
      exact .head _
    · rw [up2_ne _ _ _ (Ne.symm e)]
      exact .tail _ (rws_upd (by omega))
theorem tab_get? {N i : Nat} (F : Nat → Int) (h : i < N) : (ivs (tab N F))[i]? = some (iv (F i)) := by simp [ivs, tab, h]
theorem bvs_get? {M i : Nat} (f : Nat → Bool) (h : i < M) : (bvs M f)[i]? = some (.bool (f i)) := by simp [bvs, h]
theorem spn_get? {N M i : Nat} (pr : Nat → Nat) (z : List Value) (h : i < M) : (spn N pr M ++ z)[i]? = some (.slice (some ⟨pr i, 0, none⟩) N N) := by
  rw [List.getElem?_append_left (by simpa [spn] using h)]
  simp [spn, h]
theorem bvs_length (M : Nat) (f : Nat → Bool) : (bvs M f).length = M := by simp [bvs]
theorem bvs_set (M : Nat) (f : Nat → Bool) (w : Nat) (b : Bool) : (bvs M f).set w (.bool b) = bvs M (fun i => if i = w then b else f i) := by
  apply List.ext_getElem?
  intro j
  unfold bvs
  simp only [List.getElem?_set, List.getElem?_map, List.length_map, List.length_range]
  by_cases hj : j < M
  · by_cases e : w = j
    · subst e; simp [hj]
    · rw [if_neg e]; simp [hj, Ne.symm e]
  · by_cases e : w = j
    · subst e; simp [hj]
    · rw [if_neg e]; simp [hj]
theorem bvs_false (M : Nat) : List.replicate M (Value.bool false) = bvs M (fun _ => false) := by
  apply List.ext_getElem?
  intro j
  unfold bvs
  simp only [List.getElem?_replicate, List.getElem?_map]
  by_cases hj : j < M
  · simp [hj]
  · simp [hj]
theorem mmR {α : Type} {p a b c d e f g : α} {l r : List α} (h : p ∈ l) : p ∈ a :: b :: c :: d :: e :: f :: g :: (l ++ r) := .tail _ (.tail _ (.tail _ (.tail _ (.tail _ (.tail _ (.tail _ (List.mem_append_left _ h)))))))
theorem uuR {b : Nat} {cs cs' : List Value} {p1 p2 p3 p4 p5 p6 p7 : Nat × List Value} {l l' r : HS} (h : Upd b cs cs' l l') : Upd b cs cs' (p1 :: p2 :: p3 :: p4 :: p5 :: p6 :: p7 :: (l ++ r)) (p1 :: p2 :: p3 :: p4 :: p5 :: p6 :: p7 :: (l' ++ r)) :=
  .tail _ (.tail _ (.tail _ (.tail _ (.tail _ (.tail _ (.tail _ (h.left r)))))))
end Go.Proofs.Ytphobgibcpmgdaa
