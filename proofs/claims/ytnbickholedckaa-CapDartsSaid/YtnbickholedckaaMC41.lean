/- Slices of truth values; the reference's loops. -/
import Derived.Test.YtnbickholedckaaMC40
namespace Go.Proofs.Ytnbickholedckaa
open Go.RowKit
section
variable {P : Program} {n : NN} {B : Nat} {w0 : Wd} {fr : FR} {hs S : HS} {ty : TypeId} {K : Act → World → Prop}
  {ops : Array Oper} {l : List Oper} {d f : Nat} {fl : List Nat} {pos : String} {aft : Array Edge} {v : Value}
theorem run_makeZ {t : TypeId} {bytes k : Nat} {x y : Operand} {z0 : Value} (hap : ap P t = some (1, bytes)) (hz : zs P t = some [z0].toArray) (hx : opv fr x = some (.int .i64 k)) (hy : opv fr y = some (.int .i64 k)) (hb : k ≤ 1000000) (hby : bytes ≤ 1000000) {a : Act} (ha : Fr n a fr) :
    ∃ e, ∀ w, (execOp a.eval ⟨some d, .makeSlice t x y, ty, pos, aft, none⟩).run P w = .ok (.value (.slice (some ⟨w.heap.size, 0, none⟩) k k)) (w.alloc (.cells (List.replicate k z0).toArray e)) := by
  unfold ap at hap
  unfold zs at hz
  split at hap
  · rename_i e hu
    simp only [hu] at hz
    split at hap
    · rename_i i hi
      split at hap
      · rename_i z hzz
        split at hap
        · simp only [Option.some.injEq, Prod.mk.injEq] at hap
          obtain ⟨hs1, hs2⟩ := hap
          have hzc : z.cells = #[z0] := by simpa [zc, hi, hzz] using hz
          have hmul : (i.bytes : Int) * (k : Int) ≤ 281474976710656 := by
            have h1 : i.bytes * k ≤ 1000000 * 1000000 := Nat.mul_le_mul (hs2 ▸ hby) hb
            have h2 : ((i.bytes * k : Nat) : Int) ≤ 281474976710656 := by omega
            rwa [Int.natCast_mul] at h2
          have hc : madeCells z.cells ((k : Int).toNat * i.size) = (List.replicate k z0).toArray := by
            rw [hs1, hzc]
            apply Array.toList_inj.1
            apply List.ext_getElem?
            intro j
            simp only [madeCells, List.getElem?_replicate]
            by_cases hj : j < k
            · simp [hj, Nat.mod_one]
            · simp [hj]
          refine ⟨e, fun w => ?_⟩
          have hr := run_make (P := P) w t e i z hu hi hzz .i64 .i64 k k (by omega) (Int.le_refl _) hmul (by omega)
          rw [hc] at hr
          simp [execOp, ha.opv hx, ha.opv hy, hr]
        · cases hap
      · cases hap
    · cases hap
  · cases hap
theorem k_makeZ {t : TypeId} {bytes k : Nat} {x y : Operand} {z0 : Value} (hap : ap P t = some (1, bytes)) (hz : zs P t = some [z0].toArray) (hx : opv fr x = some (.int .i64 k)) (hy : opv fr y = some (.int .i64 k)) (hb : k ≤ 1000000) (hby : bytes ≤ 1000000) (hn : d < n.n)
    (h : ∀ b, Rk P n B w0 ops K fl l S ((d, .slice (some ⟨b, 0, none⟩) k k) :: fr) ((b, List.replicate k z0) :: hs)) :
    Rk P n B w0 ops K (2 :: fl) (⟨some d, .makeSlice t x y, ty, pos, aft, none⟩ :: l) S fr hs :=
  k_new (some k) rfl rfl (fun a ha => run_makeZ hap hz hx hy hb hby ha) hn h
theorem s_makeZ {t : TypeId} {bytes k : Nat} {x y : Operand} {z0 : Value} (hap : ap P t = some (1, bytes)) (hz : zs P t = some [z0].toArray) (hx : opv fr x = some (.int .i64 k)) (hy : opv fr y = some (.int .i64 k)) (hb : k ≤ 1000000) (hby : bytes ≤ 1000000) (hn : d < n.n)
    (h : ∀ b, Sat n B w0 (sl P ops K l) ((d, .slice (some ⟨b, 0, none⟩) k k) :: fr) ((b, List.replicate k z0) :: hs)) :
    Sat n B w0 (sl P ops K (⟨some d, .makeSlice t x y, ty, pos, aft, none⟩ :: l)) fr hs := sat_mk fun a w ha hw => by
  obtain ⟨e, he⟩ := run_makeZ (P := P) (d := d) (ty := ty) (pos := pos) (aft := aft) hap hz hx hy hb hby ha
  have h4 := sat_el (h w.heap.size) _ _ (ha.put hn _) (by simpa using hw.fresh (List.replicate k z0).toArray e)
  unfold sl
  rw [if_pos (by simp [Region.wanted])]
  unfold Oper.wp
  rw [he w]
  exact h4
theorem sMkZ {t : TypeId} {bytes k : Nat} {x y : Operand} {z0 : Value} (h : ∀ b, Sat n B w0 (sl Try.prog ops K l) ((d, .slice (some ⟨b, 0, none⟩) k k) :: fr) ((b, List.replicate k z0) :: hs)) (hap : getT apT t = some (1, bytes) := by rfl) (hz : getT zsT t = some [z0] := by rfl) (hx : opv fr x = some (.int .i64 k) := by rfl) (hy : opv fr y = some (.int .i64 k) := by rfl) (hb : k ≤ 1000000 := by omega) (hby : bytes ≤ 1000000 := by decide) (hn : d < n.n := by first | decide | exact ltd rfl) :
    Sat n B w0 (sl Try.prog ops K (⟨some d, .makeSlice t x y, ty, pos, aft, none⟩ :: l)) fr hs := s_makeZ (apTOf hap) (zsTOf hz) hx hy hb hby hn h
theorem dMkZ {t : TypeId} {bytes k : Nat} {x y : Operand} {z0 : Value} (h : ∀ b, Rk Try.prog n B w0 ops K fl l S ((d, .slice (some ⟨b, 0, none⟩) k k) :: fr) ((b, List.replicate k z0) :: hs)) (hap : getT apT t = some (1, bytes) := by rfl) (hz : getT zsT t = some [z0] := by rfl) (hx : opv fr x = some (.int .i64 k) := by rfl) (hy : opv fr y = some (.int .i64 k) := by rfl) (hb : k ≤ 1000000 := by omega) (hby : bytes ≤ 1000000 := by decide) (hn : d < n.n := by first | decide | exact ltd rfl) :
    Rk Try.prog n B w0 ops K (2 :: fl) (⟨some d, .makeSlice t x y, ty, pos, aft, none⟩ :: l) S fr hs := k_makeZ (apTOf hap) (zsTOf hz) hx hy hb hby hn h
end
def bvs (M : Nat) (f : Nat → Bool) : List Value := (List.range M).map (fun i => .bool (f i))
theorem bvs_get? {M i : Nat} (f : Nat → Bool) (h : i < M) : (bvs M f)[i]? = some (.bool (f i)) := by simp [bvs, h]
theorem bvs_length (M : Nat) (f : Nat → Bool) : (bvs M f).length = M := by simp [bvs]
theorem bvs_set (M : Nat) (f : Nat → Bool) (w : Nat) (b : Bool) : (bvs M f).set w (.bool b) = bvs M (fun i => if i = w then b else f i) := by
  apply List.ext_getElem?
  intro j
  unfold bvs
  simp only [List.getElem?_set, List.getElem?_map, List.length_map, List.length_range]
  by_cases hj : j < M
  · by_cases e : w = j
    · subst e; simp [hj]
    · rw [if_neg e]; simp [hj, Ne.symm e]
  · by_cases e : w = j
    · subst e; simp [hj]
    · rw [if_neg e]; simp [hj]
theorem bvs_false (M : Nat) : List.replicate M (Value.bool false) = bvs M (fun _ => false) := by
  apply List.ext_getElem?
  intro j
  unfold bvs
  simp only [List.getElem?_replicate, List.getElem?_map]
  by_cases hj : j < M
  · simp [hj]
  · simp [hj]
attribute [local irreducible] OpF Ld CellAt Sl Sv pcA usP
structure RlI where
  i : Nat
  S : Nat → Bool
  oa : Option Addr
  c : Nat
  rs : List Lr
  bo : HS
structure RlJ where
  j : Nat
  S : Nat → Bool
  oa : Option Addr
  c : Nat
  k6 : HS
set_option maxRecDepth 100000 in
set_option maxHeartbeats 8000000 in
theorem r_loops (t : Nt) (ps : List Pc) (mu : Nat → Nat) (hN : fsN (sdF ps) ps.length ≤ 48) (hN1 : 1 ≤ fsN (sdF ps) ps.length) (hNet : NetN (fsN (sdF ps) ps.length) (nxN (sdF ps) ps.length) (pvN (sdF ps) ps.length) mu) (B : Nat) (w0 : Wd) (hs : HS) (hS : NtAt B w0 hs t ps mu) :
    Fn Try.prog 66 #[.agg #[.slice t.o1 (fsN (sdF ps) ps.length) t.c1, .slice t.o2 (fsN (sdF ps) ps.length) t.c2, .slice t.o3 (fsN (sdF ps) ps.length) t.c3, .slice t.o4 (fsN (sdF ps) ps.length) t.c4, .slice t.o5 (fsN (sdF ps) ps.length) t.c5]] B w0 hs (fun v h => ∃ blk, LrR ((lpsL (fsN (sdF ps) ps.length) (nxN (sdF ps) ps.length) mu (fsN (sdF ps) ps.length)).map nats) v blk ∧ h = blk ++ hs) := by
  have i4 := hS.s4 (x := 0) hN1
  have i5 := hS.s5 (x := 0) hN1
  have hcn := fun y (hy : y < fsN (sdF ps) ps.length) hs' (h : hs.Sublist hs') => hS.nx h hy
  have hcm := fun y (hy : y < fsN (sdF ps) ps.length) hs' (h : hs.Sublist hs') => hS.mt h hy
  have hmt : ∀ {x : Nat}, mu x ≠ x → mtF mu x = (mu x : Int) := fun h => if_neg h
  have hmf : ∀ {x : Nat}, mu x = x → mtF mu x = -1 := fun h => if_pos h
  generalize fsN (sdF ps) ps.length = n at *
  generalize nxN (sdF ps) ps.length = nx at *
  refine fn_enter Try.func66 rfl Try.ntmps66 (by simp) ?_
  repeat' (first | ((with_reducible apply kP (.box 86 _)); refine sBA (fun b1 => ?_)) | ((with_reducible apply kP (.makeSlice 42 _ _)); refine sMkZ (fun bS => ?_)) | (with_reducible first | refine c_seq ?_ | refine c_reg ?_ | refine c_region ?_ | refine c_block ?_ | refine c_skip ?_ | refine c_exit ?_ | refine c_ret ?_ | refine s_nil ?_ | refine x_then ?_ | refine x_then_exit ?_ | refine x_then_ret ?_ | refine x_block ?_ | refine x_block_ret ?_ | refine x_block_same ?_ | refine x_block_other (by first | rfl | decide) ?_ | refine q_nil ?_ | refine k_nil ?_) | ((with_reducible apply kG); first | refine gY1 ?_ | refine gN1 ?_ | refine gU1 ?_ | (refine gD1 (fun h => ?_) (fun h => ?_) <;> (try (exfalso; omega))) | refine gB1 (fun h => ?_) (fun h => ?_)) | ((with_reducible apply kN); first | refine stP ?_ | refine stI ?_ | refine st1 ?_ | refine stW ?_) | ((with_reducible apply kP (.box _ _)); first | refine sBA (fun b => ?_) | refine sB (fun b => ?_)) | ((with_reducible apply kP (.buildSlice _ 1 _)); first | refine sl1A (fun b => ?_) | refine sl1 (fun b => ?_)) | ((with_reducible apply kP (.makeSlice _ _ _)); refine sMk (fun b => ?_)) | ((with_reducible apply kP (.call ⟨.builtin .append, _, _⟩)); refine sAp (fun oa2 c2 blk2 hrow2 => ?_)) | ((with_reducible apply kP _); refine sP ?_) | ((with_reducible apply kP _); refine sX ?_) | ((with_reducible apply kQP); refine qP ?_) | ((with_reducible apply kQP); refine qX ?_) | ((with_reducible apply kC); first | refine cT ?_ | refine cF ?_ | (refine cI (fun h => ?_) (fun h => ?_) <;> (try (exfalso; omega))) | refine cB (fun h => ?_) (fun h => ?_)) | ((with_reducible apply kR); refine cQ ?_))
  rw [bvs_false]
  refine c_loop (fun x : RlI => [(1, .pointer (some ⟨b1, 0, none⟩)), (3, .slice (some ⟨bS, 0, none⟩) n n), (4, .slice x.oa x.rs.length x.c), (5, iv x.i)]) (fun x => x.bo ++ (lrb x.rs ++ ((bS, bvs n x.S) :: (b1, [.slice t.o1 n t.c1, .slice t.o2 n t.c2, .slice t.o3 n t.c3, .slice t.o4 n t.c4, .slice t.o5 n t.c5]) :: hs)))
    (fun x => x.i ≤ n ∧ (∀ y, y < n → (x.S y = true ↔ seen1 n nx mu x.i y)) ∧ RowOk x.oa x.c 1 (lrv x.rs) x.bo ∧ (∀ r ∈ x.rs, RowOk r.oa r.c 1 (ivs r.l) r.blk) ∧ x.rs.map (·.l) = (lpsL n nx mu x.i).map nats ∧ x.rs.length ≤ x.i) (fun x => n - x.i) ⟨0, fun _ => false, none, 0, [], []⟩
    ⟨Nat.zero_le _, fun y _ => ⟨fun h => (by cases h), fun ⟨_, _, j, hj, _⟩ => absurd hj (Nat.not_lt_zero _)⟩, RowOk.nil, fun r hr => (by cases hr), rfl, Nat.le_refl _⟩ (by repeat' first | trivial | rfl | apply And.intro) (.refl _) ?_
  rintro ⟨i, S, oa, c, rs, bo⟩ ⟨hi, hSn, hro, hrr, hrl, hrc⟩
  dsimp only at hi hSn hro hrr hrl hrc ⊢
  by_cases hi' : i < n
  · have hci := hcm i hi'
    have hsi := bvs_get? (M := n) S hi'
    by_cases hf : mu i = i
    · rw [hmf hf] at hci
      by_cases hfst : fstB n nx mu i = true
      · have hS0 : S i = false := by
          rw [← Bool.not_eq_true, hSn i hi']
          exact (seen1_fst hf hi').1 hfst
        rw [hS0] at hsi
        obtain ⟨p, hp⟩ := hNet.loop hi'
        repeat' (first | ((with_reducible apply kP (.load 4 (.tmp 20))); refine sP ?_ (o_load rfl (ld_one (shTOf rfl) (own MMt hsi)))) | ((with_reducible apply kDP (.load 4 (.tmp 20))); refine dP ?_ (hX := rfl) (hv := o_load rfl (ld_one (shTOf rfl) (own MMt hsi)))) | ((with_reducible apply kQO (.load 4 (.tmp 20))); refine qP ?_ (o_load rfl (ld_one (shTOf rfl) (own MMt hsi)))) | ((with_reducible apply kP (.load 3 (.tmp 26))); refine sP ?_ (o_load rfl (ld_one (shTOf rfl) (hci _ SBt)))) | ((with_reducible apply kDP (.load 3 (.tmp 26))); refine dP ?_ (hX := rfl) (hv := o_load rfl (ld_one (shTOf rfl) (hci _ SBt)))) | ((with_reducible apply kQO (.load 3 (.tmp 26))); refine qP ?_ (o_load rfl (ld_one (shTOf rfl) (hci _ SBt)))) | ((with_reducible apply kP (.indexAddr 42 (.tmp 18) _)); refine sP ?_ (o_indexB (scTOf rfl) rfl rfl (nn0 _) (aa0 _) hi')) | ((with_reducible apply kDP (.indexAddr 42 (.tmp 18) _)); refine dP ?_ (hX := rfl) (hv := o_indexB (scTOf rfl) rfl rfl (nn0 _) (aa0 _) hi')) | ((with_reducible apply kQO (.indexAddr 42 (.tmp 18) _)); refine qP ?_ (o_indexB (scTOf rfl) rfl rfl (nn0 _) (aa0 _) hi')) | (with_reducible first | refine c_seq ?_ | refine c_reg ?_ | refine c_region ?_ | refine c_block ?_ | refine c_skip ?_ | refine c_exit ?_ | refine c_ret ?_ | refine s_nil ?_ | refine x_then ?_ | refine x_then_exit ?_ | refine x_then_ret ?_ | refine x_block ?_ | refine x_block_ret ?_ | refine x_block_same ?_ | refine x_block_other (by first | rfl | decide) ?_ | refine q_nil ?_ | refine k_nil ?_) | ((with_reducible apply kG); first | refine gY1 ?_ | refine gN1 ?_ | refine gU1 ?_ | (refine gD1 (fun h => ?_) (fun h => ?_) <;> (try (exfalso; omega))) | refine gB1 (fun h => ?_) (fun h => ?_)) | ((with_reducible apply kN); first | refine stP ?_ | refine stI ?_ | refine st1 ?_ | refine stW ?_) | ((with_reducible apply kP (.box _ _)); first | refine sBA (fun b => ?_) | refine sB (fun b => ?_)) | ((with_reducible apply kP (.buildSlice _ 1 _)); first | refine sl1A (fun b => ?_) | refine sl1 (fun b => ?_)) | ((with_reducible apply kP (.makeSlice _ _ _)); refine sMk (fun b => ?_)) | ((with_reducible apply kP (.call ⟨.builtin .append, _, _⟩)); refine sAp (fun oa2 c2 blk2 hrow2 => ?_)) | ((with_reducible apply kP _); refine sP ?_) | ((with_reducible apply kP _); refine sX ?_) | ((with_reducible apply kQP); refine qP ?_) | ((with_reducible apply kQP); refine qX ?_) | ((with_reducible apply kC); first | refine cT ?_ | refine cF ?_ | (refine cI (fun h => ?_) (fun h => ?_) <;> (try (exfalso; omega))) | refine cB (fun h => ?_) (fun h => ?_)) | ((with_reducible apply kR); refine cQ ?_))
        all_goals try (exfalso; omega)
        refine c_loop (fun x : RlJ => [(1, .pointer (some ⟨b1, 0, none⟩)), (3, .slice (some ⟨bS, 0, none⟩) n n), (4, .slice oa rs.length c), (5, iv i), (6, .slice x.oa x.j x.c), (7, iv (itn (hpN n nx mu) x.j i : Nat))]) (fun x => x.k6 ++ (bo ++ (lrb rs ++ ((bS, bvs n x.S) :: (b1, [.slice t.o1 n t.c1, .slice t.o2 n t.c2, .slice t.o3 n t.c3, .slice t.o4 n t.c4, .slice t.o5 n t.c5]) :: hs))))
          (fun x => x.j ≤ p ∧ (∀ y, y < n → (x.S y = true ↔ (seen1 n nx mu i y ∨ ∃ u, u < x.j ∧ itn (hpN n nx mu) u i = y))) ∧ RowOk x.oa x.c 1 (ivs (nats ((List.range x.j).map fun u => itn (hpN n nx mu) u i))) x.k6)
          (fun x => p - x.j) ⟨0, S, none, 0, []⟩ ⟨Nat.zero_le _, fun y hy => by rw [hSn y hy]; exact ⟨.inl, fun h => h.resolve_right (fun ⟨u, hu, _⟩ => absurd hu (Nat.not_lt_zero _))⟩, RowOk.nil⟩ (by repeat' first | trivial | rfl | apply And.intro) (.refl _) ?_
        rintro ⟨j, S1, oa6, c6, k6⟩ ⟨hj, hSj, hr6⟩
        dsimp only at hj hSj hr6 ⊢
        obtain ⟨hy1, hy2, _⟩ := hNet.hp_it hi' hf j
        by_cases hj' : j < p
        · have hnew := loop_new hNet hf hi' hfst hp hj'
          have hS1 : S1 (itn (hpN n nx mu) j i) = false := by
            rw [← Bool.not_eq_true, hSj _ hy1]; exact hnew
          have hsj := bvs_get? (M := n) S1 hy1
          rw [hS1] at hsj
          have hS2 : ∀ y, y < n → ((if y = itn (hpN n nx mu) j i then true else S1 y) = true ↔ (seen1 n nx mu i y ∨ ∃ u, u < j + 1 ∧ itn (hpN n nx mu) u i = y)) := fun y hy => by
            by_cases e : y = itn (hpN n nx mu) j i
            · rw [if_pos e]; exact ⟨fun _ => .inr ⟨j, by omega, e.symm⟩, fun _ => rfl⟩
            · rw [if_neg e, hSj y hy]
              constructor
              · rintro (h | ⟨u, hu, h⟩)
                · exact .inl h
                · exact .inr ⟨u, by omega, h⟩
              · rintro (h | ⟨u, hu, h⟩)
                · exact .inl h
                · by_cases hu' : u = j
                  · exact absurd (by rw [← h, hu']) e
                  · exact .inr ⟨u, by omega, h⟩
          obtain ⟨k, k1, k2, k3, k4, k5⟩ := hp_steps hNet hy1 hy2
          have hnx1 : itn (hpN n nx mu) (j + 1) i = hpN n nx mu (itn (hpN n nx mu) j i) := rfl
          have htk := iter_take (hpN n nx mu) i j
          rw [← hnx1] at k2
          have hlen : (ivs (nats ((List.range j).map fun u => itn (hpN n nx mu) u i))).length = j * 1 := by rw [ivs_length, nats_len, List.length_map, List.length_range, Nat.mul_one]
          have hjn : p ≤ n := hp.pn
          have hbl : (bvs n S1).length = n := bvs_length _ _
          have hst := bvs_set n S1 (itn (hpN n nx mu) j i) true
          generalize hyy : itn (hpN n nx mu) j i = y at *
          have hcy := hcn y hy1
          rw [k5] at hcy
          repeat' (first | ((with_reducible apply kP (.load 4 (.tmp 33))); refine sP ?_ (o_load rfl (ld_one (shTOf rfl) (own MMt hsj)))) | ((with_reducible apply kDP (.load 4 (.tmp 33))); refine dP ?_ (hX := rfl) (hv := o_load rfl (ld_one (shTOf rfl) (own MMt hsj)))) | ((with_reducible apply kQO (.load 4 (.tmp 33))); refine qP ?_ (o_load rfl (ld_one (shTOf rfl) (own MMt hsj)))) | ((with_reducible apply kP (.load 3 (.tmp 46))); refine sP ?_ (o_load rfl (ld_one (shTOf rfl) (hcy _ SBt)))) | ((with_reducible apply kDP (.load 3 (.tmp 46))); refine dP ?_ (hX := rfl) (hv := o_load rfl (ld_one (shTOf rfl) (hcy _ SBt)))) | ((with_reducible apply kQO (.load 3 (.tmp 46))); refine qP ?_ (o_load rfl (ld_one (shTOf rfl) (hcy _ SBt)))) | ((with_reducible apply kP (.indexAddr 42 (.tmp 31) _)); refine sP ?_ (o_indexB (scTOf rfl) rfl rfl (nn0 _) (aa0 _) hy1)) | ((with_reducible apply kDP (.indexAddr 42 (.tmp 31) _)); refine dP ?_ (hX := rfl) (hv := o_indexB (scTOf rfl) rfl rfl (nn0 _) (aa0 _) hy1)) | ((with_reducible apply kQO (.indexAddr 42 (.tmp 31) _)); refine qP ?_ (o_indexB (scTOf rfl) rfl rfl (nn0 _) (aa0 _) hy1)) | ((with_reducible apply kP (.indexAddr 42 (.tmp 36) _)); refine sP ?_ (o_indexB (scTOf rfl) rfl rfl (nn0 _) (aa0 _) hy1)) | ((with_reducible apply kDP (.indexAddr 42 (.tmp 36) _)); refine dP ?_ (hX := rfl) (hv := o_indexB (scTOf rfl) rfl rfl (nn0 _) (aa0 _) hy1)) | ((with_reducible apply kQO (.indexAddr 42 (.tmp 36) _)); refine qP ?_ (o_indexB (scTOf rfl) rfl rfl (nn0 _) (aa0 _) hy1)) | ((with_reducible apply kN); refine st1 ?_ (hl := by rw [hbl]; exact hy1)) | ((with_reducible apply kP (.call ⟨.builtin .append, _, _⟩)); refine sAp (fun oa7 c7 k7 hr7 => ?_) (hr := hr6) (hk := hlen)) | (with_reducible first | refine c_seq ?_ | refine c_reg ?_ | refine c_region ?_ | refine c_block ?_ | refine c_skip ?_ | refine c_exit ?_ | refine c_ret ?_ | refine s_nil ?_ | refine x_then ?_ | refine x_then_exit ?_ | refine x_then_ret ?_ | refine x_block ?_ | refine x_block_ret ?_ | refine x_block_same ?_ | refine x_block_other (by first | rfl | decide) ?_ | refine q_nil ?_ | refine k_nil ?_) | ((with_reducible apply kG); first | refine gY1 ?_ | refine gN1 ?_ | refine gU1 ?_ | (refine gD1 (fun h => ?_) (fun h => ?_) <;> (try (exfalso; omega))) | refine gB1 (fun h => ?_) (fun h => ?_)) | ((with_reducible apply kN); first | refine stP ?_ | refine stI ?_ | refine st1 ?_ | refine stW ?_) | ((with_reducible apply kP (.box _ _)); first | refine sBA (fun b => ?_) | refine sB (fun b => ?_)) | ((with_reducible apply kP (.buildSlice _ 1 _)); first | refine sl1A (fun b => ?_) | refine sl1 (fun b => ?_)) | ((with_reducible apply kP (.makeSlice _ _ _)); refine sMk (fun b => ?_)) | ((with_reducible apply kP (.call ⟨.builtin .append, _, _⟩)); refine sAp (fun oa2 c2 blk2 hrow2 => ?_)) | ((with_reducible apply kP _); refine sP ?_) | ((with_reducible apply kP _); refine sX ?_) | ((with_reducible apply kQP); refine qP ?_) | ((with_reducible apply kQP); refine qX ?_) | ((with_reducible apply kC); first | refine cT ?_ | refine cF ?_ | (refine cI (fun h => ?_) (fun h => ?_) <;> (try (exfalso; omega))) | refine cB (fun h => ?_) (fun h => ?_)) | ((with_reducible apply kR); refine cQ ?_))
          rw [hst]
          refine c_loop (fun q : Nat => [(1, .pointer (some ⟨b1, 0, none⟩)), (3, .slice (some ⟨bS, 0, none⟩) n n), (4, .slice oa rs.length c), (5, iv i), (6, .slice oa7 (j + 1) c7), (7, iv (itn (psN nx mu) q y : Nat))]) (fun _ => k7 ++ (bo ++ (lrb rs ++ ((bS, bvs n fun i => if i = y then true else S1 i) :: (b1, [.slice t.o1 n t.c1, .slice t.o2 n t.c2, .slice t.o3 n t.c3, .slice t.o4 n t.c4, .slice t.o5 n t.c5]) :: hs)))) (fun q => 1 ≤ q ∧ q ≤ k) (fun q => k - q) 1 ⟨Nat.le_refl _, k1⟩ (by repeat' first | trivial | rfl | apply And.intro) SCt ?_
          rintro q ⟨q1, q2⟩
          have hq3 := hNet.perm.itn_lt hy1 q
          have hcq := hcm _ hq3
          by_cases hqk : q = k
          · subst hqk
            rw [hmf k3] at hcq
            repeat' (first | ((with_reducible apply kP (.load 3 (.tmp 51))); refine sP ?_ (o_load rfl (ld_one (shTOf rfl) (hcq _ SBt)))) | ((with_reducible apply kDP (.load 3 (.tmp 51))); refine dP ?_ (hX := rfl) (hv := o_load rfl (ld_one (shTOf rfl) (hcq _ SBt)))) | ((with_reducible apply kQO (.load 3 (.tmp 51))); refine qP ?_ (o_load rfl (ld_one (shTOf rfl) (hcq _ SBt)))) | (with_reducible first | refine c_seq ?_ | refine c_reg ?_ | refine c_region ?_ | refine c_block ?_ | refine c_skip ?_ | refine c_exit ?_ | refine c_ret ?_ | refine s_nil ?_ | refine x_then ?_ | refine x_then_exit ?_ | refine x_then_ret ?_ | refine x_block ?_ | refine x_block_ret ?_ | refine x_block_same ?_ | refine x_block_other (by first | rfl | decide) ?_ | refine q_nil ?_ | refine k_nil ?_) | ((with_reducible apply kG); first | refine gY1 ?_ | refine gN1 ?_ | refine gU1 ?_ | (refine gD1 (fun h => ?_) (fun h => ?_) <;> (try (exfalso; omega))) | refine gB1 (fun h => ?_) (fun h => ?_)) | ((with_reducible apply kN); first | refine stP ?_ | refine stI ?_ | refine st1 ?_ | refine stW ?_) | ((with_reducible apply kP (.box _ _)); first | refine sBA (fun b => ?_) | refine sB (fun b => ?_)) | ((with_reducible apply kP (.buildSlice _ 1 _)); first | refine sl1A (fun b => ?_) | refine sl1 (fun b => ?_)) | ((with_reducible apply kP (.makeSlice _ _ _)); refine sMk (fun b => ?_)) | ((with_reducible apply kP (.call ⟨.builtin .append, _, _⟩)); refine sAp (fun oa2 c2 blk2 hrow2 => ?_)) | ((with_reducible apply kP _); refine sP ?_) | ((with_reducible apply kP _); refine sX ?_) | ((with_reducible apply kQP); refine qP ?_) | ((with_reducible apply kQP); refine qX ?_) | ((with_reducible apply kC); first | refine cT ?_ | refine cF ?_ | (refine cI (fun h => ?_) (fun h => ?_) <;> (try (exfalso; omega))) | refine cB (fun h => ?_) (fun h => ?_)) | ((with_reducible apply kR); refine cQ ?_))
            all_goals try (exfalso; omega)
            rw [← k2]
            have hr7' : RowOk oa7 c7 1 (ivs (nats ((List.range (j + 1)).map fun u => itn (hpN n nx mu) u i))) k7 := by rw [htk, nats_snoc]; exact hr7
            exact r_end (⟨j + 1, fun i => if i = y then true else S1 i, oa7, c7, k7⟩ : RlJ) ⟨hj', hS2, hr7'⟩ (by dsimp only; omega) (by repeat' first | trivial | rfl | apply And.intro) SCt
          · have hne := k4 q q1 (by omega)
            rw [hmt hne] at hcq
            have hmq := hNet.ml _ hq3
            have hcx := hcn _ hmq
            have hps : nx (mu (itn (psN nx mu) q y)) = itn (psN nx mu) (q + 1) y := rfl
            rw [hps] at hcx
            repeat' (first | ((with_reducible apply kP (.load 3 (.tmp 51))); refine sP ?_ (o_load rfl (ld_one (shTOf rfl) (hcq _ SBt)))) | ((with_reducible apply kDP (.load 3 (.tmp 51))); refine dP ?_ (hX := rfl) (hv := o_load rfl (ld_one (shTOf rfl) (hcq _ SBt)))) | ((with_reducible apply kQO (.load 3 (.tmp 51))); refine qP ?_ (o_load rfl (ld_one (shTOf rfl) (hcq _ SBt)))) | ((with_reducible apply kP (.load 3 (.tmp 59))); refine sP ?_ (o_load rfl (ld_one (shTOf rfl) (hcq _ SBt)))) | ((with_reducible apply kDP (.load 3 (.tmp 59))); refine dP ?_ (hX := rfl) (hv := o_load rfl (ld_one (shTOf rfl) (hcq _ SBt)))) | ((with_reducible apply kQO (.load 3 (.tmp 59))); refine qP ?_ (o_load rfl (ld_one (shTOf rfl) (hcq _ SBt)))) | ((with_reducible apply kP (.load 3 (.tmp 61))); refine sP ?_ (o_load rfl (ld_one (shTOf rfl) (hcx _ SBt)))) | ((with_reducible apply kDP (.load 3 (.tmp 61))); refine dP ?_ (hX := rfl) (hv := o_load rfl (ld_one (shTOf rfl) (hcx _ SBt)))) | ((with_reducible apply kQO (.load 3 (.tmp 61))); refine qP ?_ (o_load rfl (ld_one (shTOf rfl) (hcx _ SBt)))) | (with_reducible first | refine c_seq ?_ | refine c_reg ?_ | refine c_region ?_ | refine c_block ?_ | refine c_skip ?_ | refine c_exit ?_ | refine c_ret ?_ | refine s_nil ?_ | refine x_then ?_ | refine x_then_exit ?_ | refine x_then_ret ?_ | refine x_block ?_ | refine x_block_ret ?_ | refine x_block_same ?_ | refine x_block_other (by first | rfl | decide) ?_ | refine q_nil ?_ | refine k_nil ?_) | ((with_reducible apply kG); first | refine gY1 ?_ | refine gN1 ?_ | refine gU1 ?_ | (refine gD1 (fun h => ?_) (fun h => ?_) <;> (try (exfalso; omega))) | refine gB1 (fun h => ?_) (fun h => ?_)) | ((with_reducible apply kN); first | refine stP ?_ | refine stI ?_ | refine st1 ?_ | refine stW ?_) | ((with_reducible apply kP (.box _ _)); first | refine sBA (fun b => ?_) | refine sB (fun b => ?_)) | ((with_reducible apply kP (.buildSlice _ 1 _)); first | refine sl1A (fun b => ?_) | refine sl1 (fun b => ?_)) | ((with_reducible apply kP (.makeSlice _ _ _)); refine sMk (fun b => ?_)) | ((with_reducible apply kP (.call ⟨.builtin .append, _, _⟩)); refine sAp (fun oa2 c2 blk2 hrow2 => ?_)) | ((with_reducible apply kP _); refine sP ?_) | ((with_reducible apply kP _); refine sX ?_) | ((with_reducible apply kQP); refine qP ?_) | ((with_reducible apply kQP); refine qX ?_) | ((with_reducible apply kC); first | refine cT ?_ | refine cF ?_ | (refine cI (fun h => ?_) (fun h => ?_) <;> (try (exfalso; omega))) | refine cB (fun h => ?_) (fun h => ?_)) | ((with_reducible apply kR); refine cQ ?_))
            all_goals try (exfalso; omega)
            exact r_end (q + 1) ⟨by omega, by omega⟩ (by omega) (by repeat' first | trivial | rfl | apply And.intro) SCt
        · obtain rfl : p = j := by omega
          have hret := hp.ret
          have hS1 : S1 (itn (hpN n nx mu) p i) = true := (hSj _ hy1).2 (.inr ⟨0, hp.p1, hp.ret.symm⟩)
          have hsj := bvs_get? (M := n) S1 hy1
          rw [hS1] at hsj
          have hSi : ∀ y, y < n → (S1 y = true ↔ seen1 n nx mu (i + 1) y) := fun y hy => by rw [hSj y hy, seen1_yes hNet hf hi' hp y]
          have hll := hp.list
          have hln : (nats ((List.range p).map fun u => itn (hpN n nx mu) u i)).length = p := by rw [nats_len, List.length_map, List.length_range]
          have hpn := hp.pn
          repeat' (first | ((with_reducible apply kP (.load 4 (.tmp 33))); refine sP ?_ (o_load rfl (ld_one (shTOf rfl) (own MMt hsj)))) | ((with_reducible apply kDP (.load 4 (.tmp 33))); refine dP ?_ (hX := rfl) (hv := o_load rfl (ld_one (shTOf rfl) (own MMt hsj)))) | ((with_reducible apply kQO (.load 4 (.tmp 33))); refine qP ?_ (o_load rfl (ld_one (shTOf rfl) (own MMt hsj)))) | ((with_reducible apply kP (.indexAddr 42 (.tmp 31) _)); refine sP ?_ (o_indexB (scTOf rfl) rfl rfl (nn0 _) (aa0 _) hy1)) | ((with_reducible apply kDP (.indexAddr 42 (.tmp 31) _)); refine dP ?_ (hX := rfl) (hv := o_indexB (scTOf rfl) rfl rfl (nn0 _) (aa0 _) hy1)) | ((with_reducible apply kQO (.indexAddr 42 (.tmp 31) _)); refine qP ?_ (o_indexB (scTOf rfl) rfl rfl (nn0 _) (aa0 _) hy1)) | ((with_reducible apply kP (.call ⟨.builtin .append, _, _⟩)); refine sAp (fun oa8 c8 k8 hr8 => ?_) (hr := hro) (hk := by rw [lrv_len, Nat.mul_one])) | (with_reducible first | refine c_seq ?_ | refine c_reg ?_ | refine c_region ?_ | refine c_block ?_ | refine c_skip ?_ | refine c_exit ?_ | refine c_ret ?_ | refine s_nil ?_ | refine x_then ?_ | refine x_then_exit ?_ | refine x_then_ret ?_ | refine x_block ?_ | refine x_block_ret ?_ | refine x_block_same ?_ | refine x_block_other (by first | rfl | decide) ?_ | refine q_nil ?_ | refine k_nil ?_) | ((with_reducible apply kG); first | refine gY1 ?_ | refine gN1 ?_ | refine gU1 ?_ | (refine gD1 (fun h => ?_) (fun h => ?_) <;> (try (exfalso; omega))) | refine gB1 (fun h => ?_) (fun h => ?_)) | ((with_reducible apply kN); first | refine stP ?_ | refine stI ?_ | refine st1 ?_ | refine stW ?_) | ((with_reducible apply kP (.box _ _)); first | refine sBA (fun b => ?_) | refine sB (fun b => ?_)) | ((with_reducible apply kP (.buildSlice _ 1 _)); first | refine sl1A (fun b => ?_) | refine sl1 (fun b => ?_)) | ((with_reducible apply kP (.makeSlice _ _ _)); refine sMk (fun b => ?_)) | ((with_reducible apply kP (.call ⟨.builtin .append, _, _⟩)); refine sAp (fun oa2 c2 blk2 hrow2 => ?_)) | ((with_reducible apply kP _); refine sP ?_) | ((with_reducible apply kP _); refine sX ?_) | ((with_reducible apply kQP); refine qP ?_) | ((with_reducible apply kQP); refine qX ?_) | ((with_reducible apply kC); first | refine cT ?_ | refine cF ?_ | (refine cI (fun h => ?_) (fun h => ?_) <;> (try (exfalso; omega))) | refine cB (fun h => ?_) (fun h => ?_)) | ((with_reducible apply kR); refine cQ ?_))
          have hr8' : RowOk oa8 c8 1 (lrv (rs ++ [⟨oa6, c6, nats ((List.range p).map fun u => itn (hpN n nx mu) u i), k6⟩])) k8 := by rw [lrv_snoc]; dsimp only; rw [hln]; exact hr8
          rw [show rs.length + 1 = (rs ++ [(⟨oa6, c6, nats ((List.range p).map fun u => itn (hpN n nx mu) u i), k6⟩ : Lr)]).length by simp]
          refine r_end (⟨i + 1, S1, oa8, c8, rs ++ [⟨oa6, c6, nats ((List.range p).map fun u => itn (hpN n nx mu) u i), k6⟩], k8⟩ : RlI) ⟨hi', hSi, hr8', fun r hr => ?_, ?_, by simp; omega⟩ (by dsimp only; omega) (by repeat' first | trivial | rfl | apply And.intro) (by dsimp only; rw [lrb_snoc, List.append_assoc]; exact SCt)
          · rcases List.mem_append.1 hr with hr | hr
            · exact hrr r hr
            · rw [List.mem_singleton] at hr; subst hr; exact hr6
          · dsimp only
            rw [lpsL_yes hfst, List.map_append, List.map_append, hrl, hll]
            rfl
      · have hfs : fstB n nx mu i = false := by simpa using hfst
        have hsn : seen1 n nx mu i i := by
          by_cases h : seen1 n nx mu i i
          · exact h
          · exact absurd ((seen1_fst hf hi').2 h) hfst
        rw [(hSn i hi').2 hsn] at hsi
        have hSi : ∀ y, y < n → (S y = true ↔ seen1 n nx mu (i + 1) y) := fun y hy => by rw [hSn y hy, seen1_no hfs hi' y]
        repeat' (first | ((with_reducible apply kP (.load 4 (.tmp 20))); refine sP ?_ (o_load rfl (ld_one (shTOf rfl) (own MMt hsi)))) | ((with_reducible apply kDP (.load 4 (.tmp 20))); refine dP ?_ (hX := rfl) (hv := o_load rfl (ld_one (shTOf rfl) (own MMt hsi)))) | ((with_reducible apply kQO (.load 4 (.tmp 20))); refine qP ?_ (o_load rfl (ld_one (shTOf rfl) (own MMt hsi)))) | ((with_reducible apply kP (.load 3 (.tmp 26))); refine sP ?_ (o_load rfl (ld_one (shTOf rfl) (hci _ SBt)))) | ((with_reducible apply kDP (.load 3 (.tmp 26))); refine dP ?_ (hX := rfl) (hv := o_load rfl (ld_one (shTOf rfl) (hci _ SBt)))) | ((with_reducible apply kQO (.load 3 (.tmp 26))); refine qP ?_ (o_load rfl (ld_one (shTOf rfl) (hci _ SBt)))) | ((with_reducible apply kP (.indexAddr 42 (.tmp 18) _)); refine sP ?_ (o_indexB (scTOf rfl) rfl rfl (nn0 _) (aa0 _) hi')) | ((with_reducible apply kDP (.indexAddr 42 (.tmp 18) _)); refine dP ?_ (hX := rfl) (hv := o_indexB (scTOf rfl) rfl rfl (nn0 _) (aa0 _) hi')) | ((with_reducible apply kQO (.indexAddr 42 (.tmp 18) _)); refine qP ?_ (o_indexB (scTOf rfl) rfl rfl (nn0 _) (aa0 _) hi')) | (with_reducible first | refine c_seq ?_ | refine c_reg ?_ | refine c_region ?_ | refine c_block ?_ | refine c_skip ?_ | refine c_exit ?_ | refine c_ret ?_ | refine s_nil ?_ | refine x_then ?_ | refine x_then_exit ?_ | refine x_then_ret ?_ | refine x_block ?_ | refine x_block_ret ?_ | refine x_block_same ?_ | refine x_block_other (by first | rfl | decide) ?_ | refine q_nil ?_ | refine k_nil ?_) | ((with_reducible apply kG); first | refine gY1 ?_ | refine gN1 ?_ | refine gU1 ?_ | (refine gD1 (fun h => ?_) (fun h => ?_) <;> (try (exfalso; omega))) | refine gB1 (fun h => ?_) (fun h => ?_)) | ((with_reducible apply kN); first | refine stP ?_ | refine stI ?_ | refine st1 ?_ | refine stW ?_) | ((with_reducible apply kP (.box _ _)); first | refine sBA (fun b => ?_) | refine sB (fun b => ?_)) | ((with_reducible apply kP (.buildSlice _ 1 _)); first | refine sl1A (fun b => ?_) | refine sl1 (fun b => ?_)) | ((with_reducible apply kP (.makeSlice _ _ _)); refine sMk (fun b => ?_)) | ((with_reducible apply kP (.call ⟨.builtin .append, _, _⟩)); refine sAp (fun oa2 c2 blk2 hrow2 => ?_)) | ((with_reducible apply kP _); refine sP ?_) | ((with_reducible apply kP _); refine sX ?_) | ((with_reducible apply kQP); refine qP ?_) | ((with_reducible apply kQP); refine qX ?_) | ((with_reducible apply kC); first | refine cT ?_ | refine cF ?_ | (refine cI (fun h => ?_) (fun h => ?_) <;> (try (exfalso; omega))) | refine cB (fun h => ?_) (fun h => ?_)) | ((with_reducible apply kR); refine cQ ?_))
        exact r_end (⟨i + 1, S, oa, c, rs, bo⟩ : RlI) ⟨hi', hSi, hro, hrr, by dsimp only; rw [lpsL_no hfs]; exact hrl, by dsimp only; omega⟩ (by dsimp only; omega) (by repeat' first | trivial | rfl | apply And.intro) SCt
    · rw [hmt hf] at hci
      have hfs : fstB n nx mu i = false := by unfold fstB; simp [hf]
      have hSi : ∀ y, y < n → (S y = true ↔ seen1 n nx mu (i + 1) y) := fun y hy => by rw [hSn y hy, seen1_no hfs hi' y]
      have hS0 : S i = false := by
        rw [← Bool.not_eq_true, hSn i hi']
        rintro ⟨_, h, _⟩; exact hf h
      rw [hS0] at hsi
      repeat' (first | ((with_reducible apply kP (.load 4 (.tmp 20))); refine sP ?_ (o_load rfl (ld_one (shTOf rfl) (own MMt hsi)))) | ((with_reducible apply kDP (.load 4 (.tmp 20))); refine dP ?_ (hX := rfl) (hv := o_load rfl (ld_one (shTOf rfl) (own MMt hsi)))) | ((with_reducible apply kQO (.load 4 (.tmp 20))); refine qP ?_ (o_load rfl (ld_one (shTOf rfl) (own MMt hsi)))) | ((with_reducible apply kP (.load 3 (.tmp 26))); refine sP ?_ (o_load rfl (ld_one (shTOf rfl) (hci _ SBt)))) | ((with_reducible apply kDP (.load 3 (.tmp 26))); refine dP ?_ (hX := rfl) (hv := o_load rfl (ld_one (shTOf rfl) (hci _ SBt)))) | ((with_reducible apply kQO (.load 3 (.tmp 26))); refine qP ?_ (o_load rfl (ld_one (shTOf rfl) (hci _ SBt)))) | ((with_reducible apply kP (.indexAddr 42 (.tmp 18) _)); refine sP ?_ (o_indexB (scTOf rfl) rfl rfl (nn0 _) (aa0 _) hi')) | ((with_reducible apply kDP (.indexAddr 42 (.tmp 18) _)); refine dP ?_ (hX := rfl) (hv := o_indexB (scTOf rfl) rfl rfl (nn0 _) (aa0 _) hi')) | ((with_reducible apply kQO (.indexAddr 42 (.tmp 18) _)); refine qP ?_ (o_indexB (scTOf rfl) rfl rfl (nn0 _) (aa0 _) hi')) | (with_reducible first | refine c_seq ?_ | refine c_reg ?_ | refine c_region ?_ | refine c_block ?_ | refine c_skip ?_ | refine c_exit ?_ | refine c_ret ?_ | refine s_nil ?_ | refine x_then ?_ | refine x_then_exit ?_ | refine x_then_ret ?_ | refine x_block ?_ | refine x_block_ret ?_ | refine x_block_same ?_ | refine x_block_other (by first | rfl | decide) ?_ | refine q_nil ?_ | refine k_nil ?_) | ((with_reducible apply kG); first | refine gY1 ?_ | refine gN1 ?_ | refine gU1 ?_ | (refine gD1 (fun h => ?_) (fun h => ?_) <;> (try (exfalso; omega))) | refine gB1 (fun h => ?_) (fun h => ?_)) | ((with_reducible apply kN); first | refine stP ?_ | refine stI ?_ | refine st1 ?_ | refine stW ?_) | ((with_reducible apply kP (.box _ _)); first | refine sBA (fun b => ?_) | refine sB (fun b => ?_)) | ((with_reducible apply kP (.buildSlice _ 1 _)); first | refine sl1A (fun b => ?_) | refine sl1 (fun b => ?_)) | ((with_reducible apply kP (.makeSlice _ _ _)); refine sMk (fun b => ?_)) | ((with_reducible apply kP (.call ⟨.builtin .append, _, _⟩)); refine sAp (fun oa2 c2 blk2 hrow2 => ?_)) | ((with_reducible apply kP _); refine sP ?_) | ((with_reducible apply kP _); refine sX ?_) | ((with_reducible apply kQP); refine qP ?_) | ((with_reducible apply kQP); refine qX ?_) | ((with_reducible apply kC); first | refine cT ?_ | refine cF ?_ | (refine cI (fun h => ?_) (fun h => ?_) <;> (try (exfalso; omega))) | refine cB (fun h => ?_) (fun h => ?_)) | ((with_reducible apply kR); refine cQ ?_))
      all_goals try (exfalso; omega)
      exact r_end (⟨i + 1, S, oa, c, rs, bo⟩ : RlI) ⟨hi', hSi, hro, hrr, by dsimp only; rw [lpsL_no hfs]; exact hrl, by dsimp only; omega⟩ (by dsimp only; omega) (by repeat' first | trivial | rfl | apply And.intro) SCt
  · obtain rfl : n = i := by omega
    repeat' (first | (with_reducible first | refine c_seq ?_ | refine c_reg ?_ | refine c_region ?_ | refine c_block ?_ | refine c_skip ?_ | refine c_exit ?_ | refine c_ret ?_ | refine s_nil ?_ | refine x_then ?_ | refine x_then_exit ?_ | refine x_then_ret ?_ | refine x_block ?_ | refine x_block_ret ?_ | refine x_block_same ?_ | refine x_block_other (by first | rfl | decide) ?_ | refine q_nil ?_ | refine k_nil ?_) | ((with_reducible apply kG); first | refine gY1 ?_ | refine gN1 ?_ | refine gU1 ?_ | (refine gD1 (fun h => ?_) (fun h => ?_) <;> (try (exfalso; omega))) | refine gB1 (fun h => ?_) (fun h => ?_)) | ((with_reducible apply kN); first | refine stP ?_ | refine stI ?_ | refine st1 ?_ | refine stW ?_) | ((with_reducible apply kP (.box _ _)); first | refine sBA (fun b => ?_) | refine sB (fun b => ?_)) | ((with_reducible apply kP (.buildSlice _ 1 _)); first | refine sl1A (fun b => ?_) | refine sl1 (fun b => ?_)) | ((with_reducible apply kP (.makeSlice _ _ _)); refine sMk (fun b => ?_)) | ((with_reducible apply kP (.call ⟨.builtin .append, _, _⟩)); refine sAp (fun oa2 c2 blk2 hrow2 => ?_)) | ((with_reducible apply kP _); refine sP ?_) | ((with_reducible apply kP _); refine sX ?_) | ((with_reducible apply kQP); refine qP ?_) | ((with_reducible apply kQP); refine qX ?_) | ((with_reducible apply kC); first | refine cT ?_ | refine cF ?_ | (refine cI (fun h => ?_) (fun h => ?_) <;> (try (exfalso; omega))) | refine cB (fun h => ?_) (fun h => ?_)) | ((with_reducible apply kR); refine cQ ?_))
    exact e_ret1 (hs' := (bo ++ lrb rs) ++ hs) rfl rfl ⟨bo ++ lrb rs, ⟨oa, c, rs, bo, rfl, hro, hrr, hrl, rfl⟩, rfl⟩ (by rw [List.append_assoc]; exact .append (.refl _) (.append (.refl _) (.cons _ (.cons _ (.refl _)))))
end Go.Proofs.Ytnbickholedckaa
