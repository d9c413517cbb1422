/- Deleting a seam: parts of a slice moved within its block; slices.Delete; Unsew of the program and of the reference. -/
import Derived.Test.YtnbickholedckaaMC50
namespace Go.Proofs.Ytnbickholedckaa
open Go.RowKit
section
variable {P : Program} {n : NN} {B : Nat} {w0 : Wd} {fr : FR} {hs hs' S S' : HS} {ty : TypeId} {K : Act → World → Prop} {ops : Array Oper} {l : List Oper} {d f : Nat} {fl : List Nat} {pos : String} {aft : Array Edge}
theorem o_sliceLHM {t : TypeId} {x lo hi mx : Operand} {b : Bool} {k len cap j j2 j3 : Nat} {i i2 i3 : Int} {oa : Option Addr} (ht : sc P t = some (b, k)) (hx : opv fr x = some (.slice oa len cap)) (hl : opv fr lo = some (.int .i64 i)) (hh : opv fr hi = some (.int .i64 i2)) (hm : opv fr mx = some (.int .i64 i3)) (hj : i = (j : Int)) (hj2 : i2 = (j2 : Int)) (hj3 : i3 = (j3 : Int)) (h1 : j ≤ j2) (h2 : j2 ≤ j3) (h3 : j3 ≤ cap) :
    OpF P n B w0 (.slice t x (some lo) (some hi) (some mx)) ty fr hs (.slice (subA oa j3 j k) (j2 - j) (j3 - j)) := fun a w ha _ => by
  have hb : (Instr.sliceBounds true len cap (some (.int .i64 i)) (some (.int .i64 i2)) (some (.int .i64 i3))).run P w = .ok (j, j2, j3) w := by
    simp [Instr.sliceBounds, run_slb _ hj h1, run_slb _ hj2 h2, run_slb _ hj3 h3]
  simp [ex, execOp, ha.opv hx, ha.opv hl, ha.opv hh, ha.opv hm, run_slc ht w hb]
/-- Cells appended where there is room: the block is turned in place. -/
theorem run_appIn {t t' : TypeId} {size bytes k m c c' b : Nat} {ad : Addr} {cs news : List Value} {w : World} (hap : ap P t = some (size, bytes)) (hw : Hp B w0 w hs) (hm : ∀ j u, news[j]? = some u → w.cell? (ad.add j) = some u) (hl : news.length = m * size) (hf : Flat news) (hroom : k + m ≤ c) (hfit : k * size + news.length ≤ cs.length) (hu : Upd b cs (setAll cs (k * size) news) hs hs') :
    ∃ w2, (Builtin.append_ #[t, t] t' #[.slice (some ⟨b, 0, none⟩) k c, .slice (some ad) m c']).run P w = .ok (.slice (some ⟨b, 0, none⟩) (k + m) c) w2 ∧ Hp B w0 w2 hs' := by
  unfold ap at hap
  split at hap
  · rename_i e hue
    split at hap
    · rename_i i hi
      split at hap
      · rename_i z hz
        split at hap
        · simp only [Option.some.injEq, Prod.mk.injEq] at hap
          obtain ⟨hs1, hs2⟩ := hap
          subst hs1 hs2
          obtain ⟨w2, h1, h2⟩ := run_storeCells_own (P := P) b news (k * i.size) cs _ _ w hw hf hfit hu (k * i.size) (Nat.le_refl _)
          have hff := run_firstCells_some (P := P) w i.size m ad m c' news hl hm
          refine ⟨w2, ?_, h2⟩
          simp only [Nat.sub_self] at h1
          simp [Builtin.append_, run_underlying hue, sizeOf, typeInfo, hi, Builtin.lenOf, hroom, hff, add_own, h1]
        · cases hap
      · cases hap
    · cases hap
  · cases hap
theorem k_appIn {t : TypeId} {size bytes k m c c' b o q : Nat} {cs news : List Value} {x y : Operand} (hfl : effF f = true) (hap : ap P t = some (size, bytes)) (hx : opv fr x = some (.slice (some ⟨b, 0, none⟩) k c)) (hy : opv fr y = some (.slice (some ⟨b, o, none⟩) m c')) (hmem : (b, cs) ∈ hs) (hm : ∀ j u, news[j]? = some u → cs[o + j]? = some u) (hl : news.length = m * size) (hf : Flat news) (hq : k + m = q) (hroom : q ≤ c) (hfit : k * size + news.length ≤ cs.length) (hu : Upd b cs (setAll cs (k * size) news) hs hs') (hS : Kp f S hs' S') (hn : d < n.n)
    (h : Rk P n B w0 ops K fl l S' ((d, .slice (some ⟨b, 0, none⟩) q c) :: fr) hs') :
    Rk P n B w0 ops K (f :: fl) (⟨some d, .call ⟨.builtin .append, #[x, y], #[t, t]⟩, ty, pos, aft, none⟩ :: l) S fr hs := by
  subst hq
  refine k_eff (R := fun u h => u = .slice (some ⟨b, 0, none⟩) (k + m) c ∧ h = hs') hfl rfl (fun a ha F w hw => ?_) ?_
  · obtain ⟨w2, h1, h2⟩ := run_appIn (P := P) (t' := ty) (c' := c') (ad := ⟨b, o, none⟩) hap hw (fun j u hj => by rw [add_own, hw.cell (List.mem_append_right F hmem)]; exact hm j u hj) hl hf hroom hfit (hu.app F)
    have : (execOp a.eval ⟨some d, .call ⟨.builtin .append, #[x, y], #[t, t]⟩, ty, pos, aft, none⟩).run P w = .ok (.value (.slice (some ⟨b, 0, none⟩) (k + m) c)) w2 := by
      simp only [execOp, resolve, invoke, builtin, Sem.run_bind, Sem.run_pure, Result.andThen_ok, List.map_toArray, List.map_cons, List.map_nil, ha.opv hx, ha.opv hy, h1]
    rw [this]
    exact ⟨hs', ⟨rfl, rfl⟩, h2⟩
  · rintro a ha u h' ⟨rfl, rfl⟩
    unfold Rk at h
    exact ⟨S', hS, h _ (ha.put hn _)⟩
theorem zeroCells1 (z : Array Value) : Builtin.zeroCells z 1 = z := by
  unfold Builtin.zeroCells
  apply Array.ext
  · simp
  · intro i h1 h2
    simp at h1 ⊢
    rw [Nat.mod_eq_of_lt h2, getElem!_pos z i h2]
theorem s_clear1 {t : TypeId} {x : Operand} {b o c' : Nat} {cs z : List Value} (hz : zs P t = some z.toArray) (hx : opv fr x = some (.slice (some ⟨b, o, none⟩) 1 c')) (hf : Flat z) (hfit : o + z.length ≤ cs.length) (hu : Upd b cs (setAll cs o z) hs hs') (h : Sat n B w0 (sl P ops K l) fr hs') :
    Sat n B w0 (sl P ops K (⟨none, .call ⟨.builtin .clear, #[x], #[t]⟩, ty, pos, aft, none⟩ :: l)) fr hs := sat_mk fun a w ha hw => by
  obtain ⟨w2, h1, h2⟩ := run_storeCells_own (P := P) b z o cs hs hs' w hw hf hfit hu o (Nat.le_refl _)
  have h4 := sat_el h _ _ ha h2
  unfold sl
  rw [if_pos (by simp [Region.wanted])]
  unfold Oper.wp
  unfold zs at hz
  split at hz
  · rename_i e hue
    unfold zc at hz
    cases hi : P.info? e with
    | none => simp [hi] at hz
    | some i =>
      simp only [hi, Option.map_eq_some_iff] at hz
      obtain ⟨zv, hzv, hzz⟩ := hz
      have key : (execOp a.eval ⟨none, .call ⟨.builtin .clear, #[x], #[t]⟩, ty, pos, aft, none⟩).run P w = .ok (.value (.tuple #[])) w2 := by
        simp only [Nat.sub_self] at h1
        simp [execOp, resolve, invoke, builtin, ha.opv hx, Builtin.clear_, run_underlying hue, zeroValue, typeInfo, hi, hzv, hzz, zeroCells1, h1]
      rw [key]
      exact h4
  · cases hz
end
def rmS (sm : List Int) (x : Nat) : List Int := sm.take (x * 4) ++ sm.drop ((x + 1) * 4)
theorem rmS_len {sm : List Int} {m x : Nat} (h : sm.length = m * 4) (hx : x < m) : (rmS sm x).length = (m - 1) * 4 := by
  unfold rmS
  rw [List.length_append, List.length_take, List.length_drop]; omega
theorem ivs_append (a b : List Int) : ivs (a ++ b) = ivs a ++ ivs b := by simp [ivs]
theorem ivs_take (l : List Int) (k : Nat) : ivs (l.take k) = (ivs l).take k := by simp [ivs, List.map_take]
theorem ivs_drop (l : List Int) (k : Nat) : ivs (l.drop k) = (ivs l).drop k := by simp [ivs, List.map_drop]
theorem subA_own {b c lo k : Nat} : subA (some ⟨b, 0, none⟩) c lo k = some ⟨b, if c = lo then 0 else lo * k, none⟩ := by
  unfold subA
  split
  · rfl
  · show some (Addr.add _ _) = _
    rw [add_own, Nat.zero_add]
theorem del_cells {sm : List Int} {m x : Nat} {z : List Value} (h : sm.length = m * 4) (hx : x < m) :
    setAll (setAll (ivs sm ++ z) (x * 4) (ivs (sm.drop ((x + 1) * 4)))) ((m - 1) * 4) [iv 0, iv 0, iv 0, iv 0] = ivs (rmS sm x) ++ ([iv 0, iv 0, iv 0, iv 0] ++ z) := by
  have hn : (ivs (sm.drop ((x + 1) * 4))).length = (m - (x + 1)) * 4 := by rw [ivs_length, List.length_drop]; omega
  have hl : (ivs sm ++ z).length = m * 4 + z.length := by rw [List.length_append, ivs_length, h]
  have ht : (ivs sm ++ z).take (x * 4) = ivs (sm.take (x * 4)) := by
    rw [List.take_append_of_le_length (by rw [ivs_length]; omega), ivs_take]
  have hd : (ivs sm ++ z).drop (x * 4 + (ivs (sm.drop ((x + 1) * 4))).length) = (ivs sm ++ z).drop ((m - 1) * 4) := by rw [hn]; congr 1; omega
  have e1 : setAll (ivs sm ++ z) (x * 4) (ivs (sm.drop ((x + 1) * 4))) = ivs (rmS sm x) ++ (ivs sm ++ z).drop ((m - 1) * 4) := by
    rw [setAll_take _ _ _ (by rw [hn, hl]; omega), ht, hd]
    unfold rmS
    rw [ivs_append]
  have hA : (ivs (rmS sm x)).length = (m - 1) * 4 := by rw [ivs_length]; exact rmS_len h hx
  have hD : ((ivs sm ++ z).drop ((m - 1) * 4)).drop 4 = z := by
    rw [List.drop_drop, show (m - 1) * 4 + 4 = (ivs sm).length by rw [ivs_length]; omega, List.drop_left]
  rw [e1, setAll_take _ _ _ (by simp only [List.length_append, List.length_drop, List.length_cons, List.length_nil] at hA hl ⊢; omega)]
  have hA2 : (m - 1) * 4 + [iv 0, iv 0, iv 0, iv 0].length = (ivs (rmS sm x)).length + 4 := by rw [hA]; rfl
  rw [hA2, ← List.drop_drop, List.drop_left, hD, ← hA, List.take_left, List.append_assoc]
attribute [local irreducible] OpF Ld CellAt Sl Sv pcA usP
theorem zs23 : zs Try.prog 23 = some [iv 0, iv 0, iv 0, iv 0].toArray := by kernel_rfl
set_option maxRecDepth 100000 in
set_option maxHeartbeats 8000000 in
theorem k_Delete (b m c x : Nat) (sm : List Int) (z : List Value) (hsm : sm.length = m * 4) (hx : x < m) (hm : m ≤ 100) (hc : m ≤ c) (hl : (ivs sm ++ z).length = c * 4) (hcm : c ≤ maxLen) (B : Nat) (w0 : Wd) (hs : HS) :
    Fn Try.prog 70 #[.slice (some ⟨b, 0, none⟩) m c, iv x, iv ((x : Int) + 1)] B w0 ((b, ivs sm ++ z) :: hs) (fun v h => v = .slice (some ⟨b, 0, none⟩) (m - 1) c ∧ h = (b, ivs (rmS sm x) ++ ([iv 0, iv 0, iv 0, iv 0] ++ z)) :: hs) := by
  have hj : (x : Int) + 1 = ((x + 1 : Nat) : Int) := by omega
  have hdc := del_cells (z := z) hsm hx
  have hn : (ivs (sm.drop ((x + 1) * 4))).length = (m - (x + 1)) * 4 := by rw [ivs_length, List.length_drop]; omega
  have hlen : (ivs sm ++ z).length = m * 4 + z.length := by rw [List.length_append, ivs_length, hsm]
  have hnw : ∀ j u, (ivs (sm.drop ((x + 1) * 4)))[j]? = some u → (ivs sm ++ z)[(if c = x + 1 then 0 else (x + 1) * 4) + j]? = some u := fun j u hj => by
    have hjl := (List.getElem?_eq_some_iff.1 hj).1
    rw [if_neg (by omega), List.getElem?_append_left (by rw [ivs_length]; omega)]
    rw [ivs_drop, List.getElem?_drop] at hj
    exact hj
  have hk : x + (m - (x + 1)) = m - 1 := by omega
  have hfit : x * 4 + (ivs (sm.drop ((x + 1) * 4))).length ≤ (ivs sm ++ z).length := by rw [hn, hlen]; omega
  have hfit2 : (m - 1) * 4 + [iv 0, iv 0, iv 0, iv 0].length ≤ (setAll (ivs sm ++ z) (x * 4) (ivs (sm.drop ((x + 1) * 4)))).length := by
    rw [setAll_length, hlen]; simp only [List.length_cons, List.length_nil]; omega
  have hsl := fun (fr : FR) (hs : HS) (n : NN) (h1 : get fr 27 = some (.slice (some ⟨b, 0, none⟩) (m - 1) c)) (h2 : get fr 29 = some (iv ((m - 1 : Nat) : Int))) (h3 : get fr 30 = some (iv m)) => o_sliceLH (P := Try.prog) (n := n) (B := B) (w0 := w0) (fr := fr) (hs := hs) (ty := 23) (t := 23) (b := true) (k := 4) (x := .tmp 27) (lo := .tmp 29) (hi := .tmp 30) (scTOf rfl) h1 h2 h3 rfl rfl (by omega) hc
  rw [subA_own, if_neg (show ¬ c = m - 1 by omega), show m - (m - 1) = 1 by omega] at hsl
  refine fn_enter Try.func70 rfl Try.ntmps70 (by simp) ?_
  repeat' (first | ((with_reducible apply kP (.slice 23 (.tmp 8) _ _ _)); refine sP ?_ (o_sliceLHM (scTOf rfl) rfl rfl rfl rfl rfl hj rfl (by omega) (by omega) hc)) | ((with_reducible apply kDP (.slice 23 (.tmp 8) _ _ _)); refine dP ?_ (hX := rfl) (hv := o_sliceLHM (scTOf rfl) rfl rfl rfl rfl rfl hj rfl (by omega) (by omega) hc)) | ((with_reducible apply kQO (.slice 23 (.tmp 8) _ _ _)); refine qP ?_ (o_sliceLHM (scTOf rfl) rfl rfl rfl rfl rfl hj rfl (by omega) (by omega) hc)) | ((with_reducible apply kP (.slice 23 (.tmp 20) _ _ _)); refine sP ?_ (subA_zero _ _ _ ▸ o_sliceH (scTOf rfl) rfl rfl rfl (by omega))) | ((with_reducible apply kDP (.slice 23 (.tmp 20) _ _ _)); refine dP ?_ (hX := rfl) (hv := subA_zero _ _ _ ▸ o_sliceH (scTOf rfl) rfl rfl rfl (by omega))) | ((with_reducible apply kQO (.slice 23 (.tmp 20) _ _ _)); refine qP ?_ (subA_zero _ _ _ ▸ o_sliceH (scTOf rfl) rfl rfl rfl (by omega))) | ((with_reducible apply kP (.slice 23 (.tmp 23) _ _ _)); refine sP ?_ (subA_own ▸ o_sliceL (scTOf rfl) rfl rfl hj (by omega))) | ((with_reducible apply kDP (.slice 23 (.tmp 23) _ _ _)); refine dP ?_ (hX := rfl) (hv := subA_own ▸ o_sliceL (scTOf rfl) rfl rfl hj (by omega))) | ((with_reducible apply kQO (.slice 23 (.tmp 23) _ _ _)); refine qP ?_ (subA_own ▸ o_sliceL (scTOf rfl) rfl rfl hj (by omega))) | ((with_reducible apply kP (.slice 23 (.tmp 27) _ _ _)); refine sP ?_ (hsl _ _ _ rfl rfl rfl)) | ((with_reducible apply kDP (.slice 23 (.tmp 27) _ _ _)); refine dP ?_ (hX := rfl) (hv := hsl _ _ _ rfl rfl rfl)) | ((with_reducible apply kQO (.slice 23 (.tmp 27) _ _ _)); refine qP ?_ (hsl _ _ _ rfl rfl rfl)) | ((with_reducible apply kN); refine s_clear1 zs23 rfl (flat_cons rfl (flat3 rfl rfl rfl)) hfit2 (.head _) ?_) | ((with_reducible apply kDP (.call ⟨.builtin .append, _, _⟩)); refine k_appIn rfl (apTOf rfl) rfl rfl (by exact MMt) hnw hn (flat_iv _) hk (by omega) hfit (.head _) kp4 (by first | decide | exact ltd rfl) ?_) | ((with_reducible apply kRg 5); refine cD [1, 1, 1, 1, 1, 1, 4, 1] ?_) | (with_reducible first | refine c_seq ?_ | refine c_reg ?_ | refine c_region ?_ | refine c_block ?_ | refine c_skip ?_ | refine c_exit ?_ | refine c_ret ?_ | refine s_nil ?_ | refine x_then ?_ | refine x_then_exit ?_ | refine x_then_ret ?_ | refine x_block ?_ | refine x_block_ret ?_ | refine x_block_same ?_ | refine x_block_other (by first | rfl | decide) ?_ | refine q_nil ?_ | refine k_nil ?_) | ((with_reducible apply kP _); refine sP ?_) | ((with_reducible apply kP _); refine sX ?_) | ((with_reducible apply kC); first | refine cT ?_ | refine cF ?_ | (refine cI (fun h => ?_) (fun h => ?_) <;> (try (exfalso; omega))) | refine cB (fun h => ?_) (fun h => ?_)) | ((with_reducible apply kDP (.call ⟨.builtin .append, _, _⟩)); first | refine dAp3 (fun oa2 c2 blk2 hrow2 => ?_) (hS := SCt) | refine dAp4 (fun oa2 c2 blk2 hrow2 => ?_)) | ((with_reducible apply kDP _); refine dP ?_) | ((with_reducible apply kDP _); refine dX ?_))
  rw [hdc]
  exact e_ret1 rfl rfl ⟨rfl, rfl⟩ (.refl _)
end Go.Proofs.Ytnbickholedckaa
