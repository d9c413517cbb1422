/- strings.Builder: copyCheck, WriteString, String, walked. -/
import Derived.Test.YtmblgbcipniecaaGreatDoorMX32
namespace Go.Proofs.YtmblgbcipniecaaGreatDoor
open Go.RowKit Go.Shelf
/-- A cell of an object. -/
theorem cellO {B : Nat} {w0 : Wd} {hs : HS} {b i : Nat} {cs : Array Value} {t : TypeId} {v : Value} (hm : (b, Obj.cells cs t (0, 0)) ∈ w0.ms) (hv : cs[i]? = some v) : CellAt B w0 hs ⟨b, i, none⟩ v := fun w hw => by
  have h := (hw.obj _ hm).2.1
  simp [World.cell?, h, hv]
theorem freeO {B : Nat} {w0 : Wd} {hs : HS} {w : World} (hw : Hp B w0 w hs) {b : Nat} {cs : Array Value} {t : TypeId} (hm : (b, Obj.cells cs t (0, 0)) ∈ w0.ms) (i : Nat) : w.frozen? ⟨b, i, none⟩ = false := Go.Lib.frozen_of_heap (hw.obj _ hm).2.1 i
theorem x_copyUsed (b : Nat) (B : Nat) (w0 : Wd) (hs : HS) (v : Value) (hm : bdO b (.pointer (some ⟨b, 0, none⟩)) v ∈ w0.ms) :
    Fn Tryz.prog 48 #[.pointer (some ⟨b, 0, none⟩)] B w0 hs (fun u h => u = .tuple #[] ∧ h = hs) := fn_mk fun w hw => by
  refine (Any.Builder_copyCheck_used { Tryz.lays166 with } Tryz.Builder_Extra_166.toX72 b w (cellO (hs := hs) hm rfl w hw)).mono ?_
  rintro e w' ⟨rfl, rfl⟩
  exact ⟨_, _, rfl, ⟨rfl, rfl⟩, hw⟩
theorem x_copyFresh (b : Nat) (B : Nat) (W : World) (ms : List (Nat × Obj)) (hs : HS) (v : Value) :
    FnW Tryz.prog 48 #[.pointer (some ⟨b, 0, none⟩)] B ⟨W, bdO b (.pointer none) v :: ms⟩ hs (fun u w1 h => u = .tuple #[] ∧ h = hs ∧ w1 = ⟨W, bdO b (.pointer (some ⟨b, 0, none⟩)) v :: ms⟩) := fun w hw => by
  have hm : bdO b (.pointer none) v ∈ (⟨W, bdO b (.pointer none) v :: ms⟩ : Wd).ms := .head _
  have hb := (hw.obj _ hm).2.1
  refine (Any.Builder_copyCheck_fresh { Tryz.lays166 with } Tryz.Builder_Extra_166.toX72 b w (cellO (hs := hs) hm rfl w hw) (by
    unfold bdO at hb
    simp only at hb
    simp [World.shape?, hb]) (freeO hw hm 0)).mono ?_
  rintro e w' ⟨rfl, rfl⟩
  exact ⟨_, _, _, rfl, ⟨rfl, rfl, rfl⟩, hw.setCellO (.head _)⟩
section
variable {n : NN} {B : Nat} {w0 : Wd} {W : World} {ms : List (Nat × Obj)} {fr : FR} {hs hs' : HS} {ty : TypeId} {K : Act → World → Prop} {ops : Array Oper} {ls : List Oper} {d : Nat} {pos : String} {aft : Array Edge}
theorem Sat.permM {ms' : List (Nat × Obj)} (hp : ms.Perm ms') (h : Sat n B ⟨W, ms'⟩ K fr hs) : Sat n B ⟨W, ms⟩ K fr hs := sat_mk fun a w ha hw => sat_el h a w ha (hw.permM hp)
theorem app_run {dst : Option Nat} {x y : Operand} {t u : TypeId} {v v' : Value} {s : ByteArray} {a : Act} {w w' : World} (ha : Fr n a fr) (hx : opv fr x = some v) (hy : opv fr y = some (.string s))
    (h : (Builtin.append_ #[t, u] ty #[v, .string s]).run Tryz.prog w = .ok v' w') : (execOp a.eval ⟨dst, .call ⟨.builtin .append, #[x, y], #[t, u]⟩, ty, pos, aft, none⟩).run Tryz.prog w = .ok (.value v') w' := by
  simp only [execOp, resolve, invoke, builtin, Sem.run_bind, Sem.run_pure, Result.andThen_ok, List.map_toArray, List.map_cons, List.map_nil, ha.opv hx, ha.opv hy, h]
/-- The first bytes. -/
theorem s_appNil {x y : Operand} {s : List UInt8} (hx : opv fr x = some (.slice none 0 0)) (hy : opv fr y = some (sv s)) (h0 : s ≠ []) (hl : s.length ≤ 1000000) (hn : d < n.n)
    (h : ∀ g c z, s.length + z.length = c → c ≤ maxLen → Sat n B ⟨W, bdR g s z :: ms⟩ (sl Tryz.prog ops K ls) ((d, .slice (some ⟨g, 0, none⟩) s.length c) :: fr) hs) :
    Sat n B ⟨W, ms⟩ (sl Tryz.prog ops K (⟨some d, .call ⟨.builtin .append, #[x, y], #[Tryz.lays166_ren.t 37, Tryz.lays166_ren.t 9]⟩, ty, pos, aft, none⟩ :: ls)) fr hs := by
  obtain ⟨i0, hi, hz0, hz1, hz2⟩ := info_parts Tryz.Builder_Extra_166.infoByte
  refine s_effW hn fun a w ha hw => ?_
  have hs1 : (⟨s.toArray⟩ : ByteArray).size = s.length := ba_size s
  have hpos : 0 < s.length := List.length_pos_iff.2 h0
  have hr := run_append_nil_string (P := Tryz.prog) w (Tryz.lays166_ren.t 37) (Tryz.lays166_ren.t 9) ty (Tryz.lays166_ren.t 5) i0 _ Tryz.lays166.t37 Tryz.lays166.t9 hi hz0 ⟨s.toArray⟩ (by omega) (by omega) (by rw [hs1, hz2]; omega)
  rw [hs1] at hr
  have hge := grownCap_ge w s.length 0 (Tryz.lays166_ren.t 5)
  have hle := grownCap_le_maxLen w s.length 0 (Tryz.lays166_ren.t 5) (by simp only [maxLen]; omega)
  generalize grownCap w s.length 0 (Tryz.lays166_ren.t 5) = c at hr hge hle
  have hzl : ((Builtin.zeroCells (Value.int .u8 0).cells (c - s.length)).toList).length = c - s.length := by rw [Array.length_toList, size_zeroCells]; simp [Value.cells]
  generalize hzz : (Builtin.zeroCells (Value.int .u8 0).cells (c - s.length)) = zz at hr hzl
  have e : (⟨s.toArray⟩ : ByteArray).data.map (fun b => Value.int .u8 b.toNat) ++ zz = (u8s s ++ zz.toList).toArray := by
    apply Array.ext'
    simp [u8s]
  rw [e] at hr
  exact ⟨_, _, _, app_run ha hx hy hr, hw.drew.newObjA, h _ _ _ (by omega) hle⟩
/-- More bytes. -/
theorem s_appRow {x y : Operand} {g c : Nat} {l s : List UInt8} {z : List Value} (hx : opv fr x = some (.slice (some ⟨g, 0, none⟩) l.length c)) (hy : opv fr y = some (sv s)) (h0 : l.length + z.length = c) (hc : c ≤ maxLen) (hl : l.length + s.length ≤ 1000000) (hn : d < n.n)
    (h : ∀ g' c' z', (l ++ s).length + z'.length = c' → c' ≤ maxLen → Sat n B ⟨W, bdR g' (l ++ s) z' :: ms⟩ (sl Tryz.prog ops K ls) ((d, .slice (some ⟨g', 0, none⟩) (l ++ s).length c') :: fr) hs) :
    Sat n B ⟨W, bdR g l z :: ms⟩ (sl Tryz.prog ops K (⟨some d, .call ⟨.builtin .append, #[x, y], #[Tryz.lays166_ren.t 37, Tryz.lays166_ren.t 9]⟩, ty, pos, aft, none⟩ :: ls)) fr hs := by
  obtain ⟨i0, hi, hz0, hz1, hz2⟩ := info_parts Tryz.Builder_Extra_166.infoByte
  refine s_effW hn fun a w ha hw => ?_
  have hs1 : (⟨s.toArray⟩ : ByteArray).size = s.length := ba_size s
  have hg := (hw.obj (bdR g l z) (.head _)).2.1
  simp only [bdR] at hg
  have hul := u8s_len l
  by_cases hroom : l.length + s.length ≤ c
  · have hr := Go.Lib.run_append_room_string (P := Tryz.prog) w (Tryz.lays166_ren.t 37) (Tryz.lays166_ren.t 9) ty (Tryz.lays166_ren.t 5) i0 Tryz.lays166.t37 Tryz.lays166.t9 hi hz1 g l.length c _ hg ⟨s.toArray⟩ (by omega) (by simp; omega)
    rw [hs1, strC] at hr
    have e : ((u8s l ++ z).toArray.toList.take l.length ++ u8s s ++ (u8s l ++ z).toArray.toList.drop (l.length + s.length)).toArray = (u8s (l ++ s) ++ z.drop s.length).toArray := by
      simp only [List.toList_toArray]
      rw [u8s_app, List.take_append_of_le_length (by omega), List.take_of_length_le (by omega), List.drop_append, hul, List.drop_of_length_le (by omega), List.nil_append, show l.length + s.length - l.length = s.length by omega]
    rw [e] at hr
    have hlen : (l ++ s).length = l.length + s.length := List.length_append
    rw [← hlen] at hr
    refine ⟨_, _, _, app_run ha hx hy hr, hw.setRowO (.head _), h _ _ _ ?_ hc⟩
    rw [List.length_drop]; omega
  · have holds : ∀ j v, (u8s l)[j]? = some v → w.cell? ((⟨g, 0, none⟩ : Addr).add j) = some v := fun j v hj => by
      rw [add_own, Nat.zero_add]
      exact cellO (hs := hs) (.head _) (by simp only [List.getElem?_toArray]; rw [List.getElem?_append_left (List.getElem?_eq_some_iff.1 hj).1]; exact hj) w hw
    have hfit : Builtin.nextslicecap (l.length + (⟨s.toArray⟩ : ByteArray).size) c * i0.bytes ≤ 281474976710656 := growslice_fits (by omega) (by rw [hs1, hz2]; omega)
    have hr := Go.Lib.run_append_grow_string (P := Tryz.prog) w (Tryz.lays166_ren.t 37) (Tryz.lays166_ren.t 9) ty (Tryz.lays166_ren.t 5) i0 _ Tryz.lays166.t37 Tryz.lays166.t9 hi hz0 ⟨g, 0, none⟩ l.length c (u8s l) (by rw [hz1]; omega) holds ⟨s.toArray⟩ (by omega) (by omega) hfit
    rw [hs1, strC] at hr
    have hge := grownCap_ge w (l.length + s.length) c (Tryz.lays166_ren.t 5)
    have hle := grownCap_le_maxLen w (l.length + s.length) c (Tryz.lays166_ren.t 5) (by simp only [maxLen]; omega)
    generalize grownCap w (l.length + s.length) c (Tryz.lays166_ren.t 5) = c' at hr hge hle
    have hzl : ((Builtin.zeroCells (Value.int .u8 0).cells (c' - (l.length + s.length))).toList).length = c' - (l.length + s.length) := by rw [Array.length_toList, size_zeroCells]; simp [Value.cells]
    generalize hzz : (Builtin.zeroCells (Value.int .u8 0).cells (c' - (l.length + s.length))) = zz at hr hzl
    have e : (u8s l).toArray ++ (u8s s).toArray ++ zz = (u8s (l ++ s) ++ zz.toList).toArray := by
      apply Array.ext'
      simp [u8s]
    rw [e] at hr
    have hlen : (l ++ s).length = l.length + s.length := List.length_append
    rw [← hlen] at hr
    have hk := h w.heap.size c' zz.toList (by rw [hlen, hzl]; omega) hle
    exact ⟨_, _, _, app_run ha hx hy hr, Hp.base (a := ⟨W, bdR w.heap.size (l ++ s) zz.toList :: ms⟩) (b := ⟨W, bdR w.heap.size (l ++ s) zz.toList :: bdR g l z :: ms⟩) ⟨rfl, List.Sublist.cons_cons _ (List.sublist_cons_self _ _)⟩ hw.drew.newObjA, hk⟩
/-- A slice is put into a builder. -/
theorem s_putB {x y : Operand} {t : TypeId} {b : Nat} {p v v' : Value} (ht : sh Tryz.prog t = some (false, 1)) (hx : opv fr x = some (.pointer (some ⟨b, 1, none⟩))) (hy : opv fr y = some v') (hf : v'.cells = #[v']) (hfl : Flat [v'])
    (h : Sat n B ⟨W, bdO b p v' :: ms⟩ (sl Tryz.prog ops K ls) fr hs) : Sat n B ⟨W, bdO b p v :: ms⟩ (sl Tryz.prog ops K (⟨none, .store t x y, ty, pos, aft, none⟩ :: ls)) fr hs := by
  refine s_effN fun a w ha hw => ?_
  have hm : bdO b p v ∈ (⟨W, bdO b p v :: ms⟩ : Wd).ms := .head _
  have hc := cellO (hs := hs) (i := 1) hm rfl w hw
  have hst : (store ((⟨b, 1, none⟩ : Addr).add 0) v').run Tryz.prog w = .ok () (w.setCell ⟨b, 1, none⟩ v') := by
    rw [add_own, Nat.add_zero, run_store Tryz.prog w _ v' _ (hfl v' (.head _)), hc]
    simp [freeO hw hm 1]
  have h1 : (storeCells ⟨b, 1, none⟩ [v'] 0).run Tryz.prog w = .ok () (w.setCell ⟨b, 1, none⟩ v') := by
    simp only [storeCells, Sem.run_bind, hst, Result.andThen_ok, Sem.run_pure]
  have hrun : (execOp a.eval ⟨none, .store t x y, ty, pos, aft, none⟩).run Tryz.prog w = .ok .skip (w.setCell ⟨b, 1, none⟩ v') := by
    simp [execOp, Instr.storeAt, ha.opv hx, ha.opv hy, Instr.sureAddr, storeVar, run_sizeOf ht, hf, h1]
  exact ⟨_, _, hrun, hw.setCellO (ms' := bdO b p v' :: ms) (.head _), h⟩
end
theorem shB : sh Tryz.prog (Tryz.lays166_ren.t 37) = some (false, 1) := by kernel_rfl
theorem foB1 : fo Tryz.prog (Tryz.lays166_ren.t 72) 1 = some (1, false, 1) := by kernel_rfl
theorem flSl (oa : Option Addr) (m c : Nat) : Flat [Value.slice oa m c] := flat1 rfl
theorem x_WriteString (B : Nat) (b : Nat) (l s : List UInt8) (bm ms : List (Nat × Obj)) (hb : Bd b l bm) (h0 : s ≠ []) (hl : l.length + s.length ≤ 1000000) (W : World) (hs : HS) :
    FnW Tryz.prog 31 #[.pointer (some ⟨b, 0, none⟩), sv s] B ⟨W, bm ++ ms⟩ hs (fun v w1 h => v = .tuple #[iv s.length, .nilIface] ∧ h = hs ∧ ∃ bm', Bd b (l ++ s) bm' ∧ w1 = ⟨W, bm' ++ ms⟩) := by
  cases hb with
  | fresh =>
    simp only [List.cons_append, List.nil_append]
    simp only [List.length_nil] at hl
    refine fn_enterW Tryz.func31 rfl Tryz.ntmps31 (by simp) ?_
    repeat' (first | ((with_reducible apply kF 48); refine s_callW (goF rfl) rfl (x_copyFresh b B W ms _ _) (by decide) ?_; rintro v1 w1 h1 ⟨rfl, rfl, rfl⟩) | ((with_reducible apply kP (.fieldAddr _ _ _)); refine sP ?_ (o_fieldO rfl foB1 (bb0 _))) | ((with_reducible apply kP (.load _ _)); refine sP ?_ (o_load rfl (ld_one shB (cellO (.head _) rfl)))) | ((with_reducible apply kP (.call ⟨.builtin .append, _, _⟩)); refine s_appNil rfl rfl h0 (by omega) (by decide) (fun g c z hz hc => ?_)) | ((with_reducible apply kN); refine Sat.permM (.swap _ _ _) (s_putB shB rfl rfl rfl (flSl _ _ _) ?_)) | ((with_reducible apply kP (.call ⟨.builtin .len, _, _⟩)); refine sP ?_ (o_sLen uStr rfl)) | ((with_reducible apply kDP (.call ⟨.builtin .len, _, _⟩)); refine dP ?_ (hX := rfl) (hv := o_sLen uStr rfl)) | ((with_reducible apply kQO (.call ⟨.builtin .len, _, _⟩)); refine qP ?_ (o_sLen uStr rfl)) | (with_reducible first | refine c_seq ?_ | refine c_reg ?_ | refine c_region ?_ | refine c_block ?_ | refine c_skip ?_ | refine c_exit ?_ | refine c_ret ?_ | refine s_nil ?_ | refine x_then ?_ | refine x_then_exit ?_ | refine x_then_ret ?_ | refine x_block ?_ | refine x_block_ret ?_ | refine x_block_same ?_ | refine x_block_other (by first | rfl | decide) ?_ | refine q_nil ?_ | refine k_nil ?_) | ((with_reducible apply kP (.makeFunc _ _ _)); refine sMF ?_) | ((with_reducible apply kG); first | refine gY1 ?_ | refine gN1 ?_ | refine gU1 ?_ | (refine gD1 (fun h => ?_) (fun h => ?_) <;> (try (exfalso; omega))) | refine gB1 (fun h => ?_) (fun h => ?_)) | ((with_reducible apply kN); first | refine stP ?_ | refine stI ?_ | refine st1 ?_ | refine stW ?_) | ((with_reducible apply kP (.alloc _)); refine sA (fun b => ?_)) | ((with_reducible apply kP (.box _ _)); first | refine sBA (fun b => ?_) | refine sB (fun b => ?_)) | ((with_reducible apply kP (.buildSlice _ 1 _)); first | refine sl1A (fun b => ?_) | refine sl1 (fun b => ?_)) | ((with_reducible apply kP (.buildSlice _ 2 _)); refine sl2 (fun b => ?_)) | ((with_reducible apply kP (.buildSlice _ 3 _)); refine sl3 (fun b => ?_)) | ((with_reducible apply kP (.buildSlice _ 4 _)); refine sl4 (fun b => ?_)) | ((with_reducible apply kP (.buildSlice _ 0 _)); refine s_bs0 (scTOf rfl) (zsTOf rfl) (by decide) (fun b => ?_)) | ((with_reducible apply kP (.makeSlice _ _ _)); refine sMk (fun b => ?_)) | ((with_reducible apply kP (.call ⟨.builtin .append, _, _⟩)); refine sAp (fun oa2 c2 blk2 hrow2 => ?_)) | ((with_reducible apply kP _); refine sP ?_) | ((with_reducible apply kP _); refine sX ?_) | ((with_reducible apply kQG); first | refine qY1 ?_ | refine qN1 ?_ | refine qU1 ?_ | (refine qD1 (fun h => ?_) (fun h => ?_) <;> (try (exfalso; omega))) | refine qB1 (fun h => ?_) (fun h => ?_)) | ((with_reducible apply kQP); refine qP ?_) | ((with_reducible apply kQP); refine qX ?_) | ((with_reducible apply kC); first | refine cT ?_ | refine cF ?_ | (refine cI (fun h => ?_) (fun h => ?_) <;> (try (exfalso; omega))) | refine cB (fun h => ?_) (fun h => ?_)) | ((with_reducible apply kR); refine cQ ?_))
    exact e_retW2 (hs' := h1) rfl rfl rfl ⟨rfl, rfl, _, .used g c s z hz hc, rfl⟩ (.refl _)
  | used g c _ z h1 h2 =>
    simp only [List.cons_append, List.nil_append]
    refine fn_enterW Tryz.func31 rfl Tryz.ntmps31 (by simp) ?_
    repeat' (first | ((with_reducible apply kF 48); refine sC 48 (x_copyUsed b B _ _ _ (.head _)) ?_) | ((with_reducible apply kP (.fieldAddr _ _ _)); refine sP ?_ (o_fieldO rfl foB1 (bb0 _))) | ((with_reducible apply kP (.load _ _)); refine sP ?_ (o_load rfl (ld_one shB (cellO (.head _) rfl)))) | ((with_reducible apply kP (.call ⟨.builtin .append, _, _⟩)); refine Sat.permM (.swap _ _ _) (s_appRow rfl rfl h1 h2 hl (by decide) (fun g' c' z' hz hc => Sat.permM (.swap _ _ _) ?_))) | ((with_reducible apply kN); refine s_putB shB rfl rfl rfl (flSl _ _ _) ?_) | ((with_reducible apply kP (.call ⟨.builtin .len, _, _⟩)); refine sP ?_ (o_sLen uStr rfl)) | ((with_reducible apply kDP (.call ⟨.builtin .len, _, _⟩)); refine dP ?_ (hX := rfl) (hv := o_sLen uStr rfl)) | ((with_reducible apply kQO (.call ⟨.builtin .len, _, _⟩)); refine qP ?_ (o_sLen uStr rfl)) | (with_reducible first | refine c_seq ?_ | refine c_reg ?_ | refine c_region ?_ | refine c_block ?_ | refine c_skip ?_ | refine c_exit ?_ | refine c_ret ?_ | refine s_nil ?_ | refine x_then ?_ | refine x_then_exit ?_ | refine x_then_ret ?_ | refine x_block ?_ | refine x_block_ret ?_ | refine x_block_same ?_ | refine x_block_other (by first | rfl | decide) ?_ | refine q_nil ?_ | refine k_nil ?_) | ((with_reducible apply kP (.makeFunc _ _ _)); refine sMF ?_) | ((with_reducible apply kG); first | refine gY1 ?_ | refine gN1 ?_ | refine gU1 ?_ | (refine gD1 (fun h => ?_) (fun h => ?_) <;> (try (exfalso; omega))) | refine gB1 (fun h => ?_) (fun h => ?_)) | ((with_reducible apply kN); first | refine stP ?_ | refine stI ?_ | refine st1 ?_ | refine stW ?_) | ((with_reducible apply kP (.alloc _)); refine sA (fun b => ?_)) | ((with_reducible apply kP (.box _ _)); first | refine sBA (fun b => ?_) | refine sB (fun b => ?_)) | ((with_reducible apply kP (.buildSlice _ 1 _)); first | refine sl1A (fun b => ?_) | refine sl1 (fun b => ?_)) | ((with_reducible apply kP (.buildSlice _ 2 _)); refine sl2 (fun b => ?_)) | ((with_reducible apply kP (.buildSlice _ 3 _)); refine sl3 (fun b => ?_)) | ((with_reducible apply kP (.buildSlice _ 4 _)); refine sl4 (fun b => ?_)) | ((with_reducible apply kP (.buildSlice _ 0 _)); refine s_bs0 (scTOf rfl) (zsTOf rfl) (by decide) (fun b => ?_)) | ((with_reducible apply kP (.makeSlice _ _ _)); refine sMk (fun b => ?_)) | ((with_reducible apply kP (.call ⟨.builtin .append, _, _⟩)); refine sAp (fun oa2 c2 blk2 hrow2 => ?_)) | ((with_reducible apply kP _); refine sP ?_) | ((with_reducible apply kP _); refine sX ?_) | ((with_reducible apply kQG); first | refine qY1 ?_ | refine qN1 ?_ | refine qU1 ?_ | (refine qD1 (fun h => ?_) (fun h => ?_) <;> (try (exfalso; omega))) | refine qB1 (fun h => ?_) (fun h => ?_)) | ((with_reducible apply kQP); refine qP ?_) | ((with_reducible apply kQP); refine qX ?_) | ((with_reducible apply kC); first | refine cT ?_ | refine cF ?_ | (refine cI (fun h => ?_) (fun h => ?_) <;> (try (exfalso; omega))) | refine cB (fun h => ?_) (fun h => ?_)) | ((with_reducible apply kR); refine cQ ?_))
    exact e_retW2 (hs' := hs) rfl rfl rfl ⟨rfl, rfl, _, .used g' c' (l ++ s) z' hz hc, rfl⟩ (.refl _)
end Go.Proofs.YtmblgbcipniecaaGreatDoor
