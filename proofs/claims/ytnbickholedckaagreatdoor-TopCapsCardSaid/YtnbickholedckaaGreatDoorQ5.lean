/- Texts of this claim, put together; the parts that it needs. -/
import Derived.Test.YtnbickholedckaaGreatDoorQ4
import Derived.Shelf.Strings.SplitShaped
import Derived.Shelf.Strconv.Itoa3
import Derived.Shelf.Strconv.AtoiAll
import Derived.Lib.AtoiAllCases
import Derived.Lib.Join
import Derived.Lib.AppendIntMem
import Derived.Lib.AtoiErrMem
namespace Go.Proofs.YtnbickholedckaaGreatDoor
open Go.RowKit Go.Shelf
section
variable {n : NN} {B : Nat} {w0 : Wd} {W : World} {ms : List (Nat × Obj)} {fr : FR} {hs hs' : HS} {ty : TypeId} {K : Act → World → Prop} {ops : Array Oper} {ls : List Oper} {d : Nat} {pos : String} {aft : Array Edge}
theorem o_sliceData {t : TypeId} {x : Operand} {ad : Addr} {m c : Nat} (hx : opv fr x = some (.slice (some ad) m c)) (hc : c ≠ 0) : OpF Tryz.prog n B w0 (.call { callee := .builtin .unsafeSliceData, args := #[x], argTypes := #[t] }) ty fr hs (.pointer (some ad)) := fun a w ha _ => by
  have h := Go.Lib.run_unsafeSliceData_row (P := Tryz.prog) w #[t] ty ad m c hc
  simp [ex, execOp, resolve, invoke, builtin, ha.opv hx, h]
/-- A new builder. -/
theorem s_newB {t : TypeId} (ht : t = Tryz.lays166_ren.t 72) (hn : d < n.n) (h : ∀ b, Sat n B ⟨w0.w, [bdO b (.pointer none) (.slice none 0 0)] ++ w0.ms⟩ (sl Tryz.prog ops K ls) ((d, .pointer (some ⟨b, 0, none⟩)) :: fr) hs) :
    Sat n B w0 (sl Tryz.prog ops K (⟨some d, .alloc t, ty, pos, aft, none⟩ :: ls)) fr hs := by
  subst ht
  refine s_effW hn fun a w ha hw => ?_
  have hz : (zeroValue (Tryz.lays166_ren.t 72)).run Tryz.prog w = .ok (.agg #[.pointer none, .slice none 0 0]) w := Tryz.lays166.v72 w
  have hrun : (execOp a.eval ⟨some d, .alloc (Tryz.lays166_ren.t 72), ty, pos, aft, none⟩).run Tryz.prog w = .ok (.value (.pointer (some ⟨w.heap.size, 0, none⟩))) (w.alloc (.cells #[.pointer none, .slice none 0 0] (Tryz.lays166_ren.t 72))) := by
    simp [execOp, Instr.alloc, hz, newVar, newRow, Value.cells]
  exact ⟨_, _, _, hrun, hw.newObjA, h _⟩
theorem k_uString {fl : List Nat} {S : HS} {x y : Operand} {b g c : Nat} {l : List UInt8} {z : List Value} {p v : Value} (hx : opv fr x = some (.pointer (some ⟨g, 0, none⟩))) (hy : opv fr y = some (iv l.length)) (h0 : l ≠ []) (hz : l.length + z.length = c) (hl : l.length ≤ 1000000) (hn : d < n.n)
    (hk : Rk Tryz.prog n B ⟨W, ms⟩ ops K fl ls hs ((d, sv l) :: fr) hs) :
    Rk Tryz.prog n B ⟨W, bdO b p v :: bdR g l z :: ms⟩ ops K (5 :: fl) (⟨some d, .call ⟨.builtin .unsafeString, #[x, y], #[Tryz.lays169_ren.t 127, Tryz.lays169_ren.t 3]⟩, ty, pos, aft, none⟩ :: ls) S fr hs := by
  refine k_effW (R := fun u w1 h => u = sv l ∧ h = hs ∧ w1 = ⟨W, ms⟩) rfl (fun a ha F w hw => ?_) ?_
  · have hm : bdR g l z ∈ (⟨W, bdO b p v :: bdR g l z :: ms⟩ : Wd).ms := .tail _ (.head _)
    have hg := (hw.obj _ hm).2.1
    simp only [bdR] at hg
    have hul := u8s_len l
    have hr := Go.Lib.run_unsafeString_row (P := Tryz.prog) w (Tryz.lays169_ren.t 127) (Tryz.lays169_ren.t 3) ty (Tryz.lays169_ren.t 5) Tryz.lays169.t127 Tryz.Builder_Extra_169.cellsByte g (u8s l ++ z).length (by
      have hg' : w.heap[g]? = some (.cells (u8s l ++ z).toArray (Tryz.lays169_ren.t 5) (0, 0)) := hg
      simp [World.shape?, hg']) l h0 (by rw [List.length_append]; omega) (by omega) (fun j u hj => by
        rw [add_own, Nat.zero_add]
        refine cellO (hs := F ++ hs) hm ?_ w hw
        have hj' := (List.getElem?_eq_some_iff.1 hj).1
        simp only [List.getElem?_toArray]
        rw [List.getElem?_append_left (by omega)]
        unfold u8s
        rw [List.getElem?_map, hj]
        rfl)
    have hrun : (execOp a.eval ⟨some d, .call ⟨.builtin .unsafeString, #[x, y], #[Tryz.lays169_ren.t 127, Tryz.lays169_ren.t 3]⟩, ty, pos, aft, none⟩).run Tryz.prog w = .ok (.value (sv l)) (w.freeze ⟨g, 0, none⟩ l.length) := by
      simp only [execOp, resolve, invoke, builtin, Sem.run_bind, Sem.run_pure, Result.andThen_ok, List.map_toArray, List.map_cons, List.map_nil, ha.opv hx, ha.opv hy]
      rw [show iv (l.length : Int) = .int .i64 l.length from rfl, hr]
      rfl
    rw [hrun]
    have hne : l.length ≠ 0 := fun h => h0 (List.eq_nil_of_length_eq_zero h)
    have e : ∃ o', w.freeze ⟨g, 0, none⟩ l.length = { w with heap := w.heap.setIfInBounds g o' } := by
      unfold World.freeze
      rw [if_neg hne]
      exact ⟨_, by rw [heap_setIf (show w.heap[(⟨g, 0, none⟩ : Addr).block]? = _ from hg)]⟩
    obtain ⟨o', e⟩ := e
    rw [e]
    exact ⟨_, hs, ⟨rfl, rfl, rfl⟩, Hp.base (a := ⟨W, ms⟩) (b := ⟨W, bdO b p v :: (g, o') :: ms⟩) ⟨rfl, .cons _ (.cons _ (.refl _))⟩ (hw.setObjA (.tail _ (.head _)))⟩
  · rintro a ha u w1 h ⟨rfl, rfl, rfl⟩
    unfold Rk at hk
    exact hk _ (ha.put hn _)
end
theorem shB' : sh Tryz.prog (Tryz.lays169_ren.t 37) = some (false, 1) := by kernel_rfl
theorem scB : sc Tryz.prog (Tryz.lays169_ren.t 37) = some (false, 1) := by kernel_rfl
theorem foB2 : fo Tryz.prog (Tryz.lays169_ren.t 72) 1 = some (1, false, 1) := by kernel_rfl
theorem x_String (B : Nat) (b : Nat) (l : List UInt8) (bm ms : List (Nat × Obj)) (hb : SbB b l bm) (h0 : l ≠ []) (hl : l.length ≤ 1000000) (W : World) (hs : HS) :
    FnW Tryz.prog 38 #[.pointer (some ⟨b, 0, none⟩)] B ⟨W, bm ++ ms⟩ hs (fun v w1 h => v = sv l ∧ h = hs ∧ w1 = ⟨W, ms⟩) := by
  cases hb with
  | fresh => exact absurd rfl h0
  | used g c _ z h1 h2 =>
    have hl0 : 0 < l.length := List.length_pos_iff.2 h0
    simp only [List.cons_append, List.nil_append]
    refine fn_enterW Tryz.func38 rfl Tryz.ntmps38 (by simp) ?_
    repeat' (first | ((with_reducible apply kRg 1); refine cDS [0, 0, 0, 0, 0, 0, 0, 0, 0, 0, 5, 0] hs ?_ (hS := List.Sublist.refl _)) | ((with_reducible apply kDP (.fieldAddr _ _ _)); refine dP ?_ (hX := rfl) (hv := o_fieldO rfl foB2 (bb0 _))) | ((with_reducible apply kDP (.load _ _)); refine dP ?_ (hX := rfl) (hv := o_load rfl (ld_one shB' (cellO (.head _) rfl)))) | ((with_reducible apply kDP (.call ⟨.builtin .unsafeSliceData, _, _⟩)); refine dP ?_ (hX := rfl) (hv := o_sliceData rfl (by omega))) | ((with_reducible apply kDP (.call ⟨.builtin .len, _, _⟩)); refine dP ?_ (hX := rfl) (hv := o_len scB rfl)) | ((with_reducible apply kDP (.call ⟨.builtin .unsafeString, _, _⟩)); refine k_uString rfl rfl h0 h1 hl (by decide) ?_) | (with_reducible first | refine c_seq ?_ | refine c_reg ?_ | refine c_region ?_ | refine c_block ?_ | refine c_skip ?_ | refine c_exit ?_ | refine c_ret ?_ | refine s_nil ?_ | refine x_then ?_ | refine x_then_exit ?_ | refine x_then_ret ?_ | refine x_block ?_ | refine x_block_ret ?_ | refine x_block_same ?_ | refine x_block_other (by first | rfl | decide) ?_ | refine q_nil ?_ | refine k_nil ?_) | ((with_reducible apply kP (.makeFunc _ _ _)); refine sMF ?_) | ((with_reducible apply kG); first | refine gY1 ?_ | refine gN1 ?_ | refine gU1 ?_ | (refine gD1 (fun h => ?_) (fun h => ?_) <;> (try (exfalso; omega))) | refine gB1 (fun h => ?_) (fun h => ?_)) | ((with_reducible apply kN); first | refine stP ?_ | refine stI ?_ | refine st1 ?_ | refine stW ?_) | ((with_reducible apply kP (.alloc _)); refine sA (fun b => ?_)) | ((with_reducible apply kP (.box _ _)); first | refine sBA (fun b => ?_) | refine sB (fun b => ?_)) | ((with_reducible apply kP (.buildSlice _ 1 _)); first | refine sl1A (fun b => ?_) | refine sl1 (fun b => ?_)) | ((with_reducible apply kP (.buildSlice _ 2 _)); refine sl2 (fun b => ?_)) | ((with_reducible apply kP (.buildSlice _ 3 _)); refine sl3 (fun b => ?_)) | ((with_reducible apply kP (.buildSlice _ 4 _)); refine sl4 (fun b => ?_)) | ((with_reducible apply kP (.buildSlice _ 0 _)); refine s_bs0 (scTOf rfl) (zsTOf rfl) (by decide) (fun b => ?_)) | ((with_reducible apply kP (.makeSlice _ _ _)); refine sMk (fun b => ?_)) | ((with_reducible apply kP (.call ⟨.builtin .append, _, _⟩)); refine sAp (fun oa2 c2 blk2 hrow2 => ?_)) | ((with_reducible apply kP _); refine sP ?_) | ((with_reducible apply kP _); refine sX ?_) | ((with_reducible apply kQG); first | refine qY1 ?_ | refine qN1 ?_ | refine qU1 ?_ | (refine qD1 (fun h => ?_) (fun h => ?_) <;> (try (exfalso; omega))) | refine qB1 (fun h => ?_) (fun h => ?_)) | ((with_reducible apply kQP); refine qP ?_) | ((with_reducible apply kQP); refine qX ?_) | ((with_reducible apply kC); first | refine cT ?_ | refine cF ?_ | (refine cI (fun h => ?_) (fun h => ?_) <;> (try (exfalso; omega))) | refine cB (fun h => ?_) (fun h => ?_)) | ((with_reducible apply kR); refine cQ ?_) | ((with_reducible apply kDG); first | refine dY1 ?_ | refine dNo1 ?_ | refine dU1 ?_ | (refine dD1 (fun h => ?_) (fun h => ?_) <;> (try (exfalso; omega))) | refine dB1 (fun h => ?_) (fun h => ?_)) | ((with_reducible apply kDN); first | refine dtI ?_ | refine dt1 ?_ | refine dtW ?_) | ((with_reducible apply kDP (.alloc _)); refine dA (fun b => ?_)) | ((with_reducible apply kDP (.box _ _)); first | refine dBA (fun b => ?_) | refine dB (fun b => ?_)) | ((with_reducible apply kDP (.buildSlice _ 1 _)); first | refine dl1A (fun b => ?_) | refine dl1 (fun b => ?_)) | ((with_reducible apply kDP (.call ⟨.builtin .append, _, _⟩)); first | refine dAp3 (fun oa2 c2 blk2 hrow2 => ?_) (hS := SCt) | refine dAp4 (fun oa2 c2 blk2 hrow2 => ?_)) | ((with_reducible apply kDP _); refine dP ?_) | ((with_reducible apply kDP _); refine dX ?_))
    exact e_retW1 (hs' := hs) rfl rfl ⟨rfl, rfl, rfl⟩ (.refl _)
end Go.Proofs.YtnbickholedckaaGreatDoor
namespace Go.Proofs.YtnbickholedckaaGreatDoor
/-- The words of a text between the bytes c. -/
def wds (c : UInt8) : List UInt8 → List (List UInt8)
  | [] => [[]]
  | x :: l => if x = c then [] :: wds c l else match wds c l with | w :: r => (x :: w) :: r | [] => [[x]]
theorem wds_ne (c : UInt8) : ∀ l, wds c l ≠ []
  | [] => by simp [wds]
  | x :: l => by
    unfold wds
    split
    · simp
    · split <;> simp
theorem wds_no {c : UInt8} : ∀ {l : List UInt8}, c ∉ l → wds c l = [l]
  | [], _ => rfl
  | x :: l, h => by
    have h1 : ¬ x = c := fun e => h (by rw [e]; exact .head _)
    have h2 := wds_no (l := l) (fun hm => h (.tail _ hm))
    unfold wds
    rw [if_neg h1, h2]
theorem wds_app {c : UInt8} : ∀ {w : List UInt8} (l : List UInt8), c ∉ w → wds c (w ++ c :: l) = w :: wds c l
  | [], l, _ => by
    show wds c (c :: l) = _
    rw [wds, if_pos rfl]
  | x :: w, l, h => by
    have h1 : ¬ x = c := fun e => h (by rw [e]; exact .head _)
    have h2 := wds_app (w := w) l (fun hm => h (.tail _ hm))
    show wds c (x :: (w ++ c :: l)) = _
    rw [wds, if_neg h1, h2]
theorem cut_at (c : UInt8) : ∀ {l : List UInt8}, c ∈ l → ∃ w r, l = w ++ c :: r ∧ c ∉ w
  | x :: l, h => by
    by_cases hx : x = c
    · exact ⟨[], l, by rw [hx]; rfl, by simp⟩
    · obtain ⟨w, r, h1, h2⟩ := cut_at c (l := l) (by
        rcases List.mem_cons.1 h with h | h
        · exact absurd h.symm hx
        · exact h)
      refine ⟨x :: w, r, by rw [h1]; rfl, fun hm => ?_⟩
      rcases List.mem_cons.1 hm with hm | hm
      · exact hx hm.symm
      · exact h2 hm
/-- The first word, and the rest of the text if there is one. -/
theorem wds_cut (c : UInt8) (l : List UInt8) : (c ∉ l ∧ wds c l = [l]) ∨ ∃ w r, l = w ++ c :: r ∧ c ∉ w ∧ wds c l = w :: wds c r := by
  by_cases h : c ∈ l
  · obtain ⟨w, r, h1, h2⟩ := cut_at c h
    exact .inr ⟨w, r, h1, h2, by rw [h1]; exact wds_app r h2⟩
  · exact .inl ⟨h, wds_no h⟩
theorem wds_len (c : UInt8) : ∀ l, (wds c l).length ≤ l.length + 1
  | [] => by simp [wds]
  | x :: l => by
    have := wds_len c l
    unfold wds
    split
    · simp; omega
    · split
      · rename_i w r h; rw [h] at this; simp at this ⊢; omega
      · simp
/-! ### The library's words -/
theorem index_one (c : UInt8) : ∀ {w : List UInt8} (r : List UInt8), c ∉ w → Go.Lib.index (w ++ c :: r) [c] = (w.length : Int)
  | [], r, _ => by
    show Go.Lib.index (c :: r) [c] = 0
    rw [Go.Lib.index]; simp [List.isPrefixOf]
  | x :: w, r, h => by
    have h1 : ¬ x = c := fun e => h (by rw [e]; exact .head _)
    have ih := index_one c (w := w) r (fun hm => h (.tail _ hm))
    have hp : ([c] : List UInt8).isPrefixOf (x :: (w ++ c :: r)) = false := by simp [List.isPrefixOf, Ne.symm h1]
    show Go.Lib.index (x :: (w ++ c :: r)) [c] = _
    rw [Go.Lib.index, hp, ih]
    have : ¬ ((w.length : Int) == -1) = true := by simp
    rw [if_neg (by simp), if_neg this]
    simp
theorem index_no {c : UInt8} : ∀ {l : List UInt8}, c ∉ l → Go.Lib.index l [c] = -1
  | [], _ => by simp [Go.Lib.index]
  | x :: l, h => by
    have h1 : ¬ x = c := fun e => h (by rw [e]; exact .head _)
    have ih := index_no (l := l) (fun hm => h (.tail _ hm))
    have hp : ([c] : List UInt8).isPrefixOf (x :: l) = false := by simp [List.isPrefixOf, Ne.symm h1]
    rw [Go.Lib.index, hp, ih]
    simp
theorem splitK_wds (c : UInt8) : ∀ (k : Nat) (l : List UInt8), Go.Lib.count l [c] = k → Go.Lib.splitK [c] 0 k l = wds c l
  | 0, l, h => by
    rw [Go.Lib.count_one] at h
    have hc : c ∉ l := fun hm => by have := List.count_pos_iff.2 hm; omega
    rw [wds_no hc]
    rfl
  | k + 1, l, h => by
    rcases wds_cut c l with ⟨h1, h2⟩ | ⟨w, r, h1, h2, h3⟩
    · rw [Go.Lib.count_one] at h
      have := List.count_eq_zero.2 h1
      omega
    · have hi := index_one c r h2
      rw [← h1] at hi
      have hn : ¬ (Go.Lib.index l [c] == -1) = true := by rw [hi]; simp
      unfold Go.Lib.splitK
      rw [if_neg hn, hi, h3]
      have e1 : ((w.length : Int).toNat + 0) = w.length := by omega
      have e2 : ((w.length : Int).toNat + ([c] : List UInt8).length) = w.length + 1 := by simp
      rw [e1, e2]
      have t1 : l.take w.length = w := by rw [h1]; exact List.take_left' rfl
      have t2 : l.drop (w.length + 1) = r := by rw [h1, ← List.drop_drop, List.drop_left' rfl]; rfl
      rw [t1, t2, splitK_wds c k r (by
        rw [Go.Lib.count_one] at h ⊢
        rw [h1, List.count_append, List.count_cons_self, List.count_eq_zero.2 h2] at h
        omega)]
theorem split_wds (c : UInt8) (l : List UInt8) : (Go.Lib.splitB ⟨#[c]⟩ 0 (Go.Lib.countB ⟨l.toArray⟩ ⟨#[c]⟩) ⟨l.toArray⟩).map Value.string = (wds c l).map (fun w => Value.string ⟨w.toArray⟩) := by
  have h := Go.Lib.splitB_data ⟨#[c]⟩ 0 (Go.Lib.countB ⟨l.toArray⟩ ⟨#[c]⟩) ⟨l.toArray⟩
  have h2 : Go.Lib.splitK [c] 0 (Go.Lib.countB ⟨l.toArray⟩ ⟨#[c]⟩) l = wds c l := splitK_wds c _ l rfl
  have e1 : (⟨#[c]⟩ : ByteArray).data.toList = [c] := rfl
  have e2 : (⟨l.toArray⟩ : ByteArray).data.toList = l := by simp
  rw [e1, e2, h2] at h
  rw [← h, List.map_map]
  refine List.map_congr_left fun s _ => ?_
  show Value.string s = Value.string ⟨s.data.toList.toArray⟩
  congr 1
theorem count_wds (c : UInt8) (l : List UInt8) : Go.Lib.countB ⟨l.toArray⟩ ⟨#[c]⟩ + 1 = (wds c l).length := by
  have h := split_wds c l
  have := congrArg List.length h
  rw [List.length_map, List.length_map, Go.Lib.splitB_all _ (by simp [ByteArray.size]) 0 _ _ rfl] at this
  exact this
/-! ### Numerals -/
theorem dec_step (u : Nat) : Go.Lib.decDigits u = if u < 10 then [UInt8.ofNat (48 + u)] else Go.Lib.decDigits (u / 10) ++ [UInt8.ofNat (48 + u % 10)] := by
  rw [Go.Lib.decDigits]
  split <;> rfl
theorem dec_ne (u : Nat) : Go.Lib.decDigits u ≠ [] := by
  rw [dec_step]
  split <;> simp
theorem dig_nat {d : Nat} (h : d < 10) : (UInt8.ofNat (48 + d)).toNat = 48 + d := by
  rw [UInt8.toNat_ofNat']
  omega
theorem dec_dig : ∀ (u : Nat), ∀ c ∈ Go.Lib.decDigits u, 48 ≤ c.toNat ∧ c.toNat ≤ 57 := by
  intro u
  induction u using Nat.strongRecOn with
  | _ u ih =>
    intro c hc
    rw [dec_step] at hc
    split at hc
    · rename_i h
      rw [List.mem_singleton] at hc
      rw [hc, dig_nat h]; omega
    · rename_i h
      rcases List.mem_append.1 hc with hc | hc
      · exact ih (u / 10) (by omega) c hc
      · rw [List.mem_singleton] at hc
        rw [hc, dig_nat (Nat.mod_lt _ (by omega))]
        have := Nat.mod_lt u (show 0 < 10 by omega)
        omega
theorem dec_len : ∀ (k u : Nat), u < 10 ^ (k + 1) → (Go.Lib.decDigits u).length ≤ k + 1
  | 0, u, h => by rw [dec_step, if_pos (by omega)]; simp
  | k + 1, u, h => by
    rw [dec_step]
    split
    · simp
    · have := dec_len k (u / 10) (by rw [Nat.pow_succ] at h; omega)
      rw [List.length_append]
      simp
      omega
/-- What the numbers before and the digits of l spell. -/
def spl (a : Nat) (l : List UInt8) : Nat := l.foldl (fun a c => 10 * a + (c.toNat - 48)) a
theorem spl_dec : ∀ (u : Nat), spl 0 (Go.Lib.decDigits u) = u := by
  intro u
  induction u using Nat.strongRecOn with
  | _ u ih =>
    rw [dec_step]
    split
    · rename_i h
      show 10 * 0 + ((UInt8.ofNat (48 + u)).toNat - 48) = u
      rw [dig_nat h]; omega
    · rename_i h
      have := ih (u / 10) (by omega)
      unfold spl at this ⊢
      rw [List.foldl_append, this]
      show 10 * (u / 10) + ((UInt8.ofNat (48 + u % 10)).toNat - 48) = u
      rw [dig_nat (Nat.mod_lt _ (by omega))]
      omega
theorem spl_mono : ∀ (l : List UInt8) (a : Nat), a ≤ spl a l
  | [], a => Nat.le_refl _
  | c :: l, a => Nat.le_trans (by omega) (spl_mono l (10 * a + (c.toNat - 48)))
theorem parse_spl : ∀ (l : List UInt8) (a : Nat), (∀ c ∈ l, 48 ≤ c.toNat ∧ c.toNat ≤ 57) → spl a l < 9223372036854775808 → Go.Lib.parseUint10 a l = .ok (spl a l)
  | [], a, _, _ => rfl
  | c :: l, a, h, hb => by
    have h1 := h c (.head _)
    have h2 : spl a (c :: l) = spl (10 * a + (c.toNat - 48)) l := rfl
    have h3 := spl_mono l (10 * a + (c.toNat - 48))
    rw [h2] at hb ⊢
    unfold Go.Lib.parseUint10
    rw [if_pos h1, if_neg (by omega), if_neg (by omega), show a * 10 + (c.toNat - 48) = 10 * a + (c.toNat - 48) by omega]
    exact parse_spl l _ (fun d hd => h d (.tail _ hd)) hb
theorem atoi_dec {u : Nat} (h : u < 9223372036854775808) : Go.Lib.atoiAll (Go.Lib.decDigits u) = .ok (u : Int) := by
  have hd := dec_dig u
  have hs := spl_dec u
  have hn := dec_ne u
  generalize Go.Lib.decDigits u = l at *
  cases l with
  | nil => exact absurd rfl hn
  | cons c r =>
    have hc := hd c (.head _)
    rw [Go.Lib.atoiAll_plain c r (by omega) (by omega)]
    have : Go.Lib.parseMag (c :: r) = .ok u := by
      unfold Go.Lib.parseMag
      rw [if_neg (by simp), parse_spl _ 0 hd (by rw [hs]; exact h), hs]
    rw [this]
    unfold Go.Lib.signless
    simp
    omega
theorem itoa_nat (u : Nat) : Go.Lib.itoa (u : Int) = Go.Lib.decDigits u := by
  unfold Go.Lib.itoa
  rw [if_neg (by omega), Int.toNat_natCast]
end Go.Proofs.YtnbickholedckaaGreatDoor
namespace Go.Proofs.YtnbickholedckaaGreatDoor
open Go.RowKit Go.Shelf
theorem Hp.of_below {B : Nat} {w0 : Wd} {w w' : World} {hs : HS} (hw : Hp B w0 w hs) (hb : Below w.heap.size w w') : Hp B w0 w' hs := by
  have lt : ∀ {k : Nat} {o : Obj}, w.heap[k]? = some o → k < w.heap.size := fun h => (Array.getElem?_eq_some_iff.1 h).1
  refine ⟨hw.below.trans (hb.mono hw.big), Nat.le_trans hw.big hb.size, fun p hp => ?_, hw.nodup, fun p hp => ?_, hw.ond⟩
  · obtain ⟨h1, e, h2⟩ := hw.mem p hp
    exact ⟨h1, e, by rw [hb.block p.1 (lt h2)]; exact h2⟩
  · obtain ⟨h1, h2, h3⟩ := hw.obj p hp
    exact ⟨h1, by rw [hb.block p.1 (lt h2)]; exact h2, h3⟩
/-- What is known of the variables of the library. -/
structure TxW (B : Nat) (w0 : Wd) : Prop where
  nB : gMax < B ∧ gSyn < B ∧ gRan < B ∧ gPow < B
  tab : Go.Lib.TabIs Tryz.prog w0.w "internal/strconv.uint64pow10" .u64 Go.Lib.pow10Tab
  ml : ∃ m, w0.w.cell? ⟨gMax, 0, none⟩ = some (.int .i64 m)
  sy : ∃ te pe, w0.w.cell? ⟨gSyn, 0, none⟩ = some (.iface te pe)
  ra : ∃ te pe, w0.w.cell? ⟨gRan, 0, none⟩ = some (.iface te pe)
theorem Hp.cellB {B : Nat} {w0 : Wd} {w : World} {hs : HS} (hw : Hp B w0 w hs) {g : Nat} {v : Value} (hg : g < B) (h : w0.w.cell? ⟨g, 0, none⟩ = some v) : w.cell? ⟨g, 0, none⟩ = some v := (hw.below.cell (p := ⟨g, 0, none⟩) hg).trans h
theorem Hp.tabB {B : Nat} {w0 : Wd} {w : World} {hs : HS} (hw : Hp B w0 w hs) (hT : TxW B w0) : Go.Lib.TabIs Tryz.prog w "internal/strconv.uint64pow10" .u64 Go.Lib.pow10Tab := by
  have h := hT.tab
  unfold Go.Lib.TabIs World.var? at h ⊢
  rw [gPow_named] at h ⊢
  simp only [Option.bind_some] at h ⊢
  rw [hw.below.block gPow hT.nB.2.2.2]
  exact h
section
variable {B : Nat} {w0 : Wd}
theorem x_Itoa (hT : TxW B w0) (m : Int) (h : InI m) (hs : HS) : Fn Tryz.prog 37 #[iv m] B w0 hs (fun v h => v = sv (Go.Lib.itoa m) ∧ h = hs) := fn_mk fun w hw => by
  refine (Any.strconv_Itoa Tryz.laysM171 m h.1 h.2 w (hw.tabB hT)).mono ?_
  rintro e w' ⟨rfl, k, os, rfl⟩
  exact ⟨_, _, rfl, ⟨rfl, rfl⟩, hw.of_below (Go.Lib.below_grow _ _ (Nat.le_refl _) _ _)⟩
theorem x_Split (hT : TxW B w0) (l : List UInt8) (c : UInt8) (hl : l.length ≤ 1000000) (hs : HS) : Fn Tryz.prog 40 #[sv l, sv [c]] B w0 hs (fun v h => ∃ blk, (∃ oa k, RowOk oa k 1 (svs (wds c l)) blk ∧ v = .slice oa (wds c l).length k) ∧ h = blk ++ hs) := fn_mk fun w hw => by
  obtain ⟨m, hm⟩ := hT.ml
  have h := Any.strings_Split { Tryz.laysM146 with } Tryz.laysM146.i9 ⟨l.toArray⟩ ⟨#[c]⟩ m w (by rw [ba_size]; omega) (hw.cellB hT.nB.1 hm) (by simp [ByteArray.size])
  rw [split_wds, count_wds] at h
  refine h.mono ?_
  rintro e w' ⟨rfl, rfl⟩
  have hlen := wds_len c l
  refine ⟨_, _, rfl, ⟨[(w.heap.size, svs (wds c l))], ⟨_, _, RowOk.new (by rw [svs_length, Nat.mul_one]) (by unfold maxLen; omega), rfl⟩, rfl⟩, ?_⟩
  exact hw.fresh (svs (wds c l)).toArray (Tryz.laysM146_ren.t 9)
theorem x_Atoi (hT : TxW B w0) (l : List UInt8) (hl : l.length ≤ 1000000) (hs : HS) : Fn Tryz.prog 41 #[sv l] B w0 hs (fun v h => ((∃ m, Go.Lib.atoiAll l = .ok m ∧ v = .tuple #[iv m, .nilIface]) ∨ ((∀ m, Go.Lib.atoiAll l ≠ .ok m) ∧ ∃ x t p, v = .tuple #[iv x, .iface t p])) ∧ h = hs) := fn_mk fun w hw => by
  have e : (⟨l.toArray⟩ : ByteArray).data.toList = l := by simp
  have hsz : (⟨l.toArray⟩ : ByteArray).size = l.length := ba_size l
  cases hA : Go.Lib.atoiAll l
  · rename_i m
    refine (Any.strconv_Atoi_ok Tryz.laysC172 ⟨l.toArray⟩ (by omega) m (by rw [e]; exact hA) w).mono ?_
    rintro e' w' ⟨rfl, hw'⟩
    refine ⟨_, _, rfl, ⟨.inl ⟨m, rfl, rfl⟩, rfl⟩, ?_⟩
    rcases hw' with rfl | ⟨t, rfl⟩
    · exact hw
    · exact hw.of_below (Go.Lib.bytesWorld_below _ _ _)
  · obtain ⟨te, pe, hv⟩ := hT.sy
    refine (Any.strconv_Atoi_syntax Tryz.laysC172 ⟨l.toArray⟩ (by omega) (by rw [e]; exact hA) _ w (hw.cellB hT.nB.2.1 hv) (.inr ⟨te, pe, rfl⟩)).mono ?_
    rintro e' w' ⟨N, rfl, _, _, hb⟩
    exact ⟨_, _, rfl, ⟨.inr ⟨fun m h => (by cases h), 0, _, _, rfl⟩, rfl⟩, hw.of_below hb⟩
  · obtain ⟨te, pe, hv⟩ := hT.ra
    refine (Any.strconv_Atoi_range Tryz.laysC172 ⟨l.toArray⟩ (by omega) (by rw [e]; exact hA) _ w (hw.cellB hT.nB.2.2.1 hv) (.inr ⟨te, pe, rfl⟩)).mono ?_
    rintro e' w' ⟨N, rfl, _, _, hb⟩
    exact ⟨_, _, rfl, ⟨.inr ⟨fun m h => (by cases h), _, _, _, rfl⟩, rfl⟩, hw.of_below hb⟩
end
end Go.Proofs.YtnbickholedckaaGreatDoor
namespace Go.Proofs.YtnbickholedckaaGreatDoor
open Go.RowKit
/-- Numbers, each with a blank in front. -/
def nmT (l : List Int) : List UInt8 := (l.map fun x => 32 :: Go.Lib.itoa x).flatten
theorem nmT_snoc (l : List Int) (x : Int) : nmT (l ++ [x]) = nmT l ++ (32 :: Go.Lib.itoa x) := by
  unfold nmT
  rw [List.map_append, List.flatten_append]
  simp
theorem nmT_take {l : List Int} {i : Nat} (h : i < l.length) : nmT (l.take (i + 1)) = nmT (l.take i) ++ (32 :: Go.Lib.itoa (l.getD i 0)) := by
  rw [List.take_succ_eq_append_getElem h, nmT_snoc]
  congr 3
  rw [List.getD_eq_getElem?_getD, List.getElem?_eq_getElem h]
  rfl
theorem nmT_cut (l : List Int) (i : Nat) : (nmT (l.take i)).length ≤ (nmT l).length := by
  have h : nmT l = nmT (l.take i) ++ nmT (l.drop i) := by
    unfold nmT
    rw [← List.flatten_append, ← List.map_append, List.take_append_drop]
  rw [h, List.length_append]
  omega
theorem nmT_ge : ∀ l : List Int, l.length ≤ (nmT l).length
  | [] => Nat.zero_le _
  | x :: l => by
    have h := nmT_ge l
    have e : nmT (x :: l) = (32 :: Go.Lib.itoa x) ++ nmT l := by unfold nmT; simp
    rw [e, List.length_append, List.length_cons, List.length_cons]
    omega
/-- A line: a word, numbers, a line's end. -/
def lnT (w : List UInt8) (l : List Int) : List UInt8 := w ++ nmT l ++ [10]
theorem TxW.ms {B : Nat} {w0 w1 : Wd} (h : TxW B w0) (e : w1.w = w0.w) : TxW B w1 := by
  obtain ⟨a, b, c, d, f⟩ := h
  refine ⟨a, ?_, ?_, ?_, ?_⟩ <;> rw [e] <;> assumption
structure LnI where
  i : Nat
  bm : List (Nat × Obj)
attribute [local irreducible] OpF Ld CellAt Sl Sv
theorem x_line (B : Nat) (b : Nat) (t wd : List UInt8) (l : List Int) (oa : Option Addr) (c : Nat) (bm ms : List (Nat × Obj)) (hb : SbB b t bm) (h0 : wd ≠ []) (hl : (t ++ lnT wd l).length ≤ 1000000) (hI : ∀ x ∈ l, InI x) (W : World) (hT : TxW B ⟨W, ms⟩) (hs : HS) (hL : Sl B ⟨W, ms⟩ hs oa l) :
    FnW Tryz.prog 35 #[sv wd, .slice oa l.length c, .pointer (some ⟨b, 0, none⟩)] B ⟨W, bm ++ ms⟩ hs (fun v w1 h => v = .tuple #[] ∧ h = hs ∧ ∃ bm', SbB b (t ++ lnT wd l) bm' ∧ w1 = ⟨W, bm' ++ ms⟩) := by
  have hlen : (t ++ lnT wd l).length = t.length + (wd.length + (nmT l).length + 1) := by unfold lnT; simp only [List.length_append, List.length_cons, List.length_nil]
  have hge := nmT_ge l
  refine fn_enterW Tryz.func35 rfl Tryz.ntmps35 (by simp) ?_
  repeat' (first | ((with_reducible apply kF 36); refine s_callW (goF rfl) rfl (x_WriteString B b t wd bm ms hb h0 (by omega) W _) (by decide) ?_; rintro v1 w1 h1 ⟨rfl, rfl, bm1, hb1, rfl⟩) | (with_reducible first | refine c_seq ?_ | refine c_reg ?_ | refine c_region ?_ | refine c_block ?_ | refine c_skip ?_ | refine c_exit ?_ | refine c_ret ?_ | refine s_nil ?_ | refine x_then ?_ | refine x_then_exit ?_ | refine x_then_ret ?_ | refine x_block ?_ | refine x_block_ret ?_ | refine x_block_same ?_ | refine x_block_other (by first | rfl | decide) ?_ | refine q_nil ?_ | refine k_nil ?_) | ((with_reducible apply kP (.makeFunc _ _ _)); refine sMF ?_) | ((with_reducible apply kG); first | refine gY1 ?_ | refine gN1 ?_ | refine gU1 ?_ | (refine gD1 (fun h => ?_) (fun h => ?_) <;> (try (exfalso; omega))) | refine gB1 (fun h => ?_) (fun h => ?_)) | ((with_reducible apply kN); first | refine stP ?_ | refine stI ?_ | refine st1 ?_ | refine stW ?_) | ((with_reducible apply kP (.alloc _)); refine sA (fun b => ?_)) | ((with_reducible apply kP (.box _ _)); first | refine sBA (fun b => ?_) | refine sB (fun b => ?_)) | ((with_reducible apply kP (.buildSlice _ 1 _)); first | refine sl1A (fun b => ?_) | refine sl1 (fun b => ?_)) | ((with_reducible apply kP (.buildSlice _ 2 _)); refine sl2 (fun b => ?_)) | ((with_reducible apply kP (.buildSlice _ 3 _)); refine sl3 (fun b => ?_)) | ((with_reducible apply kP (.buildSlice _ 4 _)); refine sl4 (fun b => ?_)) | ((with_reducible apply kP (.buildSlice _ 0 _)); refine s_bs0 (scTOf rfl) (zsTOf rfl) (by decide) (fun b => ?_)) | ((with_reducible apply kP (.makeSlice _ _ _)); refine sMk (fun b => ?_)) | ((with_reducible apply kP (.call ⟨.builtin .append, _, _⟩)); refine sAp (fun oa2 c2 blk2 hrow2 => ?_)) | ((with_reducible apply kP _); refine sP ?_) | ((with_reducible apply kP _); refine sX ?_) | ((with_reducible apply kQG); first | refine qY1 ?_ | refine qN1 ?_ | refine qU1 ?_ | (refine qD1 (fun h => ?_) (fun h => ?_) <;> (try (exfalso; omega))) | refine qB1 (fun h => ?_) (fun h => ?_)) | ((with_reducible apply kQP); refine qP ?_) | ((with_reducible apply kQP); refine qX ?_) | ((with_reducible apply kC); first | refine cT ?_ | refine cF ?_ | (refine cI (fun h => ?_) (fun h => ?_) <;> (try (exfalso; omega))) | refine cB (fun h => ?_) (fun h => ?_)) | ((with_reducible apply kR); refine cQ ?_))
  refine c_loopM (fun s : LnI => ⟨W, s.bm ++ ms⟩) (fun s : LnI => [(0, sv wd), (1, .slice oa l.length c), (2, .pointer (some ⟨b, 0, none⟩)), (9, .slice oa l.length c), (10, iv l.length), (11, iv s.i)]) (fun _ => h1) (fun s : LnI => s.i ≤ l.length ∧ SbB b (t ++ wd ++ nmT (l.take s.i)) s.bm) (fun s : LnI => l.length - s.i) ⟨0, bm1⟩ ⟨Nat.zero_le _, by rw [List.take_zero, show nmT [] = [] from rfl, List.append_nil]; exact hb1⟩ (Wd.le.refl _) (by repeat' first | trivial | rfl | apply And.intro) (.refl _) ?_
  rintro ⟨i, bm2⟩ ⟨hi, hb2⟩
  dsimp only at hi hb2 ⊢
  have hL2 : Sl B ⟨W, bm2 ++ ms⟩ h1 oa l := hL.base (a := ⟨W, ms⟩) (b := ⟨W, bm2 ++ ms⟩) ⟨rfl, List.sublist_append_right _ _⟩
  by_cases hi' : i < l.length
  · have hx : InI (l.getD i 0) := hI _ (by rw [List.getD_eq_getElem?_getD, List.getElem?_eq_getElem hi']; exact List.getElem_mem hi')
    have hT2 : TxW B ⟨W, bm2 ++ ms⟩ := hT.ms rfl
    have ki := fun hs' => x_Itoa hT2 (l.getD i 0) hx hs'
    have hc2 := nmT_cut l (i + 1)
    rw [nmT_take hi'] at hc2
    simp only [List.length_append, List.length_cons] at hc2
    have i1 := hL2.any hi'
    repeat' (first | ((with_reducible apply kF 37); refine sC 37 (ki _) ?_) | ((with_reducible apply kP (.load 3 _)); refine sP ?_ (o_load rfl (ld_one (shTOf rfl) (hL2.at SBt hi')))) | ((with_reducible apply kDP (.load 3 _)); refine dP ?_ (hX := rfl) (hv := o_load rfl (ld_one (shTOf rfl) (hL2.at SBt hi')))) | ((with_reducible apply kQO (.load 3 _)); refine qP ?_ (o_load rfl (ld_one (shTOf rfl) (hL2.at SBt hi')))) | ((with_reducible apply kP (.indexAddr 27 _ _)); refine sP ?_ (o_indexS (scTOf rfl) rfl rfl rfl (aa0 _) i1 hi')) | ((with_reducible apply kDP (.indexAddr 27 _ _)); refine dP ?_ (hX := rfl) (hv := o_indexS (scTOf rfl) rfl rfl rfl (aa0 _) i1 hi')) | ((with_reducible apply kQO (.indexAddr 27 _ _)); refine qP ?_ (o_indexS (scTOf rfl) rfl rfl rfl (aa0 _) i1 hi')) | ((with_reducible apply kP (.binOp .add 9 _ _ _)); refine sP ?_ (o_sAdd (a := [32]) rfl rfl (by simp only [List.length_cons, List.length_nil]; omega))) | ((with_reducible apply kDP (.binOp .add 9 _ _ _)); refine dP ?_ (hX := rfl) (hv := o_sAdd (a := [32]) rfl rfl (by simp only [List.length_cons, List.length_nil]; omega))) | ((with_reducible apply kQO (.binOp .add 9 _ _ _)); refine qP ?_ (o_sAdd (a := [32]) rfl rfl (by simp only [List.length_cons, List.length_nil]; omega))) | ((with_reducible apply kF 36); refine s_callW (goF rfl) rfl (x_WriteString B b (t ++ wd ++ nmT (l.take i)) ([32] ++ Go.Lib.itoa (l.getD i 0)) bm2 ms hb2 (List.cons_ne_nil _ _) (by simp only [List.length_append, List.length_cons, List.length_nil]; omega) W _) (by decide) ?_; rintro v2 w2 h2 ⟨rfl, rfl, bm3, hb3, rfl⟩) | (with_reducible first | refine c_seq ?_ | refine c_reg ?_ | refine c_region ?_ | refine c_block ?_ | refine c_skip ?_ | refine c_exit ?_ | refine c_ret ?_ | refine s_nil ?_ | refine x_then ?_ | refine x_then_exit ?_ | refine x_then_ret ?_ | refine x_block ?_ | refine x_block_ret ?_ | refine x_block_same ?_ | refine x_block_other (by first | rfl | decide) ?_ | refine q_nil ?_ | refine k_nil ?_) | ((with_reducible apply kP (.makeFunc _ _ _)); refine sMF ?_) | ((with_reducible apply kG); first | refine gY1 ?_ | refine gN1 ?_ | refine gU1 ?_ | (refine gD1 (fun h => ?_) (fun h => ?_) <;> (try (exfalso; omega))) | refine gB1 (fun h => ?_) (fun h => ?_)) | ((with_reducible apply kN); first | refine stP ?_ | refine stI ?_ | refine st1 ?_ | refine stW ?_) | ((with_reducible apply kP (.alloc _)); refine sA (fun b => ?_)) | ((with_reducible apply kP (.box _ _)); first | refine sBA (fun b => ?_) | refine sB (fun b => ?_)) | ((with_reducible apply kP (.buildSlice _ 1 _)); first | refine sl1A (fun b => ?_) | refine sl1 (fun b => ?_)) | ((with_reducible apply kP (.buildSlice _ 2 _)); refine sl2 (fun b => ?_)) | ((with_reducible apply kP (.buildSlice _ 3 _)); refine sl3 (fun b => ?_)) | ((with_reducible apply kP (.buildSlice _ 4 _)); refine sl4 (fun b => ?_)) | ((with_reducible apply kP (.buildSlice _ 0 _)); refine s_bs0 (scTOf rfl) (zsTOf rfl) (by decide) (fun b => ?_)) | ((with_reducible apply kP (.makeSlice _ _ _)); refine sMk (fun b => ?_)) | ((with_reducible apply kP (.call ⟨.builtin .append, _, _⟩)); refine sAp (fun oa2 c2 blk2 hrow2 => ?_)) | ((with_reducible apply kP _); refine sP ?_) | ((with_reducible apply kP _); refine sX ?_) | ((with_reducible apply kQG); first | refine qY1 ?_ | refine qN1 ?_ | refine qU1 ?_ | (refine qD1 (fun h => ?_) (fun h => ?_) <;> (try (exfalso; omega))) | refine qB1 (fun h => ?_) (fun h => ?_)) | ((with_reducible apply kQP); refine qP ?_) | ((with_reducible apply kQP); refine qX ?_) | ((with_reducible apply kC); first | refine cT ?_ | refine cF ?_ | (refine cI (fun h => ?_) (fun h => ?_) <;> (try (exfalso; omega))) | refine cB (fun h => ?_) (fun h => ?_)) | ((with_reducible apply kR); refine cQ ?_))
    all_goals try (exfalso; omega)
    refine r_endM (⟨i + 1, bm3⟩ : LnI) ⟨hi', ?_⟩ (by dsimp only; omega) (Wd.le.refl _) (by repeat' first | trivial | rfl | apply And.intro) (.refl _)
    dsimp only
    rw [nmT_take hi', ← List.append_assoc]
    exact hb3
  · obtain rfl : i = l.length := by omega
    rw [List.take_length] at hb2
    repeat' (first | ((with_reducible apply kF 36); refine s_callW (goF rfl) rfl (x_WriteString B b (t ++ wd ++ nmT l) [10] bm2 ms hb2 (List.cons_ne_nil _ _) (by simp only [List.length_append, List.length_cons, List.length_nil]; omega) W _) (by decide) ?_; rintro v2 w2 h2 ⟨rfl, rfl, bm3, hb3, rfl⟩) | (with_reducible first | refine c_seq ?_ | refine c_reg ?_ | refine c_region ?_ | refine c_block ?_ | refine c_skip ?_ | refine c_exit ?_ | refine c_ret ?_ | refine s_nil ?_ | refine x_then ?_ | refine x_then_exit ?_ | refine x_then_ret ?_ | refine x_block ?_ | refine x_block_ret ?_ | refine x_block_same ?_ | refine x_block_other (by first | rfl | decide) ?_ | refine q_nil ?_ | refine k_nil ?_) | ((with_reducible apply kP (.makeFunc _ _ _)); refine sMF ?_) | ((with_reducible apply kG); first | refine gY1 ?_ | refine gN1 ?_ | refine gU1 ?_ | (refine gD1 (fun h => ?_) (fun h => ?_) <;> (try (exfalso; omega))) | refine gB1 (fun h => ?_) (fun h => ?_)) | ((with_reducible apply kN); first | refine stP ?_ | refine stI ?_ | refine st1 ?_ | refine stW ?_) | ((with_reducible apply kP (.alloc _)); refine sA (fun b => ?_)) | ((with_reducible apply kP (.box _ _)); first | refine sBA (fun b => ?_) | refine sB (fun b => ?_)) | ((with_reducible apply kP (.buildSlice _ 1 _)); first | refine sl1A (fun b => ?_) | refine sl1 (fun b => ?_)) | ((with_reducible apply kP (.buildSlice _ 2 _)); refine sl2 (fun b => ?_)) | ((with_reducible apply kP (.buildSlice _ 3 _)); refine sl3 (fun b => ?_)) | ((with_reducible apply kP (.buildSlice _ 4 _)); refine sl4 (fun b => ?_)) | ((with_reducible apply kP (.buildSlice _ 0 _)); refine s_bs0 (scTOf rfl) (zsTOf rfl) (by decide) (fun b => ?_)) | ((with_reducible apply kP (.makeSlice _ _ _)); refine sMk (fun b => ?_)) | ((with_reducible apply kP (.call ⟨.builtin .append, _, _⟩)); refine sAp (fun oa2 c2 blk2 hrow2 => ?_)) | ((with_reducible apply kP _); refine sP ?_) | ((with_reducible apply kP _); refine sX ?_) | ((with_reducible apply kQG); first | refine qY1 ?_ | refine qN1 ?_ | refine qU1 ?_ | (refine qD1 (fun h => ?_) (fun h => ?_) <;> (try (exfalso; omega))) | refine qB1 (fun h => ?_) (fun h => ?_)) | ((with_reducible apply kQP); refine qP ?_) | ((with_reducible apply kQP); refine qX ?_) | ((with_reducible apply kC); first | refine cT ?_ | refine cF ?_ | (refine cI (fun h => ?_) (fun h => ?_) <;> (try (exfalso; omega))) | refine cB (fun h => ?_) (fun h => ?_)) | ((with_reducible apply kR); refine cQ ?_))
    all_goals try (exfalso; omega)
    refine e_retW0 (hs' := h2) rfl ⟨rfl, rfl, bm3, ?_, rfl⟩ (.refl _)
    unfold lnT
    rw [List.append_assoc, List.append_assoc] at hb3
    rw [List.append_assoc wd]
    exact hb3
end Go.Proofs.YtnbickholedckaaGreatDoor
