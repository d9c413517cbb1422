/- strings.Builder: String, and a new builder. -/
import Derived.Test.YtmblgbcipniecaaGreatDoorMX33
namespace Go.Proofs.YtmblgbcipniecaaGreatDoor
open Go.RowKit Go.Shelf
section
variable {n : NN} {B : Nat} {w0 : Wd} {W : World} {ms : List (Nat × Obj)} {fr : FR} {hs hs' : HS} {ty : TypeId} {K : Act → World → Prop} {ops : Array Oper} {ls : List Oper} {d : Nat} {pos : String} {aft : Array Edge}
theorem o_sliceData {t : TypeId} {x : Operand} {ad : Addr} {m c : Nat} (hx : opv fr x = some (.slice (some ad) m c)) (hc : c ≠ 0) : OpF Tryz.prog n B w0 (.call { callee := .builtin .unsafeSliceData, args := #[x], argTypes := #[t] }) ty fr hs (.pointer (some ad)) := fun a w ha _ => by
  have h := Go.Lib.run_unsafeSliceData_row (P := Tryz.prog) w #[t] ty ad m c hc
  simp [ex, execOp, resolve, invoke, builtin, ha.opv hx, h]
/-- A new builder. -/
theorem s_newB {t : TypeId} (ht : t = Tryz.lays166_ren.t 72) (hn : d < n.n) (h : ∀ b, Sat n B ⟨w0.w, [bdO b (.pointer none) (.slice none 0 0)] ++ w0.ms⟩ (sl Tryz.prog ops K ls) ((d, .pointer (some ⟨b, 0, none⟩)) :: fr) hs) :
    Sat n B w0 (sl Tryz.prog ops K (⟨some d, .alloc t, ty, pos, aft, none⟩ :: ls)) fr hs := by
  subst ht
  refine s_effW hn fun a w ha hw => ?_
  have hz : (zeroValue (Tryz.lays166_ren.t 72)).run Tryz.prog w = .ok (.agg #[.pointer none, .slice none 0 0]) w := Tryz.lays166.v72 w
  have hrun : (execOp a.eval ⟨some d, .alloc (Tryz.lays166_ren.t 72), ty, pos, aft, none⟩).run Tryz.prog w = .ok (.value (.pointer (some ⟨w.heap.size, 0, none⟩))) (w.alloc (.cells #[.pointer none, .slice none 0 0] (Tryz.lays166_ren.t 72))) := by
    simp [execOp, Instr.alloc, hz, newVar, newRow, Value.cells]
  exact ⟨_, _, _, hrun, hw.newObjA, h _⟩
theorem k_uString {fl : List Nat} {S : HS} {x y : Operand} {b g c : Nat} {l : List UInt8} {z : List Value} {p v : Value} (hx : opv fr x = some (.pointer (some ⟨g, 0, none⟩))) (hy : opv fr y = some (iv l.length)) (h0 : l ≠ []) (hz : l.length + z.length = c) (hl : l.length ≤ 1000000) (hn : d < n.n)
    (hk : Rk Tryz.prog n B ⟨W, ms⟩ ops K fl ls hs ((d, sv l) :: fr) hs) :
    Rk Tryz.prog n B ⟨W, bdO b p v :: bdR g l z :: ms⟩ ops K (5 :: fl) (⟨some d, .call ⟨.builtin .unsafeString, #[x, y], #[Tryz.lays169_ren.t 127, Tryz.lays169_ren.t 3]⟩, ty, pos, aft, none⟩ :: ls) S fr hs := by
  refine k_effW (R := fun u w1 h => u = sv l ∧ h = hs ∧ w1 = ⟨W, ms⟩) rfl (fun a ha F w hw => ?_) ?_
  · have hm : bdR g l z ∈ (⟨W, bdO b p v :: bdR g l z :: ms⟩ : Wd).ms := .tail _ (.head _)
    have hg := (hw.obj _ hm).2.1
    simp only [bdR] at hg
    have hul := u8s_len l
    have hr := Go.Lib.run_unsafeString_row (P := Tryz.prog) w (Tryz.lays169_ren.t 127) (Tryz.lays169_ren.t 3) ty (Tryz.lays169_ren.t 5) Tryz.lays169.t127 Tryz.Builder_Extra_169.cellsByte g (u8s l ++ z).length (by
      have hg' : w.heap[g]? = some (.cells (u8s l ++ z).toArray (Tryz.lays169_ren.t 5) (0, 0)) := hg
      simp [World.shape?, hg']) l h0 (by rw [List.length_append]; omega) (by omega) (fun j u hj => by
        rw [add_own, Nat.zero_add]
        refine cellO (hs := F ++ hs) hm ?_ w hw
        have hj' := (List.getElem?_eq_some_iff.1 hj).1
        simp only [List.getElem?_toArray]
        rw [List.getElem?_append_left (by omega)]
        unfold u8s
        rw [List.getElem?_map, hj]
        rfl)
    have hrun : (execOp a.eval ⟨some d, .call ⟨.builtin .unsafeString, #[x, y], #[Tryz.lays169_ren.t 127, Tryz.lays169_ren.t 3]⟩, ty, pos, aft, none⟩).run Tryz.prog w = .ok (.value (sv l)) (w.freeze ⟨g, 0, none⟩ l.length) := by
      simp only [execOp, resolve, invoke, builtin, Sem.run_bind, Sem.run_pure, Result.andThen_ok, List.map_toArray, List.map_cons, List.map_nil, ha.opv hx, ha.opv hy]
      rw [show iv (l.length : Int) = .int .i64 l.length from rfl, hr]
      rfl
    rw [hrun]
    have hne : l.length ≠ 0 := fun h => h0 (List.eq_nil_of_length_eq_zero h)
    have e : ∃ o', w.freeze ⟨g, 0, none⟩ l.length = { w with heap := w.heap.setIfInBounds g o' } := by
      unfold World.freeze
      rw [if_neg hne]
      exact ⟨_, by rw [heap_setIf (show w.heap[(⟨g, 0, none⟩ : Addr).block]? = _ from hg)]⟩
    obtain ⟨o', e⟩ := e
    rw [e]
    exact ⟨_, hs, ⟨rfl, rfl, rfl⟩, Hp.base (a := ⟨W, ms⟩) (b := ⟨W, bdO b p v :: (g, o') :: ms⟩) ⟨rfl, .cons _ (.cons _ (.refl _))⟩ (hw.setObjA (.tail _ (.head _)))⟩
  · rintro a ha u w1 h ⟨rfl, rfl, rfl⟩
    unfold Rk at hk
    exact hk _ (ha.put hn _)
end
theorem shB' : sh Tryz.prog (Tryz.lays169_ren.t 37) = some (false, 1) := by kernel_rfl
theorem scB : sc Tryz.prog (Tryz.lays169_ren.t 37) = some (false, 1) := by kernel_rfl
theorem foB2 : fo Tryz.prog (Tryz.lays169_ren.t 72) 1 = some (1, false, 1) := by kernel_rfl
theorem x_String (B : Nat) (b : Nat) (l : List UInt8) (bm ms : List (Nat × Obj)) (hb : Bd b l bm) (h0 : l ≠ []) (hl : l.length ≤ 1000000) (W : World) (hs : HS) :
    FnW Tryz.prog 33 #[.pointer (some ⟨b, 0, none⟩)] B ⟨W, bm ++ ms⟩ hs (fun v w1 h => v = sv l ∧ h = hs ∧ w1 = ⟨W, ms⟩) := by
  cases hb with
  | fresh => exact absurd rfl h0
  | used g c _ z h1 h2 =>
    have hl0 : 0 < l.length := List.length_pos_iff.2 h0
    simp only [List.cons_append, List.nil_append]
    refine fn_enterW Tryz.func33 rfl Tryz.ntmps33 (by simp) ?_
    repeat' (first | ((with_reducible apply kRg 1); refine cDS [0, 0, 0, 0, 0, 0, 0, 0, 0, 0, 5, 0] hs ?_ (hS := List.Sublist.refl _)) | ((with_reducible apply kDP (.fieldAddr _ _ _)); refine dP ?_ (hX := rfl) (hv := o_fieldO rfl foB2 (bb0 _))) | ((with_reducible apply kDP (.load _ _)); refine dP ?_ (hX := rfl) (hv := o_load rfl (ld_one shB' (cellO (.head _) rfl)))) | ((with_reducible apply kDP (.call ⟨.builtin .unsafeSliceData, _, _⟩)); refine dP ?_ (hX := rfl) (hv := o_sliceData rfl (by omega))) | ((with_reducible apply kDP (.call ⟨.builtin .len, _, _⟩)); refine dP ?_ (hX := rfl) (hv := o_len scB rfl)) | ((with_reducible apply kDP (.call ⟨.builtin .unsafeString, _, _⟩)); refine k_uString rfl rfl h0 h1 hl (by decide) ?_) | (with_reducible first | refine c_seq ?_ | refine c_reg ?_ | refine c_region ?_ | refine c_block ?_ | refine c_skip ?_ | refine c_exit ?_ | refine c_ret ?_ | refine s_nil ?_ | refine x_then ?_ | refine x_then_exit ?_ | refine x_then_ret ?_ | refine x_block ?_ | refine x_block_ret ?_ | refine x_block_same ?_ | refine x_block_other (by first | rfl | decide) ?_ | refine q_nil ?_ | refine k_nil ?_) | ((with_reducible apply kP (.makeFunc _ _ _)); refine sMF ?_) | ((with_reducible apply kG); first | refine gY1 ?_ | refine gN1 ?_ | refine gU1 ?_ | (refine gD1 (fun h => ?_) (fun h => ?_) <;> (try (exfalso; omega))) | refine gB1 (fun h => ?_) (fun h => ?_)) | ((with_reducible apply kN); first | refine stP ?_ | refine stI ?_ | refine st1 ?_ | refine stW ?_) | ((with_reducible apply kP (.alloc _)); refine sA (fun b => ?_)) | ((with_reducible apply kP (.box _ _)); first | refine sBA (fun b => ?_) | refine sB (fun b => ?_)) | ((with_reducible apply kP (.buildSlice _ 1 _)); first | refine sl1A (fun b => ?_) | refine sl1 (fun b => ?_)) | ((with_reducible apply kP (.buildSlice _ 2 _)); refine sl2 (fun b => ?_)) | ((with_reducible apply kP (.buildSlice _ 3 _)); refine sl3 (fun b => ?_)) | ((with_reducible apply kP (.buildSlice _ 4 _)); refine sl4 (fun b => ?_)) | ((with_reducible apply kP (.buildSlice _ 0 _)); refine s_bs0 (scTOf rfl) (zsTOf rfl) (by decide) (fun b => ?_)) | ((with_reducible apply kP (.makeSlice _ _ _)); refine sMk (fun b => ?_)) | ((with_reducible apply kP (.call ⟨.builtin .append, _, _⟩)); refine sAp (fun oa2 c2 blk2 hrow2 => ?_)) | ((with_reducible apply kP _); refine sP ?_) | ((with_reducible apply kP _); refine sX ?_) | ((with_reducible apply kQG); first | refine qY1 ?_ | refine qN1 ?_ | refine qU1 ?_ | (refine qD1 (fun h => ?_) (fun h => ?_) <;> (try (exfalso; omega))) | refine qB1 (fun h => ?_) (fun h => ?_)) | ((with_reducible apply kQP); refine qP ?_) | ((with_reducible apply kQP); refine qX ?_) | ((with_reducible apply kC); first | refine cT ?_ | refine cF ?_ | (refine cI (fun h => ?_) (fun h => ?_) <;> (try (exfalso; omega))) | refine cB (fun h => ?_) (fun h => ?_)) | ((with_reducible apply kR); refine cQ ?_) | ((with_reducible apply kDG); first | refine dY1 ?_ | refine dNo1 ?_ | refine dU1 ?_ | (refine dD1 (fun h => ?_) (fun h => ?_) <;> (try (exfalso; omega))) | refine dB1 (fun h => ?_) (fun h => ?_)) | ((with_reducible apply kDN); first | refine dtI ?_ | refine dt1 ?_ | refine dtW ?_) | ((with_reducible apply kDP (.alloc _)); refine dA (fun b => ?_)) | ((with_reducible apply kDP (.box _ _)); first | refine dBA (fun b => ?_) | refine dB (fun b => ?_)) | ((with_reducible apply kDP (.buildSlice _ 1 _)); first | refine dl1A (fun b => ?_) | refine dl1 (fun b => ?_)) | ((with_reducible apply kDP (.call ⟨.builtin .append, _, _⟩)); first | refine dAp3 (fun oa2 c2 blk2 hrow2 => ?_) (hS := SCt) | refine dAp4 (fun oa2 c2 blk2 hrow2 => ?_)) | ((with_reducible apply kDP _); refine dP ?_) | ((with_reducible apply kDP _); refine dX ?_))
    exact e_retW1 (hs' := hs) rfl rfl ⟨rfl, rfl, rfl⟩ (.refl _)
end Go.Proofs.YtmblgbcipniecaaGreatDoor
