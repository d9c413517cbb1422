/- Texts of this claim, put together; the parts that it needs. -/
import Derived.Test.YtnbickholedckaaGreatDoorQ2
import Derived.DataElems
import Derived.ChangeKeysEq
import Derived.Laws.StructEq
import Derived.Laws.Closers25b
namespace Go.Proofs.YtnbickholedckaaGreatDoor
open Go.RowKit
section
variable {n : NN} {B : Nat} {w0 : Wd} {fr fr' : FR} {hs hs' : HS} {ty : TypeId} {K : Act → World → Prop} {Q : Exit → Act → World → Prop} {Ka : Act → Prop}
  {ops : Array Oper} {l : List Oper} {d : Nat} {pos : String} {aft : Array Edge} {v u : Value}
theorem kP (op : Op) (h : Sat n B w0 (sl Tryz.prog ops K (⟨some d, op, ty, pos, aft, none⟩ :: l)) fr hs) : Sat n B w0 (sl Tryz.prog ops K (⟨some d, op, ty, pos, aft, none⟩ :: l)) fr hs := h
theorem kF (f : Nat) {xs : Array Operand} {ts : Array TypeId} (h : Sat n B w0 (sl Tryz.prog ops K (⟨some d, .call ⟨.value (.func f), xs, ts⟩, ty, pos, aft, none⟩ :: l)) fr hs) : Sat n B w0 (sl Tryz.prog ops K (⟨some d, .call ⟨.value (.func f), xs, ts⟩, ty, pos, aft, none⟩ :: l)) fr hs := h
theorem kN {op : Op} (h : Sat n B w0 (sl Tryz.prog ops K (⟨none, op, ty, pos, aft, none⟩ :: l)) fr hs) : Sat n B w0 (sl Tryz.prog ops K (⟨none, op, ty, pos, aft, none⟩ :: l)) fr hs := h
theorem kG {op : Op} {o : Option Nat} {j : Nat} {b : Bool} (h : Sat n B w0 (sl Tryz.prog ops K (⟨o, op, ty, pos, aft, some (j, b)⟩ :: l)) fr hs) : Sat n B w0 (sl Tryz.prog ops K (⟨o, op, ty, pos, aft, some (j, b)⟩ :: l)) fr hs := h
theorem kQP {op : Op} (h : qn Tryz.prog n B w0 hs ops Ka (⟨some d, op, ty, pos, aft, none⟩ :: l) fr) : qn Tryz.prog n B w0 hs ops Ka (⟨some d, op, ty, pos, aft, none⟩ :: l) fr := h
theorem kQG {op : Op} {o : Option Nat} {j : Nat} {b : Bool} (h : qn Tryz.prog n B w0 hs ops Ka (⟨o, op, ty, pos, aft, some (j, b)⟩ :: l) fr) : qn Tryz.prog n B w0 hs ops Ka (⟨o, op, ty, pos, aft, some (j, b)⟩ :: l) fr := h
theorem kC {c : Operand} {x y : Code} (h : Sat n B w0 ((Code.cond c x y).wp Tryz.prog Q) fr hs) : Sat n B w0 ((Code.cond c x y).wp Tryz.prog Q) fr hs := h
theorem kR {id : Nat} {l : List Oper} (h : Sat n B w0 ((Code.region id l.toArray true).wp Tryz.prog Q) fr hs) : Sat n B w0 ((Code.region id l.toArray true).wp Tryz.prog Q) fr hs := h
theorem sP {op : Op} (h : Sat n B w0 (sl Tryz.prog ops K l) ((d, v) :: fr) hs) (hv : OpF Tryz.prog n B w0 op ty fr hs v := by first | ((with_reducible apply gO (.move _)); first | exact o_move rfl) | ((with_reducible apply gO (.assign _)); first | exact o_assign rfl) | ((with_reducible apply gO (.extract _ _)); first | exact o_extract rfl rfl) | ((with_reducible apply gO (.binOp .add _ _ _ _)); first | exact o_add rfl rfl ⟨by omega, by omega⟩ | exact o_add rfl rfl (by assumption)) | ((with_reducible apply gO (.binOp .sub _ _ _ _)); first | exact o_sub rfl rfl ⟨by omega, by omega⟩ | exact o_sub rfl rfl (by assumption)) | ((with_reducible apply gO (.binOp .mul _ _ _ _)); first | exact o_mul rfl rfl ⟨by omega, by omega⟩ | exact o_mul rfl rfl (by assumption)) | ((with_reducible apply gO (.binOp .lss _ _ _ _)); first | exact o_lss rfl rfl) | ((with_reducible apply gO (.binOp .leq _ _ _ _)); first | exact o_leq rfl rfl) | ((with_reducible apply gO (.binOp .gtr _ _ _ _)); first | exact o_gtr rfl rfl) | ((with_reducible apply gO (.binOp .geq _ _ _ _)); first | exact o_geq rfl rfl) | ((with_reducible apply gO (.binOp .eql _ _ _ _)); first | exact o_eql rfl rfl) | ((with_reducible apply gO (.binOp .neq _ _ _ _)); first | exact o_neq rfl rfl) | ((with_reducible apply gO (.binOp .quo _ _ _ _)); first | exact o_quo rfl rfl (by omega) (by omega) (by omega)) | ((with_reducible apply gO (.binOp .rem _ _ _ _)); first | exact o_rem rfl rfl (by omega) (by omega)) | ((with_reducible apply gO (.load _ _)); first | exact o_load rfl (ld_one (shTOf rfl) (Sl.at (by assumption) (by with_reducible first | exact sb0 | exact sb1 | exact sb2 | exact sb3 | exact sb4 | exact sb5 | exact sb6 | exact sb7 | exact sb8 | exact sbL | ((repeat (first | exact sb0 | exact sbL | refine .cons _ ?_ | refine sbA ?_)); done)) (by omega))) | exact o_load rfl (ld_one (shTOf rfl) (own (by with_reducible first | exact mm0 | exact mm1 | exact mm2 | exact mm3 | exact mm4 | exact mm5 | exact mm6 | exact mm7 | exact mm8 | ((repeat (first | exact mm0 | refine mmT ?_ | refine mmA ?_)); done)) (by first | rfl | assumption))) | exact o_load rfl (ld_one (shTOf rfl) (own_iv (by with_reducible first | exact mm0 | exact mm1 | exact mm2 | exact mm3 | exact mm4 | exact mm5 | exact mm6 | exact mm7 | exact mm8 | ((repeat (first | exact mm0 | refine mmT ?_ | refine mmA ?_)); done)) (by first | rfl | omega | (simp only [ivs_length, List.length_set]; omega) | (simp only [List.length_cons, List.length_nil]; omega) | assumption))) | exact o_load rfl (ld_whole (shTOf rfl) (by with_reducible first | exact mm0 | exact mm1 | exact mm2 | exact mm3 | exact mm4 | exact mm5 | exact mm6 | exact mm7 | exact mm8 | ((repeat (first | exact mm0 | refine mmT ?_ | refine mmA ?_)); done)) (by first | rfl | assumption | (rw [ivs_length]; assumption) | (simp only [ivs_length, List.length_set]; omega))) | exact o_load rfl (ld_two (shTOf rfl) (by with_reducible first | exact mm0 | exact mm1 | exact mm2 | exact mm3 | exact mm4 | exact mm5 | exact mm6 | exact mm7 | exact mm8 | ((repeat (first | exact mm0 | refine mmT ?_ | refine mmA ?_)); done)) rfl rfl) | exact o_load rfl (ld_one (shTOf rfl) (by assumption)) | exact o_load rfl (by assumption)) | ((with_reducible apply gO (.indexAddr _ _ _)); first | exact o_indexO (arTOf rfl) rfl rfl (by with_reducible first | exact nn0 _ | exact nn1 _ | exact nn6 | exact nn7 | exact nn8 | exact nn2 _ _ | exact nn4 (by omega) | exact nn5 (by omega) | exact nn3 (by omega)) (by with_reducible first | exact aa4 _ | exact aa5 _ | exact aa6 _ _ | exact aa7 _ _ | exact aa0 _ | exact aa1 _ _ | exact aa2 _ _ | exact aa3 _ _ _) (by omega) | exact o_indexB (scTOf rfl) rfl rfl (by with_reducible first | exact nn0 _ | exact nn1 _ | exact nn6 | exact nn7 | exact nn8 | exact nn2 _ _ | exact nn4 (by omega) | exact nn5 (by omega) | exact nn3 (by omega)) (by with_reducible first | exact aa4 _ | exact aa5 _ | exact aa6 _ _ | exact aa7 _ _ | exact aa0 _ | exact aa1 _ _ | exact aa2 _ _ | exact aa3 _ _ _) (by omega) | exact o_indexS (scTOf rfl) rfl rfl (by with_reducible first | exact nn0 _ | exact nn1 _ | exact nn6 | exact nn7 | exact nn8 | exact nn2 _ _ | exact nn4 (by omega) | exact nn5 (by omega) | exact nn3 (by omega)) (by with_reducible first | exact aa4 _ | exact aa5 _ | exact aa6 _ _ | exact aa7 _ _ | exact aa0 _ | exact aa1 _ _ | exact aa2 _ _ | exact aa3 _ _ _) (by first | assumption | exact Sl.any (by assumption) (by omega)) (by omega)) | ((with_reducible apply gO (.index _ _ _)); first | exact o_index2 (arTOf rfl) rfl rfl (by with_reducible first | exact nn0 _ | exact nn1 _ | exact nn6 | exact nn7 | exact nn8 | exact nn2 _ _ | exact nn4 (by omega) | exact nn5 (by omega) | exact nn3 (by omega)) (by omega) (by omega) | exact o_index1 (arTOf rfl) rfl rfl (by with_reducible first | exact nn0 _ | exact nn1 _ | exact nn6 | exact nn7 | exact nn8 | exact nn2 _ _ | exact nn4 (by omega) | exact nn5 (by omega) | exact nn3 (by omega)) (by omega) (by omega) | exact o_index (arTOf rfl) rfl rfl (by omega) (by omega) rfl) | ((with_reducible apply gO (.fieldAddr _ _ _)); first | exact o_fieldO rfl (foTOf2 rfl rfl) (by with_reducible first | exact bb0 _ | exact bb1 _ | exact bb2 _ _)) | ((with_reducible apply gO (.field _ _ _)); first | exact o_field rfl (foTOf2 rfl rfl) rfl) | ((with_reducible apply gO (.call ⟨.builtin .len, _, _⟩)); first | exact o_len (scTOf rfl) rfl) | ((with_reducible apply gO (.call ⟨.builtin .max, _, _⟩)); first | exact o_max rfl rfl) | ((with_reducible apply gO (.call ⟨.builtin .min, _, _⟩)); first | exact o_min rfl rfl) | ((with_reducible apply gO (.unOp .not _ _)); first | exact o_notD rfl | exact o_not rfl) | ((with_reducible apply gO (.unOp .neg _ _)); first | exact o_neg rfl ⟨by omega, by omega⟩) | ((with_reducible apply gO (.pick _ _ _)); first | exact o_pick_t rfl rfl | exact o_pick_f rfl rfl | exact o_pick rfl rfl rfl) | ((with_reducible apply gO (.nilCheck _)); first | exact o_nilCheck rfl) | ((with_reducible apply gO (.build _ _)); first | exact o_bld0 (zcTOf rfl) (plTOf rfl) | exact o_bld2 rfl rfl rfl rfl (zcTOf rfl) (plTOf rfl) | exact o_bld3 rfl rfl rfl rfl rfl rfl (zcTOf rfl) (plTOf rfl) | exact o_build rfl (zcTOf rfl) (plTOf rfl) rfl)) (hn : d < n.n := by first | decide | exact ltd rfl) :
    Sat n B w0 (sl Tryz.prog ops K (⟨some d, op, ty, pos, aft, none⟩ :: l)) fr hs := s_pure hv hn h
theorem qP {op : Op} (h : qn Tryz.prog n B w0 hs ops Ka l ((d, v) :: fr)) (hv : OpF Tryz.prog n B w0 op ty fr hs v := by first | ((with_reducible apply gO (.move _)); first | exact o_move rfl) | ((with_reducible apply gO (.assign _)); first | exact o_assign rfl) | ((with_reducible apply gO (.extract _ _)); first | exact o_extract rfl rfl) | ((with_reducible apply gO (.binOp .add _ _ _ _)); first | exact o_add rfl rfl ⟨by omega, by omega⟩ | exact o_add rfl rfl (by assumption)) | ((with_reducible apply gO (.binOp .sub _ _ _ _)); first | exact o_sub rfl rfl ⟨by omega, by omega⟩ | exact o_sub rfl rfl (by assumption)) | ((with_reducible apply gO (.binOp .mul _ _ _ _)); first | exact o_mul rfl rfl ⟨by omega, by omega⟩ | exact o_mul rfl rfl (by assumption)) | ((with_reducible apply gO (.binOp .lss _ _ _ _)); first | exact o_lss rfl rfl) | ((with_reducible apply gO (.binOp .leq _ _ _ _)); first | exact o_leq rfl rfl) | ((with_reducible apply gO (.binOp .gtr _ _ _ _)); first | exact o_gtr rfl rfl) | ((with_reducible apply gO (.binOp .geq _ _ _ _)); first | exact o_geq rfl rfl) | ((with_reducible apply gO (.binOp .eql _ _ _ _)); first | exact o_eql rfl rfl) | ((with_reducible apply gO (.binOp .neq _ _ _ _)); first | exact o_neq rfl rfl) | ((with_reducible apply gO (.binOp .quo _ _ _ _)); first | exact o_quo rfl rfl (by omega) (by omega) (by omega)) | ((with_reducible apply gO (.binOp .rem _ _ _ _)); first | exact o_rem rfl rfl (by omega) (by omega)) | ((with_reducible apply gO (.load _ _)); first | exact o_load rfl (ld_one (shTOf rfl) (Sl.at (by assumption) (by with_reducible first | exact sb0 | exact sb1 | exact sb2 | exact sb3 | exact sb4 | exact sb5 | exact sb6 | exact sb7 | exact sb8 | exact sbL | ((repeat (first | exact sb0 | exact sbL | refine .cons _ ?_ | refine sbA ?_)); done)) (by omega))) | exact o_load rfl (ld_one (shTOf rfl) (own (by with_reducible first | exact mm0 | exact mm1 | exact mm2 | exact mm3 | exact mm4 | exact mm5 | exact mm6 | exact mm7 | exact mm8 | ((repeat (first | exact mm0 | refine mmT ?_ | refine mmA ?_)); done)) (by first | rfl | assumption))) | exact o_load rfl (ld_one (shTOf rfl) (own_iv (by with_reducible first | exact mm0 | exact mm1 | exact mm2 | exact mm3 | exact mm4 | exact mm5 | exact mm6 | exact mm7 | exact mm8 | ((repeat (first | exact mm0 | refine mmT ?_ | refine mmA ?_)); done)) (by first | rfl | omega | (simp only [ivs_length, List.length_set]; omega) | (simp only [List.length_cons, List.length_nil]; omega) | assumption))) | exact o_load rfl (ld_whole (shTOf rfl) (by with_reducible first | exact mm0 | exact mm1 | exact mm2 | exact mm3 | exact mm4 | exact mm5 | exact mm6 | exact mm7 | exact mm8 | ((repeat (first | exact mm0 | refine mmT ?_ | refine mmA ?_)); done)) (by first | rfl | assumption | (rw [ivs_length]; assumption) | (simp only [ivs_length, List.length_set]; omega))) | exact o_load rfl (ld_two (shTOf rfl) (by with_reducible first | exact mm0 | exact mm1 | exact mm2 | exact mm3 | exact mm4 | exact mm5 | exact mm6 | exact mm7 | exact mm8 | ((repeat (first | exact mm0 | refine mmT ?_ | refine mmA ?_)); done)) rfl rfl) | exact o_load rfl (ld_one (shTOf rfl) (by assumption)) | exact o_load rfl (by assumption)) | ((with_reducible apply gO (.indexAddr _ _ _)); first | exact o_indexO (arTOf rfl) rfl rfl (by with_reducible first | exact nn0 _ | exact nn1 _ | exact nn6 | exact nn7 | exact nn8 | exact nn2 _ _ | exact nn4 (by omega) | exact nn5 (by omega) | exact nn3 (by omega)) (by with_reducible first | exact aa4 _ | exact aa5 _ | exact aa6 _ _ | exact aa7 _ _ | exact aa0 _ | exact aa1 _ _ | exact aa2 _ _ | exact aa3 _ _ _) (by omega) | exact o_indexB (scTOf rfl) rfl rfl (by with_reducible first | exact nn0 _ | exact nn1 _ | exact nn6 | exact nn7 | exact nn8 | exact nn2 _ _ | exact nn4 (by omega) | exact nn5 (by omega) | exact nn3 (by omega)) (by with_reducible first | exact aa4 _ | exact aa5 _ | exact aa6 _ _ | exact aa7 _ _ | exact aa0 _ | exact aa1 _ _ | exact aa2 _ _ | exact aa3 _ _ _) (by omega) | exact o_indexS (scTOf rfl) rfl rfl (by with_reducible first | exact nn0 _ | exact nn1 _ | exact nn6 | exact nn7 | exact nn8 | exact nn2 _ _ | exact nn4 (by omega) | exact nn5 (by omega) | exact nn3 (by omega)) (by with_reducible first | exact aa4 _ | exact aa5 _ | exact aa6 _ _ | exact aa7 _ _ | exact aa0 _ | exact aa1 _ _ | exact aa2 _ _ | exact aa3 _ _ _) (by first | assumption | exact Sl.any (by assumption) (by omega)) (by omega)) | ((with_reducible apply gO (.index _ _ _)); first | exact o_index2 (arTOf rfl) rfl rfl (by with_reducible first | exact nn0 _ | exact nn1 _ | exact nn6 | exact nn7 | exact nn8 | exact nn2 _ _ | exact nn4 (by omega) | exact nn5 (by omega) | exact nn3 (by omega)) (by omega) (by omega) | exact o_index1 (arTOf rfl) rfl rfl (by with_reducible first | exact nn0 _ | exact nn1 _ | exact nn6 | exact nn7 | exact nn8 | exact nn2 _ _ | exact nn4 (by omega) | exact nn5 (by omega) | exact nn3 (by omega)) (by omega) (by omega) | exact o_index (arTOf rfl) rfl rfl (by omega) (by omega) rfl) | ((with_reducible apply gO (.fieldAddr _ _ _)); first | exact o_fieldO rfl (foTOf2 rfl rfl) (by with_reducible first | exact bb0 _ | exact bb1 _ | exact bb2 _ _)) | ((with_reducible apply gO (.field _ _ _)); first | exact o_field rfl (foTOf2 rfl rfl) rfl) | ((with_reducible apply gO (.call ⟨.builtin .len, _, _⟩)); first | exact o_len (scTOf rfl) rfl) | ((with_reducible apply gO (.call ⟨.builtin .max, _, _⟩)); first | exact o_max rfl rfl) | ((with_reducible apply gO (.call ⟨.builtin .min, _, _⟩)); first | exact o_min rfl rfl) | ((with_reducible apply gO (.unOp .not _ _)); first | exact o_notD rfl | exact o_not rfl) | ((with_reducible apply gO (.unOp .neg _ _)); first | exact o_neg rfl ⟨by omega, by omega⟩) | ((with_reducible apply gO (.pick _ _ _)); first | exact o_pick_t rfl rfl | exact o_pick_f rfl rfl | exact o_pick rfl rfl rfl) | ((with_reducible apply gO (.nilCheck _)); first | exact o_nilCheck rfl) | ((with_reducible apply gO (.build _ _)); first | exact o_bld0 (zcTOf rfl) (plTOf rfl) | exact o_bld2 rfl rfl rfl rfl (zcTOf rfl) (plTOf rfl) | exact o_bld3 rfl rfl rfl rfl rfl rfl (zcTOf rfl) (plTOf rfl) | exact o_build rfl (zcTOf rfl) (plTOf rfl) rfl)) (hn : d < n.n := by first | decide | exact ltd rfl) :
    qn Tryz.prog n B w0 hs ops Ka (⟨some d, op, ty, pos, aft, none⟩ :: l) fr := q_pure hv hn h
theorem sA {t : TypeId} {z : List Value} (h : ∀ b, Sat n B w0 (sl Tryz.prog ops K l) ((d, .pointer (some ⟨b, 0, none⟩)) :: fr) ((b, z) :: hs)) (hz : getT zcT t = some z := by rfl) (hn : d < n.n := by first | decide | exact ltd rfl) :
    Sat n B w0 (sl Tryz.prog ops K (⟨some d, .alloc t, ty, pos, aft, none⟩ :: l)) fr hs := s_alloc (zcTOf hz) hn h
theorem sBA {t : TypeId} {x : Operand} {cs : List Value} (h : ∀ b, Sat n B w0 (sl Tryz.prog ops K l) ((d, .pointer (some ⟨b, 0, none⟩)) :: fr) ((b, cs) :: hs)) (hx : opv fr x = some (.agg cs.toArray) := by rfl) (hn : d < n.n := by first | decide | exact ltd rfl) :
    Sat n B w0 (sl Tryz.prog ops K (⟨some d, .box t x, ty, pos, aft, none⟩ :: l)) fr hs := s_boxA hx hn h
theorem sB {t : TypeId} {x : Operand} (h : ∀ b, Sat n B w0 (sl Tryz.prog ops K l) ((d, .pointer (some ⟨b, 0, none⟩)) :: fr) ((b, [v]) :: hs)) (hx : opv fr x = some v := by rfl) (hv : v.cells = #[v] := by rfl) (hn : d < n.n := by first | decide | exact ltd rfl) :
    Sat n B w0 (sl Tryz.prog ops K (⟨some d, .box t x, ty, pos, aft, none⟩ :: l)) fr hs := s_box hx hn (fun b => by have := h b; rw [hv]; exact this)
theorem stW {t : TypeId} {x y : Operand} {b k : Nat} {bb : Bool} {cs vs : List Value} (h : Sat n B w0 (sl Tryz.prog ops K l) fr hs') (hx : opv fr x = some (.pointer (some ⟨b, 0, none⟩)) := by rfl) (hy : opv fr y = some v := by rfl) (hv : v.cells = vs.toArray := by rfl) (ht : getT shT t = some (bb, k) := by rfl) (hk : vs.length = k := by first | rfl | assumption | (rw [ivs_length]; assumption) | (simp only [ivs_length, List.length_set]; omega))
    (hf : Flat vs := by first | (with_reducible exact flat_iv _) | exact flat1 rfl | exact flat2 rfl rfl | exact flat3 rfl rfl rfl | exact flat0 | assumption) (hu : Upd b cs vs hs hs' := by with_reducible first | exact uu0 | exact uu1 | exact uu2 | exact uu3 | exact uu4 | exact uu5 | exact uu6 | exact uu7 | exact uu8 | ((repeat (first | exact uu0 | apply Upd.tail | apply Upd.app)); done)) (hl : cs.length = k := by first | rfl | assumption | (rw [ivs_length]; assumption) | (simp only [ivs_length, List.length_set]; omega)) :
    Sat n B w0 (sl Tryz.prog ops K (⟨none, .store t x y, ty, pos, aft, none⟩ :: l)) fr hs := s_storeW hx hy hv (shTOf ht) hk hf hu hl h
theorem st1 {t : TypeId} {x y : Operand} {b o : Nat} {cs : List Value} (h : Sat n B w0 (sl Tryz.prog ops K l) fr hs') (hx : opv fr x = some (.pointer (some ⟨b, o, none⟩)) := by rfl) (hy : opv fr y = some v := by rfl) (hv : v.cells = #[v] := by rfl) (h1 : v.oneCell' = true := by rfl) (ht : getT shT t = some (false, 1) := by rfl)
    (hu : Upd b cs (cs.set o v) hs hs' := by with_reducible first | exact uu0 | exact uu1 | exact uu2 | exact uu3 | exact uu4 | exact uu5 | exact uu6 | exact uu7 | exact uu8 | ((repeat (first | exact uu0 | apply Upd.tail | apply Upd.app)); done)) (hl : o < cs.length := by first | rfl | omega | (simp only [ivs_length, List.length_set]; omega) | (simp only [List.length_cons, List.length_nil]; omega) | assumption) :
    Sat n B w0 (sl Tryz.prog ops K (⟨none, .store t x y, ty, pos, aft, none⟩ :: l)) fr hs := s_store1 hx hy hv h1 (shTOf ht) hu hl h
theorem stI {t : TypeId} {x y : Operand} {b o : Nat} {m : List Int} {z : Int} (h : Sat n B w0 (sl Tryz.prog ops K l) fr hs') (hx : opv fr x = some (.pointer (some ⟨b, o, none⟩)) := by rfl) (hy : opv fr y = some (iv z) := by rfl) (ht : getT shT t = some (false, 1) := by rfl)
    (hu : Upd b (ivs m) (ivs (m.set o z)) hs hs' := by with_reducible first | exact uu0 | exact uu1 | exact uu2 | exact uu3 | exact uu4 | exact uu5 | exact uu6 | exact uu7 | exact uu8 | ((repeat (first | exact uu0 | apply Upd.tail | apply Upd.app)); done)) (hl : o < m.length := by first | rfl | omega | (simp only [ivs_length, List.length_set]; omega) | (simp only [List.length_cons, List.length_nil]; omega) | assumption) :
    Sat n B w0 (sl Tryz.prog ops K (⟨none, .store t x y, ty, pos, aft, none⟩ :: l)) fr hs := s_storeI hx hy (shTOf ht) hu hl h
theorem stP {t : TypeId} {x y : Operand} {b o : Nat} {m : List Int} {z z' : Int} (h : Sat n B w0 (sl Tryz.prog ops K l) fr hs') (hx : opv fr x = some (.pointer (some ⟨b, o, none⟩)) := by rfl) (hy : opv fr y = some (.agg #[iv z, iv z']) := by rfl) (ht : getT shT t = some (true, 2) := by rfl)
    (hu : Upd b (ivs m) (ivs ((m.set o z).set (o + 1) z')) hs hs' := by with_reducible first | exact uu0 | exact uu1 | exact uu2 | exact uu3 | exact uu4 | exact uu5 | exact uu6 | exact uu7 | exact uu8 | ((repeat (first | exact uu0 | apply Upd.tail | apply Upd.app)); done)) (hl : o + 1 < m.length := by first | rfl | omega | (simp only [ivs_length, List.length_set]; omega) | (simp only [List.length_cons, List.length_nil]; omega) | assumption) :
    Sat n B w0 (sl Tryz.prog ops K (⟨none, .store t x y, ty, pos, aft, none⟩ :: l)) fr hs := s_storeP hx hy (shTOf ht) hu hl h
theorem sl1A {t : TypeId} {x : Operand} {cs : List Value} {z : List Value} {b : Bool} {k : Nat} (h : ∀ bb, Sat n B w0 (sl Tryz.prog ops K l) ((d, .slice (some ⟨bb, 0, none⟩) 1 1) :: fr) ((bb, cs) :: hs)) (hx : opv fr x = some (.agg cs.toArray) := by rfl) (ht : getT scT t = some (b, k) := by rfl) (hz : getT zsT t = some z := by rfl) (hk : cs.length = k := by first | rfl | assumption | (rw [ivs_length]; assumption) | (simp only [ivs_length, List.length_set]; omega)) (hk2 : k ≤ 1000 := by first | decide | exact ltd rfl) (hn : d < n.n := by first | decide | exact ltd rfl) :
    Sat n B w0 (sl Tryz.prog ops K (⟨some d, .buildSlice t 1 #[(0, x)], ty, pos, aft, none⟩ :: l)) fr hs := s_bs1A hx (scTOf ht) (zsTOf hz) hk hk2 hn h
theorem sl1 {t : TypeId} {x : Operand} {z : List Value} {b : Bool} (h : ∀ bb, Sat n B w0 (sl Tryz.prog ops K l) ((d, .slice (some ⟨bb, 0, none⟩) 1 1) :: fr) ((bb, [v]) :: hs)) (hx : opv fr x = some v := by rfl) (h1 : v.cells = #[v] := by rfl) (ht : getT scT t = some (b, 1) := by rfl) (hz : getT zsT t = some z := by rfl) (hn : d < n.n := by first | decide | exact ltd rfl) :
    Sat n B w0 (sl Tryz.prog ops K (⟨some d, .buildSlice t 1 #[(0, x)], ty, pos, aft, none⟩ :: l)) fr hs := s_bs1 hx h1 (scTOf ht) (zsTOf hz) hn h
theorem sl2 {t : TypeId} {x y : Operand} {z : List Value} {b : Bool} (h : ∀ bb, Sat n B w0 (sl Tryz.prog ops K l) ((d, .slice (some ⟨bb, 0, none⟩) 2 2) :: fr) ((bb, [v, u]) :: hs)) (hx : opv fr x = some v := by rfl) (hy : opv fr y = some u := by rfl) (h1 : v.cells = #[v] := by rfl) (h2 : u.cells = #[u] := by rfl) (ht : getT scT t = some (b, 1) := by rfl) (hz : getT zsT t = some z := by rfl) (hn : d < n.n := by first | decide | exact ltd rfl) :
    Sat n B w0 (sl Tryz.prog ops K (⟨some d, .buildSlice t 2 #[(0, x), (1, y)], ty, pos, aft, none⟩ :: l)) fr hs := s_bs2 hx hy h1 h2 (scTOf ht) (zsTOf hz) hn h
theorem sl3 {t : TypeId} {x y q : Operand} {r : Value} {z : List Value} {b : Bool} (h : ∀ bb, Sat n B w0 (sl Tryz.prog ops K l) ((d, .slice (some ⟨bb, 0, none⟩) 3 3) :: fr) ((bb, [v, u, r]) :: hs)) (hx : opv fr x = some v := by rfl) (hy : opv fr y = some u := by rfl) (hq : opv fr q = some r := by rfl) (h1 : v.cells = #[v] := by rfl) (h2 : u.cells = #[u] := by rfl) (h3 : r.cells = #[r] := by rfl) (ht : getT scT t = some (b, 1) := by rfl) (hz : getT zsT t = some z := by rfl) (hn : d < n.n := by first | decide | exact ltd rfl) :
    Sat n B w0 (sl Tryz.prog ops K (⟨some d, .buildSlice t 3 #[(0, x), (1, y), (2, q)], ty, pos, aft, none⟩ :: l)) fr hs := s_bs3 hx hy hq h1 h2 h3 (scTOf ht) (zsTOf hz) hn h
theorem sl4 {t : TypeId} {x y q p : Operand} {r s : Value} {z : List Value} {b : Bool} (h : ∀ bb, Sat n B w0 (sl Tryz.prog ops K l) ((d, .slice (some ⟨bb, 0, none⟩) 4 4) :: fr) ((bb, [v, u, r, s]) :: hs)) (hx : opv fr x = some v := by rfl) (hy : opv fr y = some u := by rfl) (hq : opv fr q = some r := by rfl) (hp : opv fr p = some s := by rfl) (h1 : v.cells = #[v] := by rfl) (h2 : u.cells = #[u] := by rfl) (h3 : r.cells = #[r] := by rfl) (h4 : s.cells = #[s] := by rfl) (ht : getT scT t = some (b, 1) := by rfl) (hz : getT zsT t = some z := by rfl) (hn : d < n.n := by first | decide | exact ltd rfl) :
    Sat n B w0 (sl Tryz.prog ops K (⟨some d, .buildSlice t 4 #[(0, x), (1, y), (2, q), (3, p)], ty, pos, aft, none⟩ :: l)) fr hs := s_bs4 hx hy hq hp h1 h2 h3 h4 (scTOf ht) (zsTOf hz) hn h
theorem cT {c : Operand} {x y : Code} (h : Sat n B w0 (x.wp Tryz.prog Q) fr hs) (hc : opv fr c = some (.bool true) := by rfl) : Sat n B w0 ((Code.cond c x y).wp Tryz.prog Q) fr hs := c_cond_t hc h
theorem cF {c : Operand} {x y : Code} (h : Sat n B w0 (y.wp Tryz.prog Q) fr hs) (hc : opv fr c = some (.bool false) := by rfl) : Sat n B w0 ((Code.cond c x y).wp Tryz.prog Q) fr hs := c_cond_f hc h
theorem cI {c : Operand} {x y : Code} {p : Prop} [Decidable p] (ht : p → Sat n B w0 (x.wp Tryz.prog Q) fr hs) (hf : ¬ p → Sat n B w0 (y.wp Tryz.prog Q) fr hs) (hc : opv fr c = some (.bool (decide p)) := by rfl) : Sat n B w0 ((Code.cond c x y).wp Tryz.prog Q) fr hs := c_cond hc ht hf
theorem cB {c : Operand} {x y : Code} {b : Bool} (ht : b = true → Sat n B w0 (x.wp Tryz.prog Q) fr hs) (hf : b = false → Sat n B w0 (y.wp Tryz.prog Q) fr hs) (hc : opv fr c = some (.bool b) := by rfl) : Sat n B w0 ((Code.cond c x y).wp Tryz.prog Q) fr hs := c_cond_b hc ht hf
theorem gY1 {op : Op} {o : Option Nat} {j dj : Nat} {b : Bool} (h : Sat n B w0 (sl Tryz.prog ops K (⟨o, op, ty, pos, aft, none⟩ :: l)) fr hs) (hj : (ops[j]?).bind (·.dst) = some dj := by rfl) (hb : get fr dj = some (.bool b) := by rfl) : Sat n B w0 (sl Tryz.prog ops K (⟨o, op, ty, pos, aft, some (j, b)⟩ :: l)) fr hs := s_yes hj hb h
theorem gN1 {op : Op} {j dj : Nat} {b b' : Bool} (h : Sat n B w0 (sl Tryz.prog ops K l) ((d, undef) :: fr) hs) (hj : (ops[j]?).bind (·.dst) = some dj := by rfl) (hb : get fr dj = some (.bool b') := by rfl) (hbb : b' = !b := by rfl) (hn : d < n.n := by first | decide | exact ltd rfl) : Sat n B w0 (sl Tryz.prog ops K (⟨some d, op, ty, pos, aft, some (j, b)⟩ :: l)) fr hs := s_no hj hb hbb hn h
theorem gU1 {op : Op} {j dj : Nat} {b : Bool} (h : Sat n B w0 (sl Tryz.prog ops K l) ((d, undef) :: fr) hs) (hj : (ops[j]?).bind (·.dst) = some dj := by rfl) (hb : get fr dj = some (.tuple #[]) := by rfl) (hn : d < n.n := by first | decide | exact ltd rfl) : Sat n B w0 (sl Tryz.prog ops K (⟨some d, op, ty, pos, aft, some (j, b)⟩ :: l)) fr hs := s_und hj hb hn h
theorem gD1 {op : Op} {o : Option Nat} {j dj : Nat} {b : Bool} {p : Prop} [Decidable p]
    (ht : p → Sat n B w0 (sl Tryz.prog ops K (⟨o, op, ty, pos, aft, some (j, b)⟩ :: l)) ((dj, .bool true) :: fr) hs) (hf : ¬ p → Sat n B w0 (sl Tryz.prog ops K (⟨o, op, ty, pos, aft, some (j, b)⟩ :: l)) ((dj, .bool false) :: fr) hs) (hj : (ops[j]?).bind (·.dst) = some dj := by rfl) (hb : get fr dj = some (.bool (decide p)) := by rfl) :
    Sat n B w0 (sl Tryz.prog ops K (⟨o, op, ty, pos, aft, some (j, b)⟩ :: l)) fr hs := s_dec hj hb ht hf
theorem gB1 {op : Op} {o : Option Nat} {j dj : Nat} {b c : Bool}
    (ht : c = true → Sat n B w0 (sl Tryz.prog ops K (⟨o, op, ty, pos, aft, some (j, b)⟩ :: l)) ((dj, .bool true) :: fr) hs) (hf : c = false → Sat n B w0 (sl Tryz.prog ops K (⟨o, op, ty, pos, aft, some (j, b)⟩ :: l)) ((dj, .bool false) :: fr) hs) (hj : (ops[j]?).bind (·.dst) = some dj := by rfl) (hb : get fr dj = some (.bool c) := by rfl) :
    Sat n B w0 (sl Tryz.prog ops K (⟨o, op, ty, pos, aft, some (j, b)⟩ :: l)) fr hs := s_decb hj hb ht hf
theorem qY1 {op : Op} {o : Option Nat} {j dj : Nat} {b : Bool} (h : qn Tryz.prog n B w0 hs ops Ka (⟨o, op, ty, pos, aft, none⟩ :: l) fr) (hj : (ops[j]?).bind (·.dst) = some dj := by rfl) (hb : get fr dj = some (.bool b) := by rfl) : qn Tryz.prog n B w0 hs ops Ka (⟨o, op, ty, pos, aft, some (j, b)⟩ :: l) fr := q_yes hj hb h
theorem qN1 {op : Op} {j dj : Nat} {b b' : Bool} (h : qn Tryz.prog n B w0 hs ops Ka l ((d, undef) :: fr)) (hj : (ops[j]?).bind (·.dst) = some dj := by rfl) (hb : get fr dj = some (.bool b') := by rfl) (hbb : b' = !b := by rfl) (hn : d < n.n := by first | decide | exact ltd rfl) : qn Tryz.prog n B w0 hs ops Ka (⟨some d, op, ty, pos, aft, some (j, b)⟩ :: l) fr := q_no hj hb hbb hn h
theorem qU1 {op : Op} {j dj : Nat} {b : Bool} (h : qn Tryz.prog n B w0 hs ops Ka l ((d, undef) :: fr)) (hj : (ops[j]?).bind (·.dst) = some dj := by rfl) (hb : get fr dj = some (.tuple #[]) := by rfl) (hn : d < n.n := by first | decide | exact ltd rfl) : qn Tryz.prog n B w0 hs ops Ka (⟨some d, op, ty, pos, aft, some (j, b)⟩ :: l) fr := q_und hj hb hn h
theorem qD1 {op : Op} {o : Option Nat} {j dj : Nat} {b : Bool} {p : Prop} [Decidable p]
    (ht : p → qn Tryz.prog n B w0 hs ops Ka (⟨o, op, ty, pos, aft, some (j, b)⟩ :: l) ((dj, .bool true) :: fr)) (hf : ¬ p → qn Tryz.prog n B w0 hs ops Ka (⟨o, op, ty, pos, aft, some (j, b)⟩ :: l) ((dj, .bool false) :: fr)) (hj : (ops[j]?).bind (·.dst) = some dj := by rfl) (hb : get fr dj = some (.bool (decide p)) := by rfl) :
    qn Tryz.prog n B w0 hs ops Ka (⟨o, op, ty, pos, aft, some (j, b)⟩ :: l) fr := q_dec hj hb ht hf
theorem qB1 {op : Op} {o : Option Nat} {j dj : Nat} {b c : Bool}
    (ht : c = true → qn Tryz.prog n B w0 hs ops Ka (⟨o, op, ty, pos, aft, some (j, b)⟩ :: l) ((dj, .bool true) :: fr)) (hf : c = false → qn Tryz.prog n B w0 hs ops Ka (⟨o, op, ty, pos, aft, some (j, b)⟩ :: l) ((dj, .bool false) :: fr)) (hj : (ops[j]?).bind (·.dst) = some dj := by rfl) (hb : get fr dj = some (.bool c) := by rfl) :
    qn Tryz.prog n B w0 hs ops Ka (⟨o, op, ty, pos, aft, some (j, b)⟩ :: l) fr := q_decb hj hb ht hf
theorem cQ {id : Nat} {l : List Oper} (h : qn Tryz.prog n B w0 hs l.toArray (fun a' => ∀ w', Hp B w0 w' hs → Q .normal a' w') l fr) (hB : Region.lexB .any l.toArray = true := by kernel_rfl) : Sat n B w0 ((Code.region id l.toArray true).wp Tryz.prog Q) fr hs := c_quiet mixed hB h
theorem sC (f : Nat) {xs : List Operand} {vs : List Value} {ts : Array TypeId} (hc : Fn Tryz.prog f vs.toArray B w0 hs (fun u hs' => u = v ∧ hs' = hs)) (h : Sat n B w0 (sl Tryz.prog ops K l) ((d, v) :: fr) hs) (hf : getT goT f = some () := by rfl) (hv : argv fr xs = some vs := by rfl) (hn : d < n.n := by first | decide | exact ltd rfl) :
    Sat n B w0 (sl Tryz.prog ops K (⟨some d, .call { callee := .value (.func f), args := xs.toArray, argTypes := ts }, ty, pos, aft, none⟩ :: l)) fr hs := s_callV (goTOf hf) hv hc hn h
theorem sR (f : Nat) {xs : List Operand} {vs : List Value} {ts : Array TypeId} {R : Value → HS → Prop} (hc : Fn Tryz.prog f vs.toArray B w0 hs R) (h : ∀ v hs', R v hs' → Sat n B w0 (sl Tryz.prog ops K l) ((d, v) :: fr) hs') (hf : getT goT f = some () := by rfl) (hv : argv fr xs = some vs := by rfl) (hn : d < n.n := by first | decide | exact ltd rfl) :
    Sat n B w0 (sl Tryz.prog ops K (⟨some d, .call { callee := .value (.func f), args := xs.toArray, argTypes := ts }, ty, pos, aft, none⟩ :: l)) fr hs := s_call (goTOf hf) hv hc hn h
theorem sMk {t : TypeId} {bytes k : Nat} {m : Int} {x y : Operand} (h : ∀ b, Sat n B w0 (sl Tryz.prog ops K l) ((d, .slice (some ⟨b, 0, none⟩) k k) :: fr) ((b, ivs (List.replicate k 0)) :: hs)) (hap : getT apT t = some (1, bytes) := by rfl) (hz : getT zsT t = some [Value.int .i64 0] := by rfl) (hx : opv fr x = some (.int .i64 m) := by rfl) (hy : opv fr y = some (.int .i64 m) := by rfl) (hm : m = (k : Int) := by with_reducible first | exact nn0 _ | exact nn1 _ | exact nn6 | exact nn7 | exact nn8 | exact nn2 _ _ | exact nn3 (by omega)) (hb : k ≤ 1000000 := by omega) (hby : bytes ≤ 1000000 := by first | decide | exact ltd rfl) (hn : d < n.n := by first | decide | exact ltd rfl) :
    Sat n B w0 (sl Tryz.prog ops K (⟨some d, .makeSlice t x y, ty, pos, aft, none⟩ :: l)) fr hs := s_makeI (apTOf hap) (zsTOf hz) hx hy hm hb hby hn h
/-! ### Regions that draw their order and write memory -/
theorem kRg (id : Nat) {l : List Oper} (h : Sat n B w0 ((Code.region id l.toArray true).wp Tryz.prog Q) fr hs) : Sat n B w0 ((Code.region id l.toArray true).wp Tryz.prog Q) fr hs := h
theorem cD (fl : List Nat) {id : Nat} {l : List Oper} (h : Rk Tryz.prog n B w0 l.toArray (Q .normal) fl l hs fr hs) (hc : chk l fl = true := by kernel_rfl) : Sat n B w0 ((Code.region id l.toArray true).wp Tryz.prog Q) fr hs := c_drawnR fl hs (List.Sublist.refl _) mixed hc h
theorem cDS (fl : List Nat) (S : HS) {id : Nat} {l : List Oper} (h : Rk Tryz.prog n B w0 l.toArray (Q .normal) fl l S fr hs) (hS : S.Sublist hs := by with_reducible first | exact sb0 | exact sb1 | exact sb2 | exact sb3 | exact sb4 | exact sb5 | exact sb6 | exact sb7 | exact sb8 | exact sbL | ((repeat (first | exact sb0 | exact sbL | refine .cons _ ?_ | refine sbA ?_)); done)) (hc : chk l fl = true := by kernel_rfl) : Sat n B w0 ((Code.region id l.toArray true).wp Tryz.prog Q) fr hs := c_drawnR fl S hS mixed hc h
section
variable {f : Nat} {fl : List Nat} {S S' X rest : HS}
theorem kDN {op : Op} (h : Rk Tryz.prog n B w0 ops K fl (⟨none, op, ty, pos, aft, none⟩ :: l) S fr hs) : Rk Tryz.prog n B w0 ops K fl (⟨none, op, ty, pos, aft, none⟩ :: l) S fr hs := h
theorem kDP (op : Op) (h : Rk Tryz.prog n B w0 ops K fl (⟨some d, op, ty, pos, aft, none⟩ :: l) S fr hs) : Rk Tryz.prog n B w0 ops K fl (⟨some d, op, ty, pos, aft, none⟩ :: l) S fr hs := h
theorem kDG {op : Op} {o : Option Nat} {j : Nat} {b : Bool} (h : Rk Tryz.prog n B w0 ops K fl (⟨o, op, ty, pos, aft, some (j, b)⟩ :: l) S fr hs) : Rk Tryz.prog n B w0 ops K fl (⟨o, op, ty, pos, aft, some (j, b)⟩ :: l) S fr hs := h
theorem kDF (g : Nat) {xs : Array Operand} {ts : Array TypeId} (h : Rk Tryz.prog n B w0 ops K fl (⟨some d, .call ⟨.value (.func g), xs, ts⟩, ty, pos, aft, none⟩ :: l) S fr hs) : Rk Tryz.prog n B w0 ops K fl (⟨some d, .call ⟨.value (.func g), xs, ts⟩, ty, pos, aft, none⟩ :: l) S fr hs := h
theorem dP {op : Op} (h : Rk Tryz.prog n B w0 ops K fl l S ((d, v) :: fr) hs) (hX : selS f S hs = some X := by rfl) (hv : OpF Tryz.prog n B w0 op ty fr X v := by first | ((with_reducible apply gO (.move _)); first | exact o_move rfl) | ((with_reducible apply gO (.assign _)); first | exact o_assign rfl) | ((with_reducible apply gO (.extract _ _)); first | exact o_extract rfl rfl) | ((with_reducible apply gO (.binOp .add _ _ _ _)); first | exact o_add rfl rfl ⟨by omega, by omega⟩ | exact o_add rfl rfl (by assumption)) | ((with_reducible apply gO (.binOp .sub _ _ _ _)); first | exact o_sub rfl rfl ⟨by omega, by omega⟩ | exact o_sub rfl rfl (by assumption)) | ((with_reducible apply gO (.binOp .mul _ _ _ _)); first | exact o_mul rfl rfl ⟨by omega, by omega⟩ | exact o_mul rfl rfl (by assumption)) | ((with_reducible apply gO (.binOp .lss _ _ _ _)); first | exact o_lss rfl rfl) | ((with_reducible apply gO (.binOp .leq _ _ _ _)); first | exact o_leq rfl rfl) | ((with_reducible apply gO (.binOp .gtr _ _ _ _)); first | exact o_gtr rfl rfl) | ((with_reducible apply gO (.binOp .geq _ _ _ _)); first | exact o_geq rfl rfl) | ((with_reducible apply gO (.binOp .eql _ _ _ _)); first | exact o_eql rfl rfl) | ((with_reducible apply gO (.binOp .neq _ _ _ _)); first | exact o_neq rfl rfl) | ((with_reducible apply gO (.binOp .quo _ _ _ _)); first | exact o_quo rfl rfl (by omega) (by omega) (by omega)) | ((with_reducible apply gO (.binOp .rem _ _ _ _)); first | exact o_rem rfl rfl (by omega) (by omega)) | ((with_reducible apply gO (.load _ _)); first | exact o_load rfl (ld_one (shTOf rfl) (Sl.at (by assumption) (by with_reducible first | exact sb0 | exact sb1 | exact sb2 | exact sb3 | exact sb4 | exact sb5 | exact sb6 | exact sb7 | exact sb8 | exact sbL | ((repeat (first | exact sb0 | exact sbL | refine .cons _ ?_ | refine sbA ?_)); done)) (by omega))) | exact o_load rfl (ld_one (shTOf rfl) (own (by with_reducible first | exact mm0 | exact mm1 | exact mm2 | exact mm3 | exact mm4 | exact mm5 | exact mm6 | exact mm7 | exact mm8 | ((repeat (first | exact mm0 | refine mmT ?_ | refine mmA ?_)); done)) (by first | rfl | assumption))) | exact o_load rfl (ld_one (shTOf rfl) (own_iv (by with_reducible first | exact mm0 | exact mm1 | exact mm2 | exact mm3 | exact mm4 | exact mm5 | exact mm6 | exact mm7 | exact mm8 | ((repeat (first | exact mm0 | refine mmT ?_ | refine mmA ?_)); done)) (by first | rfl | omega | (simp only [ivs_length, List.length_set]; omega) | (simp only [List.length_cons, List.length_nil]; omega) | assumption))) | exact o_load rfl (ld_whole (shTOf rfl) (by with_reducible first | exact mm0 | exact mm1 | exact mm2 | exact mm3 | exact mm4 | exact mm5 | exact mm6 | exact mm7 | exact mm8 | ((repeat (first | exact mm0 | refine mmT ?_ | refine mmA ?_)); done)) (by first | rfl | assumption | (rw [ivs_length]; assumption) | (simp only [ivs_length, List.length_set]; omega))) | exact o_load rfl (ld_two (shTOf rfl) (by with_reducible first | exact mm0 | exact mm1 | exact mm2 | exact mm3 | exact mm4 | exact mm5 | exact mm6 | exact mm7 | exact mm8 | ((repeat (first | exact mm0 | refine mmT ?_ | refine mmA ?_)); done)) rfl rfl) | exact o_load rfl (ld_one (shTOf rfl) (by assumption)) | exact o_load rfl (by assumption)) | ((with_reducible apply gO (.indexAddr _ _ _)); first | exact o_indexO (arTOf rfl) rfl rfl (by with_reducible first | exact nn0 _ | exact nn1 _ | exact nn6 | exact nn7 | exact nn8 | exact nn2 _ _ | exact nn4 (by omega) | exact nn5 (by omega) | exact nn3 (by omega)) (by with_reducible first | exact aa4 _ | exact aa5 _ | exact aa6 _ _ | exact aa7 _ _ | exact aa0 _ | exact aa1 _ _ | exact aa2 _ _ | exact aa3 _ _ _) (by omega) | exact o_indexB (scTOf rfl) rfl rfl (by with_reducible first | exact nn0 _ | exact nn1 _ | exact nn6 | exact nn7 | exact nn8 | exact nn2 _ _ | exact nn4 (by omega) | exact nn5 (by omega) | exact nn3 (by omega)) (by with_reducible first | exact aa4 _ | exact aa5 _ | exact aa6 _ _ | exact aa7 _ _ | exact aa0 _ | exact aa1 _ _ | exact aa2 _ _ | exact aa3 _ _ _) (by omega) | exact o_indexS (scTOf rfl) rfl rfl (by with_reducible first | exact nn0 _ | exact nn1 _ | exact nn6 | exact nn7 | exact nn8 | exact nn2 _ _ | exact nn4 (by omega) | exact nn5 (by omega) | exact nn3 (by omega)) (by with_reducible first | exact aa4 _ | exact aa5 _ | exact aa6 _ _ | exact aa7 _ _ | exact aa0 _ | exact aa1 _ _ | exact aa2 _ _ | exact aa3 _ _ _) (by first | assumption | exact Sl.any (by assumption) (by omega)) (by omega)) | ((with_reducible apply gO (.index _ _ _)); first | exact o_index2 (arTOf rfl) rfl rfl (by with_reducible first | exact nn0 _ | exact nn1 _ | exact nn6 | exact nn7 | exact nn8 | exact nn2 _ _ | exact nn4 (by omega) | exact nn5 (by omega) | exact nn3 (by omega)) (by omega) (by omega) | exact o_index1 (arTOf rfl) rfl rfl (by with_reducible first | exact nn0 _ | exact nn1 _ | exact nn6 | exact nn7 | exact nn8 | exact nn2 _ _ | exact nn4 (by omega) | exact nn5 (by omega) | exact nn3 (by omega)) (by omega) (by omega) | exact o_index (arTOf rfl) rfl rfl (by omega) (by omega) rfl) | ((with_reducible apply gO (.fieldAddr _ _ _)); first | exact o_fieldO rfl (foTOf2 rfl rfl) (by with_reducible first | exact bb0 _ | exact bb1 _ | exact bb2 _ _)) | ((with_reducible apply gO (.field _ _ _)); first | exact o_field rfl (foTOf2 rfl rfl) rfl) | ((with_reducible apply gO (.call ⟨.builtin .len, _, _⟩)); first | exact o_len (scTOf rfl) rfl) | ((with_reducible apply gO (.call ⟨.builtin .max, _, _⟩)); first | exact o_max rfl rfl) | ((with_reducible apply gO (.call ⟨.builtin .min, _, _⟩)); first | exact o_min rfl rfl) | ((with_reducible apply gO (.unOp .not _ _)); first | exact o_notD rfl | exact o_not rfl) | ((with_reducible apply gO (.unOp .neg _ _)); first | exact o_neg rfl ⟨by omega, by omega⟩) | ((with_reducible apply gO (.pick _ _ _)); first | exact o_pick_t rfl rfl | exact o_pick_f rfl rfl | exact o_pick rfl rfl rfl) | ((with_reducible apply gO (.nilCheck _)); first | exact o_nilCheck rfl) | ((with_reducible apply gO (.build _ _)); first | exact o_bld0 (zcTOf rfl) (plTOf rfl) | exact o_bld2 rfl rfl rfl rfl (zcTOf rfl) (plTOf rfl) | exact o_bld3 rfl rfl rfl rfl rfl rfl (zcTOf rfl) (plTOf rfl) | exact o_build rfl (zcTOf rfl) (plTOf rfl) rfl)) (hn : d < n.n := by first | decide | exact ltd rfl) :
    Rk Tryz.prog n B w0 ops K (f :: fl) (⟨some d, op, ty, pos, aft, none⟩ :: l) S fr hs := k_pure hX hv hn h
theorem dA {t : TypeId} {z : List Value} (h : ∀ b, Rk Tryz.prog n B w0 ops K fl l S ((d, .pointer (some ⟨b, 0, none⟩)) :: fr) ((b, z) :: hs)) (hz : getT zcT t = some z := by rfl) (hn : d < n.n := by first | decide | exact ltd rfl) :
    Rk Tryz.prog n B w0 ops K (2 :: fl) (⟨some d, .alloc t, ty, pos, aft, none⟩ :: l) S fr hs := k_alloc (zcTOf hz) hn h
theorem dBA {t : TypeId} {x : Operand} {cs : List Value} (h : ∀ b, Rk Tryz.prog n B w0 ops K fl l S ((d, .pointer (some ⟨b, 0, none⟩)) :: fr) ((b, cs) :: hs)) (hx : opv fr x = some (.agg cs.toArray) := by rfl) (hn : d < n.n := by first | decide | exact ltd rfl) :
    Rk Tryz.prog n B w0 ops K (2 :: fl) (⟨some d, .box t x, ty, pos, aft, none⟩ :: l) S fr hs := k_box hx rfl hn h
theorem dB {t : TypeId} {x : Operand} (h : ∀ b, Rk Tryz.prog n B w0 ops K fl l S ((d, .pointer (some ⟨b, 0, none⟩)) :: fr) ((b, [v]) :: hs)) (hx : opv fr x = some v := by rfl) (hv : v.cells = #[v] := by rfl) (hn : d < n.n := by first | decide | exact ltd rfl) :
    Rk Tryz.prog n B w0 ops K (2 :: fl) (⟨some d, .box t x, ty, pos, aft, none⟩ :: l) S fr hs := k_box hx hv hn h
theorem dl1A {t : TypeId} {x : Operand} {cs z : List Value} {b : Bool} {k : Nat} (h : ∀ bb, Rk Tryz.prog n B w0 ops K fl l S ((d, .slice (some ⟨bb, 0, none⟩) 1 1) :: fr) ((bb, cs) :: hs)) (hx : opv fr x = some (.agg cs.toArray) := by rfl) (ht : getT scT t = some (b, k) := by rfl) (hz : getT zsT t = some z := by rfl) (hk : cs.length = k := by first | rfl | assumption | (rw [ivs_length]; assumption) | (simp only [ivs_length, List.length_set]; omega)) (hk2 : k ≤ 1000 := by first | decide | exact ltd rfl) (hn : d < n.n := by first | decide | exact ltd rfl) :
    Rk Tryz.prog n B w0 ops K (2 :: fl) (⟨some d, .buildSlice t 1 #[(0, x)], ty, pos, aft, none⟩ :: l) S fr hs := k_bs1 hx rfl (scTOf ht) (zsTOf hz) hk hk2 hn h
theorem dl1 {t : TypeId} {x : Operand} {z : List Value} {b : Bool} (h : ∀ bb, Rk Tryz.prog n B w0 ops K fl l S ((d, .slice (some ⟨bb, 0, none⟩) 1 1) :: fr) ((bb, [v]) :: hs)) (hx : opv fr x = some v := by rfl) (h1 : v.cells = #[v] := by rfl) (ht : getT scT t = some (b, 1) := by rfl) (hz : getT zsT t = some z := by rfl) (hn : d < n.n := by first | decide | exact ltd rfl) :
    Rk Tryz.prog n B w0 ops K (2 :: fl) (⟨some d, .buildSlice t 1 #[(0, x)], ty, pos, aft, none⟩ :: l) S fr hs := k_bs1 hx h1 (scTOf ht) (zsTOf hz) rfl (by decide) hn h
theorem dtW {t : TypeId} {x y : Operand} {b k : Nat} {bb : Bool} {cs vs : List Value} (h : Rk Tryz.prog n B w0 ops K fl l S' fr hs') (hfl : effF f = true := by rfl) (hx : opv fr x = some (.pointer (some ⟨b, 0, none⟩)) := by rfl) (hy : opv fr y = some v := by rfl) (hv : v.cells = vs.toArray := by rfl) (ht : getT shT t = some (bb, k) := by rfl) (hk : vs.length = k := by first | rfl | assumption | (rw [ivs_length]; assumption) | (simp only [ivs_length, List.length_set]; omega))
    (hf : Flat vs := by first | (with_reducible exact flat_iv _) | exact flat1 rfl | exact flat2 rfl rfl | exact flat3 rfl rfl rfl | exact flat0 | assumption) (hu : Upd b cs vs hs hs' := by with_reducible first | exact uu0 | exact uu1 | exact uu2 | exact uu3 | exact uu4 | exact uu5 | exact uu6 | exact uu7 | exact uu8 | ((repeat (first | exact uu0 | apply Upd.tail | apply Upd.app)); done)) (hl : cs.length = k := by first | rfl | assumption | (rw [ivs_length]; assumption) | (simp only [ivs_length, List.length_set]; omega)) (hS : Kp f S hs' S' := by with_reducible first | exact kp4 | exact kp3 SCt) :
    Rk Tryz.prog n B w0 ops K (f :: fl) (⟨none, .store t x y, ty, pos, aft, none⟩ :: l) S fr hs := k_storeW hfl hx hy hv (shTOf ht) hk hf hu hl hS h
theorem dt1 {t : TypeId} {x y : Operand} {b o : Nat} {cs : List Value} (h : Rk Tryz.prog n B w0 ops K fl l S' fr hs') (hfl : effF f = true := by rfl) (hx : opv fr x = some (.pointer (some ⟨b, o, none⟩)) := by rfl) (hy : opv fr y = some v := by rfl) (hv : v.cells = #[v] := by rfl) (h1 : v.oneCell' = true := by rfl) (ht : getT shT t = some (false, 1) := by rfl)
    (hu : Upd b cs (cs.set o v) hs hs' := by with_reducible first | exact uu0 | exact uu1 | exact uu2 | exact uu3 | exact uu4 | exact uu5 | exact uu6 | exact uu7 | exact uu8 | ((repeat (first | exact uu0 | apply Upd.tail | apply Upd.app)); done)) (hl : o < cs.length := by first | rfl | omega | (simp only [ivs_length, List.length_set]; omega) | (simp only [List.length_cons, List.length_nil]; omega) | assumption) (hS : Kp f S hs' S' := by with_reducible first | exact kp4 | exact kp3 SCt) :
    Rk Tryz.prog n B w0 ops K (f :: fl) (⟨none, .store t x y, ty, pos, aft, none⟩ :: l) S fr hs := k_store1 hfl hx hy hv h1 (shTOf ht) hu hl hS h
theorem dtI {t : TypeId} {x y : Operand} {b o : Nat} {m : List Int} {z : Int} (h : Rk Tryz.prog n B w0 ops K fl l S' fr hs') (hfl : effF f = true := by rfl) (hx : opv fr x = some (.pointer (some ⟨b, o, none⟩)) := by rfl) (hy : opv fr y = some (iv z) := by rfl) (ht : getT shT t = some (false, 1) := by rfl)
    (hu : Upd b (ivs m) (ivs (m.set o z)) hs hs' := by with_reducible first | exact uu0 | exact uu1 | exact uu2 | exact uu3 | exact uu4 | exact uu5 | exact uu6 | exact uu7 | exact uu8 | ((repeat (first | exact uu0 | apply Upd.tail | apply Upd.app)); done)) (hl : o < m.length := by first | rfl | omega | (simp only [ivs_length, List.length_set]; omega) | (simp only [List.length_cons, List.length_nil]; omega) | assumption) (hS : Kp f S hs' S' := by with_reducible first | exact kp4 | exact kp3 SCt) :
    Rk Tryz.prog n B w0 ops K (f :: fl) (⟨none, .store t x y, ty, pos, aft, none⟩ :: l) S fr hs := k_storeI hfl hx hy (shTOf ht) hu hl hS h
theorem dC (g : Nat) {xs : List Operand} {vs : List Value} {ts : Array TypeId} (hc : ∀ F, Fn Tryz.prog g vs.toArray B w0 (F ++ hs) (fun u h => u = v ∧ h = F ++ hs)) (h : Rk Tryz.prog n B w0 ops K fl l S' ((d, v) :: fr) hs) (hfl : effF f = true := by rfl) (hf : getT goT g = some () := by rfl) (hv : argv fr xs = some vs := by rfl) (hS : Kp f S hs S' := by with_reducible first | exact kp4 | exact kp3 SCt) (hn : d < n.n := by first | decide | exact ltd rfl) :
    Rk Tryz.prog n B w0 ops K (f :: fl) (⟨some d, .call { callee := .value (.func g), args := xs.toArray, argTypes := ts }, ty, pos, aft, none⟩ :: l) S fr hs := k_callV hfl (goTOf hf) hv hc hS hn h
theorem dN3 (g : Nat) {xs : List Operand} {vs : List Value} {ts : Array TypeId} {R : Value → HS → Prop} (hc : ∀ F, Fn Tryz.prog g vs.toArray B w0 (F ++ hs) (fun u h => ∃ blk, R u blk ∧ h = blk ++ (F ++ hs))) (h : ∀ u blk, R u blk → Rk Tryz.prog n B w0 ops K fl l S ((d, u) :: fr) (blk ++ hs)) (hf : getT goT g = some () := by rfl) (hv : argv fr xs = some vs := by rfl) (hS : S.Sublist hs := by with_reducible first | exact sb0 | exact sb1 | exact sb2 | exact sb3 | exact sb4 | exact sb5 | exact sb6 | exact sb7 | exact sb8 | exact sbL | ((repeat (first | exact sb0 | exact sbL | refine .cons _ ?_ | refine sbA ?_)); done)) (hn : d < n.n := by first | decide | exact ltd rfl) :
    Rk Tryz.prog n B w0 ops K (3 :: fl) (⟨some d, .call { callee := .value (.func g), args := xs.toArray, argTypes := ts }, ty, pos, aft, none⟩ :: l) S fr hs := k_callN rfl (goTOf hf) hv hc hn (fun u blk hR => ⟨S, kp3' (SubP.app _ (.of hS)), h u blk hR⟩)
theorem dN4 (g : Nat) {xs : List Operand} {vs : List Value} {ts : Array TypeId} {R : Value → HS → Prop} (hc : ∀ F, Fn Tryz.prog g vs.toArray B w0 (F ++ hs) (fun u h => ∃ blk, R u blk ∧ h = blk ++ (F ++ hs))) (h : ∀ u blk, R u blk → Rk Tryz.prog n B w0 ops K fl l (blk ++ hs) ((d, u) :: fr) (blk ++ hs)) (hf : getT goT g = some () := by rfl) (hv : argv fr xs = some vs := by rfl) (hn : d < n.n := by first | decide | exact ltd rfl) :
    Rk Tryz.prog n B w0 ops K (4 :: fl) (⟨some d, .call { callee := .value (.func g), args := xs.toArray, argTypes := ts }, ty, pos, aft, none⟩ :: l) S fr hs := k_callN rfl (goTOf hf) hv hc hn (fun u blk hR => ⟨_, kp4, h u blk hR⟩)
theorem sAp {t : TypeId} {size bytes k c c' : Nat} {oa : Option Addr} {bb : Nat} {xs news : List Value} {blk : HS} {x y : Operand} (h : ∀ oa2 c2 blk2, RowOk oa2 c2 size (xs ++ news) blk2 → Sat n B w0 (sl Tryz.prog ops K l) ((d, .slice oa2 (k + 1) c2) :: fr) (blk2 ++ rest)) (hap : getT apT t = some (size, bytes) := by rfl) (hx : opv fr x = some (.slice oa k c) := by rfl) (hy : opv fr y = some (.slice (some ⟨bb, 0, none⟩) 1 c') := by rfl) (hr : RowOk oa c size xs blk := by first | assumption | exact RowOk.nil) (hT : Take blk hs rest := by with_reducible (repeat (first | exact Take.head | exact Take.one | exact Take.nil | apply Take.tail | apply Take.app)); done)
    (hk : xs.length = k * size := by first | assumption | (simp only [ivs_length, tab_length, Nat.mul_one]; first | done | omega) | (simp only [ivs_length, tab_length, Nat.mul_one, List.length_append, List.length_cons, List.length_nil]; first | done | omega) | omega) (hm : (bb, news) ∈ rest := by with_reducible first | exact mm0 | exact mm1 | exact mm2 | exact mm3 | exact mm4 | exact mm5 | exact mm6 | exact mm7 | exact mm8 | ((repeat (first | exact mm0 | refine mmT ?_ | refine mmA ?_)); done)) (hl : news.length = 1 * size := by rfl) (hf : Flat news := by first | (with_reducible exact flat_iv _) | exact flat1 rfl | exact flat2 rfl rfl | exact flat3 rfl rfl rfl | exact flat0 | assumption) (hb : k + 1 ≤ 1000000 := by omega) (hby : bytes ≤ 1000000 := by first | decide | exact ltd rfl) (hn : d < n.n := by first | decide | exact ltd rfl) :
    Sat n B w0 (sl Tryz.prog ops K (⟨some d, .call ⟨.builtin .append, #[x, y], #[t, t]⟩, ty, pos, aft, none⟩ :: l)) fr hs := s_app (apTOf hap) hx hy hT hr hk hm hl (by decide) hf hb hby hn h
theorem dAp3 {t : TypeId} {size bytes k c c' : Nat} {oa : Option Addr} {bb : Nat} {xs news : List Value} {blk : HS} {x y : Operand} (h : ∀ oa2 c2 blk2, RowOk oa2 c2 size (xs ++ news) blk2 → Rk Tryz.prog n B w0 ops K fl l S ((d, .slice oa2 (k + 1) c2) :: fr) (blk2 ++ rest)) (hap : getT apT t = some (size, bytes) := by rfl) (hx : opv fr x = some (.slice oa k c) := by rfl) (hy : opv fr y = some (.slice (some ⟨bb, 0, none⟩) 1 c') := by rfl) (hr : RowOk oa c size xs blk := by first | assumption | exact RowOk.nil) (hT : Take blk hs rest := by with_reducible (repeat (first | exact Take.head | exact Take.one | exact Take.nil | apply Take.tail | apply Take.app)); done)
    (hk : xs.length = k * size := by first | assumption | (simp only [ivs_length, tab_length, Nat.mul_one]; first | done | omega) | (simp only [ivs_length, tab_length, Nat.mul_one, List.length_append, List.length_cons, List.length_nil]; first | done | omega) | omega) (hm : (bb, news) ∈ rest := by with_reducible first | exact mm0 | exact mm1 | exact mm2 | exact mm3 | exact mm4 | exact mm5 | exact mm6 | exact mm7 | exact mm8 | ((repeat (first | exact mm0 | refine mmT ?_ | refine mmA ?_)); done)) (hl : news.length = 1 * size := by rfl) (hf : Flat news := by first | (with_reducible exact flat_iv _) | exact flat1 rfl | exact flat2 rfl rfl | exact flat3 rfl rfl rfl | exact flat0 | assumption) (hb : k + 1 ≤ 1000000 := by omega) (hby : bytes ≤ 1000000 := by first | decide | exact ltd rfl) (hS : S.Sublist rest := by with_reducible first | exact sb0 | exact sb1 | exact sb2 | exact sb3 | exact sb4 | exact sb5 | exact sb6 | exact sb7 | exact sb8 | exact sbL | ((repeat (first | exact sb0 | exact sbL | refine .cons _ ?_ | refine sbA ?_)); done)) (hn : d < n.n := by first | decide | exact ltd rfl) :
    Rk Tryz.prog n B w0 ops K (3 :: fl) (⟨some d, .call ⟨.builtin .append, #[x, y], #[t, t]⟩, ty, pos, aft, none⟩ :: l) S fr hs := k_app rfl (apTOf hap) hx hy hT hr hk hm hl (by decide) hf hb hby hn (fun oa2 c2 blk2 hr2 => ⟨S, kp3' (SubP.app _ (.of hS)), h oa2 c2 blk2 hr2⟩)
theorem dAp4 {t : TypeId} {size bytes k c c' : Nat} {oa : Option Addr} {bb : Nat} {xs news : List Value} {blk : HS} {x y : Operand} (h : ∀ oa2 c2 blk2, RowOk oa2 c2 size (xs ++ news) blk2 → Rk Tryz.prog n B w0 ops K fl l (blk2 ++ rest) ((d, .slice oa2 (k + 1) c2) :: fr) (blk2 ++ rest)) (hap : getT apT t = some (size, bytes) := by rfl) (hx : opv fr x = some (.slice oa k c) := by rfl) (hy : opv fr y = some (.slice (some ⟨bb, 0, none⟩) 1 c') := by rfl) (hr : RowOk oa c size xs blk := by first | assumption | exact RowOk.nil) (hT : Take blk hs rest := by with_reducible (repeat (first | exact Take.head | exact Take.one | exact Take.nil | apply Take.tail | apply Take.app)); done)
    (hk : xs.length = k * size := by first | assumption | (simp only [ivs_length, tab_length, Nat.mul_one]; first | done | omega) | (simp only [ivs_length, tab_length, Nat.mul_one, List.length_append, List.length_cons, List.length_nil]; first | done | omega) | omega) (hm : (bb, news) ∈ rest := by with_reducible first | exact mm0 | exact mm1 | exact mm2 | exact mm3 | exact mm4 | exact mm5 | exact mm6 | exact mm7 | exact mm8 | ((repeat (first | exact mm0 | refine mmT ?_ | refine mmA ?_)); done)) (hl : news.length = 1 * size := by rfl) (hf : Flat news := by first | (with_reducible exact flat_iv _) | exact flat1 rfl | exact flat2 rfl rfl | exact flat3 rfl rfl rfl | exact flat0 | assumption) (hb : k + 1 ≤ 1000000 := by omega) (hby : bytes ≤ 1000000 := by first | decide | exact ltd rfl) (hn : d < n.n := by first | decide | exact ltd rfl) :
    Rk Tryz.prog n B w0 ops K (4 :: fl) (⟨some d, .call ⟨.builtin .append, #[x, y], #[t, t]⟩, ty, pos, aft, none⟩ :: l) S fr hs := k_app rfl (apTOf hap) hx hy hT hr hk hm hl (by decide) hf hb hby hn (fun oa2 c2 blk2 hr2 => ⟨_, kp4, h oa2 c2 blk2 hr2⟩)
theorem dY1 {op : Op} {o : Option Nat} {j dj : Nat} {b : Bool} (h : Rk Tryz.prog n B w0 ops K fl (⟨o, op, ty, pos, aft, none⟩ :: l) S fr hs) (hj : (ops[j]?).bind (·.dst) = some dj := by rfl) (hb : get fr dj = some (.bool b) := by rfl) : Rk Tryz.prog n B w0 ops K fl (⟨o, op, ty, pos, aft, some (j, b)⟩ :: l) S fr hs := k_yes hj hb h
theorem dNo1 {op : Op} {j dj : Nat} {b b' : Bool} (h : Rk Tryz.prog n B w0 ops K fl l S ((d, undef) :: fr) hs) (hj : (ops[j]?).bind (·.dst) = some dj := by rfl) (hb : get fr dj = some (.bool b') := by rfl) (hbb : b' = !b := by rfl) (hn : d < n.n := by first | decide | exact ltd rfl) : Rk Tryz.prog n B w0 ops K (f :: fl) (⟨some d, op, ty, pos, aft, some (j, b)⟩ :: l) S fr hs := k_no hj hb hbb hn h
theorem dU1 {op : Op} {j dj : Nat} {b : Bool} (h : Rk Tryz.prog n B w0 ops K fl l S ((d, undef) :: fr) hs) (hj : (ops[j]?).bind (·.dst) = some dj := by rfl) (hb : get fr dj = some (.tuple #[]) := by rfl) (hn : d < n.n := by first | decide | exact ltd rfl) : Rk Tryz.prog n B w0 ops K (f :: fl) (⟨some d, op, ty, pos, aft, some (j, b)⟩ :: l) S fr hs := k_und hj hb hn h
theorem dD1 {op : Op} {o : Option Nat} {j dj : Nat} {b : Bool} {p : Prop} [Decidable p]
    (ht : p → Rk Tryz.prog n B w0 ops K fl (⟨o, op, ty, pos, aft, some (j, b)⟩ :: l) S ((dj, .bool true) :: fr) hs) (hf : ¬ p → Rk Tryz.prog n B w0 ops K fl (⟨o, op, ty, pos, aft, some (j, b)⟩ :: l) S ((dj, .bool false) :: fr) hs) (hj : (ops[j]?).bind (·.dst) = some dj := by rfl) (hb : get fr dj = some (.bool (decide p)) := by rfl) :
    Rk Tryz.prog n B w0 ops K fl (⟨o, op, ty, pos, aft, some (j, b)⟩ :: l) S fr hs := k_dec hb ht hf
theorem dB1 {op : Op} {o : Option Nat} {j dj : Nat} {b c : Bool}
    (ht : c = true → Rk Tryz.prog n B w0 ops K fl (⟨o, op, ty, pos, aft, some (j, b)⟩ :: l) S ((dj, .bool true) :: fr) hs) (hf : c = false → Rk Tryz.prog n B w0 ops K fl (⟨o, op, ty, pos, aft, some (j, b)⟩ :: l) S ((dj, .bool false) :: fr) hs) (hj : (ops[j]?).bind (·.dst) = some dj := by rfl) (hb : get fr dj = some (.bool c) := by rfl) :
    Rk Tryz.prog n B w0 ops K fl (⟨o, op, ty, pos, aft, some (j, b)⟩ :: l) S fr hs := k_decb hb ht hf
end
end
end Go.Proofs.YtnbickholedckaaGreatDoor
namespace Go.Proofs.YtnbickholedckaaGreatDoor
open Go.RowKit
/-- The head of a part of a slice. -/
def subA (oa : Option Addr) (c lo size : Nat) : Option Addr := if c = lo then oa else oa.map (·.add (lo * size))
section
variable {P : Program} {n : NN} {B : Nat} {w0 : Wd} {fr : FR} {hs hs' : HS} {ty : TypeId}
theorem run_slb (k : IntKind) {i : Int} {y : Nat} {code : BoundsCode} {j : Nat} (hj : i = (j : Int)) (h1 : j ≤ y) (w : World) : (Instr.sliceBound (.int k i) y code).run P w = .ok j w := by
  subst hj
  simp [Instr.sliceBound, asIntOf, h1]
theorem sc_el {t : TypeId} {b : Bool} {k : Nat} (ht : sc P t = some (b, k)) : ∃ e, P.underlying t = some (.slice e) ∧ sh P e = some (b, k) := by
  unfold sc at ht
  split at ht
  · rename_i e hu; exact ⟨e, hu, ht⟩
  · cases ht
/-- A part of a slice: what the run comes to. -/
theorem run_slc {t : TypeId} {b : Bool} {k len cap lo hi m : Nat} {oa : Option Addr} {l h x : Option Value} (ht : sc P t = some (b, k)) (w : World)
    (hb : (Instr.sliceBounds true len cap l h x).run P w = .ok (lo, hi, m) w) :
    (Instr.sliceAt t (.slice oa len cap) l h x).run P w = .ok (.slice (subA oa m lo k) (hi - lo) (m - lo)) w := by
  obtain ⟨e, hu, hk⟩ := sc_el ht
  simp only [Instr.sliceAt, Instr.slice, Sem.run_bind, underlying, run_program, hu, Result.andThen_ok, Sem.run_pure, hb, run_sizeOf hk, subA]
theorem o_sliceL {t : TypeId} {x lo : Operand} {b : Bool} {k len cap j : Nat} {i : Int} {oa : Option Addr} (ht : sc P t = some (b, k)) (hx : opv fr x = some (.slice oa len cap)) (hl : opv fr lo = some (.int .i64 i)) (hj : i = (j : Int)) (h1 : j ≤ len) :
    OpF P n B w0 (.slice t x (some lo) none none) ty fr hs (.slice (subA oa cap j k) (len - j) (cap - j)) := fun a w ha _ => by
  have hb : (Instr.sliceBounds true len cap (some (.int .i64 i)) none none).run P w = .ok (j, len, cap) w := by
    simp [Instr.sliceBounds, run_slb _ hj h1]
  simp [ex, execOp, ha.opv hx, ha.opv hl, run_slc ht w hb]
theorem o_sliceH {t : TypeId} {x hi : Operand} {b : Bool} {k len cap j : Nat} {i : Int} {oa : Option Addr} (ht : sc P t = some (b, k)) (hx : opv fr x = some (.slice oa len cap)) (hl : opv fr hi = some (.int .i64 i)) (hj : i = (j : Int)) (h1 : j ≤ cap) :
    OpF P n B w0 (.slice t x none (some hi) none) ty fr hs (.slice (subA oa cap 0 k) j cap) := fun a w ha _ => by
  have hb : (Instr.sliceBounds true len cap none (some (.int .i64 i)) none).run P w = .ok (0, j, cap) w := by
    simp [Instr.sliceBounds, run_slb _ hj h1]
  simp [ex, execOp, ha.opv hx, ha.opv hl, run_slc ht w hb]
theorem o_sliceLH {t : TypeId} {x lo hi : Operand} {b : Bool} {k len cap j j2 : Nat} {i i2 : Int} {oa : Option Addr} (ht : sc P t = some (b, k)) (hx : opv fr x = some (.slice oa len cap)) (hl : opv fr lo = some (.int .i64 i)) (hh : opv fr hi = some (.int .i64 i2)) (hj : i = (j : Int)) (hj2 : i2 = (j2 : Int)) (h1 : j ≤ j2) (h2 : j2 ≤ cap) :
    OpF P n B w0 (.slice t x (some lo) (some hi) none) ty fr hs (.slice (subA oa cap j k) (j2 - j) (cap - j)) := fun a w ha _ => by
  have hb : (Instr.sliceBounds true len cap (some (.int .i64 i)) (some (.int .i64 i2)) none).run P w = .ok (j, j2, cap) w := by
    simp [Instr.sliceBounds, run_slb _ hj h1, run_slb _ hj2 h2]
  simp [ex, execOp, ha.opv hx, ha.opv hl, ha.opv hh, run_slc ht w hb]
theorem o_sliceHM {t : TypeId} {x hi mx : Operand} {b : Bool} {k len cap j j2 : Nat} {i i2 : Int} {oa : Option Addr} (ht : sc P t = some (b, k)) (hx : opv fr x = some (.slice oa len cap)) (hl : opv fr hi = some (.int .i64 i)) (hh : opv fr mx = some (.int .i64 i2)) (hj : i = (j : Int)) (hj2 : i2 = (j2 : Int)) (h1 : j ≤ j2) (h2 : j2 ≤ cap) :
    OpF P n B w0 (.slice t x none (some hi) (some mx)) ty fr hs (.slice (subA oa j2 0 k) j j2) := fun a w ha _ => by
  have hb : (Instr.sliceBounds true len cap none (some (.int .i64 i)) (some (.int .i64 i2))).run P w = .ok (0, j, j2) w := by
    simp [Instr.sliceBounds, run_slb _ hj h1, run_slb _ hj2 h2]
  simp [ex, execOp, ha.opv hx, ha.opv hl, ha.opv hh, run_slc ht w hb]
theorem ea_add (a : Addr) (i j : Nat) : ea (some (a.add i)) j = ea (some a) (i + j) := by rw [ea_some, ea_some, Addr.add_add]
/-- The numbers of a part. -/
theorem Sl.part {oa : Option Addr} {l : List Int} (h : Sl B w0 hs oa l) {c lo hi : Nat} (h1 : lo ≤ hi) (h2 : hi ≤ l.length) (h3 : l.length ≤ c) : Sl B w0 hs (subA oa c lo 1) ((l.drop lo).take (hi - lo)) := fun i hi' => by
  have hi2 : lo + i < hi := by simp at hi'; omega
  obtain ⟨g1, g2⟩ := h (lo + i) (by omega)
  have e1 : ((l.drop lo).take (hi - lo)).getD i 0 = l.getD (lo + i) 0 := by
    simp only [List.getD]
    rw [List.getElem?_take, if_pos (by omega), List.getElem?_drop]
  rw [e1]
  unfold subA
  rw [if_neg (by omega)]
  cases oa with
  | none => cases g1
  | some a =>
    refine ⟨rfl, fun w hw => ?_⟩
    have := g2 w hw
    rw [Option.map_some, Nat.mul_one, ea_add]
    exact this
theorem Sl.tail {oa : Option Addr} {l : List Int} (h : Sl B w0 hs oa l) {c lo : Nat} (h1 : lo ≤ l.length) (h3 : l.length ≤ c) : Sl B w0 hs (subA oa c lo 1) (l.drop lo) := by
  have := h.part (c := c) (lo := lo) (hi := l.length) h1 (Nat.le_refl _) h3
  rwa [List.take_of_length_le (by simp)] at this
theorem subA_zero (oa : Option Addr) (c k : Nat) : subA oa c 0 k = oa := by
  unfold subA
  split
  · rfl
  · cases oa <;> simp [Addr.add]
theorem RowOk.cap {oa : Option Addr} {c size : Nat} {xs : List Value} {blk : HS} (h : RowOk oa c size xs blk) {k : Nat} (hk : xs.length = k * size) (hs : 0 < size) : k ≤ c := by
  rcases h with ⟨_, rfl, rfl, _⟩ | ⟨b, z, _, _, h, _⟩
  · simp only [List.length_nil] at hk
    rcases Nat.eq_zero_or_pos k with h | h
    · omega
    · have := Nat.mul_pos h hs; omega
  · simp only [List.length_append] at h
    exact Nat.le_of_mul_le_mul_right (by omega) hs
/-- The type is that of truth values. -/
def bt (P : Program) (t : TypeId) : Bool := match P.underlying t with | some .bool => true | _ => false
theorem run_eqB {t : TypeId} {m l : Bool} (ht : bt P t = true) (w : World) : (Op.equal t (.bool m) (.bool l)).run P w = .ok (m == l) w := by
  unfold bt at ht
  split at ht
  · rename_i hu; exact run_equal_bool w t m l hu
  · cases ht
theorem o_eqlB {t t' : TypeId} {x y : Operand} {m l : Bool} (ht : bt P t = true) (hx : opv fr x = some (.bool m)) (hy : opv fr y = some (.bool l)) : OpF P n B w0 (.binOp .eql t x y t') ty fr hs (.bool (decide (m = l))) := fun a w ha _ => by
  simp only [ex, execOp, ha.opv hx, ha.opv hy, Sem.run_bind]
  have : (eqGuard .eql t x y (.bool m) (.bool l)).run P w = .ok () w := rfl
  rw [this]
  cases m <;> cases l <;> simp [binOp, run_eqB ht]
theorem o_neqB {t t' : TypeId} {x y : Operand} {m l : Bool} (ht : bt P t = true) (hx : opv fr x = some (.bool m)) (hy : opv fr y = some (.bool l)) : OpF P n B w0 (.binOp .neq t x y t') ty fr hs (.bool (decide (m ≠ l))) := fun a w ha _ => by
  simp only [ex, execOp, ha.opv hx, ha.opv hy, Sem.run_bind]
  have : (eqGuard .neq t x y (.bool m) (.bool l)).run P w = .ok () w := rfl
  rw [this]
  cases m <;> cases l <;> simp [binOp, run_eqB ht]
/-! ### Values that are made of numbers only: equality is that of the numbers -/
def flF (f : TypeId → Option Nat) : List Field → Nat → Option Nat
  | [], acc => some acc
  | x :: fs, acc => match f x.type with
    | some k => if x.name != "_" && x.offset == acc then flF f fs (acc + k) else none
    | none => none
def agB (P : Program) (t : TypeId) : Bool := match P.underlying t with | some (.struct _) | some (.array _ _) => true | _ => false
/-- How many numbers a value of the type is. -/
def fl (P : Program) : Nat → TypeId → Option Nat
  | 0, _ => none
  | d + 1, t =>
    match P.underlying t with
    | some (.int q) => if q = .i64 ∧ sh P t = some (false, 1) then some 1 else none
    | some (.struct fs) => if P.stoodInHeld t then none else match flF (fl P d) fs.toList 0 with
      | some k => if sh P t = some (true, k) then some k else none
      | none => none
    | some (.array m e) => match fl P d e with
      | some k => if sh P t = some (true, m * k) && P.cellsOf e == k && (P.info? e).isSome then some (m * k) else none
      | none => none
    | _ => none
theorem fl_sh : ∀ {d : Nat} {t : TypeId} {k : Nat}, fl P d t = some k → sh P t = some (agB P t, k)
  | 0, _, _, h => by simp [fl] at h
  | d + 1, t, k, h => by
    unfold fl at h
    unfold agB
    split at h
    · rename_i hu
      split at h
      · rename_i h2; simp only [Option.some.injEq] at h; subst h; rw [hu]; exact h2.2
      · cases h
    · rename_i hu
      split at h
      · cases h
      · split at h
        · split at h
          · rename_i h2; simp only [Option.some.injEq] at h; subst h; rw [hu]; exact h2
          · cases h
        · cases h
    · rename_i hu
      split at h
      · split at h
        · rename_i h2
          simp only [Option.some.injEq] at h; subst h; rw [hu]
          simp only [Bool.and_eq_true, decide_eq_true_eq] at h2
          exact h2.1.1
        · cases h
      · cases h
    · cases h
theorem fl_one {d : Nat} {t : TypeId} {k : Nat} (h : fl P d t = some k) (hb : agB P t = false) : k = 1 := by
  cases d with
  | zero => simp [fl] at h
  | succ d =>
    unfold fl at h
    unfold agB at hb
    split at h
    · split at h
      · simpa using h.symm
      · cases h
    · rename_i hu; rw [hu] at hb; cases hb
    · rename_i hu; rw [hu] at hb; cases hb
    · cases h
theorem part_fl {t : TypeId} {d k off : Nat} {xs : List Int} (h : fl P d t = some k) (hl : off + k ≤ xs.length) (w : World) : (part t (ivs xs).toArray off).run P w = .ok (vOf (agB P t) ((xs.drop off).take k)) w := by
  refine run_part (fl_sh h) w ?_
  cases hb : agB P t with
  | true => simp only [if_true, vOf]; rw [ivs_seg]
  | false =>
    have := fl_one h hb
    subst this
    simp only [Bool.false_eq_true, if_false, vOf]
    rw [ivs_get (by omega)]
    simp [List.getD, List.getElem?_take]
theorem take_eq_drop {xs ys : List Int} {a k n : Nat} (hx : xs.length = n) (hy : ys.length = n) : (xs.drop a = ys.drop a) ↔ ((xs.drop a).take k = (ys.drop a).take k ∧ xs.drop (a + k) = ys.drop (a + k)) := by
  constructor
  · intro h
    refine ⟨by rw [h], ?_⟩
    rw [← List.drop_drop, ← List.drop_drop, h]
  · rintro ⟨h1, h2⟩
    rw [← List.drop_drop, ← List.drop_drop] at h2
    rw [← List.take_append_drop k (xs.drop a), h1, h2, List.take_append_drop]
def EqFl (P : Program) (D d : Nat) : Prop := ∀ (t : TypeId) (k : Nat) (xs ys : List Int) (w : World), fl P d t = some k → xs.length = k → ys.length = k → (Op.equalIn (D + d) t (vOf (agB P t) xs) (vOf (agB P t) ys)).run P w = .ok (decide (xs = ys)) w
theorem flF_le (f : TypeId → Option Nat) : ∀ (fs : List Field) (acc n : Nat), flF f fs acc = some n → acc ≤ n
  | [], acc, n, h => by simp [flF] at h; omega
  | x :: fs, acc, n, h => by
    simp only [flF] at h
    split at h
    · split at h
      · have := flF_le f fs _ _ h; omega
      · cases h
    · cases h
theorem eqFields_fl {D d : Nat} (ih : EqFl P D d) {xs ys : List Int} {n : Nat} (hx : xs.length = n) (hy : ys.length = n) (w : World) : ∀ (fs : List Field) (acc : Nat), flF (fl P d) fs acc = some n →
    (Op.eqFields (D + d) (ivs xs).toArray (ivs ys).toArray fs).run P w = .ok (decide (xs.drop acc = ys.drop acc)) w
  | [], acc, h => by
    simp only [flF, Option.some.injEq] at h
    subst h
    simp [Op.eqFields, List.drop_eq_nil_of_le (show xs.length ≤ acc by omega), List.drop_eq_nil_of_le (show ys.length ≤ acc by omega)]
  | x :: fs, acc, h => by
    simp only [flF] at h
    split at h
    · rename_i k hk
      split at h
      · rename_i hc
        simp only [Bool.and_eq_true, bne_iff_ne, ne_eq, beq_iff_eq] at hc
        obtain ⟨hc1, hc2⟩ := hc
        have hle := flF_le _ _ _ _ h
        have e1 := eqFields_fl ih hx hy w fs (acc + k) h
        have e2 := ih x.type k ((xs.drop acc).take k) ((ys.drop acc).take k) w hk (by simp; omega) (by simp; omega)
        simp only [Op.eqFields, hc1, ne_eq, not_false_eq_true, if_true, Sem.run_bind, hc2, part_fl hk (show acc + k ≤ xs.length by omega), part_fl hk (show acc + k ≤ ys.length by omega), Result.andThen_ok, e2]
        by_cases hh : (xs.drop acc).take k = (ys.drop acc).take k
        · simp only [hh, decide_true, Bool.not_true, Bool.false_eq_true, if_false, e1]
          congr 1
          exact decide_eq_decide.2 ⟨fun g => (take_eq_drop hx hy).2 ⟨hh, g⟩, fun g => ((take_eq_drop (k := k) hx hy).1 g).2⟩
        · simp only [hh, decide_false, Bool.not_false, if_true, Sem.run_pure]
          congr 1
          exact (decide_eq_false fun g => hh ((take_eq_drop (k := k) hx hy).1 g).1).symm
      · cases h
    · cases h
theorem eqItems_fl {D d : Nat} (ih : EqFl P D d) {e : TypeId} {k : Nat} (hk : fl P d e = some k) {xs ys : List Int} {n : Nat} (hx : xs.length = n * k) (hy : ys.length = n * k) (w : World) : ∀ (m a : Nat), a + m = n →
    (Op.eqItems (D + d) e k (ivs xs).toArray (ivs ys).toArray (List.range' a m)).run P w = .ok (decide (xs.drop (a * k) = ys.drop (a * k))) w
  | 0, a, h => by
    simp only [Nat.add_zero] at h
    subst h
    simp [Op.eqItems, List.drop_eq_nil_of_le (show xs.length ≤ a * k by omega), List.drop_eq_nil_of_le (show ys.length ≤ a * k by omega)]
  | m + 1, a, h => by
    have hle : a * k + k ≤ n * k := by
      have := Nat.mul_le_mul_right k (show a + 1 ≤ n by omega)
      rwa [Nat.add_mul, Nat.one_mul] at this
    have e1 := eqItems_fl ih hk hx hy w m (a + 1) (by omega)
    have e2 := ih e k ((xs.drop (a * k)).take k) ((ys.drop (a * k)).take k) w hk (by simp; omega) (by simp; omega)
    rw [List.range'_succ]
    simp only [Op.eqItems, Sem.run_bind, part_fl hk (show a * k + k ≤ xs.length by omega), part_fl hk (show a * k + k ≤ ys.length by omega), Result.andThen_ok, e2]
    rw [show (a + 1) * k = a * k + k by rw [Nat.add_mul, Nat.one_mul]] at e1
    by_cases hh : (xs.drop (a * k)).take k = (ys.drop (a * k)).take k
    · simp only [hh, decide_true, Bool.not_true, Bool.false_eq_true, if_false, e1]
      congr 1
      exact decide_eq_decide.2 ⟨fun g => (take_eq_drop hx hy).2 ⟨hh, g⟩, fun g => ((take_eq_drop (k := k) hx hy).1 g).2⟩
    · simp only [hh, decide_false, Bool.not_false, if_true, Sem.run_pure]
      congr 1
      exact (decide_eq_false fun g => hh ((take_eq_drop (k := k) hx hy).1 g).1).symm
theorem eq_fl (D : Nat) : ∀ d, EqFl P D d
  | 0, t, k, xs, ys, w, h, _, _ => by simp [fl] at h
  | d + 1, t, k, xs, ys, w, h, hx, hy => by
    have ih := eq_fl D d
    unfold fl at h
    unfold agB
    split at h
    · rename_i q hu
      split at h
      · simp only [Option.some.injEq] at h
        subst h
        match xs, ys, hx, hy with
        | [x], [y], _, _ =>
          rw [hu]
          simp only [vOf, Bool.false_eq_true, if_false]
          show (Op.equalIn (D + d + 1) t (.int .i64 x) (.int .i64 y)).run P w = _
          rw [run_equalIn_int w (D + d) t .i64 q x y hu]
          by_cases hxy : x = y <;> simp [hxy]
      · cases h
    · rename_i fs hu
      split at h
      · cases h
      · rename_i hst
        split at h
        · rename_i k' hf
          split at h
          · simp only [Option.some.injEq] at h
            subst h
            rw [hu]
            simp only [vOf, if_true]
            have e0 : P.fieldsOf t = fs := by simp [Program.fieldsOf, hu]
            rw [show D + (d + 1) = D + d + 1 from rfl, run_equalIn_struct w (D + d) t _ _ (by rw [e0]; exact hu) (by simpa using hst), e0]
            rw [eqFields_fl ih hx hy w fs.toList 0 hf]
            simp
          · cases h
        · cases h
    · rename_i m e hu
      split at h
      · rename_i k' hk
        split at h
        · rename_i h2
          simp only [Option.some.injEq] at h; subst h
          simp only [Bool.and_eq_true, decide_eq_true_eq, beq_iff_eq] at h2
          obtain ⟨⟨_, h3⟩, h4⟩ := h2
          obtain ⟨i, hi⟩ := Option.isSome_iff_exists.1 h4
          rw [hu]
          simp only [vOf, if_true]
          rw [show D + (d + 1) = D + d + 1 from rfl, run_equalIn_array w (D + d) _ _ hu hi, h3, List.range_eq_range']
          rw [eqItems_fl ih hk hx hy w m 0 (by omega)]
          simp
        · cases h
      · cases h
    · cases h
/-- The type is made of k numbers; so is every value of it. -/
def eqt (P : Program) (t : TypeId) : Option Nat := if P.eqGuardType P.depth t = false ∧ agB P t = true then fl P 5 t else none
theorem run_eqA {t : TypeId} {k : Nat} {xs ys : List Int} (h : eqt P t = some k) (hx : xs.length = k) (hy : ys.length = k) (w : World) : (Op.equal t (.agg (ivs xs).toArray) (.agg (ivs ys).toArray)).run P w = .ok (decide (xs = ys)) w := by
  unfold eqt at h
  split at h
  · rename_i hc
    have := eq_fl (P := P) 9995 5 t k xs ys w h hx hy
    rw [hc.2] at this
    exact this
  · cases h
theorem o_eqlA {t t' : TypeId} {x y : Operand} {k : Nat} {xs ys : List Int} (ht : eqt P t = some k) (hx : opv fr x = some (.agg (ivs xs).toArray)) (hy : opv fr y = some (.agg (ivs ys).toArray)) (h1 : xs.length = k) (h2 : ys.length = k) : OpF P n B w0 (.binOp .eql t x y t') ty fr hs (.bool (decide (xs = ys))) := fun a w ha _ => by
  have hg : P.eqGuardType P.depth t = false := by unfold eqt at ht; split at ht; exact (by assumption : _ ∧ _).1; cases ht
  simp [ex, execOp, ha.opv hx, ha.opv hy, run_eqGuard_agg w _ _ _ _ _ _ hg, binOp, run_eqA ht h1 h2]
theorem o_neqA {t t' : TypeId} {x y : Operand} {k : Nat} {xs ys : List Int} (ht : eqt P t = some k) (hx : opv fr x = some (.agg (ivs xs).toArray)) (hy : opv fr y = some (.agg (ivs ys).toArray)) (h1 : xs.length = k) (h2 : ys.length = k) : OpF P n B w0 (.binOp .neq t x y t') ty fr hs (.bool (decide (xs ≠ ys))) := fun a w ha _ => by
  have hg : P.eqGuardType P.depth t = false := by unfold eqt at ht; split at ht; exact (by assumption : _ ∧ _).1; cases ht
  simp only [ex, execOp, ha.opv hx, ha.opv hy, Sem.run_bind, run_eqGuard_agg w _ _ _ _ _ _ hg, binOp, run_eqA ht h1 h2]
  by_cases h : xs = ys <;> simp [h, run_eqA ht h1 h2]
theorem o_eqlA2 {t t' : TypeId} {x y : Operand} {a b c d : Int} (ht : eqt P t = some 2) (hx : opv fr x = some (.agg #[iv a, iv b])) (hy : opv fr y = some (.agg #[iv c, iv d])) : OpF P n B w0 (.binOp .eql t x y t') ty fr hs (.bool (decide (a = c ∧ b = d))) := by
  have h := o_eqlA (P := P) (n := n) (B := B) (w0 := w0) (fr := fr) (hs := hs) (ty := ty) (t' := t') (xs := [a, b]) (ys := [c, d]) ht hx hy rfl rfl
  rwa [show decide ([a, b] = [c, d]) = decide (a = c ∧ b = d) from decide_eq_decide.2 (by simp)] at h
theorem o_neqA2 {t t' : TypeId} {x y : Operand} {a b c d : Int} (ht : eqt P t = some 2) (hx : opv fr x = some (.agg #[iv a, iv b])) (hy : opv fr y = some (.agg #[iv c, iv d])) : OpF P n B w0 (.binOp .neq t x y t') ty fr hs (.bool (decide (¬ (a = c ∧ b = d)))) := by
  have h := o_neqA (P := P) (n := n) (B := B) (w0 := w0) (fr := fr) (hs := hs) (ty := ty) (t' := t') (xs := [a, b]) (ys := [c, d]) ht hx hy rfl rfl
  rwa [show decide ([a, b] ≠ [c, d]) = decide (¬ (a = c ∧ b = d)) from decide_eq_decide.2 (by simp)] at h
theorem o_eqlA3 {t t' : TypeId} {x y : Operand} {a b e c d f : Int} (ht : eqt P t = some 3) (hx : opv fr x = some (.agg #[iv a, iv b, iv e])) (hy : opv fr y = some (.agg #[iv c, iv d, iv f])) : OpF P n B w0 (.binOp .eql t x y t') ty fr hs (.bool (decide (a = c ∧ b = d ∧ e = f))) := by
  have h := o_eqlA (P := P) (n := n) (B := B) (w0 := w0) (fr := fr) (hs := hs) (ty := ty) (t' := t') (xs := [a, b, e]) (ys := [c, d, f]) ht hx hy rfl rfl
  rwa [show decide ([a, b, e] = [c, d, f]) = decide (a = c ∧ b = d ∧ e = f) from decide_eq_decide.2 (by simp)] at h
theorem o_neqA3 {t t' : TypeId} {x y : Operand} {a b e c d f : Int} (ht : eqt P t = some 3) (hx : opv fr x = some (.agg #[iv a, iv b, iv e])) (hy : opv fr y = some (.agg #[iv c, iv d, iv f])) : OpF P n B w0 (.binOp .neq t x y t') ty fr hs (.bool (decide (¬ (a = c ∧ b = d ∧ e = f)))) := by
  have h := o_neqA (P := P) (n := n) (B := B) (w0 := w0) (fr := fr) (hs := hs) (ty := ty) (t' := t') (xs := [a, b, e]) (ys := [c, d, f]) ht hx hy rfl rfl
  rwa [show decide ([a, b, e] ≠ [c, d, f]) = decide (¬ (a = c ∧ b = d ∧ e = f)) from decide_eq_decide.2 (by simp)] at h
end
/-- The slice holds these cells. -/
def Sv (B : Nat) (w0 : Wd) (hs : HS) (oa : Option Addr) (cs : List Value) : Prop := ∀ i, i < cs.length → oa.isSome = true ∧ ∀ w, Hp B w0 w hs → w.cell? (ea oa i) = cs[i]?
theorem Sv.ints {B : Nat} {w0 : Wd} {hs : HS} {oa : Option Addr} {l : List Int} (h : Sv B w0 hs oa (ivs l)) : Sl B w0 hs oa l := fun i hi => by
  obtain ⟨h1, h2⟩ := h i (by rw [ivs_length]; exact hi)
  exact ⟨h1, fun w hw => by rw [h2 w hw, ivs_get hi]⟩
theorem Sl.sv {B : Nat} {w0 : Wd} {hs : HS} {oa : Option Addr} {l : List Int} (h : Sl B w0 hs oa l) : Sv B w0 hs oa (ivs l) := fun i hi => by
  rw [ivs_length] at hi
  obtain ⟨h1, h2⟩ := h i hi
  exact ⟨h1, fun w hw => by rw [h2 w hw, ivs_get hi]⟩
theorem Sv.sub {B : Nat} {w0 : Wd} {hs hs' : HS} {oa : Option Addr} {cs : List Value} (h : Sv B w0 hs oa cs) (hsub : hs.Sublist hs') : Sv B w0 hs' oa cs := fun i hi => ⟨(h i hi).1, fun w hw => (h i hi).2 w (hw.sub hsub)⟩
section
variable {P : Program} {n : NN} {B : Nat} {w0 : Wd} {fr : FR} {hs hs' : HS} {ty : TypeId} {K : Act → World → Prop} {ops : Array Oper} {l : List Oper} {d : Nat} {pos : String} {aft : Array Edge}
/-- One more element, or more, behind a row: what the run comes to. -/
theorem run_app3 {t t' : TypeId} {size bytes k m c c' : Nat} {oa : Option Addr} {ad : Addr} {xs news : List Value} {blk H rest : HS} {w : World} (hap : ap P t = some (size, bytes)) (hw : Hp B w0 w H) (hT : Take blk H rest)
    (hr : RowOk oa c size xs blk) (hk : xs.length = k * size) (hnews : ∀ (j : Nat) (u : Value), news[j]? = some u → w.cell? (ad.add j) = some u) (hl : news.length = m * size) (h0 : 0 < m) (hf : Flat news) (hb : k + m ≤ 1000000) (hby : bytes ≤ 1000000) :
    ∃ oa2 c2 blk2 w2, (Builtin.append_ #[t, t] t' #[.slice oa k c, .slice (some ad) m c']).run P w = .ok (.slice oa2 (k + m) c2) w2 ∧ RowOk oa2 c2 size (xs ++ news) blk2 ∧ Hp B w0 w2 (blk2 ++ rest) := by
  unfold ap at hap
  split at hap
  · rename_i e hu
    split at hap
    · rename_i i hi
      split at hap
      · rename_i z hz
        split at hap
        · rename_i hzs
          simp only [Option.some.injEq, Prod.mk.injEq] at hap
          obtain ⟨hs1, hs2⟩ := hap
          obtain ⟨hzs, hsz⟩ := hzs
          subst hs1 hs2
          have hwp := hw.perm hT
          have hmul : (k + m) * i.bytes ≤ 140737488355328 := Nat.le_trans (Nat.mul_le_mul hb hby) (by decide)
          have hrest : Hp B w0 w rest := hwp.sub (List.sublist_append_right _ _)
          have fresh : ∀ old, ∃ z2, Hp B w0 (w.drew.alloc (.cells (xs.toArray ++ news.toArray ++ Builtin.zeroCells z.cells (grownCap w (k + m) old e - (k + m))) e)) ((w.heap.size, (xs ++ news) ++ z2) :: rest) ∧ ((xs ++ news) ++ z2).length = grownCap w (k + m) old e * i.size := fun old => by
            refine ⟨(Builtin.zeroCells z.cells (grownCap w (k + m) old e - (k + m))).toList, ?_, ?_⟩
            · have := hrest.drew.fresh (xs.toArray ++ news.toArray ++ Builtin.zeroCells z.cells (grownCap w (k + m) old e - (k + m))) e
              rw [show w.drew.heap.size = w.heap.size from rfl] at this
              simpa using this
            · have hge := grownCap_ge w (k + m) old e
              simp only [List.length_append, Array.length_toList, size_zeroCells, hzs, hk, hl]
              rw [← Nat.add_mul, ← Nat.add_mul]
              congr 1; omega
          rcases hr with ⟨rfl, rfl, rfl, rfl⟩ | ⟨b, z1, rfl, rfl, hlen, hc⟩
          · have hk0 : k = 0 := by
              simp only [List.length_nil] at hk
              rcases Nat.eq_zero_or_pos k with h | h
              · exact h
              · have := Nat.mul_pos h hsz; omega
            subst hk0
            have hr := run_append_nil (P := P) w t t' e i z hu hi hz ad m c' news hl hnews h0 (by omega) (by have := hmul; simp only [Nat.zero_add] at this; omega)
            obtain ⟨z2, h2, h3⟩ := fresh 0
            simp only [Nat.zero_add, List.nil_append, Array.empty_append] at hr h2 h3 ⊢
            exact ⟨_, _, [(w.heap.size, news ++ z2)], _, hr, .inr ⟨_, z2, rfl, rfl, h3, grownCap_le_maxLen w m 0 e (by simp only [maxLen]; omega)⟩, h2⟩
          · by_cases hroom : k + m ≤ c
            · have hfit : k * i.size + news.length ≤ (xs ++ z1).length := by rw [hlen, hl, ← Nat.add_mul]; exact Nat.mul_le_mul_right _ hroom
              have hu1 : Upd b (xs ++ z1) (setAll (xs ++ z1) (k * i.size) news) ([(b, xs ++ z1)] ++ rest) ([(b, setAll (xs ++ z1) (k * i.size) news)] ++ rest) := .head _
              obtain ⟨w2, h1, h2⟩ := run_storeCells_own (P := P) b news (k * i.size) (xs ++ z1) _ _ w hwp hf hfit hu1 (k * i.size) (Nat.le_refl _)
              have hff := run_firstCells_some (P := P) w i.size m ad m c' news hl hnews
              have e1 : setAll (xs ++ z1) (k * i.size) news = (xs ++ news) ++ (xs ++ z1).drop (k * i.size + news.length) := by
                rw [setAll_take _ _ _ hfit, ← hk, List.take_left]
              rw [e1] at h2
              refine ⟨_, _, _, w2, ?_, .inr ⟨b, _, rfl, rfl, ?_, hc⟩, h2⟩
              · simp only [Nat.sub_self] at h1
                simp [Builtin.append_, run_underlying hu, sizeOf, typeInfo, hi, Builtin.lenOf, hroom, hff, add_own, h1]
              · rw [← e1, setAll_length]; exact hlen
            · have holds : ∀ j u, xs[j]? = some u → w.cell? ((⟨b, 0, none⟩ : Addr).add j) = some u := fun j u hj => hwp.cells_at (.head _) j u (by rw [List.getElem?_append_left (List.getElem?_eq_some_iff.1 hj).1]; exact hj)
              have hr := run_append_grow (P := P) w t t' e i z hu hi hz ⟨b, 0, none⟩ k c xs hk holds ad m c' news hl hnews (by omega) (by omega) (growslice_fits (by omega) hmul)
              obtain ⟨z2, h2, h3⟩ := fresh c
              exact ⟨_, _, [(w.heap.size, (xs ++ news) ++ z2)], _, hr, .inr ⟨_, z2, rfl, rfl, h3, grownCap_le_maxLen w _ _ e (by simp only [maxLen]; omega)⟩, h2⟩
        · cases hap
      · cases hap
    · cases hap
  · cases hap
theorem RowOk.room {oa : Option Addr} {c size : Nat} {xs : List Value} {blk : HS} (h : RowOk oa c size xs blk) : (oa = none ∧ c = 0) ∨ ∃ b, oa = some ⟨b, 0, none⟩ := by
  rcases h with ⟨h1, h2, _⟩ | ⟨b, z, h1, _⟩
  · exact .inl ⟨h1, h2⟩
  · exact .inr ⟨b, h1⟩
theorem run_app0 {t t' : TypeId} {size bytes k c c' : Nat} {oa os : Option Addr} {xs : List Value} {blk : HS} {w : World} (hap : ap P t = some (size, bytes)) (hr : RowOk oa c size xs blk) (hk : xs.length = k * size) :
    (Builtin.append_ #[t, t] t' #[.slice oa k c, .slice os 0 c']).run P w = .ok (.slice oa k c) w := by
  unfold ap at hap
  split at hap
  · rename_i e hu
    split at hap
    · rename_i i hi
      split at hap
      · rename_i z hz
        split at hap
        · rename_i hzs
          simp only [Option.some.injEq, Prod.mk.injEq] at hap
          have hkc := hr.cap hk (by omega)
          have hff : (Builtin.firstCells i.size 0 (.slice os 0 c')).run P w = .ok #[] w := by
            cases os <;> simp [Builtin.firstCells, loadCells, loadCellsFrom]
          rcases hr.room with ⟨rfl, rfl⟩ | ⟨b, rfl⟩
          · obtain rfl : k = 0 := by omega
            simp [Builtin.append_, run_underlying hu, sizeOf, typeInfo, hi, Builtin.lenOf, hff]
          · simp [Builtin.append_, run_underlying hu, sizeOf, typeInfo, hi, Builtin.lenOf, hkc, hff, storeCells]
        · cases hap
      · cases hap
    · cases hap
  · cases hap
/-- A whole slice behind a row: what the run comes to. -/
theorem run_appS {t t' : TypeId} {size bytes k m c c' : Nat} {oa os : Option Addr} {xs news : List Value} {blk H rest : HS} {w : World} {x y : Operand} {a : Act} (hap : ap P t = some (size, bytes)) (ha : Fr n a fr) (hx : opv fr x = some (.slice oa k c)) (hy : opv fr y = some (.slice os m c')) (hw : Hp B w0 w H) (hT : Take blk H rest)
    (hr : RowOk oa c size xs blk) (hk : xs.length = k * size) (hm : Sv B w0 H os news) (hl : news.length = m * size) (hf : Flat news) (hb : k + m ≤ 1000000) (hby : bytes ≤ 1000000) (dst : Option Nat) :
    ∃ oa2 c2 blk2 w2, (execOp a.eval ⟨dst, .call ⟨.builtin .append, #[x, y], #[t, t]⟩, t', pos, aft, none⟩).run P w = .ok (.value (.slice oa2 (k + m) c2)) w2 ∧ RowOk oa2 c2 size (xs ++ news) blk2 ∧ Hp B w0 w2 (blk2 ++ rest) := by
  have hsz : 0 < size := by
    unfold ap at hap
    split at hap
    · split at hap
      · split at hap
        · split at hap
          · rename_i h; simp only [Option.some.injEq, Prod.mk.injEq] at hap; omega
          · cases hap
        · cases hap
      · cases hap
    · cases hap
  by_cases h0 : m = 0
  · subst h0
    have hn : news = [] := List.length_eq_zero_iff.1 (by simpa using hl)
    subst hn
    have h1 := run_app0 (P := P) (t' := t') (os := os) (c' := c') (w := w) hap hr hk
    refine ⟨oa, c, blk, w, ?_, by simpa using hr, hw.perm hT⟩
    simp only [execOp, resolve, invoke, builtin, Sem.run_bind, Sem.run_pure, Result.andThen_ok, List.map_toArray, List.map_cons, List.map_nil, ha.opv hx, ha.opv hy, h1, Nat.add_zero]
  · have hp : 0 < news.length := by rw [hl]; exact Nat.mul_pos (by omega) hsz
    obtain ⟨ad, rfl⟩ := Option.isSome_iff_exists.1 (hm 0 hp).1
    obtain ⟨oa2, c2, blk2, w2, h1, h2, h3⟩ := run_app3 (P := P) (t' := t') (c' := c') (ad := ad) hap hw hT hr hk (fun j u hj => by
      have hj' := (List.getElem?_eq_some_iff.1 hj).1
      have := (hm j hj').2 w hw
      rw [ea_some] at this
      rw [this, hj]) hl (by omega) hf hb hby
    refine ⟨oa2, c2, blk2, w2, ?_, h2, h3⟩
    simp only [execOp, resolve, invoke, builtin, Sem.run_bind, Sem.run_pure, Result.andThen_ok, List.map_toArray, List.map_cons, List.map_nil, ha.opv hx, ha.opv hy, h1]
theorem s_appS {t : TypeId} {size bytes k m c c' : Nat} {oa os : Option Addr} {xs news : List Value} {blk rest : HS} {x y : Operand} (hap : ap P t = some (size, bytes)) (hx : opv fr x = some (.slice oa k c)) (hy : opv fr y = some (.slice os m c')) (hT : Take blk hs rest)
    (hr : RowOk oa c size xs blk) (hk : xs.length = k * size) (hm : Sv B w0 hs os news) (hl : news.length = m * size) (hf : Flat news) (hb : k + m ≤ 1000000) (hby : bytes ≤ 1000000) (hn : d < n.n)
    (h : ∀ oa2 c2 blk2, RowOk oa2 c2 size (xs ++ news) blk2 → Sat n B w0 (sl P ops K l) ((d, .slice oa2 (k + m) c2) :: fr) (blk2 ++ rest)) :
    Sat n B w0 (sl P ops K (⟨some d, .call ⟨.builtin .append, #[x, y], #[t, t]⟩, ty, pos, aft, none⟩ :: l)) fr hs := sat_mk fun a w ha hw => by
  obtain ⟨oa2, c2, blk2, w2, h1, h2, h3⟩ := run_appS (P := P) (t' := ty) (pos := pos) (aft := aft) (dst := some d) hap ha hx hy hw hT hr hk hm hl hf hb hby
  have h4 := sat_el (h oa2 c2 blk2 h2) _ _ (ha.put hn _) h3
  unfold sl
  rw [if_pos (by simp [Region.wanted])]
  unfold Oper.wp
  rw [h1]
  exact h4
theorem ea_ea {oa : Option Addr} (h : oa.isSome = true) (i j : Nat) : (ea oa i).add j = ea oa (i + j) := by
  obtain ⟨a, rfl⟩ := Option.isSome_iff_exists.1 h
  rw [ea_some, ea_some, Addr.add_add]
theorem Sl.cell {oa : Option Addr} {l : List Int} (h : Sl B w0 hs oa l) (hsub : hs.Sublist hs') {o j : Nat} (hj : o + j < l.length) : CellAt B w0 hs' ((ea oa o).add j) (iv (l.getD (o + j) 0)) := fun w hw => by
  rw [ea_ea (h.any hj)]
  exact h.at hsub hj w hw
theorem own_cell {b o j : Nat} {l : List Int} (hm : (b, ivs l) ∈ hs) (hj : o + j < l.length) : CellAt B w0 hs ((⟨b, o, none⟩ : Addr).add j) (iv (l.getD (o + j) 0)) := by
  rw [add_own]; exact own_iv hm hj
theorem ld_2 {t : TypeId} {ad : Addr} {v0 v1 : Value} (ht : sh P t = some (true, 2)) (h0 : CellAt B w0 hs (ad.add 0) v0) (h1 : CellAt B w0 hs (ad.add 1) v1) : Ld P B w0 hs t ad (.agg #[v0, v1]) :=
  ld_agg (vs := [v0, v1]) ht rfl (fun j v hj => by
    match j, hj with
    | 0, hj => simp at hj; subst hj; exact h0
    | 1, hj => simp at hj; subst hj; exact h1)
theorem ld_3 {t : TypeId} {ad : Addr} {v0 v1 v2 : Value} (ht : sh P t = some (true, 3)) (h0 : CellAt B w0 hs (ad.add 0) v0) (h1 : CellAt B w0 hs (ad.add 1) v1) (h2 : CellAt B w0 hs (ad.add 2) v2) : Ld P B w0 hs t ad (.agg #[v0, v1, v2]) :=
  ld_agg (vs := [v0, v1, v2]) ht rfl (fun j v hj => by
    match j, hj with
    | 0, hj => simp at hj; subst hj; exact h0
    | 1, hj => simp at hj; subst hj; exact h1
    | 2, hj => simp at hj; subst hj; exact h2)
theorem ld_4 {t : TypeId} {ad : Addr} {v0 v1 v2 v3 : Value} (ht : sh P t = some (true, 4)) (h0 : CellAt B w0 hs (ad.add 0) v0) (h1 : CellAt B w0 hs (ad.add 1) v1) (h2 : CellAt B w0 hs (ad.add 2) v2) (h3 : CellAt B w0 hs (ad.add 3) v3) : Ld P B w0 hs t ad (.agg #[v0, v1, v2, v3]) :=
  ld_agg (vs := [v0, v1, v2, v3]) ht rfl (fun j v hj => by
    match j, hj with
    | 0, hj => simp at hj; subst hj; exact h0
    | 1, hj => simp at hj; subst hj; exact h1
    | 2, hj => simp at hj; subst hj; exact h2
    | 3, hj => simp at hj; subst hj; exact h3)
theorem ld_2I {t : TypeId} {b o : Nat} {l : List Int} (ht : sh P t = some (true, 2)) (hm : (b, ivs l) ∈ hs) (hl : o + 1 < l.length) : Ld P B w0 hs t ⟨b, o, none⟩ (.agg #[iv (l.getD o 0), iv (l.getD (o + 1) 0)]) := ld_2 ht (own_cell hm (by omega)) (own_cell hm hl)
theorem ld_3I {t : TypeId} {b o : Nat} {l : List Int} (ht : sh P t = some (true, 3)) (hm : (b, ivs l) ∈ hs) (hl : o + 2 < l.length) : Ld P B w0 hs t ⟨b, o, none⟩ (.agg #[iv (l.getD o 0), iv (l.getD (o + 1) 0), iv (l.getD (o + 2) 0)]) := ld_3 ht (own_cell hm (by omega)) (own_cell hm (by omega)) (own_cell hm hl)
theorem ld_4I {t : TypeId} {b o : Nat} {l : List Int} (ht : sh P t = some (true, 4)) (hm : (b, ivs l) ∈ hs) (hl : o + 3 < l.length) : Ld P B w0 hs t ⟨b, o, none⟩ (.agg #[iv (l.getD o 0), iv (l.getD (o + 1) 0), iv (l.getD (o + 2) 0), iv (l.getD (o + 3) 0)]) := ld_4 ht (own_cell hm (by omega)) (own_cell hm (by omega)) (own_cell hm (by omega)) (own_cell hm hl)
theorem ld_2S {t : TypeId} {oa : Option Addr} {o : Nat} {l : List Int} (ht : sh P t = some (true, 2)) (h : Sl B w0 hs' oa l) (hsub : hs'.Sublist hs) (hl : o + 1 < l.length) : Ld P B w0 hs t (ea oa o) (.agg #[iv (l.getD o 0), iv (l.getD (o + 1) 0)]) := ld_2 ht (h.cell hsub (by omega)) (h.cell hsub hl)
theorem ld_3S {t : TypeId} {oa : Option Addr} {o : Nat} {l : List Int} (ht : sh P t = some (true, 3)) (h : Sl B w0 hs' oa l) (hsub : hs'.Sublist hs) (hl : o + 2 < l.length) : Ld P B w0 hs t (ea oa o) (.agg #[iv (l.getD o 0), iv (l.getD (o + 1) 0), iv (l.getD (o + 2) 0)]) := ld_3 ht (h.cell hsub (by omega)) (h.cell hsub (by omega)) (h.cell hsub hl)
theorem ld_4S {t : TypeId} {oa : Option Addr} {o : Nat} {l : List Int} (ht : sh P t = some (true, 4)) (h : Sl B w0 hs' oa l) (hsub : hs'.Sublist hs) (hl : o + 3 < l.length) : Ld P B w0 hs t (ea oa o) (.agg #[iv (l.getD o 0), iv (l.getD (o + 1) 0), iv (l.getD (o + 2) 0), iv (l.getD (o + 3) 0)]) := ld_4 ht (h.cell hsub (by omega)) (h.cell hsub (by omega)) (h.cell hsub (by omega)) (h.cell hsub hl)
/-- A part of an array. -/
theorem o_sliceAL {t : TypeId} {x lo : Operand} {b : Bool} {k m j b' o : Nat} {i : Int} (ht : ar P t = some (m, b, k)) (hx : opv fr x = some (.pointer (some ⟨b', o, none⟩))) (hl : opv fr lo = some (.int .i64 i)) (hj : i = (j : Int)) (h1 : j < m) :
    OpF P n B w0 (.slice t x (some lo) none none) ty fr hs (.slice (some ⟨b', o + j * k, none⟩) (m - j) (m - j)) := fun a w ha _ => by
  unfold ar at ht
  split at ht
  · rename_i m' e hu
    split at ht
    · rename_i b2 k2 hk
      simp only [Option.some.injEq, Prod.mk.injEq] at ht
      obtain ⟨rfl, rfl, rfl⟩ := ht
      have hb : (Instr.sliceBounds false m' m' (some (.int .i64 i)) none none).run P w = .ok (j, m', m') w := by
        simp [Instr.sliceBounds, run_slb _ hj (Nat.le_of_lt h1)]
      have hne : ¬ m' = j := by omega
      simp [ex, execOp, ha.opv hx, ha.opv hl, Instr.sliceAt, underlying, hu, Instr.sureAddr, hb, run_sizeOf hk, hne, add_own]
    · cases ht
  · cases ht
/-- A whole slice behind a row that has room but no elements. -/
theorem s_appZ {t : TypeId} {size bytes m c c' : Nat} {oa os : Option Addr} {news : List Value} {blk rest : HS} {x y : Operand} (hap : ap P t = some (size, bytes)) (hx : opv fr x = some (.slice oa 0 c)) (hy : opv fr y = some (.slice os m c')) (hT : Take blk hs rest)
    (hr : RowOk oa c size [] blk) (hm : Sv B w0 hs os news) (hl : news.length = m * size) (hf : Flat news) (hb : m ≤ 1000000) (hby : bytes ≤ 1000000) (hn : d < n.n)
    (h : ∀ oa2 c2 blk2, RowOk oa2 c2 size news blk2 → Sat n B w0 (sl P ops K l) ((d, .slice oa2 m c2) :: fr) (blk2 ++ rest)) :
    Sat n B w0 (sl P ops K (⟨some d, .call ⟨.builtin .append, #[x, y], #[t, t]⟩, ty, pos, aft, none⟩ :: l)) fr hs :=
  s_appS (k := 0) hap hx hy hT hr (by simp) hm hl hf (by omega) hby hn (fun oa2 c2 blk2 hr => by rw [Nat.zero_add]; exact h oa2 c2 blk2 hr)
theorem s_bs0 {t : TypeId} {z : List Value} {b : Bool} {k : Nat} (ht : sc P t = some (b, k)) (hz : zs P t = some z.toArray) (hn : d < n.n)
    (h : ∀ bb, Sat n B w0 (sl P ops K l) ((d, .slice (some ⟨bb, 0, none⟩) 0 0) :: fr) ((bb, []) :: hs)) :
    Sat n B w0 (sl P ops K (⟨some d, .buildSlice t 0 #[], ty, pos, aft, none⟩ :: l)) fr hs :=
  s_bslice (xs := []) (vs := []) rfl ht hz rfl trivial (by omega) hn h
/-- A call that turns some blocks. -/
theorem s_mut {f : Nat} {xs : List Operand} {vs : List Value} {ts : Array TypeId} {v : Value} {blk blk' rest : HS} (hf : isGo P f = true) (hv : argv fr xs = some vs) (hT : Take blk hs rest) (hc : Fn P f vs.toArray B w0 (blk ++ rest) (fun u h => u = v ∧ h = blk' ++ rest)) (hn : d < n.n)
    (h : Sat n B w0 (sl P ops K l) ((d, v) :: fr) (blk' ++ rest)) :
    Sat n B w0 (sl P ops K (⟨some d, .call { callee := .value (.func f), args := xs.toArray, argTypes := ts }, ty, pos, aft, none⟩ :: l)) fr hs :=
  Sat.perm hT (s_call hf hv hc hn (by rintro u h' ⟨rfl, rfl⟩; exact h))
theorem s_mut1 {f b : Nat} {xs : List Operand} {vs : List Value} {ts : Array TypeId} {v : Value} {cs cs' : List Value} {rest : HS} (hf : isGo P f = true) (hv : argv fr xs = some vs) (hT : Take [(b, cs)] hs rest) (hc : Fn P f vs.toArray B w0 ((b, cs) :: rest) (fun u h => u = v ∧ h = (b, cs') :: rest)) (hn : d < n.n)
    (h : Sat n B w0 (sl P ops K l) ((d, v) :: fr) ((b, cs') :: rest)) :
    Sat n B w0 (sl P ops K (⟨some d, .call { callee := .value (.func f), args := xs.toArray, argTypes := ts }, ty, pos, aft, none⟩ :: l)) fr hs :=
  s_mut (blk := [(b, cs)]) (blk' := [(b, cs')]) hf hv hT hc hn h
/-- An array that is written out. -/
theorem o_buildA {t : TypeId} {xs : List (Nat × Operand)} {vs : List (Nat × Value)} {zs out : List Value} {m k : Nat} {b : Bool} (hx : partv fr xs = some vs) (hz : zc P t = some zs.toArray) (ht : ar P t = some (m, b, k))
    (ho : bldL (fun i => some (i * k, k)) zs vs = some out) : OpF P n B w0 (.build t xs.toArray) ty fr hs (.agg out.toArray) := fun a w ha _ => by
  unfold ar at ht
  split at ht
  · rename_i m' e hu
    split at ht
    · rename_i b2 k2 hk
      simp only [Option.some.injEq, Prod.mk.injEq] at ht
      obtain ⟨rfl, rfl, rfl⟩ := ht
      unfold zc at hz
      cases hi : P.info? t with
      | none => simp [hi] at hz
      | some i =>
        simp only [hi, Option.map_eq_some_iff] at hz
        obtain ⟨zv, hzv, hzz⟩ := hz
        have h1 : (xs.toArray.map (fun (i, x) => (i, a.eval x))) = vs.toArray := by rw [← partv_map ha xs vs hx]; simp
        have h2 := fill_bldL (fun i => some (i * k2, k2)) vs zs.toArray out (by simpa using ho)
        simp [ex, execOp, h1, Instr.build, zeroValue, typeInfo, hi, hzv, underlying, hu, hzz, run_sizeOf hk, h2]
    · cases ht
  · cases ht
theorem o_bldA2 {t : TypeId} {x y : Operand} {v u z0 z1 : Value} (hx : opv fr x = some v) (hy : opv fr y = some u) (h1 : v.cells = #[v]) (h2 : u.cells = #[u]) (hz : zc P t = some [z0, z1].toArray) (ht : ar P t = some (2, false, 1)) :
    OpF P n B w0 (.build t #[(0, x), (1, y)]) ty fr hs (.agg #[v, u]) :=
  o_buildA (xs := [(0, x), (1, y)]) (vs := [(0, v), (1, u)]) (by simp [partv, hx, hy]) hz ht (by simp [bldL, one_sz h1, one_sz h2, one_toList h1, one_toList h2, setAll])
end
end Go.Proofs.YtnbickholedckaaGreatDoor
namespace Go.Proofs.YtnbickholedckaaGreatDoor
open Go.RowKit
def eqT : List (Nat × Nat) := [(38, 4), (39, 4), (40, 5), (41, 5), (42, 10), (43, 10), (80, 2)]
set_option maxRecDepth 100000 in
theorem eqTOk : eqT.all (fun p => eqt Tryz.prog p.1 == some p.2) = true := by kernel_rfl
theorem eqTOf {t : Nat} {r : Nat} (h : getT eqT t = some r) : eqt Tryz.prog t = some r := by
  have := List.all_eq_true.1 eqTOk _ (getT_mem h)
  simpa using this
def btT : List (Nat × Unit) := [(4, ())]
set_option maxRecDepth 100000 in
theorem btTOk : btT.all (fun p => bt Tryz.prog p.1) = true := by kernel_rfl
set_option maxRecDepth 100000 in
theorem btTOf {t : Nat} (h : getT btT t = some ()) : bt Tryz.prog t = true := List.all_eq_true.1 btTOk _ (getT_mem h)
end Go.Proofs.YtnbickholedckaaGreatDoor
