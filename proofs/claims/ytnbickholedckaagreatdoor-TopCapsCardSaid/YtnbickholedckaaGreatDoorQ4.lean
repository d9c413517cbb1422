/- Texts of this claim, put together; the parts that it needs. -/
import Derived.Test.YtnbickholedckaaGreatDoorQ3
import Derived.RangeFuncRecord
import Derived.OrdersIn
import Derived.Laws.Concat
import Derived.Test.YtnbickholedckaaGreatDoorRows
import Derived.KernelRfl
import Derived.Shelf.Strings.Builder1
import Derived.Lib.AppendStr
import Derived.Lib.UnsafeStr
namespace Go.Proofs.YtnbickholedckaaGreatDoor
open Go.RowKit
section
variable {n : NN} {B : Nat} {w0 : Wd} {fr fr' : FR} {hs hs' S X : HS} {ty : TypeId} {K : Act → World → Prop} {Ka : Act → Prop}
  {ops : Array Oper} {l : List Oper} {d f : Nat} {fl : List Nat} {pos : String} {aft : Array Edge} {v : Value}
theorem sX {op : Op} (h : Sat n B w0 (sl Tryz.prog ops K l) ((d, v) :: fr) hs) (hv : OpF Tryz.prog n B w0 op ty fr hs v := by first | ((with_reducible apply gO (.load _ _)); first | exact o_load rfl (ld_2I (shTOf rfl) (by with_reducible first | exact mm0 | exact mm1 | exact mm2 | exact mm3 | exact mm4 | exact mm5 | exact mm6 | exact mm7 | exact mm8 | ((repeat (first | exact mm0 | refine mmT ?_ | refine mmA ?_)); done)) (by first | omega | (simp only [List.length_cons, List.length_nil]; omega) | (simp only [List.length_set]; omega))) | exact o_load rfl (ld_3I (shTOf rfl) (by with_reducible first | exact mm0 | exact mm1 | exact mm2 | exact mm3 | exact mm4 | exact mm5 | exact mm6 | exact mm7 | exact mm8 | ((repeat (first | exact mm0 | refine mmT ?_ | refine mmA ?_)); done)) (by first | omega | (simp only [List.length_cons, List.length_nil]; omega) | (simp only [List.length_set]; omega))) | exact o_load rfl (ld_4I (shTOf rfl) (by with_reducible first | exact mm0 | exact mm1 | exact mm2 | exact mm3 | exact mm4 | exact mm5 | exact mm6 | exact mm7 | exact mm8 | ((repeat (first | exact mm0 | refine mmT ?_ | refine mmA ?_)); done)) (by first | omega | (simp only [List.length_cons, List.length_nil]; omega) | (simp only [List.length_set]; omega))) | exact o_load rfl (ld_2S (shTOf rfl) (by assumption) (by with_reducible first | exact sb0 | exact sb1 | exact sb2 | exact sb3 | exact sb4 | exact sb5 | exact sb6 | exact sb7 | exact sb8 | exact sbL | ((repeat (first | exact sb0 | exact sbL | refine .cons _ ?_ | refine sbA ?_)); done)) (by omega)) | exact o_load rfl (ld_3S (shTOf rfl) (by assumption) (by with_reducible first | exact sb0 | exact sb1 | exact sb2 | exact sb3 | exact sb4 | exact sb5 | exact sb6 | exact sb7 | exact sb8 | exact sbL | ((repeat (first | exact sb0 | exact sbL | refine .cons _ ?_ | refine sbA ?_)); done)) (by omega)) | exact o_load rfl (ld_4S (shTOf rfl) (by assumption) (by with_reducible first | exact sb0 | exact sb1 | exact sb2 | exact sb3 | exact sb4 | exact sb5 | exact sb6 | exact sb7 | exact sb8 | exact sbL | ((repeat (first | exact sb0 | exact sbL | refine .cons _ ?_ | refine sbA ?_)); done)) (by omega))) | ((with_reducible apply gO (.slice _ _ (some _) none none)); first | exact o_sliceL (scTOf rfl) rfl rfl (by with_reducible first | exact nn0 _ | exact nn1 _ | exact nn6 | exact nn7 | exact nn8 | exact nn2 _ _ | exact nn4 (by omega) | exact nn5 (by omega) | exact nn3 (by omega)) (by omega) | exact o_sliceAL (arTOf rfl) rfl rfl (by with_reducible first | exact nn0 _ | exact nn1 _ | exact nn6 | exact nn7 | exact nn8 | exact nn2 _ _ | exact nn4 (by omega) | exact nn5 (by omega) | exact nn3 (by omega)) (by omega)) | ((with_reducible apply gO (.slice _ _ none (some _) none)); first | exact o_sliceH (scTOf rfl) rfl rfl (by with_reducible first | exact nn0 _ | exact nn1 _ | exact nn6 | exact nn7 | exact nn8 | exact nn2 _ _ | exact nn4 (by omega) | exact nn5 (by omega) | exact nn3 (by omega)) (by omega)) | ((with_reducible apply gO (.slice _ _ (some _) (some _) none)); first | exact o_sliceLH (scTOf rfl) rfl rfl rfl (by with_reducible first | exact nn0 _ | exact nn1 _ | exact nn6 | exact nn7 | exact nn8 | exact nn2 _ _ | exact nn4 (by omega) | exact nn5 (by omega) | exact nn3 (by omega)) (by with_reducible first | exact nn0 _ | exact nn1 _ | exact nn6 | exact nn7 | exact nn8 | exact nn2 _ _ | exact nn4 (by omega) | exact nn5 (by omega) | exact nn3 (by omega)) (by omega) (by omega)) | ((with_reducible apply gO (.slice _ _ none (some _) (some _))); first | exact o_sliceHM (scTOf rfl) rfl rfl rfl (by with_reducible first | exact nn0 _ | exact nn1 _ | exact nn6 | exact nn7 | exact nn8 | exact nn2 _ _ | exact nn4 (by omega) | exact nn5 (by omega) | exact nn3 (by omega)) (by with_reducible first | exact nn0 _ | exact nn1 _ | exact nn6 | exact nn7 | exact nn8 | exact nn2 _ _ | exact nn4 (by omega) | exact nn5 (by omega) | exact nn3 (by omega)) (by omega) (by omega)) | ((with_reducible apply gO (.build _ _)); first | exact o_bldA2 rfl rfl rfl rfl (zcTOf rfl) (arTOf rfl) | exact o_buildA rfl (zcTOf rfl) (arTOf rfl) rfl) | ((with_reducible apply gO (.binOp .eql _ _ _ _)); first | exact o_eql rfl rfl | exact o_eqlB (btTOf rfl) rfl rfl | exact o_eqlA2 (eqTOf rfl) rfl rfl | exact o_eqlA3 (eqTOf rfl) rfl rfl | exact o_eqlA (eqTOf rfl) rfl rfl (by first | rfl | assumption) (by first | rfl | assumption)) | ((with_reducible apply gO (.binOp .neq _ _ _ _)); first | exact o_neq rfl rfl | exact o_neqB (btTOf rfl) rfl rfl | exact o_neqA2 (eqTOf rfl) rfl rfl | exact o_neqA3 (eqTOf rfl) rfl rfl | exact o_neqA (eqTOf rfl) rfl rfl (by first | rfl | assumption) (by first | rfl | assumption))) (hn : d < n.n := by first | decide | exact ltd rfl) :
    Sat n B w0 (sl Tryz.prog ops K (⟨some d, op, ty, pos, aft, none⟩ :: l)) fr hs := s_pure hv hn h
theorem qX {op : Op} (h : qn Tryz.prog n B w0 hs ops Ka l ((d, v) :: fr)) (hv : OpF Tryz.prog n B w0 op ty fr hs v := by first | ((with_reducible apply gO (.load _ _)); first | exact o_load rfl (ld_2I (shTOf rfl) (by with_reducible first | exact mm0 | exact mm1 | exact mm2 | exact mm3 | exact mm4 | exact mm5 | exact mm6 | exact mm7 | exact mm8 | ((repeat (first | exact mm0 | refine mmT ?_ | refine mmA ?_)); done)) (by first | omega | (simp only [List.length_cons, List.length_nil]; omega) | (simp only [List.length_set]; omega))) | exact o_load rfl (ld_3I (shTOf rfl) (by with_reducible first | exact mm0 | exact mm1 | exact mm2 | exact mm3 | exact mm4 | exact mm5 | exact mm6 | exact mm7 | exact mm8 | ((repeat (first | exact mm0 | refine mmT ?_ | refine mmA ?_)); done)) (by first | omega | (simp only [List.length_cons, List.length_nil]; omega) | (simp only [List.length_set]; omega))) | exact o_load rfl (ld_4I (shTOf rfl) (by with_reducible first | exact mm0 | exact mm1 | exact mm2 | exact mm3 | exact mm4 | exact mm5 | exact mm6 | exact mm7 | exact mm8 | ((repeat (first | exact mm0 | refine mmT ?_ | refine mmA ?_)); done)) (by first | omega | (simp only [List.length_cons, List.length_nil]; omega) | (simp only [List.length_set]; omega))) | exact o_load rfl (ld_2S (shTOf rfl) (by assumption) (by with_reducible first | exact sb0 | exact sb1 | exact sb2 | exact sb3 | exact sb4 | exact sb5 | exact sb6 | exact sb7 | exact sb8 | exact sbL | ((repeat (first | exact sb0 | exact sbL | refine .cons _ ?_ | refine sbA ?_)); done)) (by omega)) | exact o_load rfl (ld_3S (shTOf rfl) (by assumption) (by with_reducible first | exact sb0 | exact sb1 | exact sb2 | exact sb3 | exact sb4 | exact sb5 | exact sb6 | exact sb7 | exact sb8 | exact sbL | ((repeat (first | exact sb0 | exact sbL | refine .cons _ ?_ | refine sbA ?_)); done)) (by omega)) | exact o_load rfl (ld_4S (shTOf rfl) (by assumption) (by with_reducible first | exact sb0 | exact sb1 | exact sb2 | exact sb3 | exact sb4 | exact sb5 | exact sb6 | exact sb7 | exact sb8 | exact sbL | ((repeat (first | exact sb0 | exact sbL | refine .cons _ ?_ | refine sbA ?_)); done)) (by omega))) | ((with_reducible apply gO (.slice _ _ (some _) none none)); first | exact o_sliceL (scTOf rfl) rfl rfl (by with_reducible first | exact nn0 _ | exact nn1 _ | exact nn6 | exact nn7 | exact nn8 | exact nn2 _ _ | exact nn4 (by omega) | exact nn5 (by omega) | exact nn3 (by omega)) (by omega) | exact o_sliceAL (arTOf rfl) rfl rfl (by with_reducible first | exact nn0 _ | exact nn1 _ | exact nn6 | exact nn7 | exact nn8 | exact nn2 _ _ | exact nn4 (by omega) | exact nn5 (by omega) | exact nn3 (by omega)) (by omega)) | ((with_reducible apply gO (.slice _ _ none (some _) none)); first | exact o_sliceH (scTOf rfl) rfl rfl (by with_reducible first | exact nn0 _ | exact nn1 _ | exact nn6 | exact nn7 | exact nn8 | exact nn2 _ _ | exact nn4 (by omega) | exact nn5 (by omega) | exact nn3 (by omega)) (by omega)) | ((with_reducible apply gO (.slice _ _ (some _) (some _) none)); first | exact o_sliceLH (scTOf rfl) rfl rfl rfl (by with_reducible first | exact nn0 _ | exact nn1 _ | exact nn6 | exact nn7 | exact nn8 | exact nn2 _ _ | exact nn4 (by omega) | exact nn5 (by omega) | exact nn3 (by omega)) (by with_reducible first | exact nn0 _ | exact nn1 _ | exact nn6 | exact nn7 | exact nn8 | exact nn2 _ _ | exact nn4 (by omega) | exact nn5 (by omega) | exact nn3 (by omega)) (by omega) (by omega)) | ((with_reducible apply gO (.slice _ _ none (some _) (some _))); first | exact o_sliceHM (scTOf rfl) rfl rfl rfl (by with_reducible first | exact nn0 _ | exact nn1 _ | exact nn6 | exact nn7 | exact nn8 | exact nn2 _ _ | exact nn4 (by omega) | exact nn5 (by omega) | exact nn3 (by omega)) (by with_reducible first | exact nn0 _ | exact nn1 _ | exact nn6 | exact nn7 | exact nn8 | exact nn2 _ _ | exact nn4 (by omega) | exact nn5 (by omega) | exact nn3 (by omega)) (by omega) (by omega)) | ((with_reducible apply gO (.build _ _)); first | exact o_bldA2 rfl rfl rfl rfl (zcTOf rfl) (arTOf rfl) | exact o_buildA rfl (zcTOf rfl) (arTOf rfl) rfl) | ((with_reducible apply gO (.binOp .eql _ _ _ _)); first | exact o_eql rfl rfl | exact o_eqlB (btTOf rfl) rfl rfl | exact o_eqlA2 (eqTOf rfl) rfl rfl | exact o_eqlA3 (eqTOf rfl) rfl rfl | exact o_eqlA (eqTOf rfl) rfl rfl (by first | rfl | assumption) (by first | rfl | assumption)) | ((with_reducible apply gO (.binOp .neq _ _ _ _)); first | exact o_neq rfl rfl | exact o_neqB (btTOf rfl) rfl rfl | exact o_neqA2 (eqTOf rfl) rfl rfl | exact o_neqA3 (eqTOf rfl) rfl rfl | exact o_neqA (eqTOf rfl) rfl rfl (by first | rfl | assumption) (by first | rfl | assumption))) (hn : d < n.n := by first | decide | exact ltd rfl) :
    qn Tryz.prog n B w0 hs ops Ka (⟨some d, op, ty, pos, aft, none⟩ :: l) fr := q_pure hv hn h
theorem dX {op : Op} (h : Rk Tryz.prog n B w0 ops K fl l S ((d, v) :: fr) hs) (hX : selS f S hs = some X := by rfl) (hv : OpF Tryz.prog n B w0 op ty fr X v := by first | ((with_reducible apply gO (.load _ _)); first | exact o_load rfl (ld_2I (shTOf rfl) (by with_reducible first | exact mm0 | exact mm1 | exact mm2 | exact mm3 | exact mm4 | exact mm5 | exact mm6 | exact mm7 | exact mm8 | ((repeat (first | exact mm0 | refine mmT ?_ | refine mmA ?_)); done)) (by first | omega | (simp only [List.length_cons, List.length_nil]; omega) | (simp only [List.length_set]; omega))) | exact o_load rfl (ld_3I (shTOf rfl) (by with_reducible first | exact mm0 | exact mm1 | exact mm2 | exact mm3 | exact mm4 | exact mm5 | exact mm6 | exact mm7 | exact mm8 | ((repeat (first | exact mm0 | refine mmT ?_ | refine mmA ?_)); done)) (by first | omega | (simp only [List.length_cons, List.length_nil]; omega) | (simp only [List.length_set]; omega))) | exact o_load rfl (ld_4I (shTOf rfl) (by with_reducible first | exact mm0 | exact mm1 | exact mm2 | exact mm3 | exact mm4 | exact mm5 | exact mm6 | exact mm7 | exact mm8 | ((repeat (first | exact mm0 | refine mmT ?_ | refine mmA ?_)); done)) (by first | omega | (simp only [List.length_cons, List.length_nil]; omega) | (simp only [List.length_set]; omega))) | exact o_load rfl (ld_2S (shTOf rfl) (by assumption) (by with_reducible first | exact sb0 | exact sb1 | exact sb2 | exact sb3 | exact sb4 | exact sb5 | exact sb6 | exact sb7 | exact sb8 | exact sbL | ((repeat (first | exact sb0 | exact sbL | refine .cons _ ?_ | refine sbA ?_)); done)) (by omega)) | exact o_load rfl (ld_3S (shTOf rfl) (by assumption) (by with_reducible first | exact sb0 | exact sb1 | exact sb2 | exact sb3 | exact sb4 | exact sb5 | exact sb6 | exact sb7 | exact sb8 | exact sbL | ((repeat (first | exact sb0 | exact sbL | refine .cons _ ?_ | refine sbA ?_)); done)) (by omega)) | exact o_load rfl (ld_4S (shTOf rfl) (by assumption) (by with_reducible first | exact sb0 | exact sb1 | exact sb2 | exact sb3 | exact sb4 | exact sb5 | exact sb6 | exact sb7 | exact sb8 | exact sbL | ((repeat (first | exact sb0 | exact sbL | refine .cons _ ?_ | refine sbA ?_)); done)) (by omega))) | ((with_reducible apply gO (.slice _ _ (some _) none none)); first | exact o_sliceL (scTOf rfl) rfl rfl (by with_reducible first | exact nn0 _ | exact nn1 _ | exact nn6 | exact nn7 | exact nn8 | exact nn2 _ _ | exact nn4 (by omega) | exact nn5 (by omega) | exact nn3 (by omega)) (by omega) | exact o_sliceAL (arTOf rfl) rfl rfl (by with_reducible first | exact nn0 _ | exact nn1 _ | exact nn6 | exact nn7 | exact nn8 | exact nn2 _ _ | exact nn4 (by omega) | exact nn5 (by omega) | exact nn3 (by omega)) (by omega)) | ((with_reducible apply gO (.slice _ _ none (some _) none)); first | exact o_sliceH (scTOf rfl) rfl rfl (by with_reducible first | exact nn0 _ | exact nn1 _ | exact nn6 | exact nn7 | exact nn8 | exact nn2 _ _ | exact nn4 (by omega) | exact nn5 (by omega) | exact nn3 (by omega)) (by omega)) | ((with_reducible apply gO (.slice _ _ (some _) (some _) none)); first | exact o_sliceLH (scTOf rfl) rfl rfl rfl (by with_reducible first | exact nn0 _ | exact nn1 _ | exact nn6 | exact nn7 | exact nn8 | exact nn2 _ _ | exact nn4 (by omega) | exact nn5 (by omega) | exact nn3 (by omega)) (by with_reducible first | exact nn0 _ | exact nn1 _ | exact nn6 | exact nn7 | exact nn8 | exact nn2 _ _ | exact nn4 (by omega) | exact nn5 (by omega) | exact nn3 (by omega)) (by omega) (by omega)) | ((with_reducible apply gO (.slice _ _ none (some _) (some _))); first | exact o_sliceHM (scTOf rfl) rfl rfl rfl (by with_reducible first | exact nn0 _ | exact nn1 _ | exact nn6 | exact nn7 | exact nn8 | exact nn2 _ _ | exact nn4 (by omega) | exact nn5 (by omega) | exact nn3 (by omega)) (by with_reducible first | exact nn0 _ | exact nn1 _ | exact nn6 | exact nn7 | exact nn8 | exact nn2 _ _ | exact nn4 (by omega) | exact nn5 (by omega) | exact nn3 (by omega)) (by omega) (by omega)) | ((with_reducible apply gO (.build _ _)); first | exact o_bldA2 rfl rfl rfl rfl (zcTOf rfl) (arTOf rfl) | exact o_buildA rfl (zcTOf rfl) (arTOf rfl) rfl) | ((with_reducible apply gO (.binOp .eql _ _ _ _)); first | exact o_eql rfl rfl | exact o_eqlB (btTOf rfl) rfl rfl | exact o_eqlA2 (eqTOf rfl) rfl rfl | exact o_eqlA3 (eqTOf rfl) rfl rfl | exact o_eqlA (eqTOf rfl) rfl rfl (by first | rfl | assumption) (by first | rfl | assumption)) | ((with_reducible apply gO (.binOp .neq _ _ _ _)); first | exact o_neq rfl rfl | exact o_neqB (btTOf rfl) rfl rfl | exact o_neqA2 (eqTOf rfl) rfl rfl | exact o_neqA3 (eqTOf rfl) rfl rfl | exact o_neqA (eqTOf rfl) rfl rfl (by first | rfl | assumption) (by first | rfl | assumption))) (hn : d < n.n := by first | decide | exact ltd rfl) :
    Rk Tryz.prog n B w0 ops K (f :: fl) (⟨some d, op, ty, pos, aft, none⟩ :: l) S fr hs := k_pure hX hv hn h
end
end Go.Proofs.YtnbickholedckaaGreatDoor
namespace Go.Proofs.YtnbickholedckaaGreatDoor
open Go.RowKit
section
variable {P : Program} {B : Nat} {w0 : Wd}
def CkFl (P : Program) (em : Bool) (D d : Nat) : Prop := ∀ (t : TypeId) (k : Nat) (xs : List Int) (w : World), fl P d t = some k → xs.length = k → (Instr.checkKey em (D + d) t (vOf (agB P t) xs)).run P w = .ok () w
theorem ck_fields {em : Bool} {D d : Nat} (ih : CkFl P em D d) {xs : List Int} {n : Nat} (hx : xs.length = n) (w : World) : ∀ (fs : List Field) (acc : Nat), flF (fl P d) fs acc = some n →
    (forIn fs PUnit.unit (fun f _ => (do
      if f.name ≠ "_" then
        Instr.checkKey em (D + d) f.type (← part f.type (ivs xs).toArray f.offset)
      pure (ForInStep.yield PUnit.unit) : Sem (ForInStep PUnit)))).run P w = .ok PUnit.unit w
  | [], acc, h => by simp
  | x :: fs, acc, h => by
    simp only [flF] at h
    split at h
    · rename_i k hk
      split at h
      · rename_i hc
        simp only [Bool.and_eq_true, bne_iff_ne, ne_eq, beq_iff_eq] at hc
        obtain ⟨hc1, hc2⟩ := hc
        have hle := flF_le _ _ _ _ h
        have e1 := ck_fields ih hx w fs (acc + k) h
        have e2 := ih x.type k ((xs.drop acc).take k) w hk (by simp; omega)
        simp only [List.forIn_cons, Sem.run_bind, hc1, ne_eq, not_false_eq_true, if_true, hc2, part_fl hk (show acc + k ≤ xs.length by omega), Result.andThen_ok, e2, Sem.run_pure]
        simpa using e1
      · cases h
    · cases h
theorem ck_fl (em : Bool) (D : Nat) : ∀ d, CkFl P em D d
  | 0, t, k, xs, w, h, _ => by simp [fl] at h
  | d + 1, t, k, xs, w, h, hx => by
    have ih := ck_fl em D d
    unfold fl at h
    unfold agB
    split at h
    · rename_i q hu
      split at h
      · rw [hu]
        rw [show D + (d + 1) = (D + d) + 1 from rfl, Instr.checkKey]
        simp [run_underlying hu, vOf, iv]
      · cases h
    · rename_i fs hu
      split at h
      · cases h
      · split at h
        · rename_i k' hf
          split at h
          · simp only [Option.some.injEq] at h
            subst h
            rw [hu]
            rw [show D + (d + 1) = (D + d) + 1 from rfl, Instr.checkKey]
            simp only [vOf, if_true, Sem.run_bind, run_underlying hu, Result.andThen_ok]
            rw [← Array.forIn_toList]
            have h7 := ck_fields ih hx w fs.toList 0 hf
            simp at h7 ⊢
            rw [h7]
            rfl
          · cases h
        · cases h
    · rename_i m e hu
      split at h
      · rename_i k' hk
        split at h
        · rename_i h2
          simp only [Option.some.injEq] at h; subst h
          simp only [Bool.and_eq_true, decide_eq_true_eq, beq_iff_eq] at h2
          obtain ⟨⟨_, h3⟩, h4⟩ := h2
          obtain ⟨i, hi⟩ := Option.isSome_iff_exists.1 h4
          rw [hu]
          rw [show D + (d + 1) = (D + d) + 1 from rfl, Instr.checkKey]
          simp only [vOf, if_true, Sem.run_bind, run_underlying hu, Result.andThen_ok]
          simp only [Std.Legacy.Range.forIn_eq_forIn_range', Std.Legacy.Range.size, Nat.sub_zero, Nat.add_one_sub_one, Nat.div_one]
          have hsz : (sizeOf e).run P w = .ok k' w := run_sizeOf (fl_sh hk) w
          have key : ∀ (n a : Nat), a + n = m → (forIn (List.range' a n) PUnit.unit (fun i _ => (do Instr.checkKey em (D + d) e (← part e (ivs xs).toArray (i * (← sizeOf e))); pure (ForInStep.yield PUnit.unit) : Sem (ForInStep PUnit)))).run P w = .ok PUnit.unit w := by
            intro n
            induction n with
            | zero => intro a _; simp
            | succ n ihn =>
              intro a ha
              have hle : a * k' + k' ≤ m * k' := by
                have := Nat.mul_le_mul_right k' (show a + 1 ≤ m by omega)
                rwa [Nat.add_mul, Nat.one_mul] at this
              have e2 := ih e k' ((xs.drop (a * k')).take k') w hk (by simp; omega)
              rw [List.range'_succ]
              simp only [List.forIn_cons, Sem.run_bind, hsz, Result.andThen_ok, part_fl hk (show a * k' + k' ≤ xs.length by omega), e2, Sem.run_pure]
              exact ihn (a + 1) (by omega)
          have h7 := key m 0 (by omega)
          simp at h7 ⊢
          rw [h7]
          rfl
        · cases h
      · cases h
    · cases h
/-- Keys that are made of k numbers. -/
def kyt (P : Program) (t : TypeId) : Option Nat := if P.eqGuardType P.depth t = false then fl P 5 t else none
theorem run_checkK {t : TypeId} {k : Nat} {xs : List Int} (em : Bool) (h : kyt P t = some k) (hx : xs.length = k) (w : World) : (Instr.checkKey em 10000 t (vOf (agB P t) xs)).run P w = .ok () w := by
  unfold kyt at h
  split at h
  · exact ck_fl em 9995 5 t k xs w h hx
  · cases h
theorem run_eqK {t : TypeId} {k : Nat} {xs ys : List Int} (h : kyt P t = some k) (hx : xs.length = k) (hy : ys.length = k) (w : World) : (Op.equal t (vOf (agB P t) xs) (vOf (agB P t) ys)).run P w = .ok (decide (xs = ys)) w := by
  unfold kyt at h
  split at h
  · exact eq_fl (P := P) 9995 5 t k xs ys w h hx hy
  · cases h
/-- The first entry of a key. -/
def fnd (x : List Int) : List Ent → Nat → Option (Nat × Value)
  | [], _ => none
  | p :: es, i => if x = p.1 then some (i, p.2.1) else fnd x es (i + 1)
theorem run_findA {t : TypeId} {k : Nat} {x : List Int} (h : kyt P t = some k) (hx : x.length = k) (w : World) : ∀ (es : List Ent) (i : Nat), (∀ p ∈ es, p.1.length = k) →
    (Instr.findAsking t (vOf (agB P t) x) (es.map (mEn (agB P t))) i).run P w = .ok (fnd x es i) w
  | [], i, _ => by simp [Instr.findAsking, fnd]
  | p :: es, i, hes => by
    have e1 := run_eqK h hx (hes p (.head _)) w
    have e2 := run_findA h hx w es (i + 1) (fun q hq => hes q (.tail _ hq))
    simp only [List.map_cons, Instr.findAsking, mEn, Sem.run_bind, e1, Result.andThen_ok, fnd]
    by_cases hh : x = p.1
    · simp [hh]
    · simp only [hh, decide_false, Bool.false_eq_true, if_false]
      exact e2
end
end Go.Proofs.YtnbickholedckaaGreatDoor
namespace Go.Proofs.YtnbickholedckaaGreatDoor
open Go.RowKit
def vat (L : Mp) (i : Nat) : Value := (L[i]?.map (·.2)).getD undef
theorem zip_fnd (x : List Int) : ∀ (L : Mp) (i j : Nat), fnd x ((L.zipIdx i).map fun p => (p.1.1, p.1.2, p.2)) j = (plc x L j).map fun k => (k, vat L (k - j))
  | [], i, j => rfl
  | p :: L, i, j => by
    simp only [List.zipIdx_cons, List.map_cons, fnd, plc]
    by_cases h : x = p.1
    · simp [h, vat]
    · rw [if_neg h, if_neg h, zip_fnd x L (i + 1) (j + 1)]
      cases hp : plc x L (j + 1) with
      | none => rfl
      | some k =>
        have hk : j + 1 ≤ k := by
          have key : ∀ (L : Mp) (a k : Nat), plc x L a = some k → a ≤ k := by
            intro L
            induction L with
            | nil => intro a k h; cases h
            | cons q L ih =>
              intro a k h
              unfold plc at h
              split at h
              · simp at h; omega
              · have := ih _ _ h; omega
          exact key L _ _ hp
        simp only [Option.map_some]
        congr 1
        rw [show k - j = (k - (j + 1)) + 1 by omega]
        simp [vat]
theorem fnd_ents (x : List Int) (L : Mp) : fnd x (ents L) 0 = (plc x L 0).map fun k => (k, vat L k) := by
  have := zip_fnd x L 0 0
  simpa [ents] using this
section
variable {B : Nat} {w0 : Wd} {hs : HS}
theorem heapSet {w : World} {r : Nat} {o o' : Obj} (hb : w.heap[r]? = some o) : (w.heap.setIfInBounds r o')[r]? = some o' ∧ ∀ r', r' ≠ r → (w.heap.setIfInBounds r o')[r']? = w.heap[r']? := by
  have hlt : r < w.heap.size := (Array.getElem?_eq_some_iff.1 hb).1
  exact ⟨by simp [hlt], fun r' hne => by simp [Ne.symm hne]⟩
theorem heapAlloc (w : World) (o : Obj) : (w.alloc o).heap[w.heap.size]? = some o ∧ ∀ r', r' < w.heap.size → (w.alloc o).heap[r']? = w.heap[r']? := by
  have e : (w.alloc o).heap = w.heap.push o := rfl
  rw [e]
  exact ⟨by simp, fun r' h => by simp [Array.getElem?_push, Nat.ne_of_lt h]⟩
theorem UpdM.mem {m : Nat} {o o' : Obj} {ms ms' : List (Nat × Obj)} (h : UpdM m o o' ms ms') : (m, o) ∈ ms := by
  induction h with
  | head ms => exact .head _
  | tail p _ ih => exact .tail _ ih
theorem UpdM.fst {m : Nat} {o o' : Obj} {ms ms' : List (Nat × Obj)} (h : UpdM m o o' ms ms') : ms'.map (·.1) = ms.map (·.1) := by
  induction h with
  | head ms => rfl
  | tail p _ ih => simp [ih]
theorem UpdM.memd {m : Nat} {o o' : Obj} {ms ms' : List (Nat × Obj)} (h : UpdM m o o' ms ms') (hnd : (ms.map (·.1)).Nodup) : ∀ p ∈ ms', (p = (m, o')) ∨ (p ∈ ms ∧ p.1 ≠ m) := by
  induction h with
  | head ms =>
    intro p hp
    rcases List.mem_cons.1 hp with rfl | hp
    · exact .inl rfl
    · simp only [List.map_cons, List.nodup_cons] at hnd
      exact .inr ⟨.tail _ hp, fun e => hnd.1 (List.mem_map.2 ⟨p, hp, e⟩)⟩
  | tail q h ih =>
    intro p hp
    simp only [List.map_cons, List.nodup_cons] at hnd
    rcases List.mem_cons.1 hp with rfl | hp
    · refine .inr ⟨.head _, fun e => hnd.1 ?_⟩
      rw [e]
      exact List.mem_map.2 ⟨_, h.mem, rfl⟩
    · rcases ih hnd.2 p hp with h | h
      · exact .inl h
      · exact .inr ⟨.tail _ h.1, h.2⟩
theorem Hp.setObjA {w : World} (h : Hp B w0 w hs) {m : Nat} {o o' : Obj} {ms' : List (Nat × Obj)} (hu : UpdM m o o' w0.ms ms') : Hp B ⟨w0.w, ms'⟩ { w with heap := w.heap.setIfInBounds m o' } hs := by
  obtain ⟨h1, h2, h3⟩ := h.obj _ hu.mem
  simp only at h1 h2 h3
  obtain ⟨e1, e2⟩ := heapSet (o' := o') h2
  refine ⟨⟨h.below.os, h.below.tape, h.below.output, by simpa using h.below.size, fun k hk => ?_⟩, by simpa using h.big, fun p hp => ?_, h.nodup, fun p hp => ?_, by rw [hu.fst]; exact h.ond⟩
  · show (w.heap.setIfInBounds m o')[k]? = _
    rw [e2 k (by omega)]
    exact h.below.block k hk
  · obtain ⟨q1, e, q2⟩ := h.mem p hp
    refine ⟨q1, e, ?_⟩
    show (w.heap.setIfInBounds m o')[p.1]? = _
    rw [e2 p.1 (h3 p hp)]
    exact q2
  · rcases hu.memd h.ond p hp with rfl | ⟨hp, hne⟩
    · exact ⟨h1, e1, h3⟩
    · obtain ⟨q1, q2, q3⟩ := h.obj p hp
      refine ⟨q1, ?_, q3⟩
      show (w.heap.setIfInBounds m o')[p.1]? = _
      rw [e2 p.1 hne]; exact q2
theorem Hp.newObjA {w : World} (h : Hp B w0 w hs) {o : Obj} : Hp B ⟨w0.w, (w.heap.size, o) :: w0.ms⟩ (w.alloc o) hs := by
  obtain ⟨e1, e2⟩ := heapAlloc w o
  have lt : ∀ {k : Nat} {x : Obj}, w.heap[k]? = some x → k < w.heap.size := fun h => (Array.getElem?_eq_some_iff.1 h).1
  refine ⟨h.below.alloc h.big _, by simp; have := h.big; omega, fun p hp => ?_, h.nodup, fun p hp => ?_, ?_⟩
  · obtain ⟨q1, e, q2⟩ := h.mem p hp
    exact ⟨q1, e, by rw [e2 _ (lt q2)]; exact q2⟩
  · rcases List.mem_cons.1 hp with rfl | hp
    · refine ⟨h.big, e1, fun q hq => ?_⟩
      obtain ⟨_, e, q2⟩ := h.mem q hq
      exact Nat.ne_of_lt (lt q2)
    · obtain ⟨q1, q2, q3⟩ := h.obj p hp
      exact ⟨q1, by rw [e2 _ (lt q2)]; exact q2, q3⟩
  · simp only [List.map_cons, List.nodup_cons]
    refine ⟨fun hm => ?_, h.ond⟩
    obtain ⟨p, hp, he⟩ := List.mem_map.1 hm
    obtain ⟨_, q2, _⟩ := h.obj p hp
    have := lt q2
    omega
theorem Hp.setObj {w : World} (h : Hp B w0 w hs) {m : Nat} {o o' : Obj} {ms' : List (Nat × Obj)} (hu : UpdM m o o' w0.ms ms') (_ : notCells o' = true) : Hp B ⟨w0.w, ms'⟩ { w with heap := w.heap.setIfInBounds m o' } hs := h.setObjA hu
theorem Hp.newObj {w : World} (h : Hp B w0 w hs) {o : Obj} (_ : notCells o = true) : Hp B ⟨w0.w, (w.heap.size, o) :: w0.ms⟩ (w.alloc o) hs := h.newObjA
/-- The one base knows all that the other knows. -/
structure Wd.le (a b : Wd) : Prop where
  w : b.w = a.w
  ms : a.ms.Sublist b.ms
theorem Hp.base {a b : Wd} {w : World} (hle : a.le b) (h : Hp B b w hs) : Hp B a w hs :=
  ⟨hle.w ▸ h.below, h.big, h.mem, h.nodup, fun p hp => h.obj p (hle.ms.subset hp), h.ond.sublist (hle.ms.map _)⟩
theorem Sat.base {n : NN} {K : Act → World → Prop} {fr : FR} {a b : Wd} (hle : a.le b) (h : Sat n B a K fr hs) : Sat n B b K fr hs := sat_mk fun x w hx hw => sat_el h x w hx (hw.base hle)
theorem Sl.base {a b : Wd} {oa : Option Addr} {l : List Int} (hle : a.le b) (h : Sl B a hs oa l) : Sl B b hs oa l := fun i hi => ⟨(h i hi).1, fun w hw => (h i hi).2 w (hw.base hle)⟩
end
end Go.Proofs.YtnbickholedckaaGreatDoor
namespace Go.Proofs.YtnbickholedckaaGreatDoor
open Go.RowKit
section
variable {P : Program} {w : World}
theorem ents_get (L : Mp) (i : Nat) : (ents L)[i]? = L[i]?.map fun p => (p.1, p.2, i) := by
  unfold ents
  rw [List.getElem?_map, List.getElem?_zipIdx]
  cases L[i]? <;> simp
theorem ents_snoc (L : Mp) (p : List Int × Value) : ents (L ++ [p]) = ents L ++ [(p.1, p.2, L.length)] := by
  simp [ents, List.zipIdx_append]
theorem findNow_int {q : IntKind} {x : List Int} (hx : x.length = 1) : ∀ (es : List Ent) (i : Nat), (∀ p ∈ es, p.1.length = 1) →
    Instr.findNow (.int q) (vOf false x) (es.map (mEn false)) i = some (fnd x es i)
  | [], i, _ => rfl
  | p :: es, i, hes => by
    have h1 := hes p (.head _)
    have ih := findNow_int (q := q) hx es (i + 1) (fun r hr => hes r (.tail _ hr))
    obtain ⟨a, rfl⟩ := List.length_eq_one_iff.1 hx
    obtain ⟨c, hc⟩ := List.length_eq_one_iff.1 h1
    simp only [List.map_cons, Instr.findNow, mEn, fnd, hc]
    have e1 : Instr.sameNow (.int q) (vOf false [a]) (vOf false [c]) = some (a == c) := by simp [vOf, iv, Instr.sameNow]
    rw [e1]
    by_cases hac : a = c
    · subst hac; simp
    · have : (a == c) = false := by simp [hac]
      rw [this, if_neg (by simp [hac])]
      exact ih
theorem run_findK {kt : TypeId} {k : Nat} {x : List Int} (h : kyt P kt = some k) (hx : x.length = k) (L : Mp) (hL : ∀ p ∈ L, p.1.length = k) :
    (Instr.findKey kt (vOf (agB P kt) x) ((ents L).map (mEn (agB P kt)))).run P w = .ok ((plc x L 0).map fun i => (i, vat L i)) w := by
  have hes : ∀ p ∈ ents L, p.1.length = k := fun p hp => by
    obtain ⟨i, hi, he⟩ := List.getElem_of_mem hp
    have h1 := ents_get L i
    rw [List.getElem?_eq_getElem hi, he] at h1
    cases h2 : L[i]? with
    | none => rw [h2] at h1; cases h1
    | some q =>
      rw [h2] at h1
      simp only [Option.map_some, Option.some.injEq] at h1
      rw [h1]
      exact hL q (List.mem_of_getElem? h2)
  cases hb : agB P kt with
  | true =>
    have h2 := run_findA h hx w (ents L) 0 hes
    rw [hb] at h2
    rw [Go.run_findKey_eq w (by unfold agB at hb; split at hb <;> simp_all), h2, fnd_ents]
  | false =>
    have h1 : ∃ q, P.underlying kt = some (.int q) := by
      unfold kyt at h
      split at h
      · unfold fl at h
        unfold agB at hb
        split at h
        · rename_i q hu; exact ⟨q, hu⟩
        · rename_i hu; rw [hu] at hb; cases hb
        · rename_i hu; rw [hu] at hb; cases hb
        · cases h
      · cases h
    obtain ⟨q, hu⟩ := h1
    have hk1 : k = 1 := by
      unfold kyt at h
      split at h
      · exact fl_one h hb
      · cases h
    subst hk1
    have h2 := findNow_int (q := q) hx (ents L) 0 hes
    rw [fnd_ents] at h2
    simp [Instr.findKey, run_underlying hu, h2]
/-- A map type: whether keys are aggregates, of how many numbers, and the zero of the values. -/
def mpt (P : Program) (t : TypeId) : Option (Bool × Nat × Value) := match P.underlying t with
  | some (.map kt et) => match kyt P kt, (P.info? et).bind (·.zero) with
    | some k, some z => some (agB P kt, k, z)
    | _, _ => none
  | _ => none
theorem mpt_to {t : TypeId} {b : Bool} {k : Nat} {z : Value} (h : mpt P t = some (b, k, z)) : ∃ kt et, P.underlying t = some (.map kt et) ∧ kyt P kt = some k ∧ agB P kt = b ∧ ∀ w, (zeroValue et).run P w = .ok z w := by
  unfold mpt at h
  split at h
  · rename_i kt et hu
    split at h
    · rename_i k' z' h1 h2
      simp only [Option.some.injEq, Prod.mk.injEq] at h
      obtain ⟨rfl, rfl, rfl⟩ := h
      cases hi : P.info? et with
      | none => rw [hi] at h2; cases h2
      | some i =>
        rw [hi] at h2
        simp only [Option.bind_some] at h2
        exact ⟨kt, et, hu, h1, rfl, fun w => by simp [zeroValue, typeInfo, hi, h2]⟩
    · cases h
  · cases h
def lkp (L : Mp) (x : List Int) (z : Value) : Value := ((plc x L 0).map (vat L)).getD z
theorem run_lookup {t : TypeId} {b : Bool} {k m : Nat} {z : Value} {L : Mp} {x : List Int} (h : mpt P t = some (b, k, z)) (hb : w.heap[m]? = some (mapO b L)) (hx : x.length = k) (hL : ∀ p ∈ L, p.1.length = k) :
    (Instr.lookup t (.map (some m)) (vOf b x) false).run P w = .ok (lkp L x z) w := by
  obtain ⟨kt, et, hu, h1, h2, h3⟩ := mpt_to h
  subst h2
  have hg : (getObj m).run P w = .ok (.map ((ents L).map (mEn (agB P kt))).toArray L.length) w := by simp [getObj, Sem.run, hb, mapO, mOb]
  have hc := fun em => run_checkK em h1 hx w
  have hf := run_findK (w := w) h1 hx L hL
  simp only [Instr.lookup, Sem.run_bind, run_underlying hu, Result.andThen_ok, hg, Sem.run_pure, hc, hf]
  cases hp : plc x L 0 with
  | none => simp [lkp, hp, h3]
  | some i => simp [lkp, hp]
theorem sameBits_iv (n : Nat) (a : Int) : Instr.sameBits n (iv a) (iv a) = true := by cases n <;> simp [Instr.sameBits, iv]
theorem sameBits_vOf (n : Nat) (b : Bool) (x : List Int) : Instr.sameBits (n + 1) (vOf b x) (vOf b x) = true := by
  cases b with
  | false => exact sameBits_iv _ _
  | true =>
    simp only [vOf, if_true, Instr.sameBits, beq_self_eq_true, Bool.true_and]
    rw [List.all_eq_true]
    rintro ⟨u, v⟩ hm
    have : ∀ (l : List Value), (u, v) ∈ l.zip l → u = v ∧ u ∈ l := by
      intro l
      induction l with
      | nil => intro h; cases h
      | cons c l ih =>
        intro h
        rw [List.zip_cons_cons] at h
        rcases List.mem_cons.1 h with h | h
        · simp only [Prod.mk.injEq] at h
          exact ⟨h.1.trans h.2.symm, by rw [h.1]; exact .head _⟩
        · exact ⟨(ih h).1, .tail _ (ih h).2⟩
    obtain ⟨e, hu⟩ := this _ hm
    subst e
    obtain ⟨a, _, rfl⟩ := List.mem_map.1 hu
    exact sameBits_iv _ _
theorem plc_get {x : List Int} : ∀ {L : Mp} {a i : Nat}, plc x L a = some i → a ≤ i ∧ ∃ p, L[i - a]? = some p ∧ p.1 = x
  | [], a, i, h => by cases h
  | p :: L, a, i, h => by
    unfold plc at h
    split at h
    · rename_i e
      simp only [Option.some.injEq] at h
      subst h
      exact ⟨Nat.le_refl _, p, by simp, e.symm⟩
    · obtain ⟨h1, q, h2, h3⟩ := plc_get h
      refine ⟨by omega, q, ?_, h3⟩
      rw [show i - a = (i - (a + 1)) + 1 by omega]
      simpa using h2
end
end Go.Proofs.YtnbickholedckaaGreatDoor
namespace Go.Proofs.YtnbickholedckaaGreatDoor
open Go.RowKit
def Mp.put (L : Mp) (i : Nat) (v : Value) : Mp := L.set i ((L[i]?.map (·.1)).getD [], v)
section
variable {P : Program} {w : World}
theorem run_setObjM {m : Nat} {b : Bool} {L : Mp} (o : Obj) (hb : w.heap[m]? = some (mapO b L)) : (setObj m o).run P w = .ok () { w with heap := w.heap.setIfInBounds m o } := by
  simp [setObj, Sem.run, hb, mapO, mOb]
theorem run_getObjM {m : Nat} {b : Bool} {L : Mp} (hb : w.heap[m]? = some (mapO b L)) : (getObj m).run P w = .ok (.map ((ents L).map (mEn b)).toArray L.length) w := by
  simp [getObj, Sem.run, hb, mapO, mOb]
theorem entA_get (b : Bool) (L : Mp) (i : Nat) : (((ents L).map (mEn b)).toArray)[i]? = L[i]?.map fun p => mEn b (p.1, p.2, i) := by
  simp only [List.getElem?_toArray, List.getElem?_map, ents_get, Option.map_map]
  rfl
end
end Go.Proofs.YtnbickholedckaaGreatDoor
namespace Go.Proofs.YtnbickholedckaaGreatDoor
open Go.RowKit
theorem UpdM.refl {m : Nat} {o : Obj} : ∀ {ms : List (Nat × Obj)}, (m, o) ∈ ms → UpdM m o o ms ms
  | p :: ms, h => by
    rcases List.mem_cons.1 h with h | h
    · subst h; exact .head _
    · exact .tail _ (UpdM.refl h)
theorem mapO_not (b : Bool) (L : Mp) : notCells (mapO b L) = true := rfl
section
variable {P : Program} {n : NN} {B : Nat} {w0 : Wd} {fr : FR} {hs S : HS} {ty : TypeId} {K : Act → World → Prop} {ops : Array Oper} {l : List Oper} {d f : Nat} {fl : List Nat} {pos : String} {aft : Array Edge}
theorem Hp.map {w : World} (h : Hp B w0 w hs) {m : Nat} {b : Bool} {L : Mp} (hm : (m, mapO b L) ∈ w0.ms) : w.heap[m]? = some (mapO b L) := (h.obj _ hm).2.1
theorem s_makeMap {t : TypeId} (b : Bool) (hn : d < n.n) (h : ∀ m, Sat n B ⟨w0.w, (m, mapO b []) :: w0.ms⟩ (sl P ops K l) ((d, .map (some m)) :: fr) hs) :
    Sat n B w0 (sl P ops K (⟨some d, .makeMap t none, ty, pos, aft, none⟩ :: l)) fr hs := sat_mk fun a w ha hw => by
  have h4 := sat_el (h w.heap.size) _ _ (ha.put hn _) (hw.newObj (mapO_not b []))
  unfold sl
  rw [if_pos (by simp [Region.wanted])]
  unfold Oper.wp
  have : (execOp a.eval ⟨some d, .makeMap t none, ty, pos, aft, none⟩).run P w = .ok (.value (.map (some w.heap.size))) (w.alloc (mapO b [])) := by
    simp [execOp, Instr.makeMap, mapO, mOb, ents]
  rw [this]
  exact h4
theorem o_lookup {t : TypeId} {xm xk : Operand} {b : Bool} {k m : Nat} {z : Value} {L : Mp} {x : List Int} (h : mpt P t = some (b, k, z)) (h1 : opv fr xm = some (.map (some m))) (h2 : opv fr xk = some (vOf b x)) (hm : (m, mapO b L) ∈ w0.ms) (hx : x.length = k) (hL : ∀ p ∈ L, p.1.length = k) :
    OpF P n B w0 (.lookup t xm xk false) ty fr hs (lkp L x z) := fun a w ha hw => by
  have := run_lookup (w := w) h (hw.map hm) hx hL
  simp [ex, execOp, ha.opv h1, ha.opv h2, this]
end
end Go.Proofs.YtnbickholedckaaGreatDoor
namespace Go.Proofs.YtnbickholedckaaGreatDoor
open Go.RowKit
section
variable {P : Program} {w : World}
end
section
variable {P : Program} {n : NN} {B : Nat} {w0 : Wd} {fr : FR} {hs S : HS} {ty : TypeId} {K : Act → World → Prop} {Q : Exit → Act → World → Prop} {ops : Array Oper} {l : List Oper} {d : Nat} {fl : List Nat} {pos : String} {aft : Array Edge}
theorem Hp.drawn {w : World} (h : Hp B w0 w hs) (dr : Nat) (hd : w.drawn ≤ dr) : Hp B w0 { w with drawn := dr } hs := ⟨⟨h.below.os, h.below.tape, h.below.output, h.below.size, h.below.block⟩, h.big, h.mem, h.nodup, h.obj, h.ond⟩
/-- Behind a round, where the base may be another one. -/
def NxM (n : NN) (B : Nat) {ι : Type} (W : ι → Wd) (F : ι → FR) (H : ι → HS) (C : ι → Prop) (μ : ι → Nat) (m : Nat) (a : Act) (w : World) : Prop := ∃ j, C j ∧ μ j < m ∧ Fr n a (F j) ∧ Hp B (W j) w (H j)
theorem c_loopM {c : Code} {ι : Type} (W : ι → Wd) (F : ι → FR) (H : ι → HS) (C : ι → Prop) (μ : ι → Nat) (i0 : ι) (hc : C i0) (hb : (W i0).le w0) (h0 : SubL (F i0) fr) (h1 : (H i0).Sublist hs)
    (round : ∀ i, C i → Sat n B (W i) (c.wp P (Exit.then (NxM n B W F H C μ (μ i)) Q)) (F i) (H i)) : Sat n B w0 ((Code.loop c).wp P Q) fr hs := sat_mk fun a w ha hw => by
  intro b k cs
  have key : ∀ m (i : ι) a w, C i → μ i = m → Fr n a (F i) → Hp B (W i) w (H i) →
      ∃ e a' w', Q e a' w' ∧ Arrives P (lone (b.at a (.code c :: .inLoop c :: k)) cs w) b k cs e a' w' := by
    intro m
    induction m using Nat.strongRecOn with
    | _ m ih =>
      intro i a w hci hi ha hw
      obtain ⟨e, a₁, w₁, hq, harr⟩ := sat_el (round i hci) a w ha hw b (.inLoop c :: k) cs
      cases e with
      | normal =>
        obtain ⟨j, hcj, hlt, hfj, hhj⟩ := hq
        obtain ⟨e₂, a₂, w₂, hq₂, harr₂⟩ := ih (μ j) (hi ▸ hlt) j a₁ w₁ hcj rfl hfj hhj
        exact ⟨e₂, a₂, w₂, hq₂, .of_steps (Steps.trans harr (.one step_inLoop)) harr₂⟩
      | exit id' => exact ⟨_, a₁, w₁, hq, .pass (x := .inLoop c) rfl (fun _ _ => .inl (by simp)) harr⟩
      | goto l => exact ⟨_, a₁, w₁, hq, .pass (x := .inLoop c) rfl (fun _ _ => .inl (by simp)) harr⟩
      | ret => exact ⟨_, a₁, w₁, hq, .pass (x := .inLoop c) rfl (fun _ _ => .inl (by simp)) harr⟩
      | panic ch => exact ⟨_, a₁, w₁, hq, .pass (x := .inLoop c) rfl (fun _ _ => .inl (by simp)) harr⟩
      | outgrown => exact ⟨_, a₁, w₁, hq, .pass (x := .inLoop c) rfl (fun _ _ => .inl (by simp)) harr⟩
  obtain ⟨e, a', w', hq, harr⟩ := key _ i0 a w hc rfl (ha.sub h0.sub) ((hw.sub h1).base hb)
  exact ⟨e, a', w', hq, .of_steps (.one step_loop) harr⟩
/-- The end of such a round. -/
theorem r_endM {ι : Type} {W : ι → Wd} {F : ι → FR} {H : ι → HS} {C : ι → Prop} {μ : ι → Nat} {m : Nat} (j : ι) (hc : C j) (hj : μ j < m) (hb : (W j).le w0) (h1 : SubL (F j) fr) (h2 : (H j).Sublist hs) :
    Sat n B w0 (NxM n B W F H C μ m) fr hs := sat_mk fun _ _ ha hw => ⟨j, hc, hj, ha.sub h1.sub, (hw.sub h2).base hb⟩
theorem Wd.le.refl (a : Wd) : a.le a := ⟨rfl, List.Sublist.refl _⟩
end
end Go.Proofs.YtnbickholedckaaGreatDoor
namespace Go.Proofs.YtnbickholedckaaGreatDoor
open Go.RowKit
theorem iv_inj {x y : Int} (h : iv x = iv y) : x = y := by simpa [iv] using h
theorem ivs_inj : ∀ {x y : List Int}, ivs x = ivs y → x = y
  | [], [], _ => rfl
  | [], b :: y, h => by simp [ivs] at h
  | a :: x, [], h => by simp [ivs] at h
  | a :: x, b :: y, h => by
    simp only [ivs, List.map_cons, List.cons.injEq] at h
    rw [iv_inj h.1, ivs_inj (x := x) (y := y) h.2]
theorem vOf_inj {b : Bool} {k : Nat} {x y : List Int} (hb : b = !(k == 1)) (hx : x.length = k) (hy : y.length = k) (h : vOf b x = vOf b y) : x = y := by
  subst hb
  by_cases hk : k = 1
  · subst hk
    obtain ⟨a, rfl⟩ := List.length_eq_one_iff.1 hx
    obtain ⟨c, rfl⟩ := List.length_eq_one_iff.1 hy
    simp [vOf, iv] at h
    rw [h]
  · have : (k == 1) = false := by simpa using hk
    rw [this] at h
    simp only [vOf, Bool.not_false, if_true, Value.agg.injEq] at h
    exact ivs_inj (by simpa using congrArg Array.toList h)
theorem mapO_inj {b : Bool} {k : Nat} {L L' : Mp} (hb : b = !(k == 1)) (h1 : ∀ p ∈ L, p.1.length = k) (h2 : ∀ p ∈ L', p.1.length = k) (h : mapO b L = mapO b L') : L = L' := by
  have e : (ents L).map (mEn b) = (ents L').map (mEn b) := by
    simp only [mapO, mOb, Obj.map.injEq] at h
    simpa using congrArg Array.toList h.1
  apply List.ext_getElem?
  intro i
  have e1 := congrArg (·[i]?) e
  simp only [List.getElem?_map, ents_get, Option.map_map] at e1
  cases hp : L[i]? with
  | none =>
    rw [hp] at e1
    cases hq : L'[i]? with
    | none => rfl
    | some q => rw [hq] at e1; simp at e1
  | some p =>
    rw [hp] at e1
    cases hq : L'[i]? with
    | none => rw [hq] at e1; simp at e1
    | some q =>
      rw [hq] at e1
      simp only [Option.map_some, Function.comp_apply, Option.some.injEq, mEn, MapEntry.mk.injEq] at e1
      have e2 := vOf_inj hb (h1 p (List.mem_of_getElem? hp)) (h2 q (List.mem_of_getElem? hq)) e1.1
      congr 1
      exact Prod.ext e2 e1.2.1
theorem UpdM.fwd {m : Nat} {o o' : Obj} {ms ms' : List (Nat × Obj)} (hu : UpdM m o o' ms ms') : ∀ p ∈ ms, p ∈ ms' ∨ (p = (m, o) ∧ (m, o') ∈ ms') := by
  induction hu with
  | head ms =>
    intro p hp
    rcases List.mem_cons.1 hp with rfl | hp
    · exact .inr ⟨rfl, .head _⟩
    · exact .inl (.tail _ hp)
  | tail q h ih =>
    intro p hp
    rcases List.mem_cons.1 hp with rfl | hp
    · exact .inl (.head _)
    · rcases ih p hp with h | ⟨h1, h2⟩
      · exact .inl (.tail _ h)
      · exact .inr ⟨h1, .tail _ h2⟩
theorem plc_app (x : List Int) (p : List Int × Value) : ∀ (L : Mp) (i : Nat), plc x (L ++ [p]) i = match plc x L i with | some j => some j | none => if x = p.1 then some (i + L.length) else none
  | [], i => by simp [plc]
  | q :: L, i => by
    simp only [List.cons_append, plc]
    split
    · rfl
    · rw [plc_app x p L (i + 1)]
      cases plc x L (i + 1) with
      | some j => rfl
      | none => simp only [List.length_cons]; rw [show i + 1 + L.length = i + (L.length + 1) by omega]
theorem lkp_app0 {L : Mp} {x' : List Int} (h : plc x' L 0 = none) (x : List Int) (z : Value) : lkp (L ++ [(x', z)]) x z = lkp L x z := by
  unfold lkp
  rw [plc_app]
  cases hp : plc x L 0 with
  | some j =>
    have := plc_get hp
    rw [Nat.sub_zero] at this
    obtain ⟨_, p, h1, _⟩ := this
    have hj : j < L.length := (List.getElem?_eq_some_iff.1 h1).1
    simp [vat, List.getElem?_append_left hj]
  | none =>
    simp only
    split
    · simp [vat]
    · rfl
theorem Ext0.look {k m : Nat} {a c : Wd} {b : Bool} {L : Mp} (hk0 : k ≠ 0) (he : Ext0 k a c) (hm : (m, mapO b L) ∈ a.ms) (hb : b = !(k == 1)) (hL : ∀ p ∈ L, p.1.length = k) :
    ∃ L', (m, mapO b L') ∈ c.ms ∧ (∀ p ∈ L', p.1.length = k) ∧ ∀ x, lkp L' x (iv 0) = lkp L x (iv 0) := by
  induction he with
  | refl => exact ⟨L, hm, hL, fun _ => rfl⟩
  | any hk _ _ => exact absurd hk hk0
  | step he hu hp hx hL1 ih =>
    obtain ⟨L', h1, h2, h3⟩ := ih
    rcases hu.fwd _ h1 with h | ⟨h4, h5⟩
    · exact ⟨L', h, h2, h3⟩
    · simp only [Prod.mk.injEq] at h4
      obtain ⟨rfl, h4⟩ := h4
      subst hb
      have := mapO_inj rfl h2 hL1 h4
      subst this
      refine ⟨_, h5, fun p hp => ?_, fun x => by rw [lkp_app0 hp]; exact h3 x⟩
      rcases List.mem_append.1 hp with hp | hp
      · exact h2 p hp
      · rw [List.mem_singleton] at hp; subst hp; exact hx
section
variable {P : Program} {n : NN} {B : Nat} {w0 : Wd} {fr : FR} {hs S : HS} {ty : TypeId} {K : Act → World → Prop} {ops : Array Oper} {l : List Oper} {d f : Nat} {fl : List Nat} {pos : String} {aft : Array Edge}
end
theorem kQO {n : NN} {B : Nat} {w0 : Wd} {fr : FR} {hs : HS} {ty : TypeId} {Ka : Act → Prop} {ops : Array Oper} {l : List Oper} {d : Nat} {pos : String} {aft : Array Edge} (op : Op) (h : qn Tryz.prog n B w0 hs ops Ka (⟨some d, op, ty, pos, aft, none⟩ :: l) fr) : qn Tryz.prog n B w0 hs ops Ka (⟨some d, op, ty, pos, aft, none⟩ :: l) fr := h
section
variable {P : Program} {w0 : Wd} {B : Nat} {hs : HS}
end
end Go.Proofs.YtnbickholedckaaGreatDoor
namespace Go.Proofs.YtnbickholedckaaGreatDoor
open Go.RowKit
/-- The fence that lets all in; in a round, or in none. -/
def rF (ro : Option Nat) : Fence := { Fence.wide with round := ro }
def noDf (o : Oper) : Bool := match o.op with | .defer _ => false | _ => true
theorem noDf_ne {o : Oper} (h : noDf o = true) (c : Call) : o.op ≠ .defer c := fun e => by simp [noDf, e] at h
def noDfL (l : List Oper) : Bool := l.all noDf
section
variable {P : Program} {ro : Option Nat}
theorem rF_calls {f : Nat} {args : Array Value} {w : World} {R : Ending → World → Prop} (m : Nat) (h : Calls P f args w R) : CallsIn (rF ro) m P f args w R := (callsIn_wide (n := m)).2 h
theorem calls_rF {f : Nat} {args : Array Value} {w : World} {R : Ending → World → Prop} (m : Nat) (h : CallsIn (rF ro) m P f args w R) : Calls P f args w R := (callsIn_wide (n := m)).1 h
theorem rF_dep {m : Nat} : (rF ro).depth.isSome = true → 1 ≤ m := fun h => by simp [rF, Fence.wide] at h
theorem op_rF {o : Oper} {a : Act} {w : World} {N : Act → World → Prop} {Q : Exit → Act → World → Prop} (hd : noDf o = true) (h : o.wp P a w N Q) : o.wpIn (rF ro) 0 P a w N Q := by
  refine ⟨fun _ _ => trivial, ?_⟩
  rw [Oper.semAt_eq _ _ _ (noDf_ne hd)]
  unfold Oper.wp at h
  generalize (execOp a.eval o).run P w = r at h ⊢
  cases r with
  | ok x w' =>
    cases x <;> simp only [Oper.upon] at h <;> simp only [Oper.uponIn]
    case value v => exact h
    case skip => exact h
    case defer d => exact h
    case enter f args => exact ⟨rF_dep, rF_calls _ h⟩
    case row row args => exact ⟨rF_dep, fun c cs _ => let ⟨v, w', r, s⟩ := h c cs; ⟨v, w', r, (StepsIn.of_steps s).mono fun m _ => fenced_wide P m⟩⟩
  | halt x w' =>
    cases x <;> simp only [Oper.upon] at h <;> simp only [Oper.uponIn]
    exact h
theorem ops_rF {l0 : List Oper} {K : Act → World → Prop} {Q : Exit → Act → World → Prop} (hd : noDfL l0 = true) (hk : ∀ a w, K a w → Q .normal a w) : ∀ (l pre : List Oper) (a : Act) (w : World), l0 = pre ++ l → sl P l0.toArray K l a w →
    wpOpsIn (rF ro) 0 P l0.toArray Q (List.range' pre.length l.length) a w
  | [], pre, a, w, _, h => by unfold sl at h; exact hk _ _ h
  | o :: l, pre, a, w, he, h => by
    have ho : l0.toArray[pre.length]? = some o := by subst he; simp
    have hdo : noDf o = true := List.all_eq_true.1 hd o (by subst he; simp)
    have ih := fun a w (hh : sl P l0.toArray K l a w) => ops_rF hd hk l (pre ++ [o]) a w (by simp [he]) hh
    simp only [List.length_append, List.length_cons, List.length_nil] at ih
    rw [List.length_cons, List.range'_succ]
    unfold wpOpsIn
    simp only [ho]
    unfold sl at h
    split
    · rename_i hw
      rw [if_pos hw] at h
      exact op_rF hdo (Oper.upon_mono (fun a w h => ih a w h) (fun _ _ _ h => h.elim) h)
    · rename_i hw
      rw [if_neg hw] at h
      exact ⟨fun _ _ => trivial, ih _ _ h⟩
theorem any_rF {ops : Array Oper} {Q : Exit → Act → World → Prop} (hd : noDfL ops.toList = true) (hno : ∀ a w, ¬ Q .outgrown a w) : ∀ (fuel : Nat) (listed : Array Bool) (a : Act) (w : World), wpAny P .any ops Q fuel listed a w → wpAnyIn (rF ro) 0 P .any ops Q fuel listed a w
  | 0, _, _, _, h => h
  | fuel + 1, listed, a, w, h => by
    refine ⟨h.1, fun i hi => ?_⟩
    have h2 := h.2 i hi
    unfold wpOp at h2
    unfold wpOpIn
    split
    · rename_i hn; simp only [hn] at h2; exact any_rF hd hno fuel _ _ _ h2
    · rename_i o ho
      simp only [ho] at h2
      have hdo : noDf o = true := List.all_eq_true.1 hd o (by
        have := Array.mem_of_getElem? ho
        simpa using this)
      split
      · rename_i hw
        simp only [hw, if_true] at h2
        rcases h2 with h2 | ⟨_, x, y, h2⟩
        · exact op_rF hdo (Oper.upon_mono (fun a w h => any_rF hd hno fuel _ a w h) (fun _ _ _ h => h) h2)
        · exact absurd h2 (hno x y)
      · rename_i hw
        simp only [hw] at h2
        exact ⟨fun _ _ => trivial, any_rF hd hno fuel _ _ _ h2⟩
/-- The way out at the end alone. -/
def onlyN (K : Act → World → Prop) : Exit → Act → World → Prop
  | .normal, a, w => K a w
  | _, _, _ => False
theorem onlyN_to {Q : Exit → Act → World → Prop} : ∀ e a w, onlyN (Q .normal) e a w → Q e a w := by
  intro e a w h
  cases e <;> first | exact h | exact h.elim
end
section
variable {P : Program} {n : NN} {B : Nat} {w0 : Wd} {fr fr' : FR} {hs hs' : HS} {K K' : Act → World → Prop} {Q Q' : Exit → Act → World → Prop} {ro : Option Nat}
theorem g_seq {x y : Code} (h : Sat n B w0 (x.wpIn (rF ro) 0 P (Exit.then (y.wpIn (rF ro) 0 P Q) Q)) fr hs) : Sat n B w0 ((Code.seq x y).wpIn (rF ro) 0 P Q) fr hs := sat_mk fun a w ha hw => wpIn_seq (sat_el h a w ha hw)
theorem g_block {id : Nat} {c : Code} (h : Sat n B w0 (c.wpIn (rF ro) 0 P (Exit.inBlock id Q)) fr hs) : Sat n B w0 ((Code.block id c).wpIn (rF ro) 0 P Q) fr hs := sat_mk fun a w ha hw => wpIn_block (sat_el h a w ha hw)
theorem g_skip (h : Sat n B w0 (Q .normal) fr hs) : Sat n B w0 (Code.skip.wpIn (rF ro) 0 P Q) fr hs := sat_mk fun a w ha hw => wpIn_skip (sat_el h a w ha hw)
theorem g_exit {id : Nat} (h : Sat n B w0 (Q (.exit id)) fr hs) : Sat n B w0 ((Code.exit id).wpIn (rF ro) 0 P Q) fr hs := sat_mk fun a w ha hw => wpIn_exit (sat_el h a w ha hw)
theorem g_ret (h : Sat n B w0 (Q .ret) fr hs) : Sat n B w0 (Code.ret.wpIn (rF ro) 0 P Q) fr hs := sat_mk fun a w ha hw => wpIn_ret (sat_el h a w ha hw)
theorem gCI {c : Operand} {x y : Code} (h : Sat n B w0 ((Code.cond c x y).wpIn (rF ro) 0 P Q) fr hs) : Sat n B w0 ((Code.cond c x y).wpIn (rF ro) 0 P Q) fr hs := h
theorem gI {c : Operand} {x y : Code} {p : Prop} [Decidable p] (ht : p → Sat n B w0 (x.wpIn (rF ro) 0 P Q) fr hs) (hf : ¬ p → Sat n B w0 (y.wpIn (rF ro) 0 P Q) fr hs) (hc : opv fr c = some (.bool (decide p)) := by rfl) :
    Sat n B w0 ((Code.cond c x y).wpIn (rF ro) 0 P Q) fr hs := sat_mk fun a w ha hw => by
  by_cases hp : p
  · exact wpIn_cond_true (by rw [ha.opv hc]; simp [hp]) (sat_el (ht hp) a w ha hw)
  · exact wpIn_cond_false (by rw [ha.opv hc]; simp [hp]) (sat_el (hf hp) a w ha hw)
theorem gBB {c : Operand} {x y : Code} {b : Bool} (ht : b = true → Sat n B w0 (x.wpIn (rF ro) 0 P Q) fr hs) (hf : b = false → Sat n B w0 (y.wpIn (rF ro) 0 P Q) fr hs) (hc : opv fr c = some (.bool b) := by rfl) :
    Sat n B w0 ((Code.cond c x y).wpIn (rF ro) 0 P Q) fr hs := sat_mk fun a w ha hw => by
  cases b with
  | true => exact wpIn_cond_true (ha.opv hc) (sat_el (ht rfl) a w ha hw)
  | false => exact wpIn_cond_false (ha.opv hc) (sat_el (hf rfl) a w ha hw)
theorem gT {c : Operand} {x y : Code} (ht : Sat n B w0 (x.wpIn (rF ro) 0 P Q) fr hs) (hc : opv fr c = some (.bool true) := by rfl) : Sat n B w0 ((Code.cond c x y).wpIn (rF ro) 0 P Q) fr hs := sat_mk fun a w ha hw => wpIn_cond_true (ha.opv hc) (sat_el ht a w ha hw)
theorem gF {c : Operand} {x y : Code} (ht : Sat n B w0 (y.wpIn (rF ro) 0 P Q) fr hs) (hc : opv fr c = some (.bool false) := by rfl) : Sat n B w0 ((Code.cond c x y).wpIn (rF ro) 0 P Q) fr hs := sat_mk fun a w ha hw => wpIn_cond_false (ha.opv hc) (sat_el ht a w ha hw)
theorem g_region {id : Nat} {l : List Oper} (h : Sat n B w0 (sl P l.toArray (Q .normal) l) fr hs) (hd : noDfL l = true := by rfl) : Sat n B w0 ((Code.region id l.toArray false).wpIn (rF ro) 0 P Q) fr hs :=
  sat_mk fun a w ha hw => wpIn_region (by
    have := ops_rF (ro := ro) (Q := Q) hd (fun _ _ h => h) l [] a w rfl (sat_el h a w ha hw)
    rw [List.size_toArray, List.range_eq_range']
    exact this)
theorem gRI {id : Nat} {l : List Oper} (h : Sat n B w0 ((Code.region id l.toArray true).wpIn (rF ro) 0 P Q) fr hs) : Sat n B w0 ((Code.region id l.toArray true).wpIn (rF ro) 0 P Q) fr hs := h
theorem g_quiet {id : Nat} {l : List Oper} (hm : P.follows .mixedOrders = true) (hB : Region.lexB .any l.toArray = true) (hd : noDfL l = true) (h : qn P n B w0 hs l.toArray (fun a' => ∀ w', Hp B w0 w' hs → Q .normal a' w') l fr) :
    Sat n B w0 ((Code.region id l.toArray true).wpIn (rF ro) 0 P Q) fr hs := sat_mk fun a w ha hw => by
  simp only [Region.lexB, Bool.and_eq_true] at hB
  unfold qn at h
  have h1 := wpAnyQ_lex (C := fun w => Hp B w0 w hs) (md := .any) hB.1 l.toArray.toList 0 (Array.replicate l.toArray.size false) a (by simp) (by simpa using hB.2) (by simpa using h a ha)
  have h2 := wpAny_of_quiet (C := fun w => Hp B w0 w hs) (Q' := onlyN (Q .normal)) (fun _ w' hw' h => h w' hw') _ _ _ _ hw.drew h1
  exact wpIn_mono (wpIn_region_any hm (any_rF (by simpa using hd) (fun _ _ h => h) _ _ _ _ (by simpa using h2))) onlyN_to
theorem g_drawn {id : Nat} {l : List Oper} (fl : List Nat) (S : HS) (hS : S.Sublist hs) (hm : P.follows .mixedOrders = true) (hc : chk l fl = true) (hd : noDfL l = true) (h : Rk P n B w0 l.toArray (Q .normal) fl l S fr hs) :
    Sat n B w0 ((Code.region id l.toArray true).wpIn (rF ro) 0 P Q) fr hs := sat_mk fun a w ha hw => by
  unfold Rk at h
  simp only [chk, Bool.and_eq_true] at hc
  obtain ⟨hsel, hall⟩ := hc
  have hw' : Hp B w0 { w with drawn := w.drawn + 1 } hs := hw.drew
  have han := ancGo_spec (ops := l.toArray) l [] 0 rfl (by simp) (by intro j i hb; simp [lk] at hb)
  have hall' := allI_spec l 0 hall
  refine wpIn_mono (wpIn_region_any hm (any_rF (Q := onlyN (Q .normal)) (by simpa using hd) (fun _ _ h => h) _ _ _ _ (wpAny_rk (P := P) (B := B) (Q := onlyN (Q .normal)) (fl := fl) (Region.noSelect_at hsel) ?_ ?_ _ w0 _ (List.range' 0 l.length) S hs a _ hw' (.of hS) (rkI_of_rkL w0 l 0 S hs a ⟨_, hw'⟩ (.of hS) (by simp) (h a ha)) ?_ ?_ ?_ (by simp) (by simp)))) onlyN_to
  · intro j oj hj e he hb
    have h1 := hall' j oj hj
    simp only [Bool.and_eq_true, List.all_eq_true] at h1
    have h2 := h1.1 e (by simpa using he)
    simp only [hb, Bool.not_true, Bool.false_or, Nat.zero_add] at h2
    simpa using h2
  · intro i j oi oj hi hj hij
    have h1 := hall' j oj hj
    simp only [Bool.and_eq_true] at h1
    have h2 := allI_spec l 0 h1.2 i oi hi
    simp only [Nat.zero_add, Bool.or_eq_true, Bool.and_eq_true] at h2
    rcases h2 with (h2 | h2) | h2
    · have := Nat.le_of_ble_eq_true h2; omega
    · exact .inl (han j i h2)
    · exact .inr h2
  · intro i
    simp only [List.mem_range'_1, Nat.zero_le, Nat.zero_add, true_and]
    constructor
    · intro hi; exact ⟨hi, by simp [hi]⟩
    · exact fun h => h.1
  · exact List.pairwise_lt_range'
  · intro j oj hj hl
    rw [getD_replicate_false'] at hl; cases hl
/-- The next round of a loop: memory, the maps and the deferred calls may be others. -/
def NxG (k : Nat) (B : Nat) {ι : Type} (D : ι → List Deferred) (W : ι → Wd) (F : ι → FR) (H : ι → HS) (C : ι → Prop) (μ : ι → Nat) (m : Nat) (a : Act) (w : World) : Prop := ∃ j, C j ∧ μ j < m ∧ Fr ⟨k, D j⟩ a (F j) ∧ Hp B (W j) w (H j)
theorem g_loop {c : Code} {ι : Type} (D : ι → List Deferred) (W : ι → Wd) (F : ι → FR) (H : ι → HS) (C : ι → Prop) (μ : ι → Nat) (i0 : ι) (hc : C i0) (hD : D i0 = n.ds) (hb : (W i0).le w0) (h0 : SubL (F i0) fr) (h1 : (H i0).Sublist hs)
    (round : ∀ i, C i → Sat ⟨n.n, D i⟩ B (W i) (c.wpIn (rF ro) 0 P (Exit.then (NxG n.n B D W F H C μ (μ i)) Q)) (F i) (H i)) : Sat n B w0 ((Code.loop c).wpIn (rF ro) 0 P Q) fr hs := sat_mk fun a w ha hw => by
  intro b k cs hro hb' hr
  have key : ∀ m (i : ι) a w, C i → μ i = m → Fr ⟨n.n, D i⟩ a (F i) → Hp B (W i) w (H i) →
      ∃ e a' w', Q e a' w' ∧ ArrivesIn (Machine.fenced P (rF ro)) P (lone (b.atR a (.code c :: .inLoop c :: k)) cs w) b k cs e a' w' := by
    intro m
    induction m using Nat.strongRecOn with
    | _ m ih =>
      intro i a w hci hi ha hw
      obtain ⟨e, a₁, w₁, hq, harr⟩ := sat_el (round i hci) a w ha hw b (.inLoop c :: k) cs hro hb' hr
      cases e with
      | normal =>
        obtain ⟨j, hcj, hlt, hfj, hhj⟩ := hq
        obtain ⟨e₂, a₂, w₂, hq₂, harr₂⟩ := ih (μ j) (hi ▸ hlt) j a₁ w₁ hcj rfl hfj hhj
        exact ⟨e₂, a₂, w₂, hq₂, .of_steps (StepsIn.trans harr (.one (fenced_calm hb' hr rfl) stepR_inLoop)) harr₂⟩
      | exit id' => exact ⟨_, a₁, w₁, hq, .pass (x := .inLoop c) rfl (fun _ _ => .inl (by simp)) harr⟩
      | goto l => exact ⟨_, a₁, w₁, hq, .pass (x := .inLoop c) rfl (fun _ _ => .inl (by simp)) harr⟩
      | ret => exact ⟨_, a₁, w₁, hq, .pass (x := .inLoop c) rfl (fun _ _ => .inl (by simp)) harr⟩
      | panic ch => exact ⟨_, a₁, w₁, hq, .pass (x := .inLoop c) rfl (fun _ _ => .inl (by simp)) harr⟩
      | outgrown => exact ⟨_, a₁, w₁, hq, .pass (x := .inLoop c) rfl (fun _ _ => .inl (by simp)) harr⟩
  obtain ⟨e, a', w', hq, harr⟩ := key _ i0 a w hc rfl ⟨ha.size, by rw [hD]; exact ha.defers, (ha.sub h0.sub).get⟩ ((hw.sub h1).base hb)
  exact ⟨e, a', w', hq, .of_steps (.one (fenced_calm hb' hr rfl) stepR_loop) harr⟩
theorem g_end {k : Nat} {d : List Deferred} {ι : Type} {D : ι → List Deferred} {W : ι → Wd} {F : ι → FR} {H : ι → HS} {C : ι → Prop} {μ : ι → Nat} {m : Nat} (j : ι) (hc : C j) (hj : μ j < m) (hD : D j = d) (hb : (W j).le w0) (h1 : SubL (F j) fr) (h2 : (H j).Sublist hs) :
    Sat ⟨k, d⟩ B w0 (NxG k B D W F H C μ m) fr hs := sat_mk fun _ _ ha hw => ⟨j, hc, hj, ⟨ha.size, by rw [hD]; exact ha.defers, (ha.sub h1.sub).get⟩, (hw.sub h2).base hb⟩
/-! ### The iterator and its rounds -/
/-- What yields all of xs, one after another, whatever the rounds do that keep what it reads. -/
def IterC (P : Program) (g : Nat) (cap : List Value) (B : Nat) (xs : List Value) (RD : Wd → HS → Prop) : Prop :=
  ∀ (ι : Type) (W : ι → Wd) (H : ι → HS) (C : Nat → ι → Prop) (l : Nat), (∀ k i, C k i → RD (W i) (H i)) →
    (∀ k i x, xs[k]? = some x → C k i → ∀ w, Hp B (W i) w (H i) → ∃ fn tmps assign body, (Instr.yield l #[x]).run P w = .ok (.round l fn tmps assign body) w ∧
      RoundIn Fence.wide 0 P l fn tmps assign body w (fun e w' => e = .returned (.bool true) ∧ ∃ j, C (k + 1) j ∧ Hp B (W j) w' (H j))) →
    ∀ i w, C 0 i → Hp B (W i) w (H i) → Calls P g ((.func (.yield l) #[] #[] :: cap).toArray) w (fun e w' => (∃ v, e = .returned v) ∧ ∃ j, C xs.length j ∧ Hp B (W j) w' (H j))
/-- The mark of a block for deferred calls. -/
abbrev mkD (D : Nat) : Deferred := { target := .collected D, args := #[] }
theorem run_callFn {g : Nat} {args : Array Value} {w : World} (hf : isGo P g = true) : (callFunc g args).run P w = .ok (.enter g args) w := by
  unfold isGo at hf
  split at hf
  · rename_i fn hfn
    simp only [Bool.and_eq_true, Bool.not_eq_true'] at hf
    obtain ⟨h1, h2⟩ := hf
    have h3 : ¬ fn.body = none := by intro hb; simp [hb] at h1
    have h2' : ¬ fn.name = "runtime.NumGoroutine" := by simpa using h2
    simp [callFunc, hfn, h2', h3]
  · cases hf
theorem g_range {p g : Nat} {f : Operand} {cap xs : List Value} {assign body : Code} {RD : Wd → HS → Prop} (hf : opv fr f = some (.func (.func g) #[] cap.toArray)) (hg : isGo P g = true) (hit : IterC P g cap B xs RD) (hp : p < n.n)
    {ι : Type} (W : ι → Wd) (H : ι → HS) (C : Nat → ι → Prop) (F1 : Value → FR) (i0 : ι) (h0 : C 0 i0) (hb : (W i0).le w0) (hH : (H i0).Sublist hs)
    (hRD : ∀ k i, C k i → ∀ W', (W i).le W' → RD W' (H i))
    (hassign : ∀ k i x, xs[k]? = some x → C k i → ∀ l D o, Sat ⟨n.n, []⟩ B ⟨(W i).w, (l, o) :: (D, .deferred (some [])) :: (W i).ms⟩ (assign.wpIn (rF (some l)) 0 P (onlyN fun a w => Fr ⟨n.n, []⟩ a (F1 x) ∧ Hp B ⟨(W i).w, (l, o) :: (D, .deferred (some [])) :: (W i).ms⟩ w (H i))) ((p, x) :: fr) (H i))
    (hbody : ∀ k i x, xs[k]? = some x → C k i → ∀ l D o, Sat ⟨n.n, []⟩ B ⟨(W i).w, (l, o) :: (D, .deferred (some [])) :: (W i).ms⟩ (body.wpIn (rF (some l)) 0 P (onlyN fun _ w => ∃ j, C (k + 1) j ∧ Hp B ⟨(W j).w, (l, o) :: (D, .deferred (some [])) :: (W j).ms⟩ w (H j))) (F1 x) (H i))
    (done : ∀ j, C xs.length j → ∀ D, Sat ⟨n.n, mkD D :: n.ds⟩ B ⟨(W j).w, (D, .deferred (some [])) :: (W j).ms⟩ (Q .normal) fr (H j)) :
    Sat n B w0 ((Code.rangeFunc f #[p] assign body).wpIn (rF none) 0 P Q) fr hs := sat_mk fun a w ha hw => by
  refine wpIn_rangeFunc fun fn hfn => ?_
  obtain ⟨rec, hrec⟩ : ∃ rec : LoopState → Loop, rec = fun st => { state := st, pending := none, fn, tmps := a.tmps, params := #[p], assign, body, defers := w.heap.size } := ⟨_, rfl⟩
  have hw0 : Hp B (W i0) w (H i0) := (hw.sub hH).base hb
  have hw1 := (hw0.newObj (o := .deferred (some [])) rfl).newObj (o := .loop (rec .ready)) rfl
  rw [World.size_alloc] at hw1
  obtain ⟨W1, hW1⟩ : ∃ W1, (w.alloc (.deferred (some []))).alloc (.loop (rec .ready)) = W1 := ⟨_, rfl⟩
  rw [hW1] at hw1
  refine ⟨w.heap.size + 1, [mkD w.heap.size], W1, { target := .fn (.func g) cap.toArray, args := #[.func (.yield (w.heap.size + 1)) #[] #[]] }, W1, g, (.func (.yield (w.heap.size + 1)) #[] #[] :: cap).toArray, W1, by rw [← hW1, hrec]; exact run_enterLoop_outer _ _ _ _ _, ?_, fun _ _ => trivial, ?_, rF_dep, rF_calls _ ?_⟩
  · simp only [resolve, ha.opv hf]
    simp [go_sem]
  · simp [invoke, go_sem, run_callFn hg]
  · have hback : ∀ (j : ι) (w' : World) (o o' : Obj) (h : HS), notCells o' = true → Hp B ⟨(W j).w, (w.heap.size + 1, o) :: (w.heap.size, .deferred (some [])) :: (W j).ms⟩ w' h →
        w'.heap[w.heap.size + 1]? = some o ∧ Hp B ⟨(W j).w, (w.heap.size + 1, o') :: (w.heap.size, .deferred (some [])) :: (W j).ms⟩ (w'.putObj (w.heap.size + 1) o') h := fun j w' o o' h hn hh =>
      ⟨(hh.obj _ (.head _)).2.1, hh.setObj (w0 := ⟨(W j).w, (w.heap.size + 1, o) :: (w.heap.size, .deferred (some [])) :: (W j).ms⟩) (.head _) hn⟩
    refine (hit ι (fun i => ⟨(W i).w, (w.heap.size + 1, .loop (rec .ready)) :: (w.heap.size, .deferred (some [])) :: (W i).ms⟩) H C (w.heap.size + 1) (fun k i hc => hRD k i hc _ ⟨rfl, .cons _ (.cons _ (List.Sublist.refl _))⟩) ?_ i0 _ h0 hw1).mono ?_
    · intro k i x hx hc w2 hw2
      obtain ⟨hl2, hw3⟩ := hback i w2 _ (.loop { rec .ready with state := .busy }) _ rfl hw2
      have hy := run_yield (P := P) (args := #[x]) hl2 (by rw [hrec]; rfl)
      refine ⟨_, _, _, _, hy, ?_⟩
      have hF : Fr ⟨n.n, []⟩ ⟨(((rec .ready).params.zip #[x]).foldl (fun tmps (t, a) => tmps.setIfInBounds t a) (rec .ready).tmps), []⟩ ((p, x) :: fr) := by
        have h1 : Fr ⟨n.n, []⟩ ⟨a.tmps, []⟩ fr := ⟨ha.size, rfl, ha.get⟩
        have h2 := h1.put (d := p) hp x
        rw [hrec]
        simpa [Act.put] using h2
      refine roundIn_of_wpIn (F := Fence.wide) trivial ?_
      have hA := sat_el (hassign k i x hx hc (w.heap.size + 1) w.heap.size (.loop (rec .ready))) _ w2 hF hw2
      have hrb : (rec .ready).body = body ∧ (rec .ready).assign = assign := by rw [hrec]; exact ⟨rfl, rfl⟩
      rw [hrb.1, hrb.2]
      refine wpIn_mono hA (fun e a1 w4 h4 => ?_)
      cases e with
      | normal =>
        obtain ⟨hF1, hw4⟩ := h4
        obtain ⟨hl4, hw5⟩ := hback i w4 _ (.loop { rec .ready with state := .busy }) _ rfl hw4
        refine ⟨_, run_beginRound hl4 (by rw [hrec]), ?_⟩
        refine wpIn_mono (sat_el (hbody k i x hx hc (w.heap.size + 1) w.heap.size _) _ _ hF1 hw5) (fun e a2 w6 h6 => ?_)
        cases e with
        | normal =>
          obtain ⟨j, hcj, hw6⟩ := h6
          obtain ⟨hl6, hw7⟩ := hback j w6 _ (.loop { rec .ready with state := .ready, pending := none }) _ rfl hw6
          refine ⟨_, _, run_endRound none hl6, rfl, j, hcj, ?_⟩
          have : ({ ({ rec .ready with state := .busy } : Loop) with state := if (none : Option Code).isNone then .ready else .done, pending := none } : Loop) = rec .ready := by rw [hrec]; rfl
          rw [this]
          have h8 : ({ rec .ready with state := .ready, pending := none } : Loop) = rec .ready := by rw [hrec]
          rw [h8] at hw7
          exact hw7
        | exit id => exact h6.elim
        | goto t => exact h6.elim
        | ret => exact h6.elim
        | panic ch => exact h6.elim
        | outgrown => exact h6.elim
      | exit id => exact h4.elim
      | goto t => exact h4.elim
      | ret => exact h4.elim
      | panic ch => exact h4.elim
      | outgrown => exact h4.elim
    · rintro e w2 ⟨⟨v, rfl⟩, j, hcj, hw2⟩
      obtain ⟨hl2, hw3⟩ := hback j w2 _ (.loop { rec .ready with state := .exhausted }) _ rfl hw2
      refine ⟨none, w2.putObj (w.heap.size + 1) (.loop { rec .ready with state := .exhausted }), ?_, ?_⟩
      · have := run_endLoop (P := P) hl2 (by rw [hrec]; simp)
        rw [this]
        congr 1
        rw [hrec]
      · refine sat_el (done j hcj w.heap.size) _ _ ⟨ha.size, ?_, ha.get⟩ (by refine Hp.base ?_ hw3; exact ⟨rfl, .cons _ (List.Sublist.refl _)⟩)
        show [mkD w.heap.size] ++ a.defers = _
        rw [ha.defers]; rfl
end
/-! ### A region with a call of yield -/
/-- A list of operations in their order, calls of yield among them. -/
def slI (P : Program) (ops : Array Oper) (K : Act → World → Prop) : List Oper → Act → World → Prop
  | [], a, w => K a w
  | o :: l, a, w => if Region.wanted o (yielded ops a.tmps) then o.wpIn (rF none) 0 P a w (slI P ops K l) (fun _ _ _ => False) else slI P ops K l (a.put o.dst undef) w
section
variable {P : Program} {n : NN} {B : Nat} {w0 : Wd} {fr : FR} {hs : HS} {K : Act → World → Prop} {Q : Exit → Act → World → Prop} {ops : Array Oper} {l : List Oper} {d : Nat} {ty : TypeId} {pos : String} {aft : Array Edge}
theorem wpIn_to {o : Oper} {a : Act} {w : World} {N N' : Act → World → Prop} {Q Q' : Exit → Act → World → Prop} (h1 : ∀ a w, N a w → N' a w) (h2 : ∀ e a w, Q e a w → Q' e a w) (h : o.wpIn (rF none) 0 P a w N Q) : o.wpIn (rF none) 0 P a w N' Q' := by
  unfold Oper.wpIn at *
  refine ⟨h.1, ?_⟩
  have hh := h.2
  generalize (o.semAt (rF none).round a.eval).run P w = r at *
  cases r with
  | ok x w' =>
    cases x <;> simp only [Oper.uponIn] at hh ⊢ <;>
      first
        | exact h1 _ _ hh
        | exact ⟨hh.1, CallsIn.mono hh.2 (fun e w'' he => by cases e <;> first | exact h1 _ _ he | exact h2 _ _ _ he | exact (let ⟨x, y, z⟩ := he; ⟨x, y, h2 _ _ _ z⟩))⟩
        | exact ⟨hh.1, RowsIn.mono hh.2 (fun _ _ he => h1 _ _ he)⟩
        | exact ⟨hh.1, RoundIn.mono hh.2 (fun e w'' he => by cases e <;> first | exact h1 _ _ he | exact h2 _ _ _ he | exact (let ⟨x, y, z⟩ := he; ⟨x, y, h2 _ _ _ z⟩))⟩
  | halt x w' => cases x <;> simp only [Oper.uponIn] at hh ⊢ <;> exact h2 _ _ _ hh
theorem ops_slI {l0 : List Oper} (hk : ∀ a w, K a w → Q .normal a w) : ∀ (l pre : List Oper) (a : Act) (w : World), l0 = pre ++ l → slI P l0.toArray K l a w →
    wpOpsIn (rF none) 0 P l0.toArray Q (List.range' pre.length l.length) a w
  | [], pre, a, w, _, h => by unfold slI at h; exact hk _ _ h
  | o :: l, pre, a, w, he, h => by
    have ho : l0.toArray[pre.length]? = some o := by subst he; simp
    have ih := fun a w (hh : slI P l0.toArray K l a w) => ops_slI hk l (pre ++ [o]) a w (by simp [he]) hh
    simp only [List.length_append, List.length_cons, List.length_nil] at ih
    rw [List.length_cons, List.range'_succ]
    unfold wpOpsIn
    simp only [ho]
    unfold slI at h
    split
    · rename_i hw
      rw [if_pos hw] at h
      exact wpIn_to (fun a w h => ih a w h) (fun _ _ _ h => h.elim) h
    · rename_i hw
      rw [if_neg hw] at h
      exact ⟨fun _ _ => trivial, ih _ _ h⟩
theorem g_regY {id : Nat} {l : List Oper} (h : Sat n B w0 (slI P l.toArray (Q .normal) l) fr hs) : Sat n B w0 ((Code.region id l.toArray false).wpIn (rF none) 0 P Q) fr hs :=
  sat_mk fun a w ha hw => wpIn_region (by
    have := ops_slI (Q := Q) (fun _ _ h => h) l [] a w rfl (sat_el h a w ha hw)
    rw [List.size_toArray, List.range_eq_range']
    exact this)
theorem si_nil (h : Sat n B w0 K fr hs) : Sat n B w0 (slI P ops K []) fr hs := h
theorem si_one {o : Oper} (hd : noDf o = true) (h : Sat n B w0 (sl P ops (slI P ops K l) [o]) fr hs) : Sat n B w0 (slI P ops K (o :: l)) fr hs := sat_mk fun a w ha hw => by
  have h1 := sat_el h a w ha hw
  unfold sl at h1
  unfold slI
  split
  · rename_i hw'
    rw [if_pos hw'] at h1
    refine op_rF hd (Oper.upon_mono (fun a w h => ?_) (fun _ _ _ h => h) h1)
    unfold sl at h; exact h
  · rename_i hw'
    rw [if_neg hw'] at h1
    unfold sl at h1; exact h1
theorem si_yield {ι : Type} {W : ι → Wd} {H : ι → HS} {C : ι → Prop} {y ly : Nat} {x : Operand} {v : Value} {ts : Array TypeId} (hy : opv fr (.tmp y) = some (.func (.yield ly) #[] #[])) (hx : opv fr x = some v) (hn : d < n.n)
    (hr : ∀ w, Hp B w0 w hs → ∃ fn tmps assign body, (Instr.yield ly #[v]).run P w = .ok (.round ly fn tmps assign body) w ∧ RoundIn Fence.wide 0 P ly fn tmps assign body w (fun e w' => e = .returned (.bool true) ∧ ∃ j, C j ∧ Hp B (W j) w' (H j)))
    (h : ∀ j, C j → Sat n B (W j) (slI P ops K l) ((d, .bool true) :: fr) (H j)) :
    Sat n B w0 (slI P ops K (⟨some d, .call { callee := .value (.tmp y), args := #[x], argTypes := ts }, ty, pos, aft, none⟩ :: l)) fr hs := sat_mk fun a w ha hw => by
  unfold slI
  rw [if_pos (by simp [Region.wanted])]
  refine ⟨fun _ _ => trivial, ?_⟩
  obtain ⟨fn, tmps, assign, body, h1, h2⟩ := hr w hw
  have hrun : (Oper.semAt (rF none).round a.eval ⟨some d, .call { callee := .value (.tmp y), args := #[x], argTypes := ts }, ty, pos, aft, none⟩).run P w = .ok (.round ly fn tmps assign body) w := by
    rw [Oper.semAt_eq _ _ _ (fun c e => by cases e)]
    simp only [execOp, resolve, ha.opv hy, Deferred.ofValue, Sem.run_bind, Sem.run_pure, Result.andThen_ok, invoke]
    simp [ha.opv hx, h1]
  rw [hrun]
  refine ⟨rF_dep, RoundIn.mono h2 ?_⟩
  rintro e w' ⟨rfl, j, hj, hw'⟩
  exact sat_el (h j hj) _ _ (ha.put hn _) hw'
end
section
variable {P : Program} {n : NN} {B : Nat} {w0 : Wd} {fr : FR} {hs : HS} {K : Act → World → Prop} {Q : Exit → Act → World → Prop} {ro : Option Nat} {ops : Array Oper} {l : List Oper} {d : Nat} {ty : TypeId} {pos : String} {aft : Array Edge}
theorem kGR (id : Nat) {l : List Oper} (h : Sat n B w0 ((Code.region id l.toArray false).wpIn (rF ro) 0 P Q) fr hs) : Sat n B w0 ((Code.region id l.toArray false).wpIn (rF ro) 0 P Q) fr hs := h
theorem kGD (id : Nat) {l : List Oper} (h : Sat n B w0 ((Code.region id l.toArray true).wpIn (rF ro) 0 P Q) fr hs) : Sat n B w0 ((Code.region id l.toArray true).wpIn (rF ro) 0 P Q) fr hs := h
theorem kYc (t : Nat) {xs : Array Operand} {ts : Array TypeId} (h : Sat n B w0 (slI P ops K (⟨some d, .call ⟨.value (.tmp t), xs, ts⟩, ty, pos, aft, none⟩ :: l)) fr hs) : Sat n B w0 (slI P ops K (⟨some d, .call ⟨.value (.tmp t), xs, ts⟩, ty, pos, aft, none⟩ :: l)) fr hs := h
theorem kYo (op : Op) (h : Sat n B w0 (slI P ops K (⟨some d, op, ty, pos, aft, none⟩ :: l)) fr hs) : Sat n B w0 (slI P ops K (⟨some d, op, ty, pos, aft, none⟩ :: l)) fr hs := h
/-- A function's contract, whatever its end is to say. -/
theorem calls_enterG {k0 : Nat} {f : Nat} {fn : Func} {c : Code} {args : List Value} {R : Ending → World → Prop} {w : World} (hf : P.funcs[f]? = some fn) (hb : fn.body = some c) (hn : fn.ntmps = k0) (hl : args.length ≤ k0) (hw : Hp B w0 w hs)
    (h : Sat ⟨k0, []⟩ B w0 (c.wpIn (rF none) 0 P (bodyPost P fn R)) (slots 0 args) hs) : Calls P f args.toArray w R := by
  refine calls_rF 0 (callsIn_of_wp hf hb trivial (sat_el h _ w ⟨?_, rfl, ?_⟩ hw))
  · simp [hn]; omega
  · intro t v hv
    obtain ⟨_, h2⟩ := get_slots args 0 t v hv
    simp only [Nat.sub_zero] at h2
    have ht : t < args.length := (List.getElem?_eq_some_iff.1 h2).1
    refine ⟨by show t < k0; omega, ?_⟩
    have h3 : t < args.length + (fn.ntmps - args.length) := by omega
    simp only [Array.getD]
    rw [dif_pos (by simpa using h3)]
    simp only [Array.getInternal_eq_getElem]
    rw [Array.getElem_append_left (by simpa using ht)]
    simpa using (List.getElem?_eq_some_iff.1 h2).2
theorem e_retY {fn : Func} {R : Ending → World → Prop} (hr : fn.results = #[]) (hR : ∀ w, Hp B w0 w hs → R (.returned (.tuple #[])) w) (hd0 : n.ds = [] := by rfl) : Sat n B w0 (bodyPost P fn R .ret) fr hs := sat_mk fun a w ha hw =>
  ⟨ha.defers.trans hd0, .tuple #[], by simp [results, hr], hR w hw⟩
theorem e_retYn {fn : Func} {R : Ending → World → Prop} (hr : fn.results = #[]) (hR : ∀ w, Hp B w0 w hs → R (.returned (.tuple #[])) w) (hd0 : n.ds = [] := by rfl) : Sat n B w0 (bodyPost P fn R .normal) fr hs := sat_mk fun a w ha hw =>
  ⟨ha.defers.trans hd0, .tuple #[], by simp [results, hr], hR w hw⟩
end
/-! ### The beginning and the end of a function that ranges over functions -/
section
variable {P : Program} {n : NN} {B : Nat} {w0 : Wd} {fr : FR} {hs hs' : HS}
theorem leaves_marks {fn : Func} {tmps : Array Value} {R : Value → HS → Prop} {v : Value} (hv : ∀ w, Hp B w0 w hs → (results fn tmps).run P w = .ok v w) (hR : R v hs') (hsub : hs'.Sublist hs) :
    ∀ (Ds : List Nat) (ms : List (Nat × Obj)) (w : World), Hp B ⟨w0.w, (Ds.map fun D => (D, Obj.deferred (some []))) ++ ms⟩ w hs → w0.ms.Sublist ms → LeavesInM (rF none) 0 P fn tmps (Ends B w0 R) (Ds.map mkD) .returning w
  | [], ms, w, hw, hms => by
    have hw' : Hp B w0 w hs := by refine Hp.base ?_ hw; exact ⟨rfl, hms⟩
    exact ⟨v, hv w hw', v, hs', rfl, hR, hw'.sub hsub⟩
  | D :: Ds, ms, w, hw, hms => by
    obtain ⟨_, h2, _⟩ := hw.obj (D, .deferred (some [])) (.head _)
    refine ⟨by simp, .inl ⟨D, _, rfl, run_takeDeferred h2, ?_⟩⟩
    refine leaves_marks hv hR hsub Ds ms _ ?_ hms
    have h3 := hw.setObj (o' := .deferred none) (.head _) rfl
    refine Hp.base ?_ h3
    exact ⟨rfl, .cons _ (List.Sublist.refl _)⟩
theorem e_retG1 {w1 : Wd} {fn : Func} {R : Value → HS → Prop} {r : ResultVar} {v : Value} {Ds : List Nat} {ms : List (Nat × Obj)} (hd : n.ds = Ds.map mkD) (hw1 : w1 = ⟨w0.w, (Ds.map fun D => (D, Obj.deferred (some []))) ++ ms⟩) (hms : w0.ms.Sublist ms)
    (hr : fn.results = #[r]) (h1 : RV P B w0 fr hs r v) (hR : R v hs') (hsub : hs'.Sublist hs) : Sat n B w1 (bodyPostM (rF none) 0 P fn (Ends B w0 R) .ret) fr hs := sat_mk fun a w ha hw => by
  show LeavesInM (rF none) 0 P fn a.tmps (Ends B w0 R) a.defers .returning w
  rw [ha.defers, hd]
  subst hw1
  exact leaves_marks (fun w hw => by simp [results_rv1, hr, RV.run ha hw h1]) hR hsub Ds ms w hw hms
theorem fn_enterG {k0 : Nat} {f : Nat} {fn : Func} {c : Code} {args : List Value} {R : Value → HS → Prop} (hf : P.funcs[f]? = some fn) (hb : fn.body = some c) (hn : fn.ntmps = k0) (hl : args.length ≤ k0)
    (h : Sat ⟨k0, []⟩ B w0 (c.wpIn (rF none) 0 P (bodyPostM (rF none) 0 P fn (Ends B w0 R))) (slots 0 args) hs) : Fn P f args.toArray B w0 hs R := fn_mk fun w hw => by
  refine calls_rF 0 (callsIn_of_wp_marks hf hb trivial (sat_el h _ w ⟨?_, rfl, ?_⟩ hw))
  · simp [hn]; omega
  · intro t v hv
    obtain ⟨_, h2⟩ := get_slots args 0 t v hv
    simp only [Nat.sub_zero] at h2
    have ht : t < args.length := (List.getElem?_eq_some_iff.1 h2).1
    refine ⟨by show t < k0; omega, ?_⟩
    have h3 : t < args.length + (fn.ntmps - args.length) := by omega
    simp only [Array.getD]
    rw [dif_pos (by simpa using h3)]
    simp only [Array.getInternal_eq_getElem]
    rw [Array.getElem_append_left (by simpa using ht)]
    simpa using (List.getElem?_eq_some_iff.1 h2).2
end
end Go.Proofs.YtnbickholedckaaGreatDoor
namespace Go.Proofs.YtnbickholedckaaGreatDoor
open Go.RowKit
/-- A map after a write. -/
def mset (L : Mp) (x : List Int) (v : Value) : Mp := match plc x L 0 with | some i => L.put i v | none => L ++ [(x, v)]
section
variable {P : Program} {w : World}
theorem run_mapUpdate {t : TypeId} {b : Bool} {k m : Nat} {z v : Value} {L : Mp} {x : List Int} (h : mpt P t = some (b, k, z)) (hb : w.heap[m]? = some (mapO b L)) (hx : x.length = k) (hL : ∀ p ∈ L, p.1.length = k) :
    (Instr.mapUpdate t (.map (some m)) (vOf b x) v).run P w = .ok () { w with heap := w.heap.setIfInBounds m (mapO b (mset L x v)) } := by
  obtain ⟨kt, et, hu, h1, h2, h3⟩ := mpt_to h
  subst h2
  have hc := fun em => run_checkK em h1 hx w
  have hf := run_findK (w := w) h1 hx L hL
  cases hp : plc x L 0 with
  | none =>
    rw [hp] at hf
    have e4 : mapO (agB P kt) (L ++ [(x, v)]) = .map ((((ents L).map (mEn (agB P kt))).toArray).push { key := vOf (agB P kt) x, val := v, born := L.length }) (L.length + 1) := by
      simp [mapO, mOb, ents_snoc, mEn]
    simp only [Instr.mapUpdate, Sem.run_bind, run_underlying hu, Result.andThen_ok, run_getObjM hb, hc, hf, Option.map_none, run_setObjM _ hb, mset, hp, e4]
  | some i =>
    rw [hp] at hf
    obtain ⟨_, p, q1, q2⟩ := plc_get hp
    rw [Nat.sub_zero] at q1
    have e1 : ((((ents L).map (mEn (agB P kt))).toArray)[i]?.map (·.key)).getD (vOf (agB P kt) x) = vOf (agB P kt) x := by
      rw [entA_get, q1]; simp [mEn, q2]
    have e3 : (((ents L).map (mEn (agB P kt))).toArray).modify i (fun e => { e with key := vOf (agB P kt) x, val := v }) = ((ents (L.put i v)).map (mEn (agB P kt))).toArray := by
      apply Array.ext_getElem?
      intro j
      rw [Array.getElem?_modify, entA_get, entA_get]
      unfold Mp.put
      by_cases hij : i = j
      · subst hij
        have hlt : i < L.length := (List.getElem?_eq_some_iff.1 q1).1
        rw [if_pos rfl, q1, List.getElem?_set_self hlt]
        simp [mEn, q2]
      · rw [if_neg hij, List.getElem?_set_ne hij]
    have e5 : mapO (agB P kt) (L.put i v) = .map ((ents (L.put i v)).map (mEn (agB P kt))).toArray L.length := by
      simp [mapO, mOb, Mp.put]
    simp only [Instr.mapUpdate, Sem.run_bind, run_underlying hu, Result.andThen_ok, run_getObjM hb, hc, hf, Option.map_some, e1, Instr.keyThatStays, sameBits_vOf, if_true, Sem.run_pure, e3, run_setObjM _ hb, mset, hp, e5]
end
section
variable {P : Program} {n : NN} {B : Nat} {w0 : Wd} {fr : FR} {hs S : HS} {ty : TypeId} {K : Act → World → Prop} {ops : Array Oper} {l : List Oper} {pos : String} {aft : Array Edge} {fl : List Nat}
theorem s_mapUpdate {t : TypeId} {xm xk xv : Operand} {b : Bool} {k m : Nat} {z v : Value} {L : Mp} {x : List Int} {ms' : List (Nat × Obj)} (h : mpt P t = some (b, k, z)) (h1 : opv fr xm = some (.map (some m))) (h2 : opv fr xk = some (vOf b x)) (h3 : opv fr xv = some v) (hx : x.length = k) (hL : ∀ p ∈ L, p.1.length = k) (hu : UpdM m (mapO b L) (mapO b (mset L x v)) w0.ms ms')
    (hk : Sat n B ⟨w0.w, ms'⟩ (sl P ops K l) fr hs) : Sat n B w0 (sl P ops K (⟨none, .mapUpdate t xm xk xv, ty, pos, aft, none⟩ :: l)) fr hs := sat_mk fun a w ha hw => by
  have h4 := sat_el hk a _ ha (hw.setObj hu (mapO_not _ _))
  unfold sl
  rw [if_pos (by simp [Region.wanted])]
  unfold Oper.wp
  have := run_mapUpdate (P := P) (w := w) (v := v) h (hw.map hu.mem) hx hL
  have hrun : (execOp a.eval ⟨none, .mapUpdate t xm xk xv, ty, pos, aft, none⟩).run P w = .ok .skip { w with heap := w.heap.setIfInBounds m (mapO b (mset L x v)) } := by
    simp [execOp, ha.opv h1, ha.opv h2, ha.opv h3, this]
  rw [hrun]
  exact h4
/-- A map is written to, beside what does not look at maps. -/
theorem k_mapUpdate7 {f : Nat} {t : TypeId} {xm xk xv : Operand} {b : Bool} {k m : Nat} {z v : Value} {L : Mp} {x : List Int} {ms' : List (Nat × Obj)} (h : mpt P t = some (b, k, z)) (hf : f = (2 * 0 + 1) + 6) (h1 : opv fr xm = some (.map (some m))) (h2 : opv fr xk = some (vOf b x)) (h3 : opv fr xv = some v) (hx : x.length = k) (hL : ∀ p ∈ L, p.1.length = k) (hu : UpdM m (mapO b L) (mapO b (mset L x v)) w0.ms ms')
    (hk : Rk P n B ⟨w0.w, ms'⟩ ops K fl l S fr hs) : Rk P n B w0 ops K (f :: fl) (⟨none, .mapUpdate t xm xk xv, ty, pos, aft, none⟩ :: l) S fr hs := by
  refine k_eff7 (R := fun _ w1 => w1 = ⟨w0.w, ms'⟩) 0 hf rfl (fun a ha F w hw => ?_) ?_
  · have := run_mapUpdate (P := P) (w := w) (v := v) h (hw.map hu.mem) hx hL
    have hrun : (execOp a.eval ⟨none, .mapUpdate t xm xk xv, ty, pos, aft, none⟩).run P w = .ok .skip { w with heap := w.heap.setIfInBounds m (mapO b (mset L x v)) } := by
      simp [execOp, ha.opv h1, ha.opv h2, ha.opv h3, this]
    rw [hrun]
    exact ⟨_, rfl, hw.setObj hu (mapO_not _ _)⟩
  · rintro a ha v' w1 rfl
    unfold Rk at hk
    have : a.put none v' = a := by simp [Act.put]
    rw [this]
    exact ⟨.any rfl .refl, hk a ha⟩
end
/-! ### What has been seen -/
theorem plc_none {x : List Int} : ∀ {L : Mp} {a : Nat}, plc x L a = none → ∀ e ∈ L, e.1 ≠ x
  | [], _, _, e, h => by cases h
  | q :: L, a, hp, e, h => by
    unfold plc at hp
    split at hp
    · cases hp
    · rename_i hq
      rcases List.mem_cons.1 h with rfl | h
      · intro he; exact hq he.symm
      · exact plc_none hp e h
/-- The map says yes of what is in S, and of nothing else. -/
structure SnM (k : Nat) (S : List Int → Prop) (L : Mp) : Prop where
  len : ∀ e ∈ L, e.1.length = k
  yes : ∀ e ∈ L, e.2 = .bool true
  mem : ∀ x, (∃ e ∈ L, e.1 = x) ↔ S x
theorem SnM.nil (k : Nat) {S : List Int → Prop} (h : ∀ x, ¬ S x) : SnM k S [] := ⟨fun e h => (by cases h), fun e h => (by cases h), fun x => ⟨fun ⟨e, h, _⟩ => (by cases h), fun hx => absurd hx (h x)⟩⟩
theorem SnM.look {k : Nat} {S : List Int → Prop} {L : Mp} (h : SnM k S L) (x : List Int) {b : Bool} (hb : b = true ↔ S x) : lkp L x (.bool false) = .bool b := by
  unfold lkp
  cases hp : plc x L 0 with
  | none =>
    cases b with
    | false => rfl
    | true =>
      obtain ⟨e, he, hx⟩ := (h.mem x).2 (hb.1 rfl)
      exact absurd hx (plc_none hp e he)
  | some j =>
    obtain ⟨_, q, q1, q2⟩ := plc_get hp
    rw [Nat.sub_zero] at q1
    have hm := List.mem_of_getElem? q1
    have hS := (h.mem x).1 ⟨q, hm, q2⟩
    rw [hb.2 hS]
    show vat L j = _
    unfold vat
    rw [q1]
    exact h.yes q hm
theorem SnM.step {k : Nat} {S S' : List Int → Prop} {L : Mp} (h : SnM k S L) {x : List Int} (hx : x.length = k) (hS : ∀ y, S' y ↔ S y ∨ y = x) : SnM k S' (mset L x (.bool true)) := by
  have key : ∀ e, e ∈ mset L x (.bool true) → e ∈ L ∨ e = (x, .bool true) := fun e he => by
    unfold mset at he
    split at he
    · rename_i j hp
      obtain ⟨_, q, q1, q2⟩ := plc_get hp
      rw [Nat.sub_zero] at q1
      unfold Mp.put at he
      rw [q1] at he
      rcases List.mem_or_eq_of_mem_set he with h1 | h1
      · exact .inl h1
      · exact .inr (by rw [h1]; simp [q2])
    · rcases List.mem_append.1 he with h1 | h1
      · exact .inl h1
      · exact .inr (by simpa using h1)
  have back : ∀ y, (∃ e ∈ L, e.1 = y) ∨ y = x → ∃ e ∈ mset L x (.bool true), e.1 = y := fun y hy => by
    unfold mset
    split
    · rename_i j hp
      obtain ⟨_, q, q1, q2⟩ := plc_get hp
      rw [Nat.sub_zero] at q1
      unfold Mp.put
      rw [q1]
      have hlt : j < L.length := (List.getElem?_eq_some_iff.1 q1).1
      by_cases e : y = x
      · exact ⟨_, List.mem_set hlt _, by rw [e]; simp [q2]⟩
      · rcases hy with ⟨e', he', hx'⟩ | hy
        · obtain ⟨a, ha, hae⟩ := List.getElem_of_mem he'
          have haj : a ≠ j := fun ej => by
            subst ej
            rw [List.getElem?_eq_getElem ha, hae] at q1
            injection q1 with q1
            subst q1
            exact e (by rw [← hx', q2])
          refine ⟨e', ?_, hx'⟩
          refine List.mem_iff_getElem?.2 ⟨a, ?_⟩
          rw [List.getElem?_set_ne (Ne.symm haj), List.getElem?_eq_getElem ha, hae]
        · exact absurd hy e
    · rcases hy with ⟨e', he', hx'⟩ | hy
      · exact ⟨e', List.mem_append_left _ he', hx'⟩
      · exact ⟨_, List.mem_append_right _ (.head _), hy.symm⟩
  refine ⟨fun e he => ?_, fun e he => ?_, fun y => ⟨?_, fun hy => ?_⟩⟩
  · rcases key e he with h1 | h1
    · exact h.len e h1
    · rw [h1]; exact hx
  · rcases key e he with h1 | h1
    · exact h.yes e h1
    · rw [h1]
  · rintro ⟨e, he, rfl⟩
    rcases key e he with h1 | h1
    · exact (hS _).2 (.inl ((h.mem _).1 ⟨e, h1, rfl⟩))
    · rw [h1]; exact (hS _).2 (.inr rfl)
  · rcases (hS y).1 hy with h1 | h1
    · exact back y (.inl ((h.mem y).2 h1))
    · exact back y (.inr h1)
end Go.Proofs.YtnbickholedckaaGreatDoor
namespace Go.Proofs.YtnbickholedckaaGreatDoor
open Go.RowKit
section
variable {P : Program} {n : NN} {B : Nat} {w0 : Wd} {fr fr' : FR} {hs hs' S S' X : HS} {ty : TypeId} {K : Act → World → Prop} {Ka : Act → Prop}
  {ops : Array Oper} {l : List Oper} {d f : Nat} {fl : List Nat} {pos : String} {aft : Array Edge} {v : Value}
theorem run_callF {x : Operand} {g : Nat} {xs : List Operand} {vs fs cs us : List Value} {ts : Array TypeId} {a : Act} (hf : isGo P g = true) (ha : Fr n a fr) (hx : opv fr x = some (.func (.func g) fs.toArray cs.toArray)) (hv : argv fr xs = some vs) (hu : fs ++ vs ++ cs = us) (o : Option Nat) (w : World) :
    (execOp a.eval ⟨o, .call { callee := .value x, args := xs.toArray, argTypes := ts }, ty, pos, aft, none⟩).run P w = .ok (.enter g us.toArray) w := by
  unfold isGo at hf
  split at hf
  · rename_i fn hfn
    simp only [Bool.and_eq_true, Bool.not_eq_true'] at hf
    obtain ⟨h1, h2⟩ := hf
    have h3 : ¬ fn.body = none := by intro hb; simp [hb] at h1
    have h2' : ¬ fn.name = "runtime.NumGoroutine" := by simpa using h2
    have h4 := argv_map ha xs vs hv
    have h5 : (xs.toArray.map a.eval) = vs.toArray := by rw [← h4]; simp
    have h6 : a.eval x = .func (.func g) fs.toArray cs.toArray := ha.opv hx
    have h7 : fs.toArray ++ vs.toArray ++ cs.toArray = us.toArray := by rw [← hu]; simp
    simp only [execOp, resolve, h5, h6, Deferred.ofValue, Sem.run_bind, Sem.run_pure, Result.andThen_ok, invoke, callFunc, h7]
    simp [hfn, h2', h3]
  · cases hf
theorem s_callF {x : Operand} {g : Nat} {xs : List Operand} {vs fs cs us : List Value} {ts : Array TypeId} {R : Value → HS → Prop} (hf : isGo P g = true) (hx : opv fr x = some (.func (.func g) fs.toArray cs.toArray)) (hv : argv fr xs = some vs) (hu : fs ++ vs ++ cs = us) (hc : Fn P g us.toArray B w0 hs R) (hn : d < n.n)
    (h : ∀ v hs', R v hs' → Sat n B w0 (sl P ops K l) ((d, v) :: fr) hs') :
    Sat n B w0 (sl P ops K (⟨some d, .call { callee := .value x, args := xs.toArray, argTypes := ts }, ty, pos, aft, none⟩ :: l)) fr hs := by
  unfold Sat at h ⊢
  unfold Fn at hc
  intro a w ha hw
  refine sl_step rfl ?_
  unfold Oper.wp
  rw [run_callF hf ha hx hv hu (some d) w]
  refine (hc w hw).mono ?_
  rintro e w' ⟨v, hs', rfl, hr, hw'⟩
  exact h v hs' hr _ _ (ha.put hn v) hw'
theorem o_mkF {g : _root_.Go.Fn} {xs ys : List Operand} {fs cs : List Value} (hx : argv fr xs = some fs) (hy : argv fr ys = some cs) : OpF P n B w0 (.makeFunc g xs.toArray ys.toArray) ty fr hs (.func g fs.toArray cs.toArray) := fun a w ha _ => by
  have h1 : (xs.toArray.map a.eval) = fs.toArray := by rw [← argv_map ha xs fs hx]; simp
  have h2 : (ys.toArray.map a.eval) = cs.toArray := by rw [← argv_map ha ys cs hy]; simp
  simp [ex, execOp, Instr.makeFunc, h1, h2]
end
section
variable {n : NN} {B : Nat} {w0 : Wd} {fr fr' : FR} {hs hs' S S' X : HS} {ty : TypeId} {K : Act → World → Prop} {Ka : Act → Prop}
  {ops : Array Oper} {l : List Oper} {d f : Nat} {fl : List Nat} {pos : String} {aft : Array Edge} {v : Value}
theorem sMF {g : _root_.Go.Fn} {xs ys : List Operand} {fs cs : List Value} (h : Sat n B w0 (sl Tryz.prog ops K l) ((d, .func g fs.toArray cs.toArray) :: fr) hs) (hx : argv fr xs = some fs := by rfl) (hy : argv fr ys = some cs := by rfl) (hn : d < n.n := by first | decide | exact ltd rfl) :
    Sat n B w0 (sl Tryz.prog ops K (⟨some d, .makeFunc g xs.toArray ys.toArray, ty, pos, aft, none⟩ :: l)) fr hs := s_pure (o_mkF hx hy) hn h
theorem kT (t : Nat) {xs : Array Operand} {ts : Array TypeId} (h : Sat n B w0 (sl Tryz.prog ops K (⟨some d, .call ⟨.value (.tmp t), xs, ts⟩, ty, pos, aft, none⟩ :: l)) fr hs) : Sat n B w0 (sl Tryz.prog ops K (⟨some d, .call ⟨.value (.tmp t), xs, ts⟩, ty, pos, aft, none⟩ :: l)) fr hs := h
/-- A call of a function value that leaves memory alike. -/
theorem sF {t g : Nat} {xs : List Operand} {vs fs cs us : List Value} {ts : Array TypeId} (hc : Fn Tryz.prog g us.toArray B w0 hs (fun u h => u = v ∧ h = hs)) (h : Sat n B w0 (sl Tryz.prog ops K l) ((d, v) :: fr) hs) (hg : isGo Tryz.prog g = true) (hx : get fr t = some (.func (.func g) fs.toArray cs.toArray) := by rfl) (hv : argv fr xs = some vs := by rfl) (hu : fs ++ vs ++ cs = us := by rfl) (hn : d < n.n := by first | decide | exact ltd rfl) :
    Sat n B w0 (sl Tryz.prog ops K (⟨some d, .call ⟨.value (.tmp t), xs.toArray, ts⟩, ty, pos, aft, none⟩ :: l)) fr hs := s_callF hg (x := .tmp t) hx hv hu hc hn (by rintro u hs' ⟨rfl, rfl⟩; exact h)
theorem goF {f : Nat} (h : getT goT f = some ()) : isGo Tryz.prog f = true := goTOf h
end
end Go.Proofs.YtnbickholedckaaGreatDoor
namespace Go.Proofs.YtnbickholedckaaGreatDoor
open Go.RowKit
/-- The string of these bytes. -/
def sv (l : List UInt8) : Value := .string ⟨l.toArray⟩
def svs (ls : List (List UInt8)) : List Value := ls.map sv
theorem svs_length (ls : List (List UInt8)) : (svs ls).length = ls.length := by unfold svs; rw [List.length_map]
theorem svs_get {ls : List (List UInt8)} {i : Nat} (h : i < ls.length) : (svs ls)[i]? = some (sv (ls.getD i [])) := by
  unfold svs
  rw [List.getElem?_map, List.getElem?_eq_getElem h, List.getD_eq_getElem?_getD, List.getElem?_eq_getElem h]
  rfl
theorem ba_toList (l : List UInt8) : (⟨l.toArray⟩ : ByteArray).toList = l := by
  rw [ByteArray.toList_eq]
theorem ba_size (l : List UInt8) : (⟨l.toArray⟩ : ByteArray).size = l.length := by simp [ByteArray.size]
section
variable {P : Program} {n : NN} {B : Nat} {w0 : Wd} {fr : FR} {hs : HS} {ty : TypeId}
theorem ex_bins {op : BinOp} {t t' : TypeId} {x y : Operand} {a b : ByteArray} {v : Value} (hx : opv fr x = some (.string a)) (hy : opv fr y = some (.string b)) (hv : ∀ w, (binOp op t (.string a) (.string b)).run P w = .ok v w) :
    OpF P n B w0 (.binOp op t x y t') ty fr hs v := fun ac w ha _ => by
  simp only [ex, execOp, ha.opv hx, ha.opv hy, Sem.run_bind, hv]
  have : (eqGuard op t x y (.string a) (.string b)).run P w = .ok () w := by unfold eqGuard; cases op <;> rfl
  simp [this]
theorem o_sEql {t t' : TypeId} {x y : Operand} {a b : List UInt8} (hx : opv fr x = some (sv a)) (hy : opv fr y = some (sv b)) : OpF P n B w0 (.binOp .eql t x y t') ty fr hs (.bool (decide (a = b))) :=
  ex_bins hx hy fun w => by
    simp only [binOp_string_eql, ba_toList, Sem.run_pure]
    congr 2
    by_cases h : a = b <;> simp [h]
theorem o_sNeq {t t' : TypeId} {x y : Operand} {a b : List UInt8} (hx : opv fr x = some (sv a)) (hy : opv fr y = some (sv b)) : OpF P n B w0 (.binOp .neq t x y t') ty fr hs (.bool (decide (a ≠ b))) :=
  ex_bins hx hy fun w => by
    simp only [binOp_string_neq, ba_toList, Sem.run_pure]
    congr 2
    by_cases h : a = b <;> simp [h]
theorem o_sAdd {t t' : TypeId} {x y : Operand} {a b : List UInt8} (hx : opv fr x = some (sv a)) (hy : opv fr y = some (sv b)) (h : a.length + b.length ≤ 1000000000) : OpF P n B w0 (.binOp .add t x y t') ty fr hs (sv (a ++ b)) :=
  ex_bins hx hy fun w => by
    rw [binOp_string_add]
    refine (run_string_add_sum (P := P) (w := w) ⟨a.toArray⟩ ⟨b.toArray⟩ (by rw [ba_size, ba_size]; omega)).trans ?_
    congr 2
theorem o_sLen {t : TypeId} {x : Operand} {a : List UInt8} (ht : P.underlying t = some .string) (hx : opv fr x = some (sv a)) : OpF P n B w0 (.call { callee := .builtin .len, args := #[x], argTypes := #[t] }) ty fr hs (.int .i64 a.length) := fun ac w ha _ => by
  unfold sv at hx
  simp [ex, execOp, resolve, invoke, builtin, Builtin.len_, ha.opv hx, underlying, ht, goInt, ba_size, -ByteArray.size_data]
theorem ba_extract (a : List UInt8) (l h : Nat) : (⟨a.toArray⟩ : ByteArray).extract l h = ⟨((a.drop l).take (h - l)).toArray⟩ := by
  apply ByteArray.ext
  simp [ByteArray.data_extract]
theorem o_sSubL {t : TypeId} {x lo : Operand} {a : List UInt8} {j : Nat} {i : Int} (ht : P.underlying t = some .string) (hx : opv fr x = some (sv a)) (hl : opv fr lo = some (.int .i64 i)) (hj : i = (j : Int)) (h1 : j ≤ a.length) :
    OpF P n B w0 (.slice t x (some lo) none none) ty fr hs (sv (a.drop j)) := fun ac w ha _ => by
  unfold sv at hx
  have hb : (Instr.sliceBounds false a.length a.length (some (.int .i64 i)) none none).run P w = .ok (j, a.length, a.length) w := by
    simp [Instr.sliceBounds, run_slb _ hj h1]
  simp [ex, execOp, Instr.sliceAt, Instr.slice, ha.opv hx, ha.opv hl, underlying, ht, ba_size, hb, ba_extract, sv, -ByteArray.size_data]
  rw [List.take_of_length_le (by simp)]
/-! ### Bytes -/
end
end Go.Proofs.YtnbickholedckaaGreatDoor
namespace Go.Proofs.YtnbickholedckaaGreatDoor
open Go
def gMax : Nat := 2
def gSyn : Nat := 3
def gRan : Nat := 4
def gPow : Nat := 5
theorem gSyn_named : Tryz.prog.globalNamed "strconv.ErrSyntax" = some gSyn := by kernel_rfl
theorem gRan_named : Tryz.prog.globalNamed "strconv.ErrRange" = some gRan := by kernel_rfl
theorem gPow_named : Tryz.prog.globalNamed "internal/strconv.uint64pow10" = some gPow := by kernel_rfl
theorem uStr : Tryz.prog.underlying 9 = some .string := by kernel_rfl
theorem uErr : Tryz.prog.underlying 86 = some (.interface (Tryz.prog.methodsAt 86)) := by kernel_rfl
end Go.Proofs.YtnbickholedckaaGreatDoor
namespace Go.Proofs.YtnbickholedckaaGreatDoor
open Go.RowKit Go.Shelf
section
variable {P : Program} {n : NN} {B : Nat} {w0 : Wd} {fr : FR} {hs hs' : HS} {ty : TypeId} {K : Act → World → Prop} {ops : Array Oper} {l : List Oper} {d : Nat} {pos : String} {aft : Array Edge}
/-- How a call may end that changes objects. -/
def EndsW (B : Nat) (R : Value → Wd → HS → Prop) (e : Ending) (w' : World) : Prop := ∃ v w1 h, e = .returned v ∧ R v w1 h ∧ Hp B w1 w' h
def FnW (P : Program) (f : Nat) (args : Array Value) (B : Nat) (w0 : Wd) (hs : HS) (R : Value → Wd → HS → Prop) : Prop := ∀ w, Hp B w0 w hs → Calls P f args w (EndsW B R)
theorem fn_enterW {k0 : Nat} {f : Nat} {fn : Func} {c : Code} {args : List Value} {R : Value → Wd → HS → Prop} (hf : P.funcs[f]? = some fn) (hb : fn.body = some c) (hn : fn.ntmps = k0) (hl : args.length ≤ k0)
    (h : Sat ⟨k0, []⟩ B w0 (c.wp P (bodyPost P fn (EndsW B R))) (slots 0 args) hs) : FnW P f args.toArray B w0 hs R := fun w hw => by
  refine calls_of_wp hf hb (sat_el h _ w ⟨?_, rfl, ?_⟩ hw)
  · simp [hn]; omega
  · intro t v hv
    obtain ⟨_, h2⟩ := get_slots args 0 t v hv
    simp only [Nat.sub_zero] at h2
    have ht : t < args.length := (List.getElem?_eq_some_iff.1 h2).1
    refine ⟨by show t < k0; omega, ?_⟩
    have h3 : t < args.length + (fn.ntmps - args.length) := by omega
    simp only [Array.getD]
    rw [dif_pos (by simpa using h3)]
    simp only [Array.getInternal_eq_getElem]
    rw [Array.getElem_append_left (by simpa using ht)]
    simpa using (List.getElem?_eq_some_iff.1 h2).2
theorem e_retW0 {fn : Func} {R : Value → Wd → HS → Prop} (hr : fn.results = #[]) (hR : R (.tuple #[]) w0 hs') (hsub : hs'.Sublist hs) (hd0 : n.ds = [] := by rfl) : Sat n B w0 (bodyPost P fn (EndsW B R) .normal) fr hs := sat_mk fun a w ha hw => by
  refine ⟨ha.defers.trans hd0, .tuple #[], ?_, _, w0, hs', rfl, hR, hw.sub hsub⟩
  simp [results, hr]
theorem e_retW1 {fn : Func} {R : Value → Wd → HS → Prop} {r : ResultVar} {v : Value} (hr : fn.results = #[r]) (h1 : RV P B w0 fr hs r v) (hR : R v w0 hs') (hsub : hs'.Sublist hs) (hd0 : n.ds = [] := by rfl) : Sat n B w0 (bodyPost P fn (EndsW B R) .ret) fr hs := sat_mk fun a w ha hw => by
  refine ⟨ha.defers.trans hd0, v, ?_, v, w0, hs', rfl, hR, hw.sub hsub⟩
  simp [results_rv1, hr, RV.run ha hw h1]
theorem e_retW2 {fn : Func} {R : Value → Wd → HS → Prop} {r s : ResultVar} {v u : Value} (hr : fn.results = #[r, s]) (h1 : RV P B w0 fr hs r v) (h2 : RV P B w0 fr hs s u) (hR : R (.tuple #[v, u]) w0 hs') (hsub : hs'.Sublist hs) (hd0 : n.ds = [] := by rfl) :
    Sat n B w0 (bodyPost P fn (EndsW B R) .ret) fr hs := sat_mk fun a w ha hw => by
  refine ⟨ha.defers.trans hd0, .tuple #[v, u], ?_, _, w0, hs', rfl, hR, hw.sub hsub⟩
  simp [results_rv1, hr, RV.run ha hw h1, RV.run ha hw h2]
theorem s_callW {f : Nat} {xs : List Operand} {vs : List Value} {ts : Array TypeId} {R : Value → Wd → HS → Prop} (hf : isGo P f = true) (hv : argv fr xs = some vs) (hc : FnW P f vs.toArray B w0 hs R) (hn : d < n.n)
    (h : ∀ v w1 hs', R v w1 hs' → Sat n B w1 (sl P ops K l) ((d, v) :: fr) hs') :
    Sat n B w0 (sl P ops K (⟨some d, .call { callee := .value (.func f), args := xs.toArray, argTypes := ts }, ty, pos, aft, none⟩ :: l)) fr hs := sat_mk fun a w ha hw => by
  refine sl_step rfl ?_
  unfold Oper.wp
  rw [run_call hf ha hv (some d) w]
  refine (hc w hw).mono ?_
  rintro e w' ⟨v, w1, hs', rfl, hr, hw'⟩
  exact sat_el (h v w1 hs' hr) _ _ (ha.put hn v) hw'
theorem s_callFW {x : Operand} {g : Nat} {xs : List Operand} {vs fs cs us : List Value} {ts : Array TypeId} {R : Value → Wd → HS → Prop} (hf : isGo P g = true) (hx : opv fr x = some (.func (.func g) fs.toArray cs.toArray)) (hv : argv fr xs = some vs) (hu : fs ++ vs ++ cs = us) (hc : FnW P g us.toArray B w0 hs R) (hn : d < n.n)
    (h : ∀ v w1 hs', R v w1 hs' → Sat n B w1 (sl P ops K l) ((d, v) :: fr) hs') :
    Sat n B w0 (sl P ops K (⟨some d, .call { callee := .value x, args := xs.toArray, argTypes := ts }, ty, pos, aft, none⟩ :: l)) fr hs := sat_mk fun a w ha hw => by
  refine sl_step rfl ?_
  unfold Oper.wp
  rw [run_callF hf ha hx hv hu (some d) w]
  refine (hc w hw).mono ?_
  rintro e w' ⟨v, w1, hs', rfl, hr, hw'⟩
  exact sat_el (h v w1 hs' hr) _ _ (ha.put hn v) hw'
theorem s_effW {op : Op} (hn : d < n.n) (h : ∀ a w, Fr n a fr → Hp B w0 w hs → ∃ v w' w1, (execOp a.eval ⟨some d, op, ty, pos, aft, none⟩).run P w = .ok (.value v) w' ∧ Hp B w1 w' hs ∧ Sat n B w1 (sl P ops K l) ((d, v) :: fr) hs) :
    Sat n B w0 (sl P ops K (⟨some d, op, ty, pos, aft, none⟩ :: l)) fr hs := sat_mk fun a w ha hw => by
  obtain ⟨v, w', w1, h1, h2, h3⟩ := h a w ha hw
  refine sl_step rfl ?_
  unfold Oper.wp
  rw [h1]
  exact sat_el h3 _ _ (ha.put hn v) h2
theorem s_effN {op : Op} (h : ∀ a w, Fr n a fr → Hp B w0 w hs → ∃ w' w1, (execOp a.eval ⟨none, op, ty, pos, aft, none⟩).run P w = .ok .skip w' ∧ Hp B w1 w' hs ∧ Sat n B w1 (sl P ops K l) fr hs) :
    Sat n B w0 (sl P ops K (⟨none, op, ty, pos, aft, none⟩ :: l)) fr hs := sat_mk fun a w ha hw => by
  obtain ⟨w', w1, h1, h2, h3⟩ := h a w ha hw
  refine sl_step rfl ?_
  unfold Oper.wp
  rw [h1]
  exact sat_el h3 _ _ ha h2
/-! ### Objects that are rows of cells -/
theorem Hp.permM {w : World} {W : World} {ms ms' : List (Nat × Obj)} (h : Hp B ⟨W, ms⟩ w hs) (hp : ms.Perm ms') : Hp B ⟨W, ms'⟩ w hs :=
  ⟨h.below, h.big, h.mem, h.nodup, fun p hp2 => h.obj p (hp.mem_iff.2 hp2), (hp.map _).nodup_iff.1 h.ond⟩
theorem heap_setIf {w : World} {b : Nat} {o : Obj} {f : Obj → Obj} (hb : w.heap[b]? = some o) : w.heap.modify b f = w.heap.setIfInBounds b (f o) := by
  apply Array.ext_getElem?
  intro k
  rw [Array.getElem?_modify, Array.getElem?_setIfInBounds]
  have hlt := (Array.getElem?_eq_some_iff.1 hb).1
  by_cases h : b = k
  · subst h
    rw [if_pos rfl, if_pos rfl, if_pos hlt, hb]
    rfl
  · rw [if_neg h, if_neg h]
theorem Hp.setCellO {w : World} (h : Hp B w0 w hs) {b i : Nat} {cs : Array Value} {t : TypeId} {v : Value} {ms' : List (Nat × Obj)} (hu : UpdM b (.cells cs t (0, 0)) (.cells (cs.setIfInBounds i v) t (0, 0)) w0.ms ms') : Hp B ⟨w0.w, ms'⟩ (w.setCell ⟨b, i, none⟩ v) hs := by
  have h1 := (h.obj _ hu.mem).2.1
  have e : w.setCell ⟨b, i, none⟩ v = { w with heap := w.heap.setIfInBounds b (.cells (cs.setIfInBounds i v) t (0, 0)) } := by
    unfold World.setCell
    rw [heap_setIf h1]
    rfl
  rw [e]
  exact h.setObjA hu
theorem Hp.setRowO {w : World} (h : Hp B w0 w hs) {b : Nat} {cs cs' : Array Value} {t : TypeId} {ms' : List (Nat × Obj)} (hu : UpdM b (.cells cs t (0, 0)) (.cells cs' t (0, 0)) w0.ms ms') : Hp B ⟨w0.w, ms'⟩ (w.setRow b cs') hs := by
  have h1 := (h.obj _ hu.mem).2.1
  have e : w.setRow b cs' = { w with heap := w.heap.setIfInBounds b (.cells cs' t (0, 0)) } := by
    unfold World.setRow
    rw [heap_setIf h1]
  rw [e]
  exact h.setObjA hu
end
/-! ### The builder -/
def u8s (l : List UInt8) : List Value := l.map fun x => .int .u8 x.toNat
def bdO (b : Nat) (p v : Value) : Nat × Obj := (b, .cells #[p, v] (Tryz.lays166_ren.t 72) (0, 0))
def bdR (g : Nat) (l : List UInt8) (z : List Value) : Nat × Obj := (g, .cells (u8s l ++ z).toArray (Tryz.lays166_ren.t 5) (0, 0))
/-- The objects of a builder that holds these bytes. -/
inductive SbB (b : Nat) : List UInt8 → List (Nat × Obj) → Prop
  | fresh : SbB b [] [bdO b (.pointer none) (.slice none 0 0)]
  | used (g c : Nat) (l : List UInt8) (z : List Value) : l.length + z.length = c → c ≤ maxLen → SbB b l [bdO b (.pointer (some ⟨b, 0, none⟩)) (.slice (some ⟨g, 0, none⟩) l.length c), bdR g l z]
theorem u8s_len (l : List UInt8) : (u8s l).length = l.length := List.length_map _
theorem u8s_app (l s : List UInt8) : u8s (l ++ s) = u8s l ++ u8s s := List.map_append
theorem strC (s : List UInt8) : Go.Lib.strCells ⟨s.toArray⟩ = u8s s := by
  unfold Go.Lib.strCells u8s
  simp
end Go.Proofs.YtnbickholedckaaGreatDoor
namespace Go.Proofs.YtnbickholedckaaGreatDoor
open Go.RowKit Go.Shelf
/-- A cell of an object. -/
theorem cellO {B : Nat} {w0 : Wd} {hs : HS} {b i : Nat} {cs : Array Value} {t : TypeId} {v : Value} (hm : (b, Obj.cells cs t (0, 0)) ∈ w0.ms) (hv : cs[i]? = some v) : CellAt B w0 hs ⟨b, i, none⟩ v := fun w hw => by
  have h := (hw.obj _ hm).2.1
  simp [World.cell?, h, hv]
theorem freeO {B : Nat} {w0 : Wd} {hs : HS} {w : World} (hw : Hp B w0 w hs) {b : Nat} {cs : Array Value} {t : TypeId} (hm : (b, Obj.cells cs t (0, 0)) ∈ w0.ms) (i : Nat) : w.frozen? ⟨b, i, none⟩ = false := Go.Lib.frozen_of_heap (hw.obj _ hm).2.1 i
theorem x_copyUsed (b : Nat) (B : Nat) (w0 : Wd) (hs : HS) (v : Value) (hm : bdO b (.pointer (some ⟨b, 0, none⟩)) v ∈ w0.ms) :
    Fn Tryz.prog 52 #[.pointer (some ⟨b, 0, none⟩)] B w0 hs (fun u h => u = .tuple #[] ∧ h = hs) := fn_mk fun w hw => by
  refine (Any.Builder_copyCheck_used { Tryz.lays166 with } Tryz.Builder_Extra_166.toX72 b w (cellO (hs := hs) hm rfl w hw)).mono ?_
  rintro e w' ⟨rfl, rfl⟩
  exact ⟨_, _, rfl, ⟨rfl, rfl⟩, hw⟩
theorem x_copyFresh (b : Nat) (B : Nat) (W : World) (ms : List (Nat × Obj)) (hs : HS) (v : Value) :
    FnW Tryz.prog 52 #[.pointer (some ⟨b, 0, none⟩)] B ⟨W, bdO b (.pointer none) v :: ms⟩ hs (fun u w1 h => u = .tuple #[] ∧ h = hs ∧ w1 = ⟨W, bdO b (.pointer (some ⟨b, 0, none⟩)) v :: ms⟩) := fun w hw => by
  have hm : bdO b (.pointer none) v ∈ (⟨W, bdO b (.pointer none) v :: ms⟩ : Wd).ms := .head _
  have hb := (hw.obj _ hm).2.1
  refine (Any.Builder_copyCheck_fresh { Tryz.lays166 with } Tryz.Builder_Extra_166.toX72 b w (cellO (hs := hs) hm rfl w hw) (by
    unfold bdO at hb
    simp only at hb
    simp [World.shape?, hb]) (freeO hw hm 0)).mono ?_
  rintro e w' ⟨rfl, rfl⟩
  exact ⟨_, _, _, rfl, ⟨rfl, rfl, rfl⟩, hw.setCellO (.head _)⟩
section
variable {n : NN} {B : Nat} {w0 : Wd} {W : World} {ms : List (Nat × Obj)} {fr : FR} {hs hs' : HS} {ty : TypeId} {K : Act → World → Prop} {ops : Array Oper} {ls : List Oper} {d : Nat} {pos : String} {aft : Array Edge}
theorem Sat.permM {ms' : List (Nat × Obj)} (hp : ms.Perm ms') (h : Sat n B ⟨W, ms'⟩ K fr hs) : Sat n B ⟨W, ms⟩ K fr hs := sat_mk fun a w ha hw => sat_el h a w ha (hw.permM hp)
theorem app_run {dst : Option Nat} {x y : Operand} {t u : TypeId} {v v' : Value} {s : ByteArray} {a : Act} {w w' : World} (ha : Fr n a fr) (hx : opv fr x = some v) (hy : opv fr y = some (.string s))
    (h : (Builtin.append_ #[t, u] ty #[v, .string s]).run Tryz.prog w = .ok v' w') : (execOp a.eval ⟨dst, .call ⟨.builtin .append, #[x, y], #[t, u]⟩, ty, pos, aft, none⟩).run Tryz.prog w = .ok (.value v') w' := by
  simp only [execOp, resolve, invoke, builtin, Sem.run_bind, Sem.run_pure, Result.andThen_ok, List.map_toArray, List.map_cons, List.map_nil, ha.opv hx, ha.opv hy, h]
/-- The first bytes. -/
theorem s_appNil {x y : Operand} {s : List UInt8} (hx : opv fr x = some (.slice none 0 0)) (hy : opv fr y = some (sv s)) (h0 : s ≠ []) (hl : s.length ≤ 1000000) (hn : d < n.n)
    (h : ∀ g c z, s.length + z.length = c → c ≤ maxLen → Sat n B ⟨W, bdR g s z :: ms⟩ (sl Tryz.prog ops K ls) ((d, .slice (some ⟨g, 0, none⟩) s.length c) :: fr) hs) :
    Sat n B ⟨W, ms⟩ (sl Tryz.prog ops K (⟨some d, .call ⟨.builtin .append, #[x, y], #[Tryz.lays166_ren.t 37, Tryz.lays166_ren.t 9]⟩, ty, pos, aft, none⟩ :: ls)) fr hs := by
  obtain ⟨i0, hi, hz0, hz1, hz2⟩ := info_parts Tryz.Builder_Extra_166.infoByte
  refine s_effW hn fun a w ha hw => ?_
  have hs1 : (⟨s.toArray⟩ : ByteArray).size = s.length := ba_size s
  have hpos : 0 < s.length := List.length_pos_iff.2 h0
  have hr := run_append_nil_string (P := Tryz.prog) w (Tryz.lays166_ren.t 37) (Tryz.lays166_ren.t 9) ty (Tryz.lays166_ren.t 5) i0 _ Tryz.lays166.t37 Tryz.lays166.t9 hi hz0 ⟨s.toArray⟩ (by omega) (by omega) (by rw [hs1, hz2]; omega)
  rw [hs1] at hr
  have hge := grownCap_ge w s.length 0 (Tryz.lays166_ren.t 5)
  have hle := grownCap_le_maxLen w s.length 0 (Tryz.lays166_ren.t 5) (by simp only [maxLen]; omega)
  generalize grownCap w s.length 0 (Tryz.lays166_ren.t 5) = c at hr hge hle
  have hzl : ((Builtin.zeroCells (Value.int .u8 0).cells (c - s.length)).toList).length = c - s.length := by rw [Array.length_toList, size_zeroCells]; simp [Value.cells]
  generalize hzz : (Builtin.zeroCells (Value.int .u8 0).cells (c - s.length)) = zz at hr hzl
  have e : (⟨s.toArray⟩ : ByteArray).data.map (fun b => Value.int .u8 b.toNat) ++ zz = (u8s s ++ zz.toList).toArray := by
    apply Array.ext'
    simp [u8s]
  rw [e] at hr
  exact ⟨_, _, _, app_run ha hx hy hr, hw.drew.newObjA, h _ _ _ (by omega) hle⟩
/-- More bytes. -/
theorem s_appRow {x y : Operand} {g c : Nat} {l s : List UInt8} {z : List Value} (hx : opv fr x = some (.slice (some ⟨g, 0, none⟩) l.length c)) (hy : opv fr y = some (sv s)) (h0 : l.length + z.length = c) (hc : c ≤ maxLen) (hl : l.length + s.length ≤ 1000000) (hn : d < n.n)
    (h : ∀ g' c' z', (l ++ s).length + z'.length = c' → c' ≤ maxLen → Sat n B ⟨W, bdR g' (l ++ s) z' :: ms⟩ (sl Tryz.prog ops K ls) ((d, .slice (some ⟨g', 0, none⟩) (l ++ s).length c') :: fr) hs) :
    Sat n B ⟨W, bdR g l z :: ms⟩ (sl Tryz.prog ops K (⟨some d, .call ⟨.builtin .append, #[x, y], #[Tryz.lays166_ren.t 37, Tryz.lays166_ren.t 9]⟩, ty, pos, aft, none⟩ :: ls)) fr hs := by
  obtain ⟨i0, hi, hz0, hz1, hz2⟩ := info_parts Tryz.Builder_Extra_166.infoByte
  refine s_effW hn fun a w ha hw => ?_
  have hs1 : (⟨s.toArray⟩ : ByteArray).size = s.length := ba_size s
  have hg := (hw.obj (bdR g l z) (.head _)).2.1
  simp only [bdR] at hg
  have hul := u8s_len l
  by_cases hroom : l.length + s.length ≤ c
  · have hr := Go.Lib.run_append_room_string (P := Tryz.prog) w (Tryz.lays166_ren.t 37) (Tryz.lays166_ren.t 9) ty (Tryz.lays166_ren.t 5) i0 Tryz.lays166.t37 Tryz.lays166.t9 hi hz1 g l.length c _ hg ⟨s.toArray⟩ (by omega) (by simp; omega)
    rw [hs1, strC] at hr
    have e : ((u8s l ++ z).toArray.toList.take l.length ++ u8s s ++ (u8s l ++ z).toArray.toList.drop (l.length + s.length)).toArray = (u8s (l ++ s) ++ z.drop s.length).toArray := by
      simp only [List.toList_toArray]
      rw [u8s_app, List.take_append_of_le_length (by omega), List.take_of_length_le (by omega), List.drop_append, hul, List.drop_of_length_le (by omega), List.nil_append, show l.length + s.length - l.length = s.length by omega]
    rw [e] at hr
    have hlen : (l ++ s).length = l.length + s.length := List.length_append
    rw [← hlen] at hr
    refine ⟨_, _, _, app_run ha hx hy hr, hw.setRowO (.head _), h _ _ _ ?_ hc⟩
    rw [List.length_drop]; omega
  · have holds : ∀ j v, (u8s l)[j]? = some v → w.cell? ((⟨g, 0, none⟩ : Addr).add j) = some v := fun j v hj => by
      rw [add_own, Nat.zero_add]
      exact cellO (hs := hs) (.head _) (by simp only [List.getElem?_toArray]; rw [List.getElem?_append_left (List.getElem?_eq_some_iff.1 hj).1]; exact hj) w hw
    have hfit : Builtin.nextslicecap (l.length + (⟨s.toArray⟩ : ByteArray).size) c * i0.bytes ≤ 281474976710656 := growslice_fits (by omega) (by rw [hs1, hz2]; omega)
    have hr := Go.Lib.run_append_grow_string (P := Tryz.prog) w (Tryz.lays166_ren.t 37) (Tryz.lays166_ren.t 9) ty (Tryz.lays166_ren.t 5) i0 _ Tryz.lays166.t37 Tryz.lays166.t9 hi hz0 ⟨g, 0, none⟩ l.length c (u8s l) (by rw [hz1]; omega) holds ⟨s.toArray⟩ (by omega) (by omega) hfit
    rw [hs1, strC] at hr
    have hge := grownCap_ge w (l.length + s.length) c (Tryz.lays166_ren.t 5)
    have hle := grownCap_le_maxLen w (l.length + s.length) c (Tryz.lays166_ren.t 5) (by simp only [maxLen]; omega)
    generalize grownCap w (l.length + s.length) c (Tryz.lays166_ren.t 5) = c' at hr hge hle
    have hzl : ((Builtin.zeroCells (Value.int .u8 0).cells (c' - (l.length + s.length))).toList).length = c' - (l.length + s.length) := by rw [Array.length_toList, size_zeroCells]; simp [Value.cells]
    generalize hzz : (Builtin.zeroCells (Value.int .u8 0).cells (c' - (l.length + s.length))) = zz at hr hzl
    have e : (u8s l).toArray ++ (u8s s).toArray ++ zz = (u8s (l ++ s) ++ zz.toList).toArray := by
      apply Array.ext'
      simp [u8s]
    rw [e] at hr
    have hlen : (l ++ s).length = l.length + s.length := List.length_append
    rw [← hlen] at hr
    have hk := h w.heap.size c' zz.toList (by rw [hlen, hzl]; omega) hle
    exact ⟨_, _, _, app_run ha hx hy hr, Hp.base (a := ⟨W, bdR w.heap.size (l ++ s) zz.toList :: ms⟩) (b := ⟨W, bdR w.heap.size (l ++ s) zz.toList :: bdR g l z :: ms⟩) ⟨rfl, List.Sublist.cons_cons _ (List.sublist_cons_self _ _)⟩ hw.drew.newObjA, hk⟩
/-- A slice is put into a builder. -/
theorem s_putB {x y : Operand} {t : TypeId} {b : Nat} {p v v' : Value} (ht : sh Tryz.prog t = some (false, 1)) (hx : opv fr x = some (.pointer (some ⟨b, 1, none⟩))) (hy : opv fr y = some v') (hf : v'.cells = #[v']) (hfl : Flat [v'])
    (h : Sat n B ⟨W, bdO b p v' :: ms⟩ (sl Tryz.prog ops K ls) fr hs) : Sat n B ⟨W, bdO b p v :: ms⟩ (sl Tryz.prog ops K (⟨none, .store t x y, ty, pos, aft, none⟩ :: ls)) fr hs := by
  refine s_effN fun a w ha hw => ?_
  have hm : bdO b p v ∈ (⟨W, bdO b p v :: ms⟩ : Wd).ms := .head _
  have hc := cellO (hs := hs) (i := 1) hm rfl w hw
  have hst : (store ((⟨b, 1, none⟩ : Addr).add 0) v').run Tryz.prog w = .ok () (w.setCell ⟨b, 1, none⟩ v') := by
    rw [add_own, Nat.add_zero, run_store Tryz.prog w _ v' _ (hfl v' (.head _)), hc]
    simp [freeO hw hm 1]
  have h1 : (storeCells ⟨b, 1, none⟩ [v'] 0).run Tryz.prog w = .ok () (w.setCell ⟨b, 1, none⟩ v') := by
    simp only [storeCells, Sem.run_bind, hst, Result.andThen_ok, Sem.run_pure]
  have hrun : (execOp a.eval ⟨none, .store t x y, ty, pos, aft, none⟩).run Tryz.prog w = .ok .skip (w.setCell ⟨b, 1, none⟩ v') := by
    simp [execOp, Instr.storeAt, ha.opv hx, ha.opv hy, Instr.sureAddr, storeVar, run_sizeOf ht, hf, h1]
  exact ⟨_, _, hrun, hw.setCellO (ms' := bdO b p v' :: ms) (.head _), h⟩
end
theorem shB : sh Tryz.prog (Tryz.lays166_ren.t 37) = some (false, 1) := by kernel_rfl
theorem foB1 : fo Tryz.prog (Tryz.lays166_ren.t 72) 1 = some (1, false, 1) := by kernel_rfl
theorem flSl (oa : Option Addr) (m c : Nat) : Flat [Value.slice oa m c] := flat1 rfl
theorem x_WriteString (B : Nat) (b : Nat) (l s : List UInt8) (bm ms : List (Nat × Obj)) (hb : SbB b l bm) (h0 : s ≠ []) (hl : l.length + s.length ≤ 1000000) (W : World) (hs : HS) :
    FnW Tryz.prog 36 #[.pointer (some ⟨b, 0, none⟩), sv s] B ⟨W, bm ++ ms⟩ hs (fun v w1 h => v = .tuple #[iv s.length, .nilIface] ∧ h = hs ∧ ∃ bm', SbB b (l ++ s) bm' ∧ w1 = ⟨W, bm' ++ ms⟩) := by
  cases hb with
  | fresh =>
    simp only [List.cons_append, List.nil_append]
    simp only [List.length_nil] at hl
    refine fn_enterW Tryz.func36 rfl Tryz.ntmps36 (by simp) ?_
    repeat' (first | ((with_reducible apply kF 52); refine s_callW (goF rfl) rfl (x_copyFresh b B W ms _ _) (by decide) ?_; rintro v1 w1 h1 ⟨rfl, rfl, rfl⟩) | ((with_reducible apply kP (.fieldAddr _ _ _)); refine sP ?_ (o_fieldO rfl foB1 (bb0 _))) | ((with_reducible apply kP (.load _ _)); refine sP ?_ (o_load rfl (ld_one shB (cellO (.head _) rfl)))) | ((with_reducible apply kP (.call ⟨.builtin .append, _, _⟩)); refine s_appNil rfl rfl h0 (by omega) (by decide) (fun g c z hz hc => ?_)) | ((with_reducible apply kN); refine Sat.permM (.swap _ _ _) (s_putB shB rfl rfl rfl (flSl _ _ _) ?_)) | ((with_reducible apply kP (.call ⟨.builtin .len, _, _⟩)); refine sP ?_ (o_sLen uStr rfl)) | ((with_reducible apply kDP (.call ⟨.builtin .len, _, _⟩)); refine dP ?_ (hX := rfl) (hv := o_sLen uStr rfl)) | ((with_reducible apply kQO (.call ⟨.builtin .len, _, _⟩)); refine qP ?_ (o_sLen uStr rfl)) | (with_reducible first | refine c_seq ?_ | refine c_reg ?_ | refine c_region ?_ | refine c_block ?_ | refine c_skip ?_ | refine c_exit ?_ | refine c_ret ?_ | refine s_nil ?_ | refine x_then ?_ | refine x_then_exit ?_ | refine x_then_ret ?_ | refine x_block ?_ | refine x_block_ret ?_ | refine x_block_same ?_ | refine x_block_other (by first | rfl | decide) ?_ | refine q_nil ?_ | refine k_nil ?_) | ((with_reducible apply kP (.makeFunc _ _ _)); refine sMF ?_) | ((with_reducible apply kG); first | refine gY1 ?_ | refine gN1 ?_ | refine gU1 ?_ | (refine gD1 (fun h => ?_) (fun h => ?_) <;> (try (exfalso; omega))) | refine gB1 (fun h => ?_) (fun h => ?_)) | ((with_reducible apply kN); first | refine stP ?_ | refine stI ?_ | refine st1 ?_ | refine stW ?_) | ((with_reducible apply kP (.alloc _)); refine sA (fun b => ?_)) | ((with_reducible apply kP (.box _ _)); first | refine sBA (fun b => ?_) | refine sB (fun b => ?_)) | ((with_reducible apply kP (.buildSlice _ 1 _)); first | refine sl1A (fun b => ?_) | refine sl1 (fun b => ?_)) | ((with_reducible apply kP (.buildSlice _ 2 _)); refine sl2 (fun b => ?_)) | ((with_reducible apply kP (.buildSlice _ 3 _)); refine sl3 (fun b => ?_)) | ((with_reducible apply kP (.buildSlice _ 4 _)); refine sl4 (fun b => ?_)) | ((with_reducible apply kP (.buildSlice _ 0 _)); refine s_bs0 (scTOf rfl) (zsTOf rfl) (by decide) (fun b => ?_)) | ((with_reducible apply kP (.makeSlice _ _ _)); refine sMk (fun b => ?_)) | ((with_reducible apply kP (.call ⟨.builtin .append, _, _⟩)); refine sAp (fun oa2 c2 blk2 hrow2 => ?_)) | ((with_reducible apply kP _); refine sP ?_) | ((with_reducible apply kP _); refine sX ?_) | ((with_reducible apply kQG); first | refine qY1 ?_ | refine qN1 ?_ | refine qU1 ?_ | (refine qD1 (fun h => ?_) (fun h => ?_) <;> (try (exfalso; omega))) | refine qB1 (fun h => ?_) (fun h => ?_)) | ((with_reducible apply kQP); refine qP ?_) | ((with_reducible apply kQP); refine qX ?_) | ((with_reducible apply kC); first | refine cT ?_ | refine cF ?_ | (refine cI (fun h => ?_) (fun h => ?_) <;> (try (exfalso; omega))) | refine cB (fun h => ?_) (fun h => ?_)) | ((with_reducible apply kR); refine cQ ?_))
    exact e_retW2 (hs' := h1) rfl rfl rfl ⟨rfl, rfl, _, .used g c s z hz hc, rfl⟩ (.refl _)
  | used g c _ z h1 h2 =>
    simp only [List.cons_append, List.nil_append]
    refine fn_enterW Tryz.func36 rfl Tryz.ntmps36 (by simp) ?_
    repeat' (first | ((with_reducible apply kF 52); refine sC 52 (x_copyUsed b B _ _ _ (.head _)) ?_) | ((with_reducible apply kP (.fieldAddr _ _ _)); refine sP ?_ (o_fieldO rfl foB1 (bb0 _))) | ((with_reducible apply kP (.load _ _)); refine sP ?_ (o_load rfl (ld_one shB (cellO (.head _) rfl)))) | ((with_reducible apply kP (.call ⟨.builtin .append, _, _⟩)); refine Sat.permM (.swap _ _ _) (s_appRow rfl rfl h1 h2 hl (by decide) (fun g' c' z' hz hc => Sat.permM (.swap _ _ _) ?_))) | ((with_reducible apply kN); refine s_putB shB rfl rfl rfl (flSl _ _ _) ?_) | ((with_reducible apply kP (.call ⟨.builtin .len, _, _⟩)); refine sP ?_ (o_sLen uStr rfl)) | ((with_reducible apply kDP (.call ⟨.builtin .len, _, _⟩)); refine dP ?_ (hX := rfl) (hv := o_sLen uStr rfl)) | ((with_reducible apply kQO (.call ⟨.builtin .len, _, _⟩)); refine qP ?_ (o_sLen uStr rfl)) | (with_reducible first | refine c_seq ?_ | refine c_reg ?_ | refine c_region ?_ | refine c_block ?_ | refine c_skip ?_ | refine c_exit ?_ | refine c_ret ?_ | refine s_nil ?_ | refine x_then ?_ | refine x_then_exit ?_ | refine x_then_ret ?_ | refine x_block ?_ | refine x_block_ret ?_ | refine x_block_same ?_ | refine x_block_other (by first | rfl | decide) ?_ | refine q_nil ?_ | refine k_nil ?_) | ((with_reducible apply kP (.makeFunc _ _ _)); refine sMF ?_) | ((with_reducible apply kG); first | refine gY1 ?_ | refine gN1 ?_ | refine gU1 ?_ | (refine gD1 (fun h => ?_) (fun h => ?_) <;> (try (exfalso; omega))) | refine gB1 (fun h => ?_) (fun h => ?_)) | ((with_reducible apply kN); first | refine stP ?_ | refine stI ?_ | refine st1 ?_ | refine stW ?_) | ((with_reducible apply kP (.alloc _)); refine sA (fun b => ?_)) | ((with_reducible apply kP (.box _ _)); first | refine sBA (fun b => ?_) | refine sB (fun b => ?_)) | ((with_reducible apply kP (.buildSlice _ 1 _)); first | refine sl1A (fun b => ?_) | refine sl1 (fun b => ?_)) | ((with_reducible apply kP (.buildSlice _ 2 _)); refine sl2 (fun b => ?_)) | ((with_reducible apply kP (.buildSlice _ 3 _)); refine sl3 (fun b => ?_)) | ((with_reducible apply kP (.buildSlice _ 4 _)); refine sl4 (fun b => ?_)) | ((with_reducible apply kP (.buildSlice _ 0 _)); refine s_bs0 (scTOf rfl) (zsTOf rfl) (by decide) (fun b => ?_)) | ((with_reducible apply kP (.makeSlice _ _ _)); refine sMk (fun b => ?_)) | ((with_reducible apply kP (.call ⟨.builtin .append, _, _⟩)); refine sAp (fun oa2 c2 blk2 hrow2 => ?_)) | ((with_reducible apply kP _); refine sP ?_) | ((with_reducible apply kP _); refine sX ?_) | ((with_reducible apply kQG); first | refine qY1 ?_ | refine qN1 ?_ | refine qU1 ?_ | (refine qD1 (fun h => ?_) (fun h => ?_) <;> (try (exfalso; omega))) | refine qB1 (fun h => ?_) (fun h => ?_)) | ((with_reducible apply kQP); refine qP ?_) | ((with_reducible apply kQP); refine qX ?_) | ((with_reducible apply kC); first | refine cT ?_ | refine cF ?_ | (refine cI (fun h => ?_) (fun h => ?_) <;> (try (exfalso; omega))) | refine cB (fun h => ?_) (fun h => ?_)) | ((with_reducible apply kR); refine cQ ?_))
    exact e_retW2 (hs' := hs) rfl rfl rfl ⟨rfl, rfl, _, .used g' c' (l ++ s) z' hz hc, rfl⟩ (.refl _)
end Go.Proofs.YtnbickholedckaaGreatDoor
