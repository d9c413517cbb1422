/- The further steps of a walk. -/
import Derived.Test.YtmblgbcipniecaaGreatDoorMTy2
import Derived.RangeFuncRecord
import Derived.OrdersIn
namespace Go.Proofs.YtmblgbcipniecaaGreatDoor
open Go.RowKit
section
variable {n : NN} {B : Nat} {w0 : Wd} {fr fr' : FR} {hs hs' S X : HS} {ty : TypeId} {K : Act → World → Prop} {Ka : Act → Prop}
  {ops : Array Oper} {l : List Oper} {d f : Nat} {fl : List Nat} {pos : String} {aft : Array Edge} {v : Value}
theorem sX {op : Op} (h : Sat n B w0 (sl Tryz.prog ops K l) ((d, v) :: fr) hs) (hv : OpF Tryz.prog n B w0 op ty fr hs v := by first | ((with_reducible apply gO (.load _ _)); first | exact o_load rfl (ld_2I (shTOf rfl) (by with_reducible first | exact mm0 | exact mm1 | exact mm2 | exact mm3 | exact mm4 | exact mm5 | exact mm6 | exact mm7 | exact mm8 | ((repeat (first | exact mm0 | refine mmT ?_ | refine mmA ?_)); done)) (by first | omega | (simp only [List.length_cons, List.length_nil]; omega) | (simp only [List.length_set]; omega))) | exact o_load rfl (ld_3I (shTOf rfl) (by with_reducible first | exact mm0 | exact mm1 | exact mm2 | exact mm3 | exact mm4 | exact mm5 | exact mm6 | exact mm7 | exact mm8 | ((repeat (first | exact mm0 | refine mmT ?_ | refine mmA ?_)); done)) (by first | omega | (simp only [List.length_cons, List.length_nil]; omega) | (simp only [List.length_set]; omega))) | exact o_load rfl (ld_4I (shTOf rfl) (by with_reducible first | exact mm0 | exact mm1 | exact mm2 | exact mm3 | exact mm4 | exact mm5 | exact mm6 | exact mm7 | exact mm8 | ((repeat (first | exact mm0 | refine mmT ?_ | refine mmA ?_)); done)) (by first | omega | (simp only [List.length_cons, List.length_nil]; omega) | (simp only [List.length_set]; omega))) | exact o_load rfl (ld_2S (shTOf rfl) (by assumption) (by with_reducible first | exact sb0 | exact sb1 | exact sb2 | exact sb3 | exact sb4 | exact sb5 | exact sb6 | exact sb7 | exact sb8 | exact sbL | ((repeat (first | exact sb0 | exact sbL | refine .cons _ ?_ | refine sbA ?_)); done)) (by omega)) | exact o_load rfl (ld_3S (shTOf rfl) (by assumption) (by with_reducible first | exact sb0 | exact sb1 | exact sb2 | exact sb3 | exact sb4 | exact sb5 | exact sb6 | exact sb7 | exact sb8 | exact sbL | ((repeat (first | exact sb0 | exact sbL | refine .cons _ ?_ | refine sbA ?_)); done)) (by omega)) | exact o_load rfl (ld_4S (shTOf rfl) (by assumption) (by with_reducible first | exact sb0 | exact sb1 | exact sb2 | exact sb3 | exact sb4 | exact sb5 | exact sb6 | exact sb7 | exact sb8 | exact sbL | ((repeat (first | exact sb0 | exact sbL | refine .cons _ ?_ | refine sbA ?_)); done)) (by omega))) | ((with_reducible apply gO (.slice _ _ (some _) none none)); first | exact o_sliceL (scTOf rfl) rfl rfl (by with_reducible first | exact nn0 _ | exact nn1 _ | exact nn6 | exact nn7 | exact nn8 | exact nn2 _ _ | exact nn4 (by omega) | exact nn5 (by omega) | exact nn3 (by omega)) (by omega) | exact o_sliceAL (arTOf rfl) rfl rfl (by with_reducible first | exact nn0 _ | exact nn1 _ | exact nn6 | exact nn7 | exact nn8 | exact nn2 _ _ | exact nn4 (by omega) | exact nn5 (by omega) | exact nn3 (by omega)) (by omega)) | ((with_reducible apply gO (.slice _ _ none (some _) none)); first | exact o_sliceH (scTOf rfl) rfl rfl (by with_reducible first | exact nn0 _ | exact nn1 _ | exact nn6 | exact nn7 | exact nn8 | exact nn2 _ _ | exact nn4 (by omega) | exact nn5 (by omega) | exact nn3 (by omega)) (by omega)) | ((with_reducible apply gO (.slice _ _ (some _) (some _) none)); first | exact o_sliceLH (scTOf rfl) rfl rfl rfl (by with_reducible first | exact nn0 _ | exact nn1 _ | exact nn6 | exact nn7 | exact nn8 | exact nn2 _ _ | exact nn4 (by omega) | exact nn5 (by omega) | exact nn3 (by omega)) (by with_reducible first | exact nn0 _ | exact nn1 _ | exact nn6 | exact nn7 | exact nn8 | exact nn2 _ _ | exact nn4 (by omega) | exact nn5 (by omega) | exact nn3 (by omega)) (by omega) (by omega)) | ((with_reducible apply gO (.slice _ _ none (some _) (some _))); first | exact o_sliceHM (scTOf rfl) rfl rfl rfl (by with_reducible first | exact nn0 _ | exact nn1 _ | exact nn6 | exact nn7 | exact nn8 | exact nn2 _ _ | exact nn4 (by omega) | exact nn5 (by omega) | exact nn3 (by omega)) (by with_reducible first | exact nn0 _ | exact nn1 _ | exact nn6 | exact nn7 | exact nn8 | exact nn2 _ _ | exact nn4 (by omega) | exact nn5 (by omega) | exact nn3 (by omega)) (by omega) (by omega)) | ((with_reducible apply gO (.build _ _)); first | exact o_bldA2 rfl rfl rfl rfl (zcTOf rfl) (arTOf rfl) | exact o_buildA rfl (zcTOf rfl) (arTOf rfl) rfl) | ((with_reducible apply gO (.binOp .eql _ _ _ _)); first | exact o_eql rfl rfl | exact o_eqlB (btTOf rfl) rfl rfl | exact o_eqlA2 (eqTOf rfl) rfl rfl | exact o_eqlA3 (eqTOf rfl) rfl rfl | exact o_eqlA (eqTOf rfl) rfl rfl (by first | rfl | assumption) (by first | rfl | assumption)) | ((with_reducible apply gO (.binOp .neq _ _ _ _)); first | exact o_neq rfl rfl | exact o_neqB (btTOf rfl) rfl rfl | exact o_neqA2 (eqTOf rfl) rfl rfl | exact o_neqA3 (eqTOf rfl) rfl rfl | exact o_neqA (eqTOf rfl) rfl rfl (by first | rfl | assumption) (by first | rfl | assumption))) (hn : d < n.n := by first | decide | exact ltd rfl) :
    Sat n B w0 (sl Tryz.prog ops K (⟨some d, op, ty, pos, aft, none⟩ :: l)) fr hs := s_pure hv hn h
theorem qX {op : Op} (h : qn Tryz.prog n B w0 hs ops Ka l ((d, v) :: fr)) (hv : OpF Tryz.prog n B w0 op ty fr hs v := by first | ((with_reducible apply gO (.load _ _)); first | exact o_load rfl (ld_2I (shTOf rfl) (by with_reducible first | exact mm0 | exact mm1 | exact mm2 | exact mm3 | exact mm4 | exact mm5 | exact mm6 | exact mm7 | exact mm8 | ((repeat (first | exact mm0 | refine mmT ?_ | refine mmA ?_)); done)) (by first | omega | (simp only [List.length_cons, List.length_nil]; omega) | (simp only [List.length_set]; omega))) | exact o_load rfl (ld_3I (shTOf rfl) (by with_reducible first | exact mm0 | exact mm1 | exact mm2 | exact mm3 | exact mm4 | exact mm5 | exact mm6 | exact mm7 | exact mm8 | ((repeat (first | exact mm0 | refine mmT ?_ | refine mmA ?_)); done)) (by first | omega | (simp only [List.length_cons, List.length_nil]; omega) | (simp only [List.length_set]; omega))) | exact o_load rfl (ld_4I (shTOf rfl) (by with_reducible first | exact mm0 | exact mm1 | exact mm2 | exact mm3 | exact mm4 | exact mm5 | exact mm6 | exact mm7 | exact mm8 | ((repeat (first | exact mm0 | refine mmT ?_ | refine mmA ?_)); done)) (by first | omega | (simp only [List.length_cons, List.length_nil]; omega) | (simp only [List.length_set]; omega))) | exact o_load rfl (ld_2S (shTOf rfl) (by assumption) (by with_reducible first | exact sb0 | exact sb1 | exact sb2 | exact sb3 | exact sb4 | exact sb5 | exact sb6 | exact sb7 | exact sb8 | exact sbL | ((repeat (first | exact sb0 | exact sbL | refine .cons _ ?_ | refine sbA ?_)); done)) (by omega)) | exact o_load rfl (ld_3S (shTOf rfl) (by assumption) (by with_reducible first | exact sb0 | exact sb1 | exact sb2 | exact sb3 | exact sb4 | exact sb5 | exact sb6 | exact sb7 | exact sb8 | exact sbL | ((repeat (first | exact sb0 | exact sbL | refine .cons _ ?_ | refine sbA ?_)); done)) (by omega)) | exact o_load rfl (ld_4S (shTOf rfl) (by assumption) (by with_reducible first | exact sb0 | exact sb1 | exact sb2 | exact sb3 | exact sb4 | exact sb5 | exact sb6 | exact sb7 | exact sb8 | exact sbL | ((repeat (first | exact sb0 | exact sbL | refine .cons _ ?_ | refine sbA ?_)); done)) (by omega))) | ((with_reducible apply gO (.slice _ _ (some _) none none)); first | exact o_sliceL (scTOf rfl) rfl rfl (by with_reducible first | exact nn0 _ | exact nn1 _ | exact nn6 | exact nn7 | exact nn8 | exact nn2 _ _ | exact nn4 (by omega) | exact nn5 (by omega) | exact nn3 (by omega)) (by omega) | exact o_sliceAL (arTOf rfl) rfl rfl (by with_reducible first | exact nn0 _ | exact nn1 _ | exact nn6 | exact nn7 | exact nn8 | exact nn2 _ _ | exact nn4 (by omega) | exact nn5 (by omega) | exact nn3 (by omega)) (by omega)) | ((with_reducible apply gO (.slice _ _ none (some _) none)); first | exact o_sliceH (scTOf rfl) rfl rfl (by with_reducible first | exact nn0 _ | exact nn1 _ | exact nn6 | exact nn7 | exact nn8 | exact nn2 _ _ | exact nn4 (by omega) | exact nn5 (by omega) | exact nn3 (by omega)) (by omega)) | ((with_reducible apply gO (.slice _ _ (some _) (some _) none)); first | exact o_sliceLH (scTOf rfl) rfl rfl rfl (by with_reducible first | exact nn0 _ | exact nn1 _ | exact nn6 | exact nn7 | exact nn8 | exact nn2 _ _ | exact nn4 (by omega) | exact nn5 (by omega) | exact nn3 (by omega)) (by with_reducible first | exact nn0 _ | exact nn1 _ | exact nn6 | exact nn7 | exact nn8 | exact nn2 _ _ | exact nn4 (by omega) | exact nn5 (by omega) | exact nn3 (by omega)) (by omega) (by omega)) | ((with_reducible apply gO (.slice _ _ none (some _) (some _))); first | exact o_sliceHM (scTOf rfl) rfl rfl rfl (by with_reducible first | exact nn0 _ | exact nn1 _ | exact nn6 | exact nn7 | exact nn8 | exact nn2 _ _ | exact nn4 (by omega) | exact nn5 (by omega) | exact nn3 (by omega)) (by with_reducible first | exact nn0 _ | exact nn1 _ | exact nn6 | exact nn7 | exact nn8 | exact nn2 _ _ | exact nn4 (by omega) | exact nn5 (by omega) | exact nn3 (by omega)) (by omega) (by omega)) | ((with_reducible apply gO (.build _ _)); first | exact o_bldA2 rfl rfl rfl rfl (zcTOf rfl) (arTOf rfl) | exact o_buildA rfl (zcTOf rfl) (arTOf rfl) rfl) | ((with_reducible apply gO (.binOp .eql _ _ _ _)); first | exact o_eql rfl rfl | exact o_eqlB (btTOf rfl) rfl rfl | exact o_eqlA2 (eqTOf rfl) rfl rfl | exact o_eqlA3 (eqTOf rfl) rfl rfl | exact o_eqlA (eqTOf rfl) rfl rfl (by first | rfl | assumption) (by first | rfl | assumption)) | ((with_reducible apply gO (.binOp .neq _ _ _ _)); first | exact o_neq rfl rfl | exact o_neqB (btTOf rfl) rfl rfl | exact o_neqA2 (eqTOf rfl) rfl rfl | exact o_neqA3 (eqTOf rfl) rfl rfl | exact o_neqA (eqTOf rfl) rfl rfl (by first | rfl | assumption) (by first | rfl | assumption))) (hn : d < n.n := by first | decide | exact ltd rfl) :
    qn Tryz.prog n B w0 hs ops Ka (⟨some d, op, ty, pos, aft, none⟩ :: l) fr := q_pure hv hn h
theorem dX {op : Op} (h : Rk Tryz.prog n B w0 ops K fl l S ((d, v) :: fr) hs) (hX : selS f S hs = some X := by rfl) (hv : OpF Tryz.prog n B w0 op ty fr X v := by first | ((with_reducible apply gO (.load _ _)); first | exact o_load rfl (ld_2I (shTOf rfl) (by with_reducible first | exact mm0 | exact mm1 | exact mm2 | exact mm3 | exact mm4 | exact mm5 | exact mm6 | exact mm7 | exact mm8 | ((repeat (first | exact mm0 | refine mmT ?_ | refine mmA ?_)); done)) (by first | omega | (simp only [List.length_cons, List.length_nil]; omega) | (simp only [List.length_set]; omega))) | exact o_load rfl (ld_3I (shTOf rfl) (by with_reducible first | exact mm0 | exact mm1 | exact mm2 | exact mm3 | exact mm4 | exact mm5 | exact mm6 | exact mm7 | exact mm8 | ((repeat (first | exact mm0 | refine mmT ?_ | refine mmA ?_)); done)) (by first | omega | (simp only [List.length_cons, List.length_nil]; omega) | (simp only [List.length_set]; omega))) | exact o_load rfl (ld_4I (shTOf rfl) (by with_reducible first | exact mm0 | exact mm1 | exact mm2 | exact mm3 | exact mm4 | exact mm5 | exact mm6 | exact mm7 | exact mm8 | ((repeat (first | exact mm0 | refine mmT ?_ | refine mmA ?_)); done)) (by first | omega | (simp only [List.length_cons, List.length_nil]; omega) | (simp only [List.length_set]; omega))) | exact o_load rfl (ld_2S (shTOf rfl) (by assumption) (by with_reducible first | exact sb0 | exact sb1 | exact sb2 | exact sb3 | exact sb4 | exact sb5 | exact sb6 | exact sb7 | exact sb8 | exact sbL | ((repeat (first | exact sb0 | exact sbL | refine .cons _ ?_ | refine sbA ?_)); done)) (by omega)) | exact o_load rfl (ld_3S (shTOf rfl) (by assumption) (by with_reducible first | exact sb0 | exact sb1 | exact sb2 | exact sb3 | exact sb4 | exact sb5 | exact sb6 | exact sb7 | exact sb8 | exact sbL | ((repeat (first | exact sb0 | exact sbL | refine .cons _ ?_ | refine sbA ?_)); done)) (by omega)) | exact o_load rfl (ld_4S (shTOf rfl) (by assumption) (by with_reducible first | exact sb0 | exact sb1 | exact sb2 | exact sb3 | exact sb4 | exact sb5 | exact sb6 | exact sb7 | exact sb8 | exact sbL | ((repeat (first | exact sb0 | exact sbL | refine .cons _ ?_ | refine sbA ?_)); done)) (by omega))) | ((with_reducible apply gO (.slice _ _ (some _) none none)); first | exact o_sliceL (scTOf rfl) rfl rfl (by with_reducible first | exact nn0 _ | exact nn1 _ | exact nn6 | exact nn7 | exact nn8 | exact nn2 _ _ | exact nn4 (by omega) | exact nn5 (by omega) | exact nn3 (by omega)) (by omega) | exact o_sliceAL (arTOf rfl) rfl rfl (by with_reducible first | exact nn0 _ | exact nn1 _ | exact nn6 | exact nn7 | exact nn8 | exact nn2 _ _ | exact nn4 (by omega) | exact nn5 (by omega) | exact nn3 (by omega)) (by omega)) | ((with_reducible apply gO (.slice _ _ none (some _) none)); first | exact o_sliceH (scTOf rfl) rfl rfl (by with_reducible first | exact nn0 _ | exact nn1 _ | exact nn6 | exact nn7 | exact nn8 | exact nn2 _ _ | exact nn4 (by omega) | exact nn5 (by omega) | exact nn3 (by omega)) (by omega)) | ((with_reducible apply gO (.slice _ _ (some _) (some _) none)); first | exact o_sliceLH (scTOf rfl) rfl rfl rfl (by with_reducible first | exact nn0 _ | exact nn1 _ | exact nn6 | exact nn7 | exact nn8 | exact nn2 _ _ | exact nn4 (by omega) | exact nn5 (by omega) | exact nn3 (by omega)) (by with_reducible first | exact nn0 _ | exact nn1 _ | exact nn6 | exact nn7 | exact nn8 | exact nn2 _ _ | exact nn4 (by omega) | exact nn5 (by omega) | exact nn3 (by omega)) (by omega) (by omega)) | ((with_reducible apply gO (.slice _ _ none (some _) (some _))); first | exact o_sliceHM (scTOf rfl) rfl rfl rfl (by with_reducible first | exact nn0 _ | exact nn1 _ | exact nn6 | exact nn7 | exact nn8 | exact nn2 _ _ | exact nn4 (by omega) | exact nn5 (by omega) | exact nn3 (by omega)) (by with_reducible first | exact nn0 _ | exact nn1 _ | exact nn6 | exact nn7 | exact nn8 | exact nn2 _ _ | exact nn4 (by omega) | exact nn5 (by omega) | exact nn3 (by omega)) (by omega) (by omega)) | ((with_reducible apply gO (.build _ _)); first | exact o_bldA2 rfl rfl rfl rfl (zcTOf rfl) (arTOf rfl) | exact o_buildA rfl (zcTOf rfl) (arTOf rfl) rfl) | ((with_reducible apply gO (.binOp .eql _ _ _ _)); first | exact o_eql rfl rfl | exact o_eqlB (btTOf rfl) rfl rfl | exact o_eqlA2 (eqTOf rfl) rfl rfl | exact o_eqlA3 (eqTOf rfl) rfl rfl | exact o_eqlA (eqTOf rfl) rfl rfl (by first | rfl | assumption) (by first | rfl | assumption)) | ((with_reducible apply gO (.binOp .neq _ _ _ _)); first | exact o_neq rfl rfl | exact o_neqB (btTOf rfl) rfl rfl | exact o_neqA2 (eqTOf rfl) rfl rfl | exact o_neqA3 (eqTOf rfl) rfl rfl | exact o_neqA (eqTOf rfl) rfl rfl (by first | rfl | assumption) (by first | rfl | assumption))) (hn : d < n.n := by first | decide | exact ltd rfl) :
    Rk Tryz.prog n B w0 ops K (f :: fl) (⟨some d, op, ty, pos, aft, none⟩ :: l) S fr hs := k_pure hX hv hn h
end
/-- Effects where all else waits. -/
def eff4 : Nat → Bool
  | 4 | 5 => true
  | _ => false
theorem eff4_F : ∀ {f : Nat}, eff4 f = true → effF f = true
  | 4, _ => rfl
  | 5, _ => rfl
theorem eff4_le : ∀ {f : Nat}, eff4 f = true → 4 ≤ f
  | 4, _ => by decide
  | 5, _ => by decide
end Go.Proofs.YtmblgbcipniecaaGreatDoor

namespace Go.Proofs.YtmblgbcipniecaaGreatDoor
open Go.RowKit

section
variable {P : Program} {B : Nat} {w0 : Wd}
def CkFl (P : Program) (em : Bool) (D d : Nat) : Prop := ∀ (t : TypeId) (k : Nat) (xs : List Int) (w : World), fl P d t = some k → xs.length = k → (Instr.checkKey em (D + d) t (vOf (agB P t) xs)).run P w = .ok () w
theorem ck_fields {em : Bool} {D d : Nat} (ih : CkFl P em D d) {xs : List Int} {n : Nat} (hx : xs.length = n) (w : World) : ∀ (fs : List Field) (acc : Nat), flF (fl P d) fs acc = some n →
    (forIn fs PUnit.unit (fun f _ => (do
      if f.name ≠ "_" then
        Instr.checkKey em (D + d) f.type (← part f.type (ivs xs).toArray f.offset)
      pure (ForInStep.yield PUnit.unit) : Sem (ForInStep PUnit)))).run P w = .ok PUnit.unit w
  | [], acc, h => by simp
  | x :: fs, acc, h => by
    simp only [flF] at h
    split at h
    · rename_i k hk
      split at h
      · rename_i hc
        simp only [Bool.and_eq_true, bne_iff_ne, ne_eq, beq_iff_eq] at hc
        obtain ⟨hc1, hc2⟩ := hc
        have hle := flF_le _ _ _ _ h
        have e1 := ck_fields ih hx w fs (acc + k) h
        have e2 := ih x.type k ((xs.drop acc).take k) w hk (by simp; omega)
        simp only [List.forIn_cons, Sem.run_bind, hc1, ne_eq, not_false_eq_true, if_true, hc2, part_fl hk (show acc + k ≤ xs.length by omega), Result.andThen_ok, e2, Sem.run_pure]
        simpa using e1
      · cases h
    · cases h
theorem ck_fl (em : Bool) (D : Nat) : ∀ d, CkFl P em D d
  | 0, t, k, xs, w, h, _ => by simp [fl] at h
  | d + 1, t, k, xs, w, h, hx => by
    have ih := ck_fl em D d
    unfold fl at h
    unfold agB
    split at h
    · rename_i q hu
      split at h
      · rw [hu]
        rw [show D + (d + 1) = (D + d) + 1 from rfl, Instr.checkKey]
        simp [run_underlying hu, vOf, iv]
      · cases h
    · rename_i fs hu
      split at h
      · cases h
      · split at h
        · rename_i k' hf
          split at h
          · simp only [Option.some.injEq] at h
            subst h
            rw [hu]
            rw [show D + (d + 1) = (D + d) + 1 from rfl, Instr.checkKey]
            simp only [vOf, if_true, Sem.run_bind, run_underlying hu, Result.andThen_ok]
            rw [← Array.forIn_toList]
            have h7 := ck_fields ih hx w fs.toList 0 hf
            simp at h7 ⊢
            rw [h7]
            rfl
          · cases h
        · cases h
    · rename_i m e hu
      split at h
      · rename_i k' hk
        split at h
        · rename_i h2
          simp only [Option.some.injEq] at h; subst h
          simp only [Bool.and_eq_true, decide_eq_true_eq, beq_iff_eq] at h2
          obtain ⟨⟨_, h3⟩, h4⟩ := h2
          obtain ⟨i, hi⟩ := Option.isSome_iff_exists.1 h4
          rw [hu]
          rw [show D + (d + 1) = (D + d) + 1 from rfl, Instr.checkKey]
          simp only [vOf, if_true, Sem.run_bind, run_underlying hu, Result.andThen_ok]
          simp only [Std.Legacy.Range.forIn_eq_forIn_range', Std.Legacy.Range.size, Nat.sub_zero, Nat.add_one_sub_one, Nat.div_one]
          have hsz : (sizeOf e).run P w = .ok k' w := run_sizeOf (fl_sh hk) w
          have key : ∀ (n a : Nat), a + n = m → (forIn (List.range' a n) PUnit.unit (fun i _ => (do Instr.checkKey em (D + d) e (← part e (ivs xs).toArray (i * (← sizeOf e))); pure (ForInStep.yield PUnit.unit) : Sem (ForInStep PUnit)))).run P w = .ok PUnit.unit w := by
            intro n
            induction n with
            | zero => intro a _; simp
            | succ n ihn =>
              intro a ha
              have hle : a * k' + k' ≤ m * k' := by
                have := Nat.mul_le_mul_right k' (show a + 1 ≤ m by omega)
                rwa [Nat.add_mul, Nat.one_mul] at this
              have e2 := ih e k' ((xs.drop (a * k')).take k') w hk (by simp; omega)
              rw [List.range'_succ]
              simp only [List.forIn_cons, Sem.run_bind, hsz, Result.andThen_ok, part_fl hk (show a * k' + k' ≤ xs.length by omega), e2, Sem.run_pure]
              exact ihn (a + 1) (by omega)
          have h7 := key m 0 (by omega)
          simp at h7 ⊢
          rw [h7]
          rfl
        · cases h
      · cases h
    · cases h
/-- Keys that are made of k numbers. -/
def kyt (P : Program) (t : TypeId) : Option Nat := if P.eqGuardType P.depth t = false then fl P 5 t else none
theorem run_checkK {t : TypeId} {k : Nat} {xs : List Int} (em : Bool) (h : kyt P t = some k) (hx : xs.length = k) (w : World) : (Instr.checkKey em 10000 t (vOf (agB P t) xs)).run P w = .ok () w := by
  unfold kyt at h
  split at h
  · exact ck_fl em 9995 5 t k xs w h hx
  · cases h
theorem run_eqK {t : TypeId} {k : Nat} {xs ys : List Int} (h : kyt P t = some k) (hx : xs.length = k) (hy : ys.length = k) (w : World) : (Op.equal t (vOf (agB P t) xs) (vOf (agB P t) ys)).run P w = .ok (decide (xs = ys)) w := by
  unfold kyt at h
  split at h
  · exact eq_fl (P := P) 9995 5 t k xs ys w h hx hy
  · cases h
/-- The first entry of a key. -/
def fnd (x : List Int) : List Ent → Nat → Option (Nat × Value)
  | [], _ => none
  | p :: es, i => if x = p.1 then some (i, p.2.1) else fnd x es (i + 1)
theorem run_findA {t : TypeId} {k : Nat} {x : List Int} (h : kyt P t = some k) (hx : x.length = k) (w : World) : ∀ (es : List Ent) (i : Nat), (∀ p ∈ es, p.1.length = k) →
    (Instr.findAsking t (vOf (agB P t) x) (es.map (mEn (agB P t))) i).run P w = .ok (fnd x es i) w
  | [], i, _ => by simp [Instr.findAsking, fnd]
  | p :: es, i, hes => by
    have e1 := run_eqK h hx (hes p (.head _)) w
    have e2 := run_findA h hx w es (i + 1) (fun q hq => hes q (.tail _ hq))
    simp only [List.map_cons, Instr.findAsking, mEn, Sem.run_bind, e1, Result.andThen_ok, fnd]
    by_cases hh : x = p.1
    · simp [hh]
    · simp only [hh, decide_false, Bool.false_eq_true, if_false]
      exact e2
end
end Go.Proofs.YtmblgbcipniecaaGreatDoor

namespace Go.Proofs.YtmblgbcipniecaaGreatDoor
open Go.RowKit

def vat (L : Mp) (i : Nat) : Value := (L[i]?.map (·.2)).getD undef
theorem zip_fnd (x : List Int) : ∀ (L : Mp) (i j : Nat), fnd x ((L.zipIdx i).map fun p => (p.1.1, p.1.2, p.2)) j = (plc x L j).map fun k => (k, vat L (k - j))
  | [], i, j => rfl
  | p :: L, i, j => by
    simp only [List.zipIdx_cons, List.map_cons, fnd, plc]
    by_cases h : x = p.1
    · simp [h, vat]
    · rw [if_neg h, if_neg h, zip_fnd x L (i + 1) (j + 1)]
      cases hp : plc x L (j + 1) with
      | none => rfl
      | some k =>
        have hk : j + 1 ≤ k := by
          have key : ∀ (L : Mp) (a k : Nat), plc x L a = some k → a ≤ k := by
            intro L
            induction L with
            | nil => intro a k h; cases h
            | cons q L ih =>
              intro a k h
              unfold plc at h
              split at h
              · simp at h; omega
              · have := ih _ _ h; omega
          exact key L _ _ hp
        simp only [Option.map_some]
        congr 1
        rw [show k - j = (k - (j + 1)) + 1 by omega]
        simp [vat]
theorem fnd_ents (x : List Int) (L : Mp) : fnd x (ents L) 0 = (plc x L 0).map fun k => (k, vat L k) := by
  have := zip_fnd x L 0 0
  simpa [ents] using this
section
variable {B : Nat} {w0 : Wd} {hs : HS}
theorem heapSet {w : World} {r : Nat} {o o' : Obj} (hb : w.heap[r]? = some o) : (w.heap.setIfInBounds r o')[r]? = some o' ∧ ∀ r', r' ≠ r → (w.heap.setIfInBounds r o')[r']? = w.heap[r']? := by
  have hlt : r < w.heap.size := (Array.getElem?_eq_some_iff.1 hb).1
  exact ⟨by simp [hlt], fun r' hne => by simp [Ne.symm hne]⟩
theorem heapAlloc (w : World) (o : Obj) : (w.alloc o).heap[w.heap.size]? = some o ∧ ∀ r', r' < w.heap.size → (w.alloc o).heap[r']? = w.heap[r']? := by
  have e : (w.alloc o).heap = w.heap.push o := rfl
  rw [e]
  exact ⟨by simp, fun r' h => by simp [Array.getElem?_push, Nat.ne_of_lt h]⟩
theorem UpdM.mem {m : Nat} {o o' : Obj} {ms ms' : List (Nat × Obj)} (h : UpdM m o o' ms ms') : (m, o) ∈ ms := by
  induction h with
  | head ms => exact .head _
  | tail p _ ih => exact .tail _ ih
theorem UpdM.fst {m : Nat} {o o' : Obj} {ms ms' : List (Nat × Obj)} (h : UpdM m o o' ms ms') : ms'.map (·.1) = ms.map (·.1) := by
  induction h with
  | head ms => rfl
  | tail p _ ih => simp [ih]
theorem UpdM.memd {m : Nat} {o o' : Obj} {ms ms' : List (Nat × Obj)} (h : UpdM m o o' ms ms') (hnd : (ms.map (·.1)).Nodup) : ∀ p ∈ ms', (p = (m, o')) ∨ (p ∈ ms ∧ p.1 ≠ m) := by
  induction h with
  | head ms =>
    intro p hp
    rcases List.mem_cons.1 hp with rfl | hp
    · exact .inl rfl
    · simp only [List.map_cons, List.nodup_cons] at hnd
      exact .inr ⟨.tail _ hp, fun e => hnd.1 (List.mem_map.2 ⟨p, hp, e⟩)⟩
  | tail q h ih =>
    intro p hp
    simp only [List.map_cons, List.nodup_cons] at hnd
    rcases List.mem_cons.1 hp with rfl | hp
    · refine .inr ⟨.head _, fun e => hnd.1 ?_⟩
      rw [e]
      exact List.mem_map.2 ⟨_, h.mem, rfl⟩
    · rcases ih hnd.2 p hp with h | h
      · exact .inl h
      · exact .inr ⟨.tail _ h.1, h.2⟩
theorem Hp.setObjA {w : World} (h : Hp B w0 w hs) {m : Nat} {o o' : Obj} {ms' : List (Nat × Obj)} (hu : UpdM m o o' w0.ms ms') : Hp B ⟨w0.w, ms'⟩ { w with heap := w.heap.setIfInBounds m o' } hs := by
  obtain ⟨h1, h2, h3⟩ := h.obj _ hu.mem
  simp only at h1 h2 h3
  obtain ⟨e1, e2⟩ := heapSet (o' := o') h2
  refine ⟨⟨h.below.os, h.below.tape, h.below.output, by simpa using h.below.size, fun k hk => ?_⟩, by simpa using h.big, fun p hp => ?_, h.nodup, fun p hp => ?_, by rw [hu.fst]; exact h.ond⟩
  · show (w.heap.setIfInBounds m o')[k]? = _
    rw [e2 k (by omega)]
    exact h.below.block k hk
  · obtain ⟨q1, e, q2⟩ := h.mem p hp
    refine ⟨q1, e, ?_⟩
    show (w.heap.setIfInBounds m o')[p.1]? = _
    rw [e2 p.1 (h3 p hp)]
    exact q2
  · rcases hu.memd h.ond p hp with rfl | ⟨hp, hne⟩
    · exact ⟨h1, e1, h3⟩
    · obtain ⟨q1, q2, q3⟩ := h.obj p hp
      refine ⟨q1, ?_, q3⟩
      show (w.heap.setIfInBounds m o')[p.1]? = _
      rw [e2 p.1 hne]; exact q2
theorem Hp.newObjA {w : World} (h : Hp B w0 w hs) {o : Obj} : Hp B ⟨w0.w, (w.heap.size, o) :: w0.ms⟩ (w.alloc o) hs := by
  obtain ⟨e1, e2⟩ := heapAlloc w o
  have lt : ∀ {k : Nat} {x : Obj}, w.heap[k]? = some x → k < w.heap.size := fun h => (Array.getElem?_eq_some_iff.1 h).1
  refine ⟨h.below.alloc h.big _, by simp; have := h.big; omega, fun p hp => ?_, h.nodup, fun p hp => ?_, ?_⟩
  · obtain ⟨q1, e, q2⟩ := h.mem p hp
    exact ⟨q1, e, by rw [e2 _ (lt q2)]; exact q2⟩
  · rcases List.mem_cons.1 hp with rfl | hp
    · refine ⟨h.big, e1, fun q hq => ?_⟩
      obtain ⟨_, e, q2⟩ := h.mem q hq
      exact Nat.ne_of_lt (lt q2)
    · obtain ⟨q1, q2, q3⟩ := h.obj p hp
      exact ⟨q1, by rw [e2 _ (lt q2)]; exact q2, q3⟩
  · simp only [List.map_cons, List.nodup_cons]
    refine ⟨fun hm => ?_, h.ond⟩
    obtain ⟨p, hp, he⟩ := List.mem_map.1 hm
    obtain ⟨_, q2, _⟩ := h.obj p hp
    have := lt q2
    omega
theorem Hp.setObj {w : World} (h : Hp B w0 w hs) {m : Nat} {o o' : Obj} {ms' : List (Nat × Obj)} (hu : UpdM m o o' w0.ms ms') (_ : notCells o' = true) : Hp B ⟨w0.w, ms'⟩ { w with heap := w.heap.setIfInBounds m o' } hs := h.setObjA hu
theorem Hp.newObj {w : World} (h : Hp B w0 w hs) {o : Obj} (_ : notCells o = true) : Hp B ⟨w0.w, (w.heap.size, o) :: w0.ms⟩ (w.alloc o) hs := h.newObjA
/-- The one base knows all that the other knows. -/
structure Wd.le (a b : Wd) : Prop where
  w : b.w = a.w
  ms : a.ms.Sublist b.ms
theorem Hp.base {a b : Wd} {w : World} (hle : a.le b) (h : Hp B b w hs) : Hp B a w hs :=
  ⟨hle.w ▸ h.below, h.big, h.mem, h.nodup, fun p hp => h.obj p (hle.ms.subset hp), h.ond.sublist (hle.ms.map _)⟩
theorem Sat.base {n : NN} {K : Act → World → Prop} {fr : FR} {a b : Wd} (hle : a.le b) (h : Sat n B a K fr hs) : Sat n B b K fr hs := sat_mk fun x w hx hw => sat_el h x w hx (hw.base hle)
theorem Sl.base {a b : Wd} {oa : Option Addr} {l : List Int} (hle : a.le b) (h : Sl B a hs oa l) : Sl B b hs oa l := fun i hi => ⟨(h i hi).1, fun w hw => (h i hi).2 w (hw.base hle)⟩
end
end Go.Proofs.YtmblgbcipniecaaGreatDoor

namespace Go.Proofs.YtmblgbcipniecaaGreatDoor
open Go.RowKit
section
variable {P : Program} {w : World}
theorem ents_length (L : Mp) : (ents L).length = L.length := by simp [ents]
theorem ents_get (L : Mp) (i : Nat) : (ents L)[i]? = L[i]?.map fun p => (p.1, p.2, i) := by
  unfold ents
  rw [List.getElem?_map, List.getElem?_zipIdx]
  cases L[i]? <;> simp
theorem ents_snoc (L : Mp) (p : List Int × Value) : ents (L ++ [p]) = ents L ++ [(p.1, p.2, L.length)] := by
  simp [ents, List.zipIdx_append]
theorem findNow_int {q : IntKind} {x : List Int} (hx : x.length = 1) : ∀ (es : List Ent) (i : Nat), (∀ p ∈ es, p.1.length = 1) →
    Instr.findNow (.int q) (vOf false x) (es.map (mEn false)) i = some (fnd x es i)
  | [], i, _ => rfl
  | p :: es, i, hes => by
    have h1 := hes p (.head _)
    have ih := findNow_int (q := q) hx es (i + 1) (fun r hr => hes r (.tail _ hr))
    obtain ⟨a, rfl⟩ := List.length_eq_one_iff.1 hx
    obtain ⟨c, hc⟩ := List.length_eq_one_iff.1 h1
    simp only [List.map_cons, Instr.findNow, mEn, fnd, hc]
    have e1 : Instr.sameNow (.int q) (vOf false [a]) (vOf false [c]) = some (a == c) := by simp [vOf, iv, Instr.sameNow]
    rw [e1]
    by_cases hac : a = c
    · subst hac; simp
    · have : (a == c) = false := by simp [hac]
      rw [this, if_neg (by simp [hac])]
      exact ih
theorem run_findK {kt : TypeId} {k : Nat} {x : List Int} (h : kyt P kt = some k) (hx : x.length = k) (L : Mp) (hL : ∀ p ∈ L, p.1.length = k) :
    (Instr.findKey kt (vOf (agB P kt) x) ((ents L).map (mEn (agB P kt)))).run P w = .ok ((plc x L 0).map fun i => (i, vat L i)) w := by
  have hes : ∀ p ∈ ents L, p.1.length = k := fun p hp => by
    obtain ⟨i, hi, he⟩ := List.getElem_of_mem hp
    have h1 := ents_get L i
    rw [List.getElem?_eq_getElem hi, he] at h1
    cases h2 : L[i]? with
    | none => rw [h2] at h1; cases h1
    | some q =>
      rw [h2] at h1
      simp only [Option.map_some, Option.some.injEq] at h1
      rw [h1]
      exact hL q (List.mem_of_getElem? h2)
  cases hb : agB P kt with
  | true =>
    have h2 := run_findA h hx w (ents L) 0 hes
    rw [hb] at h2
    rw [Go.run_findKey_eq w (by unfold agB at hb; split at hb <;> simp_all), h2, fnd_ents]
  | false =>
    have h1 : ∃ q, P.underlying kt = some (.int q) := by
      unfold kyt at h
      split at h
      · unfold fl at h
        unfold agB at hb
        split at h
        · rename_i q hu; exact ⟨q, hu⟩
        · rename_i hu; rw [hu] at hb; cases hb
        · rename_i hu; rw [hu] at hb; cases hb
        · cases h
      · cases h
    obtain ⟨q, hu⟩ := h1
    have hk1 : k = 1 := by
      unfold kyt at h
      split at h
      · exact fl_one h hb
      · cases h
    subst hk1
    have h2 := findNow_int (q := q) hx (ents L) 0 hes
    rw [fnd_ents] at h2
    simp [Instr.findKey, run_underlying hu, h2]
/-- A map type: whether keys are aggregates, of how many numbers, and the zero of the values. -/
def mpt (P : Program) (t : TypeId) : Option (Bool × Nat × Value) := match P.underlying t with
  | some (.map kt et) => match kyt P kt, (P.info? et).bind (·.zero) with
    | some k, some z => some (agB P kt, k, z)
    | _, _ => none
  | _ => none
theorem mpt_to {t : TypeId} {b : Bool} {k : Nat} {z : Value} (h : mpt P t = some (b, k, z)) : ∃ kt et, P.underlying t = some (.map kt et) ∧ kyt P kt = some k ∧ agB P kt = b ∧ ∀ w, (zeroValue et).run P w = .ok z w := by
  unfold mpt at h
  split at h
  · rename_i kt et hu
    split at h
    · rename_i k' z' h1 h2
      simp only [Option.some.injEq, Prod.mk.injEq] at h
      obtain ⟨rfl, rfl, rfl⟩ := h
      cases hi : P.info? et with
      | none => rw [hi] at h2; cases h2
      | some i =>
        rw [hi] at h2
        simp only [Option.bind_some] at h2
        exact ⟨kt, et, hu, h1, rfl, fun w => by simp [zeroValue, typeInfo, hi, h2]⟩
    · cases h
  · cases h
def lkp (L : Mp) (x : List Int) (z : Value) : Value := ((plc x L 0).map (vat L)).getD z
theorem run_lookup {t : TypeId} {b : Bool} {k m : Nat} {z : Value} {L : Mp} {x : List Int} (h : mpt P t = some (b, k, z)) (hb : w.heap[m]? = some (mapO b L)) (hx : x.length = k) (hL : ∀ p ∈ L, p.1.length = k) :
    (Instr.lookup t (.map (some m)) (vOf b x) false).run P w = .ok (lkp L x z) w := by
  obtain ⟨kt, et, hu, h1, h2, h3⟩ := mpt_to h
  subst h2
  have hg : (getObj m).run P w = .ok (.map ((ents L).map (mEn (agB P kt))).toArray L.length) w := by simp [getObj, Sem.run, hb, mapO, mOb]
  have hc := fun em => run_checkK em h1 hx w
  have hf := run_findK (w := w) h1 hx L hL
  simp only [Instr.lookup, Sem.run_bind, run_underlying hu, Result.andThen_ok, hg, Sem.run_pure, hc, hf]
  cases hp : plc x L 0 with
  | none => simp [lkp, hp, h3]
  | some i => simp [lkp, hp]
theorem sameBits_iv (n : Nat) (a : Int) : Instr.sameBits n (iv a) (iv a) = true := by cases n <;> simp [Instr.sameBits, iv]
theorem sameBits_vOf (n : Nat) (b : Bool) (x : List Int) : Instr.sameBits (n + 1) (vOf b x) (vOf b x) = true := by
  cases b with
  | false => exact sameBits_iv _ _
  | true =>
    simp only [vOf, if_true, Instr.sameBits, beq_self_eq_true, Bool.true_and]
    rw [List.all_eq_true]
    rintro ⟨u, v⟩ hm
    have : ∀ (l : List Value), (u, v) ∈ l.zip l → u = v ∧ u ∈ l := by
      intro l
      induction l with
      | nil => intro h; cases h
      | cons c l ih =>
        intro h
        rw [List.zip_cons_cons] at h
        rcases List.mem_cons.1 h with h | h
        · simp only [Prod.mk.injEq] at h
          exact ⟨h.1.trans h.2.symm, by rw [h.1]; exact .head _⟩
        · exact ⟨(ih h).1, .tail _ (ih h).2⟩
    obtain ⟨e, hu⟩ := this _ hm
    subst e
    obtain ⟨a, _, rfl⟩ := List.mem_map.1 hu
    exact sameBits_iv _ _
theorem plc_get {x : List Int} : ∀ {L : Mp} {a i : Nat}, plc x L a = some i → a ≤ i ∧ ∃ p, L[i - a]? = some p ∧ p.1 = x
  | [], a, i, h => by cases h
  | p :: L, a, i, h => by
    unfold plc at h
    split at h
    · rename_i e
      simp only [Option.some.injEq] at h
      subst h
      exact ⟨Nat.le_refl _, p, by simp, e.symm⟩
    · obtain ⟨h1, q, h2, h3⟩ := plc_get h
      refine ⟨by omega, q, ?_, h3⟩
      rw [show i - a = (i - (a + 1)) + 1 by omega]
      simpa using h2
end
end Go.Proofs.YtmblgbcipniecaaGreatDoor

namespace Go.Proofs.YtmblgbcipniecaaGreatDoor
open Go.RowKit

def Mp.put (L : Mp) (i : Nat) (v : Value) : Mp := L.set i ((L[i]?.map (·.1)).getD [], v)
section
variable {P : Program} {w : World}
theorem run_setObjM {m : Nat} {b : Bool} {L : Mp} (o : Obj) (hb : w.heap[m]? = some (mapO b L)) : (setObj m o).run P w = .ok () { w with heap := w.heap.setIfInBounds m o } := by
  simp [setObj, Sem.run, hb, mapO, mOb]
theorem run_getObjM {m : Nat} {b : Bool} {L : Mp} (hb : w.heap[m]? = some (mapO b L)) : (getObj m).run P w = .ok (.map ((ents L).map (mEn b)).toArray L.length) w := by
  simp [getObj, Sem.run, hb, mapO, mOb]
theorem entA_get (b : Bool) (L : Mp) (i : Nat) : (((ents L).map (mEn b)).toArray)[i]? = L[i]?.map fun p => mEn b (p.1, p.2, i) := by
  simp only [List.getElem?_toArray, List.getElem?_map, ents_get, Option.map_map]
  rfl
theorem run_mapEntry_old {t : TypeId} {b : Bool} {k m i : Nat} {z : Value} {L : Mp} {x : List Int} (h : mpt P t = some (b, k, z)) (hb : w.heap[m]? = some (mapO b L)) (hx : x.length = k) (hL : ∀ p ∈ L, p.1.length = k) (hp : plc x L 0 = some i) :
    (Instr.mapEntry t (.map (some m)) (vOf b x)).run P w = .ok (.tuple #[vat L i, goInt i]) { w with heap := w.heap.setIfInBounds m (mapO b L) } := by
  obtain ⟨kt, et, hu, h1, h2, h3⟩ := mpt_to h
  subst h2
  have hc := fun em => run_checkK em h1 hx w
  have hf := run_findK (w := w) h1 hx L hL
  rw [hp] at hf
  obtain ⟨_, p, q1, q2⟩ := plc_get hp
  rw [Nat.sub_zero] at q1
  have e1 : ((((ents L).map (mEn (agB P kt))).toArray)[i]?.map (·.key)).getD (vOf (agB P kt) x) = vOf (agB P kt) x := by
    rw [entA_get, q1]; simp [mEn, q2]
  have e2 : ((((ents L).map (mEn (agB P kt))).toArray)[i]?.map (fun e => (e.born : Int))).getD 0 = (i : Int) := by
    rw [entA_get, q1]; simp [mEn]
  have e3 : (((ents L).map (mEn (agB P kt))).toArray).modify i (fun e => { e with key := vOf (agB P kt) x }) = ((ents L).map (mEn (agB P kt))).toArray := by
    apply Array.ext_getElem?
    intro j
    rw [Array.getElem?_modify]
    split
    · rename_i hij
      subst hij
      rw [entA_get, q1]
      simp [mEn, q2]
    · rfl
  simp only [Instr.mapEntry, Sem.run_bind, run_underlying hu, Result.andThen_ok, run_getObjM hb, hc, hf, Option.map_some, e1, Instr.keyThatStays, sameBits_vOf, if_true, Sem.run_pure, e3, run_setObjM _ hb, e2]
  rfl
theorem run_mapEntry_new {t : TypeId} {b : Bool} {k m : Nat} {z : Value} {L : Mp} {x : List Int} (h : mpt P t = some (b, k, z)) (hb : w.heap[m]? = some (mapO b L)) (hx : x.length = k) (hL : ∀ p ∈ L, p.1.length = k) (hp : plc x L 0 = none) :
    (Instr.mapEntry t (.map (some m)) (vOf b x)).run P w = .ok (.tuple #[z, goInt L.length]) { w with heap := w.heap.setIfInBounds m (mapO b (L ++ [(x, z)])) } := by
  obtain ⟨kt, et, hu, h1, h2, h3⟩ := mpt_to h
  subst h2
  have hc := fun em => run_checkK em h1 hx w
  have hf := run_findK (w := w) h1 hx L hL
  rw [hp] at hf
  have e4 : mapO (agB P kt) (L ++ [(x, z)]) = .map ((((ents L).map (mEn (agB P kt))).toArray).push { key := vOf (agB P kt) x, val := z, born := L.length }) (L.length + 1) := by
    simp [mapO, mOb, ents_snoc, mEn]
  simp only [Instr.mapEntry, Sem.run_bind, run_underlying hu, Result.andThen_ok, run_getObjM hb, hc, hf, Option.map_none, h3, run_setObjM _ hb, Sem.run_pure, e4]
theorem run_entryStore {t : TypeId} {b : Bool} {m i : Nat} {L : Mp} {v : Value} (hb : w.heap[m]? = some (mapO b L)) (hi : i < L.length) :
    (Instr.entryStore t (.map (some m)) (goInt i) v).run P w = .ok () { w with heap := w.heap.setIfInBounds m (mapO b (L.put i v)) } := by
  have e1 : (((ents L).map (mEn b)).toArray).findIdx? (fun e => (e.born : Int) == (i : Int)) = some i := by
    rw [Array.findIdx?_eq_some_iff_getElem]
    refine ⟨by simpa [ents_length] using hi, ?_, ?_⟩
    · have h1 := entA_get b L i
      rw [Array.getElem?_eq_getElem (by simpa [ents_length] using hi), List.getElem?_eq_getElem hi] at h1
      simp only [Option.map_some, Option.some.injEq] at h1
      rw [h1]; simp [mEn]
    · intro j hj
      have hj' : j < L.length := by omega
      have h1 := entA_get b L j
      rw [Array.getElem?_eq_getElem (by simpa [ents_length] using hj'), List.getElem?_eq_getElem hj'] at h1
      simp only [Option.map_some, Option.some.injEq] at h1
      rw [h1]; simp [mEn]; omega
  have e2 : (((ents L).map (mEn b)).toArray).modify i (fun e => { e with val := v }) = ((ents (L.put i v)).map (mEn b)).toArray := by
    apply Array.ext_getElem?
    intro j
    rw [Array.getElem?_modify, entA_get, entA_get]
    unfold Mp.put
    rw [List.getElem?_set]
    by_cases hij : i = j
    · subst hij
      rw [if_pos rfl, if_pos rfl, if_pos hi, List.getElem?_eq_getElem hi]
      simp [mEn]
    · rw [if_neg hij, if_neg hij]
  have e3 : (L.put i v).length = L.length := by simp [Mp.put]
  have e4 : mapO b (L.put i v) = .map ((((ents L).map (mEn b)).toArray).modify i (fun e => { e with val := v })) L.length := by
    rw [e2]; simp [mapO, mOb, e3]
  have ea : (asInt (goInt (i : Int))).run P w = .ok (i : Int) w := by simp [asInt, goInt, asIntOf]
  simp only [Instr.entryStore, Sem.run_bind, Sem.run_pure, run_getObjM hb, Result.andThen_ok, ea, e1, run_setObjM _ hb, e4]
end
end Go.Proofs.YtmblgbcipniecaaGreatDoor

namespace Go.Proofs.YtmblgbcipniecaaGreatDoor
open Go.RowKit

theorem UpdM.refl {m : Nat} {o : Obj} : ∀ {ms : List (Nat × Obj)}, (m, o) ∈ ms → UpdM m o o ms ms
  | p :: ms, h => by
    rcases List.mem_cons.1 h with h | h
    · subst h; exact .head _
    · exact .tail _ (UpdM.refl h)
theorem mapO_not (b : Bool) (L : Mp) : notCells (mapO b L) = true := rfl
section
variable {P : Program} {n : NN} {B : Nat} {w0 : Wd} {fr : FR} {hs S : HS} {ty : TypeId} {K : Act → World → Prop} {ops : Array Oper} {l : List Oper} {d f : Nat} {fl : List Nat} {pos : String} {aft : Array Edge}
theorem Hp.map {w : World} (h : Hp B w0 w hs) {m : Nat} {b : Bool} {L : Mp} (hm : (m, mapO b L) ∈ w0.ms) : w.heap[m]? = some (mapO b L) := (h.obj _ hm).2.1
theorem s_makeMap {t : TypeId} (b : Bool) (hn : d < n.n) (h : ∀ m, Sat n B ⟨w0.w, (m, mapO b []) :: w0.ms⟩ (sl P ops K l) ((d, .map (some m)) :: fr) hs) :
    Sat n B w0 (sl P ops K (⟨some d, .makeMap t none, ty, pos, aft, none⟩ :: l)) fr hs := sat_mk fun a w ha hw => by
  have h4 := sat_el (h w.heap.size) _ _ (ha.put hn _) (hw.newObj (mapO_not b []))
  unfold sl
  rw [if_pos (by simp [Region.wanted])]
  unfold Oper.wp
  have : (execOp a.eval ⟨some d, .makeMap t none, ty, pos, aft, none⟩).run P w = .ok (.value (.map (some w.heap.size))) (w.alloc (mapO b [])) := by
    simp [execOp, Instr.makeMap, mapO, mOb, ents]
  rw [this]
  exact h4
theorem o_lookup {t : TypeId} {xm xk : Operand} {b : Bool} {k m : Nat} {z : Value} {L : Mp} {x : List Int} (h : mpt P t = some (b, k, z)) (h1 : opv fr xm = some (.map (some m))) (h2 : opv fr xk = some (vOf b x)) (hm : (m, mapO b L) ∈ w0.ms) (hx : x.length = k) (hL : ∀ p ∈ L, p.1.length = k) :
    OpF P n B w0 (.lookup t xm xk false) ty fr hs (lkp L x z) := fun a w ha hw => by
  have := run_lookup (w := w) h (hw.map hm) hx hL
  simp [ex, execOp, ha.opv h1, ha.opv h2, this]
theorem run_me {t : TypeId} {xm xk : Operand} {b : Bool} {k m : Nat} {z : Value} {L : Mp} {x : List Int} {a : Act} {w : World} (h : mpt P t = some (b, k, z)) (ha : Fr n a fr) (h1 : opv fr xm = some (.map (some m))) (h2 : opv fr xk = some (vOf b x)) (hw : Hp B w0 w hs) (hm : (m, mapO b L) ∈ w0.ms) (hx : x.length = k) (hL : ∀ p ∈ L, p.1.length = k) (dst : Option Nat) :
    ∃ v L', ((∃ i, plc x L 0 = some i ∧ v = .tuple #[vat L i, goInt i] ∧ L' = L) ∨ (plc x L 0 = none ∧ v = .tuple #[z, goInt L.length] ∧ L' = L ++ [(x, z)])) ∧ (execOp a.eval ⟨dst, .mapEntry t xm xk, ty, pos, aft, none⟩).run P w = .ok (.value v) { w with heap := w.heap.setIfInBounds m (mapO b L') } := by
  cases hp : plc x L 0 with
  | some i =>
    have := run_mapEntry_old (w := w) h (hw.map hm) hx hL hp
    exact ⟨_, L, .inl ⟨i, rfl, rfl, rfl⟩, by simp [execOp, ha.opv h1, ha.opv h2, this]⟩
  | none =>
    have := run_mapEntry_new (w := w) h (hw.map hm) hx hL hp
    exact ⟨_, _, .inr ⟨rfl, rfl, rfl⟩, by simp [execOp, ha.opv h1, ha.opv h2, this]⟩
/-- The entry of a key: in a region that draws, where all else waits. -/
theorem k_mapEntry {t : TypeId} {xm xk : Operand} {b : Bool} {k m : Nat} {z : Value} {L : Mp} {x : List Int} (h : mpt P t = some (b, k, z)) (h1 : opv fr xm = some (.map (some m))) (h2 : opv fr xk = some (vOf b x)) (hm : (m, mapO b L) ∈ w0.ms) (hx : x.length = k) (hL : ∀ p ∈ L, p.1.length = k) (hn : d < n.n)
    (ho : ∀ i, plc x L 0 = some i → Rk P n B w0 ops K fl l hs ((d, .tuple #[vat L i, goInt i]) :: fr) hs)
    (hnw : plc x L 0 = none → ∀ ms', UpdM m (mapO b L) (mapO b (L ++ [(x, z)])) w0.ms ms' → Rk P n B ⟨w0.w, ms'⟩ ops K fl l hs ((d, .tuple #[z, goInt L.length]) :: fr) hs)
    {ms' : List (Nat × Obj)} (hu : UpdM m (mapO b L) (mapO b (L ++ [(x, z)])) w0.ms ms') :
    Rk P n B w0 ops K (5 :: fl) (⟨some d, .mapEntry t xm xk, ty, pos, aft, none⟩ :: l) S fr hs := by
  refine k_effW (R := fun v w1 y => y = hs ∧ ((∃ i, plc x L 0 = some i ∧ v = .tuple #[vat L i, goInt i] ∧ w1 = w0) ∨ (plc x L 0 = none ∧ v = .tuple #[z, goInt L.length] ∧ w1 = ⟨w0.w, ms'⟩))) rfl (fun a ha F w hw => ?_) ?_
  · obtain ⟨v, L', hv, hrun⟩ := run_me (P := P) (ty := ty) (pos := pos) (aft := aft) h ha h1 h2 hw hm hx hL (some d)
    rw [hrun]
    rcases hv with ⟨i, e1, e2, e3⟩ | ⟨e1, e2, e3⟩
    · subst e3
      exact ⟨w0, hs, ⟨rfl, .inl ⟨i, e1, e2, rfl⟩⟩, hw.setObj (UpdM.refl hm) (mapO_not _ _)⟩
    · subst e3
      exact ⟨_, hs, ⟨rfl, .inr ⟨e1, e2, rfl⟩⟩, hw.setObj hu (mapO_not _ _)⟩
  · rintro a ha v w1 y ⟨rfl, hv⟩
    rcases hv with ⟨i, e1, rfl, rfl⟩ | ⟨e1, rfl, rfl⟩
    · have := ho i e1
      unfold Rk at this
      exact this _ (ha.put hn _)
    · have := hnw e1 ms' hu
      unfold Rk at this
      exact this _ (ha.put hn _)
/-- A value is stored into an entry. -/
theorem k_entryStore {t : TypeId} {xm xs xv : Operand} {b : Bool} {m i : Nat} {L : Mp} {v : Value} {ms' : List (Nat × Obj)} (h1 : opv fr xm = some (.map (some m))) (h2 : opv fr xs = some (goInt i)) (h3 : opv fr xv = some v) (hi : i < L.length) (hu : UpdM m (mapO b L) (mapO b (L.put i v)) w0.ms ms')
    (h : Rk P n B ⟨w0.w, ms'⟩ ops K fl l hs fr hs) :
    Rk P n B w0 ops K (5 :: fl) (⟨none, .entryStore t xm xs xv, ty, pos, aft, none⟩ :: l) S fr hs := by
  refine k_effW (R := fun _ w1 y => y = hs ∧ w1 = ⟨w0.w, ms'⟩) rfl (fun a ha F w hw => ?_) ?_
  · have h4 := run_entryStore (P := P) (t := t) (v := v) (hw.map hu.mem) hi
    have hrun : (execOp a.eval ⟨none, .entryStore t xm xs xv, ty, pos, aft, none⟩).run P w = .ok .skip { w with heap := w.heap.setIfInBounds m (mapO b (L.put i v)) } := by
      simp [execOp, ha.opv h1, ha.opv h2, ha.opv h3, h4]
    rw [hrun]
    exact ⟨_, hs, ⟨rfl, rfl⟩, hw.setObj hu (mapO_not _ _)⟩
  · rintro a ha v' w1 y ⟨rfl, rfl⟩
    unfold Rk at h
    have : a.put none v' = a := by simp [Act.put]
    rw [this]
    exact h a ha
end
end Go.Proofs.YtmblgbcipniecaaGreatDoor

namespace Go.Proofs.YtmblgbcipniecaaGreatDoor
open Go.RowKit

/-- What ranges over a map of n entries, some of which it has seen. -/
def itO (m n : Nat) (sn : List Nat) : Obj := .mapIter (some m) n sn.toArray n
section
variable {P : Program} {w : World}
theorem run_choose (P : Program) (w : World) {n : Nat} (h : 0 < n) : ∃ k dr, k < n ∧ w.drawn ≤ dr ∧ (choose (.mapNext n)).run P w = .ok k { w with drawn := dr } := by
  simp only [choose, Sem.run]
  by_cases hf : (Question.mapNext n).forced = true
  · exact ⟨0, w.drawn, h, Nat.le_refl _, by rw [if_pos hf]⟩
  · exact ⟨_, _, Nat.mod_lt _ h, Nat.le_succ _, by rw [if_neg hf]; rfl⟩
theorem run_getIt {m n it : Nat} {sn : List Nat} (hb : w.heap[it]? = some (itO m n sn)) : (getObj it).run P w = .ok (itO m n sn) w := by
  simp [getObj, Sem.run, hb, itO]
theorem run_getMp {m : Nat} {b : Bool} {L : Mp} (hb : w.heap[m]? = some (mapO b L)) : (getObj m).run P w = .ok (.map ((ents L).map (mEn b)).toArray L.length) w := run_getObjM hb
theorem run_range {t : TypeId} {b : Bool} {k m : Nat} {z : Value} {L : Mp} (h : mpt P t = some (b, k, z)) (hb : w.heap[m]? = some (mapO b L)) :
    (Instr.range t (.map (some m))).run P w = .ok (.pointer (some ⟨w.heap.size, 0, none⟩)) (w.alloc (itO m L.length [])) := by
  obtain ⟨kt, et, hu, _⟩ := mpt_to h
  simp [Instr.range, run_underlying hu, run_getMp hb, itO]
theorem ents_mem {L : Mp} {e : Ent} (h : e ∈ ents L) : ∃ p, L[e.2.2]? = some p ∧ e = (p.1, p.2, e.2.2) := by
  obtain ⟨i, hi, he⟩ := List.getElem_of_mem h
  have h1 := ents_get L i
  rw [List.getElem?_eq_getElem hi, he] at h1
  cases h2 : L[i]? with
  | none => rw [h2] at h1; cases h1
  | some q =>
    rw [h2] at h1
    simp only [Option.map_some, Option.some.injEq] at h1
    subst h1
    exact ⟨q, h2, rfl⟩
theorem run_next {m it : Nat} {b : Bool} {L : Mp} {sn : List Nat} {ty : TypeId} (h1 : w.heap[it]? = some (itO m L.length sn)) (h2 : w.heap[m]? = some (mapO b L)) : ∃ dr, w.drawn ≤ dr ∧ (
    (∃ i p, L[i]? = some p ∧ i ∉ sn ∧ (Instr.next (.pointer (some ⟨it, 0, none⟩)) false ty).run P w = .ok (.tuple #[.bool true, vOf b p.1, p.2]) { w with drawn := dr, heap := w.heap.setIfInBounds it (itO m L.length (sn ++ [i])) }) ∨
    ((∀ i, i < L.length → i ∈ sn) ∧ (Instr.next (.pointer (some ⟨it, 0, none⟩)) false ty).run P w = .ok (.tuple #[.bool false]) { w with drawn := dr })) := by
  have e0 : (!sn.toArray.isEmpty && !((ents L).map (mEn b)).toArray.isEmpty && ((ents L).map (mEn b)).toArray.all (fun e => decide (e.born ≥ L.length))) = false := by
    cases L with
    | nil => simp [ents]
    | cons p L => simp [ents, mEn]
  have key : ∀ (c : Array (Option MapEntry)), 0 < c.size → (∀ k, k < c.size → (c[k]? = some none ∧ ∀ i, i < L.length → i ∈ sn) ∨ ∃ i p, c[k]? = some (some (mEn b (p.1, p.2, i))) ∧ L[i]? = some p ∧ i ∉ sn) →
      (Instr.next (.pointer (some ⟨it, 0, none⟩)) false ty).run P w = ((do
        match c[← choose (.mapNext c.size)]? with
        | some (some e) =>
          setObj it (.mapIter (some m) L.length (sn.toArray.push e.born) L.length)
          pure (.tuple #[.bool true, e.key, e.val])
        | some none => pure (.tuple #[.bool false])
        | none => stuck "Next: no such candidate") : Sem Value).run P w → ∃ dr, w.drawn ≤ dr ∧ ((∃ i p, L[i]? = some p ∧ i ∉ sn ∧ (Instr.next (.pointer (some ⟨it, 0, none⟩)) false ty).run P w = .ok (.tuple #[.bool true, vOf b p.1, p.2]) { w with drawn := dr, heap := w.heap.setIfInBounds it (itO m L.length (sn ++ [i])) }) ∨
    ((∀ i, i < L.length → i ∈ sn) ∧ (Instr.next (.pointer (some ⟨it, 0, none⟩)) false ty).run P w = .ok (.tuple #[.bool false]) { w with drawn := dr })) := fun c hc hk hr => by
    obtain ⟨k, dr, hlt, hd, hch⟩ := run_choose P w hc
    refine ⟨dr, hd, ?_⟩
    rcases hk k hlt with ⟨hn, hall⟩ | ⟨i, p, hs, hi, hns⟩
    · refine .inr ⟨hall, ?_⟩
      rw [hr]
      simp only [Sem.run_bind, hch, Result.andThen_ok, hn, Sem.run_pure]
    · refine .inl ⟨i, p, hi, hns, ?_⟩
      rw [hr]
      have hset : (setObj it (.mapIter (some m) L.length (sn.toArray.push i) L.length)).run P { w with drawn := dr } = .ok () { w with drawn := dr, heap := w.heap.setIfInBounds it (itO m L.length (sn ++ [i])) } := by
        simp [setObj, Sem.run, h1, itO]
      simp only [Sem.run_bind, hch, Result.andThen_ok, hs, mEn, hset, Sem.run_pure]
  let left := (((ents L).map (mEn b)).toArray).filter fun e => !sn.toArray.contains e.born
  let old := left.filter (·.born < L.length)
  let new := left.filter (·.born ≥ L.length)
  let cands := (if old.isEmpty then #[none] else #[]) ++ (old ++ new).map some
  have hmem : ∀ e ∈ old ++ new, ∃ i p, e = mEn b (p.1, p.2, i) ∧ L[i]? = some p ∧ i ∉ sn := by
    intro e he
    have hl : e ∈ left := by
      rcases Array.mem_append.1 he with h | h
      · exact (Array.mem_filter.1 h).1
      · exact (Array.mem_filter.1 h).1
    obtain ⟨h3, h4⟩ := Array.mem_filter.1 hl
    simp only [List.mem_toArray, List.mem_map] at h3
    obtain ⟨q, hq, rfl⟩ := h3
    obtain ⟨p, hp, hq2⟩ := ents_mem hq
    refine ⟨q.2.2, p, by rw [← hq2], hp, ?_⟩
    simpa [mEn] using h4
  refine key cands ?_ ?_ ?_
  · by_cases ho : old.isEmpty
    · simp only [cands, if_pos ho, Array.size_append]
      exact Nat.lt_of_lt_of_le Nat.zero_lt_one (Nat.le_add_right _ _)
    · have : 0 < old.size := by
        have : old ≠ #[] := by simpa using ho
        exact Array.size_pos_iff.2 this
      simp only [cands, Array.size_append, Array.size_map]
      omega
  · intro k hk
    by_cases ho : old.isEmpty
    · have hall : ∀ i, i < L.length → i ∈ sn := fun i hi => by
        by_cases hh : i ∈ sn
        · exact hh
        · exfalso
          have : mEn b ((L[i]'hi).1, (L[i]'hi).2, i) ∈ old := by
            refine Array.mem_filter.2 ⟨Array.mem_filter.2 ⟨?_, by simp [mEn, hh]⟩, by simp [mEn, hi]⟩
            simp only [List.mem_toArray, List.mem_map]
            refine ⟨((L[i]'hi).1, (L[i]'hi).2, i), List.mem_of_getElem? (i := i) ?_, rfl⟩
            rw [ents_get, List.getElem?_eq_getElem hi]
            rfl
          have ho' : old = #[] := by simpa using ho
          rw [ho'] at this
          simp at this
      have hn : new = #[] := by
        rw [← Array.size_eq_zero_iff]
        cases hs : new.size with
        | zero => rfl
        | succ s =>
          exfalso
          have h5 : new[0] ∈ old ++ new := Array.mem_append.2 (.inr (Array.getElem_mem _))
          obtain ⟨i, p, _, hi, hns⟩ := hmem _ h5
          exact hns (hall i (List.getElem?_eq_some_iff.1 hi).1)
      have ho' : old = #[] := by simpa using ho
      have hc : cands = #[none] := by simp [cands, ho', hn]
      rw [hc] at hk ⊢
      simp at hk
      subst hk
      exact .inl ⟨rfl, hall⟩
    · have hc : cands = (old ++ new).map some := by
        simp only [cands]
        rw [if_neg ho]
        simp
      rw [hc] at hk ⊢
      simp only [Array.size_map] at hk
      right
      obtain ⟨i, p, he, hi, hns⟩ := hmem _ (Array.getElem_mem hk)
      exact ⟨i, p, by rw [Array.getElem?_map, Array.getElem?_eq_getElem hk, he]; rfl, hi, hns⟩
  · simp only [Instr.next, Sem.run_bind, run_getIt h1, Result.andThen_ok, itO, run_getMp h2]
    simp only [e0, Bool.false_eq_true, if_false, Sem.run_pure, Result.andThen_ok]
    rw [Sem.run_bind]
    rfl
theorem run_entry {m it i : Nat} {b : Bool} {L : Mp} {sn : List Nat} {p : List Int × Value} (h1 : w.heap[it]? = some (itO m L.length (sn ++ [i]))) (h2 : w.heap[m]? = some (mapO b L)) (h3 : L[i]? = some p) :
    (Instr.entry (.pointer (some ⟨it, 0, none⟩))).run P w = .ok (.tuple #[vOf b p.1, p.2]) w := by
  have e1 : (((ents L).map (mEn b)).toArray).find? (fun e => e.born == i) = some (mEn b (p.1, p.2, i)) := by
    have hi : i < L.length := (List.getElem?_eq_some_iff.1 h3).1
    have hget : ∀ j (hj : j < L.length), (((ents L).map (mEn b)).toArray)[j]'(by simpa [ents_length] using hj) = mEn b ((L[j]'hj).1, (L[j]'hj).2, j) := fun j hj => by
      have h4 := entA_get b L j
      rw [Array.getElem?_eq_getElem (by simpa [ents_length] using hj), List.getElem?_eq_getElem hj] at h4
      simpa using h4
    rw [Array.find?_eq_some_iff_getElem]
    refine ⟨by simp [mEn], i, by simpa [ents_length] using hi, ?_, fun j hj => ?_⟩
    · rw [hget i hi]
      rw [List.getElem?_eq_getElem hi, Option.some.injEq] at h3
      rw [h3]
    · rw [hget j (by omega)]
      simp [mEn]; omega
  have e2 : (sn ++ [i]).toArray.back? = some i := by simp
  simp only [Instr.entry, Sem.run_bind, run_getIt h1, Result.andThen_ok, itO, run_getMp h2, e1, e2, Sem.run_pure, mEn, ne_eq, not_true_eq_false, if_false, bne_self_eq_false, Bool.false_eq_true]
end
section
variable {P : Program} {n : NN} {B : Nat} {w0 : Wd} {fr : FR} {hs S : HS} {ty : TypeId} {K : Act → World → Prop} {Q : Exit → Act → World → Prop} {ops : Array Oper} {l : List Oper} {d : Nat} {fl : List Nat} {pos : String} {aft : Array Edge}
theorem itO_not (m n : Nat) (sn : List Nat) : notCells (itO m n sn) = true := rfl
theorem Hp.drawn {w : World} (h : Hp B w0 w hs) (dr : Nat) (hd : w.drawn ≤ dr) : Hp B w0 { w with drawn := dr } hs := ⟨⟨h.below.os, h.below.tape, h.below.output, h.below.size, h.below.block⟩, h.big, h.mem, h.nodup, h.obj, h.ond⟩
theorem s_range {t : TypeId} {x : Operand} {b : Bool} {k m : Nat} {z : Value} {L : Mp} (h : mpt P t = some (b, k, z)) (hx : opv fr x = some (.map (some m))) (hm : (m, mapO b L) ∈ w0.ms) (hn : d < n.n)
    (hk : ∀ it, Sat n B ⟨w0.w, (it, itO m L.length []) :: w0.ms⟩ (sl P ops K l) ((d, .pointer (some ⟨it, 0, none⟩)) :: fr) hs) : Sat n B w0 (sl P ops K (⟨some d, .range t x, ty, pos, aft, none⟩ :: l)) fr hs := sat_mk fun a w ha hw => by
  have h4 := sat_el (hk w.heap.size) _ _ (ha.put hn _) (hw.newObj (itO_not m L.length []))
  unfold sl
  rw [if_pos (by simp [Region.wanted])]
  unfold Oper.wp
  have : (execOp a.eval ⟨some d, .range t x, ty, pos, aft, none⟩).run P w = .ok (.value (.pointer (some ⟨w.heap.size, 0, none⟩))) (w.alloc (itO m L.length [])) := by
    simp [execOp, ha.opv hx, run_range h (hw.map hm)]
  rw [this]
  exact h4
/-- One step of a range: an entry that was not seen yet, or the end. -/
theorem s_next {x : Operand} {b : Bool} {m it : Nat} {L : Mp} {sn : List Nat} {ms' : Nat → List (Nat × Obj)} (hx : opv fr x = some (.pointer (some ⟨it, 0, none⟩))) (hm : (m, mapO b L) ∈ w0.ms) (hu : ∀ i, UpdM it (itO m L.length sn) (itO m L.length (sn ++ [i])) w0.ms (ms' i)) (hn : d < n.n)
    (hy : ∀ i p, L[i]? = some p → i ∉ sn → Sat n B ⟨w0.w, ms' i⟩ (sl P ops K l) ((d, .tuple #[.bool true, vOf b p.1, p.2]) :: fr) hs) (ho : (∀ i, i < L.length → i ∈ sn) → Sat n B w0 (sl P ops K l) ((d, .tuple #[.bool false]) :: fr) hs) :
    Sat n B w0 (sl P ops K (⟨some d, .next x false, ty, pos, aft, none⟩ :: l)) fr hs := sat_mk fun a w ha hw => by
  have hit := (hw.obj _ (hu 0).mem).2.1
  unfold sl
  rw [if_pos (by simp [Region.wanted])]
  unfold Oper.wp
  obtain ⟨dr, hd, h⟩ := run_next (P := P) (ty := ty) hit (hw.map hm)
  rcases h with ⟨i, p, h1, h2, h3⟩ | ⟨h1, h3⟩
  · have : (execOp a.eval ⟨some d, .next x false, ty, pos, aft, none⟩).run P w = .ok (.value (.tuple #[.bool true, vOf b p.1, p.2])) { w with drawn := dr, heap := w.heap.setIfInBounds it (itO m L.length (sn ++ [i])) } := by
      simp [execOp, ha.opv hx, h3]
    rw [this]
    exact sat_el (hy i p h1 h2) _ _ (ha.put hn _) ((hw.setObj (hu i) (itO_not _ _ _)).drawn dr hd)
  · have : (execOp a.eval ⟨some d, .next x false, ty, pos, aft, none⟩).run P w = .ok (.value (.tuple #[.bool false])) { w with drawn := dr } := by
      simp [execOp, ha.opv hx, h3]
    rw [this]
    exact sat_el (ho h1) _ _ (ha.put hn _) (hw.drawn dr hd)
/-- The entry that was stepped on. -/
theorem o_entry {x : Operand} {b : Bool} {m it i : Nat} {L : Mp} {sn : List Nat} {p : List Int × Value} (hx : opv fr x = some (.pointer (some ⟨it, 0, none⟩))) (hm : (m, mapO b L) ∈ w0.ms) (hi : (it, itO m L.length (sn ++ [i])) ∈ w0.ms) (hp : L[i]? = some p) :
    OpF P n B w0 (.entry x) ty fr hs (.tuple #[vOf b p.1, p.2]) := fun a w ha hw => by
  have := run_entry (P := P) (hw.obj _ hi).2.1 (hw.map hm) hp
  simp [ex, execOp, ha.opv hx, this]
/-- Behind a round, where the base may be another one. -/
def NxM (n : NN) (B : Nat) {ι : Type} (W : ι → Wd) (F : ι → FR) (H : ι → HS) (C : ι → Prop) (μ : ι → Nat) (m : Nat) (a : Act) (w : World) : Prop := ∃ j, C j ∧ μ j < m ∧ Fr n a (F j) ∧ Hp B (W j) w (H j)
theorem c_loopM {c : Code} {ι : Type} (W : ι → Wd) (F : ι → FR) (H : ι → HS) (C : ι → Prop) (μ : ι → Nat) (i0 : ι) (hc : C i0) (hb : (W i0).le w0) (h0 : SubL (F i0) fr) (h1 : (H i0).Sublist hs)
    (round : ∀ i, C i → Sat n B (W i) (c.wp P (Exit.then (NxM n B W F H C μ (μ i)) Q)) (F i) (H i)) : Sat n B w0 ((Code.loop c).wp P Q) fr hs := sat_mk fun a w ha hw => by
  intro b k cs
  have key : ∀ m (i : ι) a w, C i → μ i = m → Fr n a (F i) → Hp B (W i) w (H i) →
      ∃ e a' w', Q e a' w' ∧ Arrives P (lone (b.at a (.code c :: .inLoop c :: k)) cs w) b k cs e a' w' := by
    intro m
    induction m using Nat.strongRecOn with
    | _ m ih =>
      intro i a w hci hi ha hw
      obtain ⟨e, a₁, w₁, hq, harr⟩ := sat_el (round i hci) a w ha hw b (.inLoop c :: k) cs
      cases e with
      | normal =>
        obtain ⟨j, hcj, hlt, hfj, hhj⟩ := hq
        obtain ⟨e₂, a₂, w₂, hq₂, harr₂⟩ := ih (μ j) (hi ▸ hlt) j a₁ w₁ hcj rfl hfj hhj
        exact ⟨e₂, a₂, w₂, hq₂, .of_steps (Steps.trans harr (.one step_inLoop)) harr₂⟩
      | exit id' => exact ⟨_, a₁, w₁, hq, .pass (x := .inLoop c) rfl (fun _ _ => .inl (by simp)) harr⟩
      | goto l => exact ⟨_, a₁, w₁, hq, .pass (x := .inLoop c) rfl (fun _ _ => .inl (by simp)) harr⟩
      | ret => exact ⟨_, a₁, w₁, hq, .pass (x := .inLoop c) rfl (fun _ _ => .inl (by simp)) harr⟩
      | panic ch => exact ⟨_, a₁, w₁, hq, .pass (x := .inLoop c) rfl (fun _ _ => .inl (by simp)) harr⟩
      | outgrown => exact ⟨_, a₁, w₁, hq, .pass (x := .inLoop c) rfl (fun _ _ => .inl (by simp)) harr⟩
  obtain ⟨e, a', w', hq, harr⟩ := key _ i0 a w hc rfl (ha.sub h0.sub) ((hw.sub h1).base hb)
  exact ⟨e, a', w', hq, .of_steps (.one step_loop) harr⟩
/-- The end of such a round. -/
theorem r_endM {ι : Type} {W : ι → Wd} {F : ι → FR} {H : ι → HS} {C : ι → Prop} {μ : ι → Nat} {m : Nat} (j : ι) (hc : C j) (hj : μ j < m) (hb : (W j).le w0) (h1 : SubL (F j) fr) (h2 : (H j).Sublist hs) :
    Sat n B w0 (NxM n B W F H C μ m) fr hs := sat_mk fun _ _ ha hw => ⟨j, hc, hj, ha.sub h1.sub, (hw.sub h2).base hb⟩
theorem Wd.le.refl (a : Wd) : a.le a := ⟨rfl, List.Sublist.refl _⟩
end
end Go.Proofs.YtmblgbcipniecaaGreatDoor

namespace Go.Proofs.YtmblgbcipniecaaGreatDoor
open Go.RowKit

theorem iv_inj {x y : Int} (h : iv x = iv y) : x = y := by simpa [iv] using h
theorem ivs_inj : ∀ {x y : List Int}, ivs x = ivs y → x = y
  | [], [], _ => rfl
  | [], b :: y, h => by simp [ivs] at h
  | a :: x, [], h => by simp [ivs] at h
  | a :: x, b :: y, h => by
    simp only [ivs, List.map_cons, List.cons.injEq] at h
    rw [iv_inj h.1, ivs_inj (x := x) (y := y) h.2]
theorem vOf_inj {b : Bool} {k : Nat} {x y : List Int} (hb : b = !(k == 1)) (hx : x.length = k) (hy : y.length = k) (h : vOf b x = vOf b y) : x = y := by
  subst hb
  by_cases hk : k = 1
  · subst hk
    obtain ⟨a, rfl⟩ := List.length_eq_one_iff.1 hx
    obtain ⟨c, rfl⟩ := List.length_eq_one_iff.1 hy
    simp [vOf, iv] at h
    rw [h]
  · have : (k == 1) = false := by simpa using hk
    rw [this] at h
    simp only [vOf, Bool.not_false, if_true, Value.agg.injEq] at h
    exact ivs_inj (by simpa using congrArg Array.toList h)
theorem mapO_inj {b : Bool} {k : Nat} {L L' : Mp} (hb : b = !(k == 1)) (h1 : ∀ p ∈ L, p.1.length = k) (h2 : ∀ p ∈ L', p.1.length = k) (h : mapO b L = mapO b L') : L = L' := by
  have e : (ents L).map (mEn b) = (ents L').map (mEn b) := by
    simp only [mapO, mOb, Obj.map.injEq] at h
    simpa using congrArg Array.toList h.1
  apply List.ext_getElem?
  intro i
  have e1 := congrArg (·[i]?) e
  simp only [List.getElem?_map, ents_get, Option.map_map] at e1
  cases hp : L[i]? with
  | none =>
    rw [hp] at e1
    cases hq : L'[i]? with
    | none => rfl
    | some q => rw [hq] at e1; simp at e1
  | some p =>
    rw [hp] at e1
    cases hq : L'[i]? with
    | none => rw [hq] at e1; simp at e1
    | some q =>
      rw [hq] at e1
      simp only [Option.map_some, Function.comp_apply, Option.some.injEq, mEn, MapEntry.mk.injEq] at e1
      have e2 := vOf_inj hb (h1 p (List.mem_of_getElem? hp)) (h2 q (List.mem_of_getElem? hq)) e1.1
      congr 1
      exact Prod.ext e2 e1.2.1
theorem UpdM.fwd {m : Nat} {o o' : Obj} {ms ms' : List (Nat × Obj)} (hu : UpdM m o o' ms ms') : ∀ p ∈ ms, p ∈ ms' ∨ (p = (m, o) ∧ (m, o') ∈ ms') := by
  induction hu with
  | head ms =>
    intro p hp
    rcases List.mem_cons.1 hp with rfl | hp
    · exact .inr ⟨rfl, .head _⟩
    · exact .inl (.tail _ hp)
  | tail q h ih =>
    intro p hp
    rcases List.mem_cons.1 hp with rfl | hp
    · exact .inl (.head _)
    · rcases ih p hp with h | ⟨h1, h2⟩
      · exact .inl (.tail _ h)
      · exact .inr ⟨h1, .tail _ h2⟩
theorem plc_app (x : List Int) (p : List Int × Value) : ∀ (L : Mp) (i : Nat), plc x (L ++ [p]) i = match plc x L i with | some j => some j | none => if x = p.1 then some (i + L.length) else none
  | [], i => by simp [plc]
  | q :: L, i => by
    simp only [List.cons_append, plc]
    split
    · rfl
    · rw [plc_app x p L (i + 1)]
      cases plc x L (i + 1) with
      | some j => rfl
      | none => simp only [List.length_cons]; rw [show i + 1 + L.length = i + (L.length + 1) by omega]
theorem lkp_app0 {L : Mp} {x' : List Int} (h : plc x' L 0 = none) (x : List Int) (z : Value) : lkp (L ++ [(x', z)]) x z = lkp L x z := by
  unfold lkp
  rw [plc_app]
  cases hp : plc x L 0 with
  | some j =>
    have := plc_get hp
    rw [Nat.sub_zero] at this
    obtain ⟨_, p, h1, _⟩ := this
    have hj : j < L.length := (List.getElem?_eq_some_iff.1 h1).1
    simp [vat, List.getElem?_append_left hj]
  | none =>
    simp only
    split
    · simp [vat]
    · rfl
theorem Ext0.look {k m : Nat} {a c : Wd} {b : Bool} {L : Mp} (hk0 : k ≠ 0) (he : Ext0 k a c) (hm : (m, mapO b L) ∈ a.ms) (hb : b = !(k == 1)) (hL : ∀ p ∈ L, p.1.length = k) :
    ∃ L', (m, mapO b L') ∈ c.ms ∧ (∀ p ∈ L', p.1.length = k) ∧ ∀ x, lkp L' x (iv 0) = lkp L x (iv 0) := by
  induction he with
  | refl => exact ⟨L, hm, hL, fun _ => rfl⟩
  | any hk _ _ => exact absurd hk hk0
  | step he hu hp hx hL1 ih =>
    obtain ⟨L', h1, h2, h3⟩ := ih
    rcases hu.fwd _ h1 with h | ⟨h4, h5⟩
    · exact ⟨L', h, h2, h3⟩
    · simp only [Prod.mk.injEq] at h4
      obtain ⟨rfl, h4⟩ := h4
      subst hb
      have := mapO_inj rfl h2 hL1 h4
      subst this
      refine ⟨_, h5, fun p hp => ?_, fun x => by rw [lkp_app0 hp]; exact h3 x⟩
      rcases List.mem_append.1 hp with hp | hp
      · exact h2 p hp
      · rw [List.mem_singleton] at hp; subst hp; exact hx
section
variable {P : Program} {n : NN} {B : Nat} {w0 : Wd} {fr : FR} {hs S : HS} {ty : TypeId} {K : Act → World → Prop} {ops : Array Oper} {l : List Oper} {d f : Nat} {fl : List Nat} {pos : String} {aft : Array Edge}
/-- The lookup of m[k] op= v. -/
theorem k_lookup6 {t : TypeId} {xm xk : Operand} {b : Bool} {k m : Nat} {L : Mp} {x : List Int} (h : mpt P t = some (b, k, iv 0)) (hf : f = (2 * k) + 6) (hk0 : k ≠ 0) (hb : b = !(k == 1)) (h1 : opv fr xm = some (.map (some m))) (h2 : opv fr xk = some (vOf b x)) (hm : (m, mapO b L) ∈ w0.ms) (hx : x.length = k) (hL : ∀ p ∈ L, p.1.length = k) (hn : d < n.n)
    (hk : Rk P n B w0 ops K fl l S ((d, lkp L x (iv 0)) :: fr) hs) : Rk P n B w0 ops K (f :: fl) (⟨some d, .lookup t xm xk false, ty, pos, aft, none⟩ :: l) S fr hs :=
  k_pure6 k hf (fun w1 he => by
    obtain ⟨L', q1, q2, q3⟩ := Ext0.look hk0 he hm hb hL
    rw [← q3 x]
    exact o_lookup h h1 h2 q1 hx q2) hn hk
/-- The entry of m[k] op= v. -/
theorem k_mapEntry7 {t : TypeId} {xm xk : Operand} {b : Bool} {k m : Nat} {L : Mp} {x : List Int} (h : mpt P t = some (b, k, iv 0)) (hf : f = (2 * k + 1) + 6) (hb : b = !(k == 1)) (h1 : opv fr xm = some (.map (some m))) (h2 : opv fr xk = some (vOf b x)) (hm : (m, mapO b L) ∈ w0.ms) (hx : x.length = k) (hL : ∀ p ∈ L, p.1.length = k) (hn : d < n.n)
    {ms' : List (Nat × Obj)} (hu : UpdM m (mapO b L) (mapO b (L ++ [(x, iv 0)])) w0.ms ms')
    (ho : ∀ i, plc x L 0 = some i → Rk P n B w0 ops K fl l S ((d, .tuple #[vat L i, goInt i]) :: fr) hs)
    (hnw : plc x L 0 = none → Rk P n B ⟨w0.w, ms'⟩ ops K fl l S ((d, .tuple #[iv 0, goInt L.length]) :: fr) hs) :
    Rk P n B w0 ops K (f :: fl) (⟨some d, .mapEntry t xm xk, ty, pos, aft, none⟩ :: l) S fr hs := by
  refine k_eff7 (R := fun v w1 => ((∃ i, plc x L 0 = some i ∧ v = .tuple #[vat L i, goInt i] ∧ w1 = w0) ∨ (plc x L 0 = none ∧ v = .tuple #[iv 0, goInt L.length] ∧ w1 = ⟨w0.w, ms'⟩))) k hf rfl (fun a ha F w hw => ?_) ?_
  · obtain ⟨v, L', hv, hrun⟩ := run_me (P := P) (ty := ty) (pos := pos) (aft := aft) h ha h1 h2 hw hm hx hL (some d)
    rw [hrun]
    rcases hv with ⟨i, e1, e2, e3⟩ | ⟨e1, e2, e3⟩
    · subst e3
      exact ⟨w0, .inl ⟨i, e1, e2, rfl⟩, hw.setObj (UpdM.refl hm) (mapO_not _ _)⟩
    · subst e3
      exact ⟨_, .inr ⟨e1, e2, rfl⟩, hw.setObj hu (mapO_not _ _)⟩
  · rintro a ha v w1 hv
    rcases hv with ⟨i, e1, rfl, rfl⟩ | ⟨e1, rfl, rfl⟩
    · have := ho i e1
      unfold Rk at this
      exact ⟨.refl, this _ (ha.put hn _)⟩
    · have := hnw e1
      unfold Rk at this
      subst hb
      exact ⟨.step .refl hu e1 hx hL, this _ (ha.put hn _)⟩
end
theorem kQO {n : NN} {B : Nat} {w0 : Wd} {fr : FR} {hs : HS} {ty : TypeId} {Ka : Act → Prop} {ops : Array Oper} {l : List Oper} {d : Nat} {pos : String} {aft : Array Edge} (op : Op) (h : qn Tryz.prog n B w0 hs ops Ka (⟨some d, op, ty, pos, aft, none⟩ :: l) fr) : qn Tryz.prog n B w0 hs ops Ka (⟨some d, op, ty, pos, aft, none⟩ :: l) fr := h

section
variable {P : Program} {w0 : Wd} {B : Nat} {hs : HS}
theorem Ext0.ww {k : Nat} {a c : Wd} (h : Ext0 k a c) : c.w = a.w := by
  induction h with
  | refl => rfl
  | any _ _ ih => exact ih
  | step _ _ _ _ _ ih => exact ih
end
end Go.Proofs.YtmblgbcipniecaaGreatDoor

namespace Go.Proofs.YtmblgbcipniecaaGreatDoor
open Go.RowKit

/-- The fence that lets all in; in a round, or in none. -/
def rF (ro : Option Nat) : Fence := { Fence.wide with round := ro }
def noDf (o : Oper) : Bool := match o.op with | .defer _ => false | _ => true
theorem noDf_ne {o : Oper} (h : noDf o = true) (c : Call) : o.op ≠ .defer c := fun e => by simp [noDf, e] at h
def noDfL (l : List Oper) : Bool := l.all noDf
section
variable {P : Program} {ro : Option Nat}
theorem rF_wide {c : Code} {Q : Exit → Act → World → Prop} {a : Act} {w : World} : c.wpIn (rF none) 0 P Q a w ↔ c.wp P Q a w := wpIn_wide
theorem rF_calls {f : Nat} {args : Array Value} {w : World} {R : Ending → World → Prop} (m : Nat) (h : Calls P f args w R) : CallsIn (rF ro) m P f args w R := (callsIn_wide (n := m)).2 h
theorem calls_rF {f : Nat} {args : Array Value} {w : World} {R : Ending → World → Prop} (m : Nat) (h : CallsIn (rF ro) m P f args w R) : Calls P f args w R := (callsIn_wide (n := m)).1 h
theorem rF_fn (f : Nat) : (rF ro).fn f := trivial
theorem rF_room (m : Nat) : (rF ro).room m := fun _ h => by simp [rF, Fence.wide] at h
theorem rF_dep {m : Nat} : (rF ro).depth.isSome = true → 1 ≤ m := fun h => by simp [rF, Fence.wide] at h
theorem op_rF {o : Oper} {a : Act} {w : World} {N : Act → World → Prop} {Q : Exit → Act → World → Prop} (hd : noDf o = true) (h : o.wp P a w N Q) : o.wpIn (rF ro) 0 P a w N Q := by
  refine ⟨fun _ _ => trivial, ?_⟩
  rw [Oper.semAt_eq _ _ _ (noDf_ne hd)]
  unfold Oper.wp at h
  generalize (execOp a.eval o).run P w = r at h ⊢
  cases r with
  | ok x w' =>
    cases x <;> simp only [Oper.upon] at h <;> simp only [Oper.uponIn]
    case value v => exact h
    case skip => exact h
    case defer d => exact h
    case enter f args => exact ⟨rF_dep, rF_calls _ h⟩
    case row row args => exact ⟨rF_dep, fun c cs _ => let ⟨v, w', r, s⟩ := h c cs; ⟨v, w', r, (StepsIn.of_steps s).mono fun m _ => fenced_wide P m⟩⟩
  | halt x w' =>
    cases x <;> simp only [Oper.upon] at h <;> simp only [Oper.uponIn]
    exact h
theorem ops_rF {l0 : List Oper} {K : Act → World → Prop} {Q : Exit → Act → World → Prop} (hd : noDfL l0 = true) (hk : ∀ a w, K a w → Q .normal a w) : ∀ (l pre : List Oper) (a : Act) (w : World), l0 = pre ++ l → sl P l0.toArray K l a w →
    wpOpsIn (rF ro) 0 P l0.toArray Q (List.range' pre.length l.length) a w
  | [], pre, a, w, _, h => by unfold sl at h; exact hk _ _ h
  | o :: l, pre, a, w, he, h => by
    have ho : l0.toArray[pre.length]? = some o := by subst he; simp
    have hdo : noDf o = true := List.all_eq_true.1 hd o (by subst he; simp)
    have ih := fun a w (hh : sl P l0.toArray K l a w) => ops_rF hd hk l (pre ++ [o]) a w (by simp [he]) hh
    simp only [List.length_append, List.length_cons, List.length_nil] at ih
    rw [List.length_cons, List.range'_succ]
    unfold wpOpsIn
    simp only [ho]
    unfold sl at h
    split
    · rename_i hw
      rw [if_pos hw] at h
      exact op_rF hdo (Oper.upon_mono (fun a w h => ih a w h) (fun _ _ _ h => h.elim) h)
    · rename_i hw
      rw [if_neg hw] at h
      exact ⟨fun _ _ => trivial, ih _ _ h⟩
theorem any_rF {ops : Array Oper} {Q : Exit → Act → World → Prop} (hd : noDfL ops.toList = true) (hno : ∀ a w, ¬ Q .outgrown a w) : ∀ (fuel : Nat) (listed : Array Bool) (a : Act) (w : World), wpAny P .any ops Q fuel listed a w → wpAnyIn (rF ro) 0 P .any ops Q fuel listed a w
  | 0, _, _, _, h => h
  | fuel + 1, listed, a, w, h => by
    refine ⟨h.1, fun i hi => ?_⟩
    have h2 := h.2 i hi
    unfold wpOp at h2
    unfold wpOpIn
    split
    · rename_i hn; simp only [hn] at h2; exact any_rF hd hno fuel _ _ _ h2
    · rename_i o ho
      simp only [ho] at h2
      have hdo : noDf o = true := List.all_eq_true.1 hd o (by
        have := Array.mem_of_getElem? ho
        simpa using this)
      split
      · rename_i hw
        simp only [hw, if_true] at h2
        rcases h2 with h2 | ⟨_, x, y, h2⟩
        · exact op_rF hdo (Oper.upon_mono (fun a w h => any_rF hd hno fuel _ a w h) (fun _ _ _ h => h) h2)
        · exact absurd h2 (hno x y)
      · rename_i hw
        simp only [hw] at h2
        exact ⟨fun _ _ => trivial, any_rF hd hno fuel _ _ _ h2⟩
/-- The way out at the end alone. -/
def onlyN (K : Act → World → Prop) : Exit → Act → World → Prop
  | .normal, a, w => K a w
  | _, _, _ => False
theorem onlyN_to {Q : Exit → Act → World → Prop} : ∀ e a w, onlyN (Q .normal) e a w → Q e a w := by
  intro e a w h
  cases e <;> first | exact h | exact h.elim
end
section
variable {P : Program} {n : NN} {B : Nat} {w0 : Wd} {fr fr' : FR} {hs hs' : HS} {K K' : Act → World → Prop} {Q Q' : Exit → Act → World → Prop} {ro : Option Nat}
theorem g_wide {c : Code} (h : Sat n B w0 (c.wpIn (rF none) 0 P Q) fr hs) : Sat n B w0 (c.wp P Q) fr hs := sat_mk fun a w ha hw => rF_wide.1 (sat_el h a w ha hw)
theorem g_seq {x y : Code} (h : Sat n B w0 (x.wpIn (rF ro) 0 P (Exit.then (y.wpIn (rF ro) 0 P Q) Q)) fr hs) : Sat n B w0 ((Code.seq x y).wpIn (rF ro) 0 P Q) fr hs := sat_mk fun a w ha hw => wpIn_seq (sat_el h a w ha hw)
theorem g_block {id : Nat} {c : Code} (h : Sat n B w0 (c.wpIn (rF ro) 0 P (Exit.inBlock id Q)) fr hs) : Sat n B w0 ((Code.block id c).wpIn (rF ro) 0 P Q) fr hs := sat_mk fun a w ha hw => wpIn_block (sat_el h a w ha hw)
theorem g_skip (h : Sat n B w0 (Q .normal) fr hs) : Sat n B w0 (Code.skip.wpIn (rF ro) 0 P Q) fr hs := sat_mk fun a w ha hw => wpIn_skip (sat_el h a w ha hw)
theorem g_exit {id : Nat} (h : Sat n B w0 (Q (.exit id)) fr hs) : Sat n B w0 ((Code.exit id).wpIn (rF ro) 0 P Q) fr hs := sat_mk fun a w ha hw => wpIn_exit (sat_el h a w ha hw)
theorem g_ret (h : Sat n B w0 (Q .ret) fr hs) : Sat n B w0 (Code.ret.wpIn (rF ro) 0 P Q) fr hs := sat_mk fun a w ha hw => wpIn_ret (sat_el h a w ha hw)
theorem gCI {c : Operand} {x y : Code} (h : Sat n B w0 ((Code.cond c x y).wpIn (rF ro) 0 P Q) fr hs) : Sat n B w0 ((Code.cond c x y).wpIn (rF ro) 0 P Q) fr hs := h
theorem gI {c : Operand} {x y : Code} {p : Prop} [Decidable p] (ht : p → Sat n B w0 (x.wpIn (rF ro) 0 P Q) fr hs) (hf : ¬ p → Sat n B w0 (y.wpIn (rF ro) 0 P Q) fr hs) (hc : opv fr c = some (.bool (decide p)) := by rfl) :
    Sat n B w0 ((Code.cond c x y).wpIn (rF ro) 0 P Q) fr hs := sat_mk fun a w ha hw => by
  by_cases hp : p
  · exact wpIn_cond_true (by rw [ha.opv hc]; simp [hp]) (sat_el (ht hp) a w ha hw)
  · exact wpIn_cond_false (by rw [ha.opv hc]; simp [hp]) (sat_el (hf hp) a w ha hw)
theorem gBB {c : Operand} {x y : Code} {b : Bool} (ht : b = true → Sat n B w0 (x.wpIn (rF ro) 0 P Q) fr hs) (hf : b = false → Sat n B w0 (y.wpIn (rF ro) 0 P Q) fr hs) (hc : opv fr c = some (.bool b) := by rfl) :
    Sat n B w0 ((Code.cond c x y).wpIn (rF ro) 0 P Q) fr hs := sat_mk fun a w ha hw => by
  cases b with
  | true => exact wpIn_cond_true (ha.opv hc) (sat_el (ht rfl) a w ha hw)
  | false => exact wpIn_cond_false (ha.opv hc) (sat_el (hf rfl) a w ha hw)
theorem gT {c : Operand} {x y : Code} (ht : Sat n B w0 (x.wpIn (rF ro) 0 P Q) fr hs) (hc : opv fr c = some (.bool true) := by rfl) : Sat n B w0 ((Code.cond c x y).wpIn (rF ro) 0 P Q) fr hs := sat_mk fun a w ha hw => wpIn_cond_true (ha.opv hc) (sat_el ht a w ha hw)
theorem gF {c : Operand} {x y : Code} (ht : Sat n B w0 (y.wpIn (rF ro) 0 P Q) fr hs) (hc : opv fr c = some (.bool false) := by rfl) : Sat n B w0 ((Code.cond c x y).wpIn (rF ro) 0 P Q) fr hs := sat_mk fun a w ha hw => wpIn_cond_false (ha.opv hc) (sat_el ht a w ha hw)
theorem g_region {id : Nat} {l : List Oper} (h : Sat n B w0 (sl P l.toArray (Q .normal) l) fr hs) (hd : noDfL l = true := by rfl) : Sat n B w0 ((Code.region id l.toArray false).wpIn (rF ro) 0 P Q) fr hs :=
  sat_mk fun a w ha hw => wpIn_region (by
    have := ops_rF (ro := ro) (Q := Q) hd (fun _ _ h => h) l [] a w rfl (sat_el h a w ha hw)
    rw [List.size_toArray, List.range_eq_range']
    exact this)
theorem gRI {id : Nat} {l : List Oper} (h : Sat n B w0 ((Code.region id l.toArray true).wpIn (rF ro) 0 P Q) fr hs) : Sat n B w0 ((Code.region id l.toArray true).wpIn (rF ro) 0 P Q) fr hs := h
theorem g_quiet {id : Nat} {l : List Oper} (hm : P.follows .mixedOrders = true) (hB : Region.lexB .any l.toArray = true) (hd : noDfL l = true) (h : qn P n B w0 hs l.toArray (fun a' => ∀ w', Hp B w0 w' hs → Q .normal a' w') l fr) :
    Sat n B w0 ((Code.region id l.toArray true).wpIn (rF ro) 0 P Q) fr hs := sat_mk fun a w ha hw => by
  simp only [Region.lexB, Bool.and_eq_true] at hB
  unfold qn at h
  have h1 := wpAnyQ_lex (C := fun w => Hp B w0 w hs) (md := .any) hB.1 l.toArray.toList 0 (Array.replicate l.toArray.size false) a (by simp) (by simpa using hB.2) (by simpa using h a ha)
  have h2 := wpAny_of_quiet (C := fun w => Hp B w0 w hs) (Q' := onlyN (Q .normal)) (fun _ w' hw' h => h w' hw') _ _ _ _ hw.drew h1
  exact wpIn_mono (wpIn_region_any hm (any_rF (by simpa using hd) (fun _ _ h => h) _ _ _ _ (by simpa using h2))) onlyN_to
theorem g_drawn {id : Nat} {l : List Oper} (fl : List Nat) (S : HS) (hS : S.Sublist hs) (hm : P.follows .mixedOrders = true) (hc : chk l fl = true) (hd : noDfL l = true) (h : Rk P n B w0 l.toArray (Q .normal) fl l S fr hs) :
    Sat n B w0 ((Code.region id l.toArray true).wpIn (rF ro) 0 P Q) fr hs := sat_mk fun a w ha hw => by
  unfold Rk at h
  simp only [chk, Bool.and_eq_true] at hc
  obtain ⟨hsel, hall⟩ := hc
  have hw' : Hp B w0 { w with drawn := w.drawn + 1 } hs := hw.drew
  have han := ancGo_spec (ops := l.toArray) l [] 0 rfl (by simp) (by intro j i hb; simp [lk] at hb)
  have hall' := allI_spec l 0 hall
  refine wpIn_mono (wpIn_region_any hm (any_rF (Q := onlyN (Q .normal)) (by simpa using hd) (fun _ _ h => h) _ _ _ _ (wpAny_rk (P := P) (B := B) (Q := onlyN (Q .normal)) (fl := fl) (Region.noSelect_at hsel) ?_ ?_ _ w0 _ (List.range' 0 l.length) S hs a _ hw' (.of hS) (rkI_of_rkL w0 l 0 S hs a ⟨_, hw'⟩ (.of hS) (by simp) (h a ha)) ?_ ?_ ?_ (by simp) (by simp)))) onlyN_to
  · intro j oj hj e he hb
    have h1 := hall' j oj hj
    simp only [Bool.and_eq_true, List.all_eq_true] at h1
    have h2 := h1.1 e (by simpa using he)
    simp only [hb, Bool.not_true, Bool.false_or, Nat.zero_add] at h2
    simpa using h2
  · intro i j oi oj hi hj hij
    have h1 := hall' j oj hj
    simp only [Bool.and_eq_true] at h1
    have h2 := allI_spec l 0 h1.2 i oi hi
    simp only [Nat.zero_add, Bool.or_eq_true, Bool.and_eq_true] at h2
    rcases h2 with (h2 | h2) | h2
    · have := Nat.le_of_ble_eq_true h2; omega
    · exact .inl (han j i h2)
    · exact .inr h2
  · intro i
    simp only [List.mem_range'_1, Nat.zero_le, Nat.zero_add, true_and]
    constructor
    · intro hi; exact ⟨hi, by simp [hi]⟩
    · exact fun h => h.1
  · exact List.pairwise_lt_range'
  · intro j oj hj hl
    rw [getD_replicate_false'] at hl; cases hl
/-- The next round of a loop: memory, the maps and the deferred calls may be others. -/
def NxG (k : Nat) (B : Nat) {ι : Type} (D : ι → List Deferred) (W : ι → Wd) (F : ι → FR) (H : ι → HS) (C : ι → Prop) (μ : ι → Nat) (m : Nat) (a : Act) (w : World) : Prop := ∃ j, C j ∧ μ j < m ∧ Fr ⟨k, D j⟩ a (F j) ∧ Hp B (W j) w (H j)
theorem g_loop {c : Code} {ι : Type} (D : ι → List Deferred) (W : ι → Wd) (F : ι → FR) (H : ι → HS) (C : ι → Prop) (μ : ι → Nat) (i0 : ι) (hc : C i0) (hD : D i0 = n.ds) (hb : (W i0).le w0) (h0 : SubL (F i0) fr) (h1 : (H i0).Sublist hs)
    (round : ∀ i, C i → Sat ⟨n.n, D i⟩ B (W i) (c.wpIn (rF ro) 0 P (Exit.then (NxG n.n B D W F H C μ (μ i)) Q)) (F i) (H i)) : Sat n B w0 ((Code.loop c).wpIn (rF ro) 0 P Q) fr hs := sat_mk fun a w ha hw => by
  intro b k cs hro hb' hr
  have key : ∀ m (i : ι) a w, C i → μ i = m → Fr ⟨n.n, D i⟩ a (F i) → Hp B (W i) w (H i) →
      ∃ e a' w', Q e a' w' ∧ ArrivesIn (Machine.fenced P (rF ro)) P (lone (b.atR a (.code c :: .inLoop c :: k)) cs w) b k cs e a' w' := by
    intro m
    induction m using Nat.strongRecOn with
    | _ m ih =>
      intro i a w hci hi ha hw
      obtain ⟨e, a₁, w₁, hq, harr⟩ := sat_el (round i hci) a w ha hw b (.inLoop c :: k) cs hro hb' hr
      cases e with
      | normal =>
        obtain ⟨j, hcj, hlt, hfj, hhj⟩ := hq
        obtain ⟨e₂, a₂, w₂, hq₂, harr₂⟩ := ih (μ j) (hi ▸ hlt) j a₁ w₁ hcj rfl hfj hhj
        exact ⟨e₂, a₂, w₂, hq₂, .of_steps (StepsIn.trans harr (.one (fenced_calm hb' hr rfl) stepR_inLoop)) harr₂⟩
      | exit id' => exact ⟨_, a₁, w₁, hq, .pass (x := .inLoop c) rfl (fun _ _ => .inl (by simp)) harr⟩
      | goto l => exact ⟨_, a₁, w₁, hq, .pass (x := .inLoop c) rfl (fun _ _ => .inl (by simp)) harr⟩
      | ret => exact ⟨_, a₁, w₁, hq, .pass (x := .inLoop c) rfl (fun _ _ => .inl (by simp)) harr⟩
      | panic ch => exact ⟨_, a₁, w₁, hq, .pass (x := .inLoop c) rfl (fun _ _ => .inl (by simp)) harr⟩
      | outgrown => exact ⟨_, a₁, w₁, hq, .pass (x := .inLoop c) rfl (fun _ _ => .inl (by simp)) harr⟩
  obtain ⟨e, a', w', hq, harr⟩ := key _ i0 a w hc rfl ⟨ha.size, by rw [hD]; exact ha.defers, (ha.sub h0.sub).get⟩ ((hw.sub h1).base hb)
  exact ⟨e, a', w', hq, .of_steps (.one (fenced_calm hb' hr rfl) stepR_loop) harr⟩
theorem g_end {k : Nat} {d : List Deferred} {ι : Type} {D : ι → List Deferred} {W : ι → Wd} {F : ι → FR} {H : ι → HS} {C : ι → Prop} {μ : ι → Nat} {m : Nat} (j : ι) (hc : C j) (hj : μ j < m) (hD : D j = d) (hb : (W j).le w0) (h1 : SubL (F j) fr) (h2 : (H j).Sublist hs) :
    Sat ⟨k, d⟩ B w0 (NxG k B D W F H C μ m) fr hs := sat_mk fun _ _ ha hw => ⟨j, hc, hj, ⟨ha.size, by rw [hD]; exact ha.defers, (ha.sub h1.sub).get⟩, (hw.sub h2).base hb⟩

/-! ### The iterator and its rounds -/
/-- What yields all of xs, one after another, whatever the rounds do that keep what it reads. -/
def IterC (P : Program) (g : Nat) (cap : List Value) (B : Nat) (xs : List Value) (RD : Wd → HS → Prop) : Prop :=
  ∀ (ι : Type) (W : ι → Wd) (H : ι → HS) (C : Nat → ι → Prop) (l : Nat), (∀ k i, C k i → RD (W i) (H i)) →
    (∀ k i x, xs[k]? = some x → C k i → ∀ w, Hp B (W i) w (H i) → ∃ fn tmps assign body, (Instr.yield l #[x]).run P w = .ok (.round l fn tmps assign body) w ∧
      RoundIn Fence.wide 0 P l fn tmps assign body w (fun e w' => e = .returned (.bool true) ∧ ∃ j, C (k + 1) j ∧ Hp B (W j) w' (H j))) →
    ∀ i w, C 0 i → Hp B (W i) w (H i) → Calls P g ((.func (.yield l) #[] #[] :: cap).toArray) w (fun e w' => (∃ v, e = .returned v) ∧ ∃ j, C xs.length j ∧ Hp B (W j) w' (H j))
/-- The mark of a block for deferred calls. -/
abbrev mkD (D : Nat) : Deferred := { target := .collected D, args := #[] }
theorem run_callFn {g : Nat} {args : Array Value} {w : World} (hf : isGo P g = true) : (callFunc g args).run P w = .ok (.enter g args) w := by
  unfold isGo at hf
  split at hf
  · rename_i fn hfn
    simp only [Bool.and_eq_true, Bool.not_eq_true'] at hf
    obtain ⟨h1, h2⟩ := hf
    have h3 : ¬ fn.body = none := by intro hb; simp [hb] at h1
    have h2' : ¬ fn.name = "runtime.NumGoroutine" := by simpa using h2
    simp [callFunc, hfn, h2', h3]
  · cases hf
theorem g_range {p g : Nat} {f : Operand} {cap xs : List Value} {assign body : Code} {RD : Wd → HS → Prop} (hf : opv fr f = some (.func (.func g) #[] cap.toArray)) (hg : isGo P g = true) (hit : IterC P g cap B xs RD) (hp : p < n.n)
    {ι : Type} (W : ι → Wd) (H : ι → HS) (C : Nat → ι → Prop) (F1 : Value → FR) (i0 : ι) (h0 : C 0 i0) (hb : (W i0).le w0) (hH : (H i0).Sublist hs)
    (hRD : ∀ k i, C k i → ∀ W', (W i).le W' → RD W' (H i))
    (hassign : ∀ k i x, xs[k]? = some x → C k i → ∀ l D o, Sat ⟨n.n, []⟩ B ⟨(W i).w, (l, o) :: (D, .deferred (some [])) :: (W i).ms⟩ (assign.wpIn (rF (some l)) 0 P (onlyN fun a w => Fr ⟨n.n, []⟩ a (F1 x) ∧ Hp B ⟨(W i).w, (l, o) :: (D, .deferred (some [])) :: (W i).ms⟩ w (H i))) ((p, x) :: fr) (H i))
    (hbody : ∀ k i x, xs[k]? = some x → C k i → ∀ l D o, Sat ⟨n.n, []⟩ B ⟨(W i).w, (l, o) :: (D, .deferred (some [])) :: (W i).ms⟩ (body.wpIn (rF (some l)) 0 P (onlyN fun _ w => ∃ j, C (k + 1) j ∧ Hp B ⟨(W j).w, (l, o) :: (D, .deferred (some [])) :: (W j).ms⟩ w (H j))) (F1 x) (H i))
    (done : ∀ j, C xs.length j → ∀ D, Sat ⟨n.n, mkD D :: n.ds⟩ B ⟨(W j).w, (D, .deferred (some [])) :: (W j).ms⟩ (Q .normal) fr (H j)) :
    Sat n B w0 ((Code.rangeFunc f #[p] assign body).wpIn (rF none) 0 P Q) fr hs := sat_mk fun a w ha hw => by
  refine wpIn_rangeFunc fun fn hfn => ?_
  obtain ⟨rec, hrec⟩ : ∃ rec : LoopState → Loop, rec = fun st => { state := st, pending := none, fn, tmps := a.tmps, params := #[p], assign, body, defers := w.heap.size } := ⟨_, rfl⟩
  have hw0 : Hp B (W i0) w (H i0) := (hw.sub hH).base hb
  have hw1 := (hw0.newObj (o := .deferred (some [])) rfl).newObj (o := .loop (rec .ready)) rfl
  rw [World.size_alloc] at hw1
  obtain ⟨W1, hW1⟩ : ∃ W1, (w.alloc (.deferred (some []))).alloc (.loop (rec .ready)) = W1 := ⟨_, rfl⟩
  rw [hW1] at hw1
  refine ⟨w.heap.size + 1, [mkD w.heap.size], W1, { target := .fn (.func g) cap.toArray, args := #[.func (.yield (w.heap.size + 1)) #[] #[]] }, W1, g, (.func (.yield (w.heap.size + 1)) #[] #[] :: cap).toArray, W1, by rw [← hW1, hrec]; exact run_enterLoop_outer _ _ _ _ _, ?_, fun _ _ => trivial, ?_, rF_dep, rF_calls _ ?_⟩
  · simp only [resolve, ha.opv hf]
    simp [go_sem]
  · simp [invoke, go_sem, run_callFn hg]
  · have hback : ∀ (j : ι) (w' : World) (o o' : Obj) (h : HS), notCells o' = true → Hp B ⟨(W j).w, (w.heap.size + 1, o) :: (w.heap.size, .deferred (some [])) :: (W j).ms⟩ w' h →
        w'.heap[w.heap.size + 1]? = some o ∧ Hp B ⟨(W j).w, (w.heap.size + 1, o') :: (w.heap.size, .deferred (some [])) :: (W j).ms⟩ (w'.putObj (w.heap.size + 1) o') h := fun j w' o o' h hn hh =>
      ⟨(hh.obj _ (.head _)).2.1, hh.setObj (w0 := ⟨(W j).w, (w.heap.size + 1, o) :: (w.heap.size, .deferred (some [])) :: (W j).ms⟩) (.head _) hn⟩
    refine (hit ι (fun i => ⟨(W i).w, (w.heap.size + 1, .loop (rec .ready)) :: (w.heap.size, .deferred (some [])) :: (W i).ms⟩) H C (w.heap.size + 1) (fun k i hc => hRD k i hc _ ⟨rfl, .cons _ (.cons _ (List.Sublist.refl _))⟩) ?_ i0 _ h0 hw1).mono ?_
    · intro k i x hx hc w2 hw2
      obtain ⟨hl2, hw3⟩ := hback i w2 _ (.loop { rec .ready with state := .busy }) _ rfl hw2
      have hy := run_yield (P := P) (args := #[x]) hl2 (by rw [hrec]; rfl)
      refine ⟨_, _, _, _, hy, ?_⟩
      have hF : Fr ⟨n.n, []⟩ ⟨(((rec .ready).params.zip #[x]).foldl (fun tmps (t, a) => tmps.setIfInBounds t a) (rec .ready).tmps), []⟩ ((p, x) :: fr) := by
        have h1 : Fr ⟨n.n, []⟩ ⟨a.tmps, []⟩ fr := ⟨ha.size, rfl, ha.get⟩
        have h2 := h1.put (d := p) hp x
        rw [hrec]
        simpa [Act.put] using h2
      refine roundIn_of_wpIn (F := Fence.wide) trivial ?_
      have hA := sat_el (hassign k i x hx hc (w.heap.size + 1) w.heap.size (.loop (rec .ready))) _ w2 hF hw2
      have hrb : (rec .ready).body = body ∧ (rec .ready).assign = assign := by rw [hrec]; exact ⟨rfl, rfl⟩
      rw [hrb.1, hrb.2]
      refine wpIn_mono hA (fun e a1 w4 h4 => ?_)
      cases e with
      | normal =>
        obtain ⟨hF1, hw4⟩ := h4
        obtain ⟨hl4, hw5⟩ := hback i w4 _ (.loop { rec .ready with state := .busy }) _ rfl hw4
        refine ⟨_, run_beginRound hl4 (by rw [hrec]), ?_⟩
        refine wpIn_mono (sat_el (hbody k i x hx hc (w.heap.size + 1) w.heap.size _) _ _ hF1 hw5) (fun e a2 w6 h6 => ?_)
        cases e with
        | normal =>
          obtain ⟨j, hcj, hw6⟩ := h6
          obtain ⟨hl6, hw7⟩ := hback j w6 _ (.loop { rec .ready with state := .ready, pending := none }) _ rfl hw6
          refine ⟨_, _, run_endRound none hl6, rfl, j, hcj, ?_⟩
          have : ({ ({ rec .ready with state := .busy } : Loop) with state := if (none : Option Code).isNone then .ready else .done, pending := none } : Loop) = rec .ready := by rw [hrec]; rfl
          rw [this]
          have h8 : ({ rec .ready with state := .ready, pending := none } : Loop) = rec .ready := by rw [hrec]
          rw [h8] at hw7
          exact hw7
        | exit id => exact h6.elim
        | goto t => exact h6.elim
        | ret => exact h6.elim
        | panic ch => exact h6.elim
        | outgrown => exact h6.elim
      | exit id => exact h4.elim
      | goto t => exact h4.elim
      | ret => exact h4.elim
      | panic ch => exact h4.elim
      | outgrown => exact h4.elim
    · rintro e w2 ⟨⟨v, rfl⟩, j, hcj, hw2⟩
      obtain ⟨hl2, hw3⟩ := hback j w2 _ (.loop { rec .ready with state := .exhausted }) _ rfl hw2
      refine ⟨none, w2.putObj (w.heap.size + 1) (.loop { rec .ready with state := .exhausted }), ?_, ?_⟩
      · have := run_endLoop (P := P) hl2 (by rw [hrec]; simp)
        rw [this]
        congr 1
        rw [hrec]
      · refine sat_el (done j hcj w.heap.size) _ _ ⟨ha.size, ?_, ha.get⟩ (by refine Hp.base ?_ hw3; exact ⟨rfl, .cons _ (List.Sublist.refl _)⟩)
        show [mkD w.heap.size] ++ a.defers = _
        rw [ha.defers]; rfl
end
/-! ### A region with a call of yield -/
/-- A list of operations in their order, calls of yield among them. -/
def slI (P : Program) (ops : Array Oper) (K : Act → World → Prop) : List Oper → Act → World → Prop
  | [], a, w => K a w
  | o :: l, a, w => if Region.wanted o (yielded ops a.tmps) then o.wpIn (rF none) 0 P a w (slI P ops K l) (fun _ _ _ => False) else slI P ops K l (a.put o.dst undef) w
section
variable {P : Program} {n : NN} {B : Nat} {w0 : Wd} {fr : FR} {hs : HS} {K : Act → World → Prop} {Q : Exit → Act → World → Prop} {ops : Array Oper} {l : List Oper} {d : Nat} {ty : TypeId} {pos : String} {aft : Array Edge}
theorem wpIn_to {o : Oper} {a : Act} {w : World} {N N' : Act → World → Prop} {Q Q' : Exit → Act → World → Prop} (h1 : ∀ a w, N a w → N' a w) (h2 : ∀ e a w, Q e a w → Q' e a w) (h : o.wpIn (rF none) 0 P a w N Q) : o.wpIn (rF none) 0 P a w N' Q' := by
  unfold Oper.wpIn at *
  refine ⟨h.1, ?_⟩
  have hh := h.2
  generalize (o.semAt (rF none).round a.eval).run P w = r at *
  cases r with
  | ok x w' =>
    cases x <;> simp only [Oper.uponIn] at hh ⊢ <;>
      first
        | exact h1 _ _ hh
        | exact ⟨hh.1, CallsIn.mono hh.2 (fun e w'' he => by cases e <;> first | exact h1 _ _ he | exact h2 _ _ _ he | exact (let ⟨x, y, z⟩ := he; ⟨x, y, h2 _ _ _ z⟩))⟩
        | exact ⟨hh.1, RowsIn.mono hh.2 (fun _ _ he => h1 _ _ he)⟩
        | exact ⟨hh.1, RoundIn.mono hh.2 (fun e w'' he => by cases e <;> first | exact h1 _ _ he | exact h2 _ _ _ he | exact (let ⟨x, y, z⟩ := he; ⟨x, y, h2 _ _ _ z⟩))⟩
  | halt x w' => cases x <;> simp only [Oper.uponIn] at hh ⊢ <;> exact h2 _ _ _ hh
theorem ops_slI {l0 : List Oper} (hk : ∀ a w, K a w → Q .normal a w) : ∀ (l pre : List Oper) (a : Act) (w : World), l0 = pre ++ l → slI P l0.toArray K l a w →
    wpOpsIn (rF none) 0 P l0.toArray Q (List.range' pre.length l.length) a w
  | [], pre, a, w, _, h => by unfold slI at h; exact hk _ _ h
  | o :: l, pre, a, w, he, h => by
    have ho : l0.toArray[pre.length]? = some o := by subst he; simp
    have ih := fun a w (hh : slI P l0.toArray K l a w) => ops_slI hk l (pre ++ [o]) a w (by simp [he]) hh
    simp only [List.length_append, List.length_cons, List.length_nil] at ih
    rw [List.length_cons, List.range'_succ]
    unfold wpOpsIn
    simp only [ho]
    unfold slI at h
    split
    · rename_i hw
      rw [if_pos hw] at h
      exact wpIn_to (fun a w h => ih a w h) (fun _ _ _ h => h.elim) h
    · rename_i hw
      rw [if_neg hw] at h
      exact ⟨fun _ _ => trivial, ih _ _ h⟩
theorem g_regY {id : Nat} {l : List Oper} (h : Sat n B w0 (slI P l.toArray (Q .normal) l) fr hs) : Sat n B w0 ((Code.region id l.toArray false).wpIn (rF none) 0 P Q) fr hs :=
  sat_mk fun a w ha hw => wpIn_region (by
    have := ops_slI (Q := Q) (fun _ _ h => h) l [] a w rfl (sat_el h a w ha hw)
    rw [List.size_toArray, List.range_eq_range']
    exact this)
theorem si_nil (h : Sat n B w0 K fr hs) : Sat n B w0 (slI P ops K []) fr hs := h
theorem si_one {o : Oper} (hd : noDf o = true) (h : Sat n B w0 (sl P ops (slI P ops K l) [o]) fr hs) : Sat n B w0 (slI P ops K (o :: l)) fr hs := sat_mk fun a w ha hw => by
  have h1 := sat_el h a w ha hw
  unfold sl at h1
  unfold slI
  split
  · rename_i hw'
    rw [if_pos hw'] at h1
    refine op_rF hd (Oper.upon_mono (fun a w h => ?_) (fun _ _ _ h => h) h1)
    unfold sl at h; exact h
  · rename_i hw'
    rw [if_neg hw'] at h1
    unfold sl at h1; exact h1
theorem si_yield {ι : Type} {W : ι → Wd} {H : ι → HS} {C : ι → Prop} {y ly : Nat} {x : Operand} {v : Value} {ts : Array TypeId} (hy : opv fr (.tmp y) = some (.func (.yield ly) #[] #[])) (hx : opv fr x = some v) (hn : d < n.n)
    (hr : ∀ w, Hp B w0 w hs → ∃ fn tmps assign body, (Instr.yield ly #[v]).run P w = .ok (.round ly fn tmps assign body) w ∧ RoundIn Fence.wide 0 P ly fn tmps assign body w (fun e w' => e = .returned (.bool true) ∧ ∃ j, C j ∧ Hp B (W j) w' (H j)))
    (h : ∀ j, C j → Sat n B (W j) (slI P ops K l) ((d, .bool true) :: fr) (H j)) :
    Sat n B w0 (slI P ops K (⟨some d, .call { callee := .value (.tmp y), args := #[x], argTypes := ts }, ty, pos, aft, none⟩ :: l)) fr hs := sat_mk fun a w ha hw => by
  unfold slI
  rw [if_pos (by simp [Region.wanted])]
  refine ⟨fun _ _ => trivial, ?_⟩
  obtain ⟨fn, tmps, assign, body, h1, h2⟩ := hr w hw
  have hrun : (Oper.semAt (rF none).round a.eval ⟨some d, .call { callee := .value (.tmp y), args := #[x], argTypes := ts }, ty, pos, aft, none⟩).run P w = .ok (.round ly fn tmps assign body) w := by
    rw [Oper.semAt_eq _ _ _ (fun c e => by cases e)]
    simp only [execOp, resolve, ha.opv hy, Deferred.ofValue, Sem.run_bind, Sem.run_pure, Result.andThen_ok, invoke]
    simp [ha.opv hx, h1]
  rw [hrun]
  refine ⟨rF_dep, RoundIn.mono h2 ?_⟩
  rintro e w' ⟨rfl, j, hj, hw'⟩
  exact sat_el (h j hj) _ _ (ha.put hn _) hw'
end
section
variable {P : Program} {n : NN} {B : Nat} {w0 : Wd} {fr : FR} {hs : HS} {K : Act → World → Prop} {Q : Exit → Act → World → Prop} {ro : Option Nat} {ops : Array Oper} {l : List Oper} {d : Nat} {ty : TypeId} {pos : String} {aft : Array Edge}
theorem kGR (id : Nat) {l : List Oper} (h : Sat n B w0 ((Code.region id l.toArray false).wpIn (rF ro) 0 P Q) fr hs) : Sat n B w0 ((Code.region id l.toArray false).wpIn (rF ro) 0 P Q) fr hs := h
theorem kGD (id : Nat) {l : List Oper} (h : Sat n B w0 ((Code.region id l.toArray true).wpIn (rF ro) 0 P Q) fr hs) : Sat n B w0 ((Code.region id l.toArray true).wpIn (rF ro) 0 P Q) fr hs := h
theorem kYc (t : Nat) {xs : Array Operand} {ts : Array TypeId} (h : Sat n B w0 (slI P ops K (⟨some d, .call ⟨.value (.tmp t), xs, ts⟩, ty, pos, aft, none⟩ :: l)) fr hs) : Sat n B w0 (slI P ops K (⟨some d, .call ⟨.value (.tmp t), xs, ts⟩, ty, pos, aft, none⟩ :: l)) fr hs := h
theorem kYo (op : Op) (h : Sat n B w0 (slI P ops K (⟨some d, op, ty, pos, aft, none⟩ :: l)) fr hs) : Sat n B w0 (slI P ops K (⟨some d, op, ty, pos, aft, none⟩ :: l)) fr hs := h
/-- A function's contract, whatever its end is to say. -/
theorem calls_enterG {k0 : Nat} {f : Nat} {fn : Func} {c : Code} {args : List Value} {R : Ending → World → Prop} {w : World} (hf : P.funcs[f]? = some fn) (hb : fn.body = some c) (hn : fn.ntmps = k0) (hl : args.length ≤ k0) (hw : Hp B w0 w hs)
    (h : Sat ⟨k0, []⟩ B w0 (c.wpIn (rF none) 0 P (bodyPost P fn R)) (slots 0 args) hs) : Calls P f args.toArray w R := by
  refine calls_rF 0 (callsIn_of_wp hf hb trivial (sat_el h _ w ⟨?_, rfl, ?_⟩ hw))
  · simp [hn]; omega
  · intro t v hv
    obtain ⟨_, h2⟩ := get_slots args 0 t v hv
    simp only [Nat.sub_zero] at h2
    have ht : t < args.length := (List.getElem?_eq_some_iff.1 h2).1
    refine ⟨by show t < k0; omega, ?_⟩
    have h3 : t < args.length + (fn.ntmps - args.length) := by omega
    simp only [Array.getD]
    rw [dif_pos (by simpa using h3)]
    simp only [Array.getInternal_eq_getElem]
    rw [Array.getElem_append_left (by simpa using ht)]
    simpa using (List.getElem?_eq_some_iff.1 h2).2
theorem e_retY {fn : Func} {R : Ending → World → Prop} (hr : fn.results = #[]) (hR : ∀ w, Hp B w0 w hs → R (.returned (.tuple #[])) w) (hd0 : n.ds = [] := by rfl) : Sat n B w0 (bodyPost P fn R .ret) fr hs := sat_mk fun a w ha hw =>
  ⟨ha.defers.trans hd0, .tuple #[], by simp [results, hr], hR w hw⟩
theorem e_retYn {fn : Func} {R : Ending → World → Prop} (hr : fn.results = #[]) (hR : ∀ w, Hp B w0 w hs → R (.returned (.tuple #[])) w) (hd0 : n.ds = [] := by rfl) : Sat n B w0 (bodyPost P fn R .normal) fr hs := sat_mk fun a w ha hw =>
  ⟨ha.defers.trans hd0, .tuple #[], by simp [results, hr], hR w hw⟩
end
/-! ### The beginning and the end of a function that ranges over functions -/
section
variable {P : Program} {n : NN} {B : Nat} {w0 : Wd} {fr : FR} {hs hs' : HS}
theorem leaves_marks {fn : Func} {tmps : Array Value} {R : Value → HS → Prop} {v : Value} (hv : ∀ w, Hp B w0 w hs → (results fn tmps).run P w = .ok v w) (hR : R v hs') (hsub : hs'.Sublist hs) :
    ∀ (Ds : List Nat) (ms : List (Nat × Obj)) (w : World), Hp B ⟨w0.w, (Ds.map fun D => (D, Obj.deferred (some []))) ++ ms⟩ w hs → w0.ms.Sublist ms → LeavesInM (rF none) 0 P fn tmps (Ends B w0 R) (Ds.map mkD) .returning w
  | [], ms, w, hw, hms => by
    have hw' : Hp B w0 w hs := by refine Hp.base ?_ hw; exact ⟨rfl, hms⟩
    exact ⟨v, hv w hw', v, hs', rfl, hR, hw'.sub hsub⟩
  | D :: Ds, ms, w, hw, hms => by
    obtain ⟨_, h2, _⟩ := hw.obj (D, .deferred (some [])) (.head _)
    refine ⟨by simp, .inl ⟨D, _, rfl, run_takeDeferred h2, ?_⟩⟩
    refine leaves_marks hv hR hsub Ds ms _ ?_ hms
    have h3 := hw.setObj (o' := .deferred none) (.head _) rfl
    refine Hp.base ?_ h3
    exact ⟨rfl, .cons _ (List.Sublist.refl _)⟩
theorem e_retG1 {w1 : Wd} {fn : Func} {R : Value → HS → Prop} {r : ResultVar} {v : Value} {Ds : List Nat} {ms : List (Nat × Obj)} (hd : n.ds = Ds.map mkD) (hw1 : w1 = ⟨w0.w, (Ds.map fun D => (D, Obj.deferred (some []))) ++ ms⟩) (hms : w0.ms.Sublist ms)
    (hr : fn.results = #[r]) (h1 : RV P B w0 fr hs r v) (hR : R v hs') (hsub : hs'.Sublist hs) : Sat n B w1 (bodyPostM (rF none) 0 P fn (Ends B w0 R) .ret) fr hs := sat_mk fun a w ha hw => by
  show LeavesInM (rF none) 0 P fn a.tmps (Ends B w0 R) a.defers .returning w
  rw [ha.defers, hd]
  subst hw1
  exact leaves_marks (fun w hw => by simp [results_rv1, hr, RV.run ha hw h1]) hR hsub Ds ms w hw hms
theorem fn_enterG {k0 : Nat} {f : Nat} {fn : Func} {c : Code} {args : List Value} {R : Value → HS → Prop} (hf : P.funcs[f]? = some fn) (hb : fn.body = some c) (hn : fn.ntmps = k0) (hl : args.length ≤ k0)
    (h : Sat ⟨k0, []⟩ B w0 (c.wpIn (rF none) 0 P (bodyPostM (rF none) 0 P fn (Ends B w0 R))) (slots 0 args) hs) : Fn P f args.toArray B w0 hs R := fn_mk fun w hw => by
  refine calls_rF 0 (callsIn_of_wp_marks hf hb trivial (sat_el h _ w ⟨?_, rfl, ?_⟩ hw))
  · simp [hn]; omega
  · intro t v hv
    obtain ⟨_, h2⟩ := get_slots args 0 t v hv
    simp only [Nat.sub_zero] at h2
    have ht : t < args.length := (List.getElem?_eq_some_iff.1 h2).1
    refine ⟨by show t < k0; omega, ?_⟩
    have h3 : t < args.length + (fn.ntmps - args.length) := by omega
    simp only [Array.getD]
    rw [dif_pos (by simpa using h3)]
    simp only [Array.getInternal_eq_getElem]
    rw [Array.getElem_append_left (by simpa using ht)]
    simpa using (List.getElem?_eq_some_iff.1 h2).2
end
end Go.Proofs.YtmblgbcipniecaaGreatDoor

namespace Go.Proofs.YtmblgbcipniecaaGreatDoor
open Go.RowKit

/-- A map after a write. -/
def mset (L : Mp) (x : List Int) (v : Value) : Mp := match plc x L 0 with | some i => L.put i v | none => L ++ [(x, v)]
section
variable {P : Program} {w : World}
theorem run_mapUpdate {t : TypeId} {b : Bool} {k m : Nat} {z v : Value} {L : Mp} {x : List Int} (h : mpt P t = some (b, k, z)) (hb : w.heap[m]? = some (mapO b L)) (hx : x.length = k) (hL : ∀ p ∈ L, p.1.length = k) :
    (Instr.mapUpdate t (.map (some m)) (vOf b x) v).run P w = .ok () { w with heap := w.heap.setIfInBounds m (mapO b (mset L x v)) } := by
  obtain ⟨kt, et, hu, h1, h2, h3⟩ := mpt_to h
  subst h2
  have hc := fun em => run_checkK em h1 hx w
  have hf := run_findK (w := w) h1 hx L hL
  cases hp : plc x L 0 with
  | none =>
    rw [hp] at hf
    have e4 : mapO (agB P kt) (L ++ [(x, v)]) = .map ((((ents L).map (mEn (agB P kt))).toArray).push { key := vOf (agB P kt) x, val := v, born := L.length }) (L.length + 1) := by
      simp [mapO, mOb, ents_snoc, mEn]
    simp only [Instr.mapUpdate, Sem.run_bind, run_underlying hu, Result.andThen_ok, run_getObjM hb, hc, hf, Option.map_none, run_setObjM _ hb, mset, hp, e4]
  | some i =>
    rw [hp] at hf
    obtain ⟨_, p, q1, q2⟩ := plc_get hp
    rw [Nat.sub_zero] at q1
    have e1 : ((((ents L).map (mEn (agB P kt))).toArray)[i]?.map (·.key)).getD (vOf (agB P kt) x) = vOf (agB P kt) x := by
      rw [entA_get, q1]; simp [mEn, q2]
    have e3 : (((ents L).map (mEn (agB P kt))).toArray).modify i (fun e => { e with key := vOf (agB P kt) x, val := v }) = ((ents (L.put i v)).map (mEn (agB P kt))).toArray := by
      apply Array.ext_getElem?
      intro j
      rw [Array.getElem?_modify, entA_get, entA_get]
      unfold Mp.put
      by_cases hij : i = j
      · subst hij
        have hlt : i < L.length := (List.getElem?_eq_some_iff.1 q1).1
        rw [if_pos rfl, q1, List.getElem?_set_self hlt]
        simp [mEn, q2]
      · rw [if_neg hij, List.getElem?_set_ne hij]
    have e5 : mapO (agB P kt) (L.put i v) = .map ((ents (L.put i v)).map (mEn (agB P kt))).toArray L.length := by
      simp [mapO, mOb, Mp.put]
    simp only [Instr.mapUpdate, Sem.run_bind, run_underlying hu, Result.andThen_ok, run_getObjM hb, hc, hf, Option.map_some, e1, Instr.keyThatStays, sameBits_vOf, if_true, Sem.run_pure, e3, run_setObjM _ hb, mset, hp, e5]
end
section
variable {P : Program} {n : NN} {B : Nat} {w0 : Wd} {fr : FR} {hs S : HS} {ty : TypeId} {K : Act → World → Prop} {ops : Array Oper} {l : List Oper} {pos : String} {aft : Array Edge} {fl : List Nat}
theorem s_mapUpdate {t : TypeId} {xm xk xv : Operand} {b : Bool} {k m : Nat} {z v : Value} {L : Mp} {x : List Int} {ms' : List (Nat × Obj)} (h : mpt P t = some (b, k, z)) (h1 : opv fr xm = some (.map (some m))) (h2 : opv fr xk = some (vOf b x)) (h3 : opv fr xv = some v) (hx : x.length = k) (hL : ∀ p ∈ L, p.1.length = k) (hu : UpdM m (mapO b L) (mapO b (mset L x v)) w0.ms ms')
    (hk : Sat n B ⟨w0.w, ms'⟩ (sl P ops K l) fr hs) : Sat n B w0 (sl P ops K (⟨none, .mapUpdate t xm xk xv, ty, pos, aft, none⟩ :: l)) fr hs := sat_mk fun a w ha hw => by
  have h4 := sat_el hk a _ ha (hw.setObj hu (mapO_not _ _))
  unfold sl
  rw [if_pos (by simp [Region.wanted])]
  unfold Oper.wp
  have := run_mapUpdate (P := P) (w := w) (v := v) h (hw.map hu.mem) hx hL
  have hrun : (execOp a.eval ⟨none, .mapUpdate t xm xk xv, ty, pos, aft, none⟩).run P w = .ok .skip { w with heap := w.heap.setIfInBounds m (mapO b (mset L x v)) } := by
    simp [execOp, ha.opv h1, ha.opv h2, ha.opv h3, this]
  rw [hrun]
  exact h4
theorem k_mapUpdate {t : TypeId} {xm xk xv : Operand} {b : Bool} {k m : Nat} {z v : Value} {L : Mp} {x : List Int} {ms' : List (Nat × Obj)} (h : mpt P t = some (b, k, z)) (h1 : opv fr xm = some (.map (some m))) (h2 : opv fr xk = some (vOf b x)) (h3 : opv fr xv = some v) (hx : x.length = k) (hL : ∀ p ∈ L, p.1.length = k) (hu : UpdM m (mapO b L) (mapO b (mset L x v)) w0.ms ms')
    (hk : Rk P n B ⟨w0.w, ms'⟩ ops K fl l hs fr hs) : Rk P n B w0 ops K (5 :: fl) (⟨none, .mapUpdate t xm xk xv, ty, pos, aft, none⟩ :: l) S fr hs := by
  refine k_effW (R := fun _ w1 y => y = hs ∧ w1 = ⟨w0.w, ms'⟩) rfl (fun a ha F w hw => ?_) ?_
  · have := run_mapUpdate (P := P) (w := w) (v := v) h (hw.map hu.mem) hx hL
    have hrun : (execOp a.eval ⟨none, .mapUpdate t xm xk xv, ty, pos, aft, none⟩).run P w = .ok .skip { w with heap := w.heap.setIfInBounds m (mapO b (mset L x v)) } := by
      simp [execOp, ha.opv h1, ha.opv h2, ha.opv h3, this]
    rw [hrun]
    exact ⟨_, hs, ⟨rfl, rfl⟩, hw.setObj hu (mapO_not _ _)⟩
  · rintro a ha v' w1 y ⟨rfl, rfl⟩
    unfold Rk at hk
    have : a.put none v' = a := by simp [Act.put]
    rw [this]
    exact hk a ha
/-- A map is written to, beside what does not look at maps. -/
theorem k_mapUpdate7 {f : Nat} {t : TypeId} {xm xk xv : Operand} {b : Bool} {k m : Nat} {z v : Value} {L : Mp} {x : List Int} {ms' : List (Nat × Obj)} (h : mpt P t = some (b, k, z)) (hf : f = (2 * 0 + 1) + 6) (h1 : opv fr xm = some (.map (some m))) (h2 : opv fr xk = some (vOf b x)) (h3 : opv fr xv = some v) (hx : x.length = k) (hL : ∀ p ∈ L, p.1.length = k) (hu : UpdM m (mapO b L) (mapO b (mset L x v)) w0.ms ms')
    (hk : Rk P n B ⟨w0.w, ms'⟩ ops K fl l S fr hs) : Rk P n B w0 ops K (f :: fl) (⟨none, .mapUpdate t xm xk xv, ty, pos, aft, none⟩ :: l) S fr hs := by
  refine k_eff7 (R := fun _ w1 => w1 = ⟨w0.w, ms'⟩) 0 hf rfl (fun a ha F w hw => ?_) ?_
  · have := run_mapUpdate (P := P) (w := w) (v := v) h (hw.map hu.mem) hx hL
    have hrun : (execOp a.eval ⟨none, .mapUpdate t xm xk xv, ty, pos, aft, none⟩).run P w = .ok .skip { w with heap := w.heap.setIfInBounds m (mapO b (mset L x v)) } := by
      simp [execOp, ha.opv h1, ha.opv h2, ha.opv h3, this]
    rw [hrun]
    exact ⟨_, rfl, hw.setObj hu (mapO_not _ _)⟩
  · rintro a ha v' w1 rfl
    unfold Rk at hk
    have : a.put none v' = a := by simp [Act.put]
    rw [this]
    exact ⟨.any rfl .refl, hk a ha⟩
end
/-! ### What has been seen -/
theorem plc_none {x : List Int} : ∀ {L : Mp} {a : Nat}, plc x L a = none → ∀ e ∈ L, e.1 ≠ x
  | [], _, _, e, h => by cases h
  | q :: L, a, hp, e, h => by
    unfold plc at hp
    split at hp
    · cases hp
    · rename_i hq
      rcases List.mem_cons.1 h with rfl | h
      · intro he; exact hq he.symm
      · exact plc_none hp e h
/-- The map says yes of what is in S, and of nothing else. -/
structure SnM (k : Nat) (S : List Int → Prop) (L : Mp) : Prop where
  len : ∀ e ∈ L, e.1.length = k
  yes : ∀ e ∈ L, e.2 = .bool true
  mem : ∀ x, (∃ e ∈ L, e.1 = x) ↔ S x
theorem SnM.nil (k : Nat) {S : List Int → Prop} (h : ∀ x, ¬ S x) : SnM k S [] := ⟨fun e h => (by cases h), fun e h => (by cases h), fun x => ⟨fun ⟨e, h, _⟩ => (by cases h), fun hx => absurd hx (h x)⟩⟩
theorem SnM.look {k : Nat} {S : List Int → Prop} {L : Mp} (h : SnM k S L) (x : List Int) {b : Bool} (hb : b = true ↔ S x) : lkp L x (.bool false) = .bool b := by
  unfold lkp
  cases hp : plc x L 0 with
  | none =>
    cases b with
    | false => rfl
    | true =>
      obtain ⟨e, he, hx⟩ := (h.mem x).2 (hb.1 rfl)
      exact absurd hx (plc_none hp e he)
  | some j =>
    obtain ⟨_, q, q1, q2⟩ := plc_get hp
    rw [Nat.sub_zero] at q1
    have hm := List.mem_of_getElem? q1
    have hS := (h.mem x).1 ⟨q, hm, q2⟩
    rw [hb.2 hS]
    show vat L j = _
    unfold vat
    rw [q1]
    exact h.yes q hm
theorem SnM.step {k : Nat} {S S' : List Int → Prop} {L : Mp} (h : SnM k S L) {x : List Int} (hx : x.length = k) (hS : ∀ y, S' y ↔ S y ∨ y = x) : SnM k S' (mset L x (.bool true)) := by
  have key : ∀ e, e ∈ mset L x (.bool true) → e ∈ L ∨ e = (x, .bool true) := fun e he => by
    unfold mset at he
    split at he
    · rename_i j hp
      obtain ⟨_, q, q1, q2⟩ := plc_get hp
      rw [Nat.sub_zero] at q1
      unfold Mp.put at he
      rw [q1] at he
      rcases List.mem_or_eq_of_mem_set he with h1 | h1
      · exact .inl h1
      · exact .inr (by rw [h1]; simp [q2])
    · rcases List.mem_append.1 he with h1 | h1
      · exact .inl h1
      · exact .inr (by simpa using h1)
  have back : ∀ y, (∃ e ∈ L, e.1 = y) ∨ y = x → ∃ e ∈ mset L x (.bool true), e.1 = y := fun y hy => by
    unfold mset
    split
    · rename_i j hp
      obtain ⟨_, q, q1, q2⟩ := plc_get hp
      rw [Nat.sub_zero] at q1
      unfold Mp.put
      rw [q1]
      have hlt : j < L.length := (List.getElem?_eq_some_iff.1 q1).1
      by_cases e : y = x
      · exact ⟨_, List.mem_set hlt _, by rw [e]; simp [q2]⟩
      · rcases hy with ⟨e', he', hx'⟩ | hy
        · obtain ⟨a, ha, hae⟩ := List.getElem_of_mem he'
          have haj : a ≠ j := fun ej => by
            subst ej
            rw [List.getElem?_eq_getElem ha, hae] at q1
            injection q1 with q1
            subst q1
            exact e (by rw [← hx', q2])
          refine ⟨e', ?_, hx'⟩
          refine List.mem_iff_getElem?.2 ⟨a, ?_⟩
          rw [List.getElem?_set_ne (Ne.symm haj), List.getElem?_eq_getElem ha, hae]
        · exact absurd hy e
    · rcases hy with ⟨e', he', hx'⟩ | hy
      · exact ⟨e', List.mem_append_left _ he', hx'⟩
      · exact ⟨_, List.mem_append_right _ (.head _), hy.symm⟩
  refine ⟨fun e he => ?_, fun e he => ?_, fun y => ⟨?_, fun hy => ?_⟩⟩
  · rcases key e he with h1 | h1
    · exact h.len e h1
    · rw [h1]; exact hx
  · rcases key e he with h1 | h1
    · exact h.yes e h1
    · rw [h1]
  · rintro ⟨e, he, rfl⟩
    rcases key e he with h1 | h1
    · exact (hS _).2 (.inl ((h.mem _).1 ⟨e, h1, rfl⟩))
    · rw [h1]; exact (hS _).2 (.inr rfl)
  · rcases (hS y).1 hy with h1 | h1
    · exact back y (.inl ((h.mem y).2 h1))
    · exact back y (.inr h1)
end Go.Proofs.YtmblgbcipniecaaGreatDoor

namespace Go.Proofs.YtmblgbcipniecaaGreatDoor
open Go.RowKit
section
variable {P : Program} {n : NN} {B : Nat} {w0 : Wd} {fr fr' : FR} {hs hs' S S' X : HS} {ty : TypeId} {K : Act → World → Prop} {Ka : Act → Prop}
  {ops : Array Oper} {l : List Oper} {d f : Nat} {fl : List Nat} {pos : String} {aft : Array Edge} {v : Value}
theorem run_callF {x : Operand} {g : Nat} {xs : List Operand} {vs fs cs us : List Value} {ts : Array TypeId} {a : Act} (hf : isGo P g = true) (ha : Fr n a fr) (hx : opv fr x = some (.func (.func g) fs.toArray cs.toArray)) (hv : argv fr xs = some vs) (hu : fs ++ vs ++ cs = us) (o : Option Nat) (w : World) :
    (execOp a.eval ⟨o, .call { callee := .value x, args := xs.toArray, argTypes := ts }, ty, pos, aft, none⟩).run P w = .ok (.enter g us.toArray) w := by
  unfold isGo at hf
  split at hf
  · rename_i fn hfn
    simp only [Bool.and_eq_true, Bool.not_eq_true'] at hf
    obtain ⟨h1, h2⟩ := hf
    have h3 : ¬ fn.body = none := by intro hb; simp [hb] at h1
    have h2' : ¬ fn.name = "runtime.NumGoroutine" := by simpa using h2
    have h4 := argv_map ha xs vs hv
    have h5 : (xs.toArray.map a.eval) = vs.toArray := by rw [← h4]; simp
    have h6 : a.eval x = .func (.func g) fs.toArray cs.toArray := ha.opv hx
    have h7 : fs.toArray ++ vs.toArray ++ cs.toArray = us.toArray := by rw [← hu]; simp
    simp only [execOp, resolve, h5, h6, Deferred.ofValue, Sem.run_bind, Sem.run_pure, Result.andThen_ok, invoke, callFunc, h7]
    simp [hfn, h2', h3]
  · cases hf
theorem s_callF {x : Operand} {g : Nat} {xs : List Operand} {vs fs cs us : List Value} {ts : Array TypeId} {R : Value → HS → Prop} (hf : isGo P g = true) (hx : opv fr x = some (.func (.func g) fs.toArray cs.toArray)) (hv : argv fr xs = some vs) (hu : fs ++ vs ++ cs = us) (hc : Fn P g us.toArray B w0 hs R) (hn : d < n.n)
    (h : ∀ v hs', R v hs' → Sat n B w0 (sl P ops K l) ((d, v) :: fr) hs') :
    Sat n B w0 (sl P ops K (⟨some d, .call { callee := .value x, args := xs.toArray, argTypes := ts }, ty, pos, aft, none⟩ :: l)) fr hs := by
  unfold Sat at h ⊢
  unfold Fn at hc
  intro a w ha hw
  refine sl_step rfl ?_
  unfold Oper.wp
  rw [run_callF hf ha hx hv hu (some d) w]
  refine (hc w hw).mono ?_
  rintro e w' ⟨v, hs', rfl, hr, hw'⟩
  exact h v hs' hr _ _ (ha.put hn v) hw'
theorem o_mkF {g : _root_.Go.Fn} {xs ys : List Operand} {fs cs : List Value} (hx : argv fr xs = some fs) (hy : argv fr ys = some cs) : OpF P n B w0 (.makeFunc g xs.toArray ys.toArray) ty fr hs (.func g fs.toArray cs.toArray) := fun a w ha _ => by
  have h1 : (xs.toArray.map a.eval) = fs.toArray := by rw [← argv_map ha xs fs hx]; simp
  have h2 : (ys.toArray.map a.eval) = cs.toArray := by rw [← argv_map ha ys cs hy]; simp
  simp [ex, execOp, Instr.makeFunc, h1, h2]
end
section
variable {n : NN} {B : Nat} {w0 : Wd} {fr fr' : FR} {hs hs' S S' X : HS} {ty : TypeId} {K : Act → World → Prop} {Ka : Act → Prop}
  {ops : Array Oper} {l : List Oper} {d f : Nat} {fl : List Nat} {pos : String} {aft : Array Edge} {v : Value}
theorem sMF {g : _root_.Go.Fn} {xs ys : List Operand} {fs cs : List Value} (h : Sat n B w0 (sl Tryz.prog ops K l) ((d, .func g fs.toArray cs.toArray) :: fr) hs) (hx : argv fr xs = some fs := by rfl) (hy : argv fr ys = some cs := by rfl) (hn : d < n.n := by first | decide | exact ltd rfl) :
    Sat n B w0 (sl Tryz.prog ops K (⟨some d, .makeFunc g xs.toArray ys.toArray, ty, pos, aft, none⟩ :: l)) fr hs := s_pure (o_mkF hx hy) hn h
theorem kT (t : Nat) {xs : Array Operand} {ts : Array TypeId} (h : Sat n B w0 (sl Tryz.prog ops K (⟨some d, .call ⟨.value (.tmp t), xs, ts⟩, ty, pos, aft, none⟩ :: l)) fr hs) : Sat n B w0 (sl Tryz.prog ops K (⟨some d, .call ⟨.value (.tmp t), xs, ts⟩, ty, pos, aft, none⟩ :: l)) fr hs := h
/-- A call of a function value that leaves memory alike. -/
theorem sF {t g : Nat} {xs : List Operand} {vs fs cs us : List Value} {ts : Array TypeId} (hc : Fn Tryz.prog g us.toArray B w0 hs (fun u h => u = v ∧ h = hs)) (h : Sat n B w0 (sl Tryz.prog ops K l) ((d, v) :: fr) hs) (hg : isGo Tryz.prog g = true) (hx : get fr t = some (.func (.func g) fs.toArray cs.toArray) := by rfl) (hv : argv fr xs = some vs := by rfl) (hu : fs ++ vs ++ cs = us := by rfl) (hn : d < n.n := by first | decide | exact ltd rfl) :
    Sat n B w0 (sl Tryz.prog ops K (⟨some d, .call ⟨.value (.tmp t), xs.toArray, ts⟩, ty, pos, aft, none⟩ :: l)) fr hs := s_callF hg (x := .tmp t) hx hv hu hc hn (by rintro u hs' ⟨rfl, rfl⟩; exact h)
theorem goF {f : Nat} (h : getT goT f = some ()) : isGo Tryz.prog f = true := goTOf h
end
end Go.Proofs.YtmblgbcipniecaaGreatDoor
