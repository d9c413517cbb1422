/- Maps of the call's own: what their operations do. -/
import Derived.Test.YtnbickholedckaaMStep
namespace Go.Proofs.Ytnbickholedckaa
open Go.RowKit

section
variable {P : Program} {B : Nat} {w0 : Wd}
def CkFl (P : Program) (em : Bool) (D d : Nat) : Prop := ∀ (t : TypeId) (k : Nat) (xs : List Int) (w : World), fl P d t = some k → xs.length = k → (Instr.checkKey em (D + d) t (vOf (agB P t) xs)).run P w = .ok () w
theorem ck_fields {em : Bool} {D d : Nat} (ih : CkFl P em D d) {xs : List Int} {n : Nat} (hx : xs.length = n) (w : World) : ∀ (fs : List Field) (acc : Nat), flF (fl P d) fs acc = some n →
    (forIn fs PUnit.unit (fun f _ => (do
      if f.name ≠ "_" then
        Instr.checkKey em (D + d) f.type (← part f.type (ivs xs).toArray f.offset)
      pure (ForInStep.yield PUnit.unit) : Sem (ForInStep PUnit)))).run P w = .ok PUnit.unit w
  | [], acc, h => by simp
  | x :: fs, acc, h => by
    simp only [flF] at h
    split at h
    · rename_i k hk
      split at h
      · rename_i hc
        simp only [Bool.and_eq_true, bne_iff_ne, ne_eq, beq_iff_eq] at hc
        obtain ⟨hc1, hc2⟩ := hc
        have hle := flF_le _ _ _ _ h
        have e1 := ck_fields ih hx w fs (acc + k) h
        have e2 := ih x.type k ((xs.drop acc).take k) w hk (by simp; omega)
        simp only [List.forIn_cons, Sem.run_bind, hc1, ne_eq, not_false_eq_true, if_true, hc2, part_fl hk (show acc + k ≤ xs.length by omega), Result.andThen_ok, e2, Sem.run_pure]
        simpa using e1
      · cases h
    · cases h
theorem ck_fl (em : Bool) (D : Nat) : ∀ d, CkFl P em D d
  | 0, t, k, xs, w, h, _ => by simp [fl] at h
  | d + 1, t, k, xs, w, h, hx => by
    have ih := ck_fl em D d
    unfold fl at h
    unfold agB
    split at h
    · rename_i q hu
      split at h
      · rw [hu]
        rw [show D + (d + 1) = (D + d) + 1 from rfl, Instr.checkKey]
        simp [run_underlying hu, vOf, iv]
      · cases h
    · rename_i fs hu
      split at h
      · cases h
      · split at h
        · rename_i k' hf
          split at h
          · simp only [Option.some.injEq] at h
            subst h
            rw [hu]
            rw [show D + (d + 1) = (D + d) + 1 from rfl, Instr.checkKey]
            simp only [vOf, if_true, Sem.run_bind, run_underlying hu, Result.andThen_ok]
            rw [← Array.forIn_toList]
            have h7 := ck_fields ih hx w fs.toList 0 hf
            simp at h7 ⊢
            rw [h7]
            rfl
          · cases h
        · cases h
    · rename_i m e hu
      split at h
      · rename_i k' hk
        split at h
        · rename_i h2
          simp only [Option.some.injEq] at h; subst h
          simp only [Bool.and_eq_true, decide_eq_true_eq, beq_iff_eq] at h2
          obtain ⟨⟨_, h3⟩, h4⟩ := h2
          obtain ⟨i, hi⟩ := Option.isSome_iff_exists.1 h4
          rw [hu]
          rw [show D + (d + 1) = (D + d) + 1 from rfl, Instr.checkKey]
          simp only [vOf, if_true, Sem.run_bind, run_underlying hu, Result.andThen_ok]
          simp only [Std.Legacy.Range.forIn_eq_forIn_range', Std.Legacy.Range.size, Nat.sub_zero, Nat.add_one_sub_one, Nat.div_one]
          have hsz : (sizeOf e).run P w = .ok k' w := run_sizeOf (fl_sh hk) w
          have key : ∀ (n a : Nat), a + n = m → (forIn (List.range' a n) PUnit.unit (fun i _ => (do Instr.checkKey em (D + d) e (← part e (ivs xs).toArray (i * (← sizeOf e))); pure (ForInStep.yield PUnit.unit) : Sem (ForInStep PUnit)))).run P w = .ok PUnit.unit w := by
            intro n
            induction n with
            | zero => intro a _; simp
            | succ n ihn =>
              intro a ha
              have hle : a * k' + k' ≤ m * k' := by
                have := Nat.mul_le_mul_right k' (show a + 1 ≤ m by omega)
                rwa [Nat.add_mul, Nat.one_mul] at this
              have e2 := ih e k' ((xs.drop (a * k')).take k') w hk (by simp; omega)
              rw [List.range'_succ]
              simp only [List.forIn_cons, Sem.run_bind, hsz, Result.andThen_ok, part_fl hk (show a * k' + k' ≤ xs.length by omega), e2, Sem.run_pure]
              exact ihn (a + 1) (by omega)
          have h7 := key m 0 (by omega)
          simp at h7 ⊢
          rw [h7]
          rfl
        · cases h
      · cases h
    · cases h
/-- Keys that are made of k numbers. -/
def kyt (P : Program) (t : TypeId) : Option Nat := if P.eqGuardType P.depth t = false then fl P 5 t else none
theorem run_checkK {t : TypeId} {k : Nat} {xs : List Int} (em : Bool) (h : kyt P t = some k) (hx : xs.length = k) (w : World) : (Instr.checkKey em 10000 t (vOf (agB P t) xs)).run P w = .ok () w := by
  unfold kyt at h
  split at h
  · exact ck_fl em 9995 5 t k xs w h hx
  · cases h
theorem run_eqK {t : TypeId} {k : Nat} {xs ys : List Int} (h : kyt P t = some k) (hx : xs.length = k) (hy : ys.length = k) (w : World) : (Op.equal t (vOf (agB P t) xs) (vOf (agB P t) ys)).run P w = .ok (decide (xs = ys)) w := by
  unfold kyt at h
  split at h
  · exact eq_fl (P := P) 9995 5 t k xs ys w h hx hy
  · cases h
/-- The first entry of a key. -/
def fnd (x : List Int) : List Ent → Nat → Option (Nat × Value)
  | [], _ => none
  | p :: es, i => if x = p.1 then some (i, p.2.1) else fnd x es (i + 1)
theorem run_findA {t : TypeId} {k : Nat} {x : List Int} (h : kyt P t = some k) (hx : x.length = k) (w : World) : ∀ (es : List Ent) (i : Nat), (∀ p ∈ es, p.1.length = k) →
    (Instr.findAsking t (vOf (agB P t) x) (es.map (mEn (agB P t))) i).run P w = .ok (fnd x es i) w
  | [], i, _ => by simp [Instr.findAsking, fnd]
  | p :: es, i, hes => by
    have e1 := run_eqK h hx (hes p (.head _)) w
    have e2 := run_findA h hx w es (i + 1) (fun q hq => hes q (.tail _ hq))
    simp only [List.map_cons, Instr.findAsking, mEn, Sem.run_bind, e1, Result.andThen_ok, fnd]
    by_cases hh : x = p.1
    · simp [hh]
    · simp only [hh, decide_false, Bool.false_eq_true, if_false]
      exact e2
end
end Go.Proofs.Ytnbickholedckaa
