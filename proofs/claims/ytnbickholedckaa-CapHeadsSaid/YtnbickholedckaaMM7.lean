/- A map's value is turned where the order is drawn: m[k] op= v. -/
import Derived.Test.YtnbickholedckaaMM6
namespace Go.Proofs.Ytnbickholedckaa
open Go.RowKit

theorem iv_inj {x y : Int} (h : iv x = iv y) : x = y := by simpa [iv] using h
theorem ivs_inj : ∀ {x y : List Int}, ivs x = ivs y → x = y
  | [], [], _ => rfl
  | [], b :: y, h => by simp [ivs] at h
  | a :: x, [], h => by simp [ivs] at h
  | a :: x, b :: y, h => by
    simp only [ivs, List.map_cons, List.cons.injEq] at h
    rw [iv_inj h.1, ivs_inj (x := x) (y := y) h.2]
theorem vOf_inj {b : Bool} {k : Nat} {x y : List Int} (hb : b = !(k == 1)) (hx : x.length = k) (hy : y.length = k) (h : vOf b x = vOf b y) : x = y := by
  subst hb
  by_cases hk : k = 1
  · subst hk
    obtain ⟨a, rfl⟩ := List.length_eq_one_iff.1 hx
    obtain ⟨c, rfl⟩ := List.length_eq_one_iff.1 hy
    simp [vOf, iv] at h
    rw [h]
  · have : (k == 1) = false := by simpa using hk
    rw [this] at h
    simp only [vOf, Bool.not_false, if_true, Value.agg.injEq] at h
    exact ivs_inj (by simpa using congrArg Array.toList h)
theorem mapO_inj {b : Bool} {k : Nat} {L L' : Mp} (hb : b = !(k == 1)) (h1 : ∀ p ∈ L, p.1.length = k) (h2 : ∀ p ∈ L', p.1.length = k) (h : mapO b L = mapO b L') : L = L' := by
  have e : (ents L).map (mEn b) = (ents L').map (mEn b) := by
    simp only [mapO, mOb, Obj.map.injEq] at h
    simpa using congrArg Array.toList h.1
  apply List.ext_getElem?
  intro i
  have e1 := congrArg (·[i]?) e
  simp only [List.getElem?_map, ents_get, Option.map_map] at e1
  cases hp : L[i]? with
  | none =>
    rw [hp] at e1
    cases hq : L'[i]? with
    | none => rfl
    | some q => rw [hq] at e1; simp at e1
  | some p =>
    rw [hp] at e1
    cases hq : L'[i]? with
    | none => rw [hq] at e1; simp at e1
    | some q =>
      rw [hq] at e1
      simp only [Option.map_some, Function.comp_apply, Option.some.injEq, mEn, MapEntry.mk.injEq] at e1
      have e2 := vOf_inj hb (h1 p (List.mem_of_getElem? hp)) (h2 q (List.mem_of_getElem? hq)) e1.1
      congr 1
      exact Prod.ext e2 e1.2.1
theorem UpdM.fwd {m : Nat} {o o' : Obj} {ms ms' : List (Nat × Obj)} (hu : UpdM m o o' ms ms') : ∀ p ∈ ms, p ∈ ms' ∨ (p = (m, o) ∧ (m, o') ∈ ms') := by
  induction hu with
  | head ms =>
    intro p hp
    rcases List.mem_cons.1 hp with rfl | hp
    · exact .inr ⟨rfl, .head _⟩
    · exact .inl (.tail _ hp)
  | tail q h ih =>
    intro p hp
    rcases List.mem_cons.1 hp with rfl | hp
    · exact .inl (.head _)
    · rcases ih p hp with h | ⟨h1, h2⟩
      · exact .inl (.tail _ h)
      · exact .inr ⟨h1, .tail _ h2⟩
theorem plc_app (x : List Int) (p : List Int × Value) : ∀ (L : Mp) (i : Nat), plc x (L ++ [p]) i = match plc x L i with | some j => some j | none => if x = p.1 then some (i + L.length) else none
  | [], i => by simp [plc]
  | q :: L, i => by
    simp only [List.cons_append, plc]
    split
    · rfl
    · rw [plc_app x p L (i + 1)]
      cases plc x L (i + 1) with
      | some j => rfl
      | none => simp only [List.length_cons]; rw [show i + 1 + L.length = i + (L.length + 1) by omega]
theorem lkp_app0 {L : Mp} {x' : List Int} (h : plc x' L 0 = none) (x : List Int) (z : Value) : lkp (L ++ [(x', z)]) x z = lkp L x z := by
  unfold lkp
  rw [plc_app]
  cases hp : plc x L 0 with
  | some j =>
    have := plc_get hp
    rw [Nat.sub_zero] at this
    obtain ⟨_, p, h1, _⟩ := this
    have hj : j < L.length := (List.getElem?_eq_some_iff.1 h1).1
    simp [vat, List.getElem?_append_left hj]
  | none =>
    simp only
    split
    · simp [vat]
    · rfl
theorem Ext0.look {k m : Nat} {a c : Wd} {b : Bool} {L : Mp} (hk0 : k ≠ 0) (he : Ext0 k a c) (hm : (m, mapO b L) ∈ a.ms) (hb : b = !(k == 1)) (hL : ∀ p ∈ L, p.1.length = k) :
    ∃ L', (m, mapO b L') ∈ c.ms ∧ (∀ p ∈ L', p.1.length = k) ∧ ∀ x, lkp L' x (iv 0) = lkp L x (iv 0) := by
  induction he with
  | refl => exact ⟨L, hm, hL, fun _ => rfl⟩
  | any hk _ _ => exact absurd hk hk0
  | step he hu hp hx hL1 ih =>
    obtain ⟨L', h1, h2, h3⟩ := ih
    rcases hu.fwd _ h1 with h | ⟨h4, h5⟩
    · exact ⟨L', h, h2, h3⟩
    · simp only [Prod.mk.injEq] at h4
      obtain ⟨rfl, h4⟩ := h4
      subst hb
      have := mapO_inj rfl h2 hL1 h4
      subst this
      refine ⟨_, h5, fun p hp => ?_, fun x => by rw [lkp_app0 hp]; exact h3 x⟩
      rcases List.mem_append.1 hp with hp | hp
      · exact h2 p hp
      · rw [List.mem_singleton] at hp; subst hp; exact hx
section
variable {P : Program} {n : NN} {B : Nat} {w0 : Wd} {fr : FR} {hs S : HS} {ty : TypeId} {K : Act → World → Prop} {ops : Array Oper} {l : List Oper} {d f : Nat} {fl : List Nat} {pos : String} {aft : Array Edge}
/-- The lookup of m[k] op= v. -/
theorem k_lookup6 {t : TypeId} {xm xk : Operand} {b : Bool} {k m : Nat} {L : Mp} {x : List Int} (h : mpt P t = some (b, k, iv 0)) (hf : f = (2 * k) + 6) (hk0 : k ≠ 0) (hb : b = !(k == 1)) (h1 : opv fr xm = some (.map (some m))) (h2 : opv fr xk = some (vOf b x)) (hm : (m, mapO b L) ∈ w0.ms) (hx : x.length = k) (hL : ∀ p ∈ L, p.1.length = k) (hn : d < n.n)
    (hk : Rk P n B w0 ops K fl l S ((d, lkp L x (iv 0)) :: fr) hs) : Rk P n B w0 ops K (f :: fl) (⟨some d, .lookup t xm xk false, ty, pos, aft, none⟩ :: l) S fr hs :=
  k_pure6 k hf (fun w1 he => by
    obtain ⟨L', q1, q2, q3⟩ := Ext0.look hk0 he hm hb hL
    rw [← q3 x]
    exact o_lookup h h1 h2 q1 hx q2) hn hk
/-- The entry of m[k] op= v. -/
theorem k_mapEntry7 {t : TypeId} {xm xk : Operand} {b : Bool} {k m : Nat} {L : Mp} {x : List Int} (h : mpt P t = some (b, k, iv 0)) (hf : f = (2 * k + 1) + 6) (hb : b = !(k == 1)) (h1 : opv fr xm = some (.map (some m))) (h2 : opv fr xk = some (vOf b x)) (hm : (m, mapO b L) ∈ w0.ms) (hx : x.length = k) (hL : ∀ p ∈ L, p.1.length = k) (hn : d < n.n)
    {ms' : List (Nat × Obj)} (hu : UpdM m (mapO b L) (mapO b (L ++ [(x, iv 0)])) w0.ms ms')
    (ho : ∀ i, plc x L 0 = some i → Rk P n B w0 ops K fl l S ((d, .tuple #[vat L i, goInt i]) :: fr) hs)
    (hnw : plc x L 0 = none → Rk P n B ⟨w0.w, ms'⟩ ops K fl l S ((d, .tuple #[iv 0, goInt L.length]) :: fr) hs) :
    Rk P n B w0 ops K (f :: fl) (⟨some d, .mapEntry t xm xk, ty, pos, aft, none⟩ :: l) S fr hs := by
  refine k_eff7 (R := fun v w1 => ((∃ i, plc x L 0 = some i ∧ v = .tuple #[vat L i, goInt i] ∧ w1 = w0) ∨ (plc x L 0 = none ∧ v = .tuple #[iv 0, goInt L.length] ∧ w1 = ⟨w0.w, ms'⟩))) k hf rfl (fun a ha F w hw => ?_) ?_
  · obtain ⟨v, L', hv, hrun⟩ := run_me (P := P) (ty := ty) (pos := pos) (aft := aft) h ha h1 h2 hw hm hx hL (some d)
    rw [hrun]
    rcases hv with ⟨i, e1, e2, e3⟩ | ⟨e1, e2, e3⟩
    · subst e3
      exact ⟨w0, .inl ⟨i, e1, e2, rfl⟩, hw.setObj (UpdM.refl hm) (mapO_not _ _)⟩
    · subst e3
      exact ⟨_, .inr ⟨e1, e2, rfl⟩, hw.setObj hu (mapO_not _ _)⟩
  · rintro a ha v w1 hv
    rcases hv with ⟨i, e1, rfl, rfl⟩ | ⟨e1, rfl, rfl⟩
    · have := ho i e1
      unfold Rk at this
      exact ⟨.refl, this _ (ha.put hn _)⟩
    · have := hnw e1
      unfold Rk at this
      subst hb
      exact ⟨.step .refl hu e1 hx hL, this _ (ha.put hn _)⟩
end
theorem kQO {n : NN} {B : Nat} {w0 : Wd} {fr : FR} {hs : HS} {ty : TypeId} {Ka : Act → Prop} {ops : Array Oper} {l : List Oper} {d : Nat} {pos : String} {aft : Array Edge} (op : Op) (h : qn Try.prog n B w0 hs ops Ka (⟨some d, op, ty, pos, aft, none⟩ :: l) fr) : qn Try.prog n B w0 hs ops Ka (⟨some d, op, ty, pos, aft, none⟩ :: l) fr := h

section
variable {P : Program} {w0 : Wd} {B : Nat} {hs : HS}
theorem Ext0.ww {k : Nat} {a c : Wd} (h : Ext0 k a c) : c.w = a.w := by
  induction h with
  | refl => rfl
  | any _ _ ih => exact ih
  | step _ _ _ _ _ ih => exact ih
end
end Go.Proofs.Ytnbickholedckaa
