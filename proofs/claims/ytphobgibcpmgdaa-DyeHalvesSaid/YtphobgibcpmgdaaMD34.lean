/- How far two blends are apart, in the program: the walk with the map. -/
import Derived.Test.YtphobgibcpmgdaaMD33
namespace Go.Proofs.Ytphobgibcpmgdaa
open Go.RowKit

theorem mp114 : mpt Try.prog 114 = some (true, 3, iv 0) := by kernel_rfl
theorem plc_lt {x : List Int} {L : Mp} {i : Nat} (h : plc x L 0 = some i) : i < L.length := by
  obtain ⟨_, p, h1, _⟩ := plc_get h
  rw [Nat.sub_zero] at h1
  exact (List.getElem?_eq_some_iff.1 h1).1
theorem snoc_lt {α : Type} {L : List α} {p : α} : L.length < (L ++ [p]).length := by simp
theorem le_of {w : World} {m : Nat} {o o' : Obj} {ms : List (Nat × Obj)} (h : o = o') : Wd.le ⟨w, (m, o) :: ms⟩ ⟨w, (m, o') :: ms⟩ := by subst h; exact .refl _
theorem le_cons {w : World} {p : Nat × Obj} {ms : List (Nat × Obj)} : Wd.le ⟨w, ms⟩ ⟨w, p :: ms⟩ := ⟨rfl, .cons _ (.refl _)⟩
theorem le_cons2 {w : World} {p q : Nat × Obj} {ms : List (Nat × Obj)} : Wd.le ⟨w, ms⟩ ⟨w, p :: q :: ms⟩ := ⟨rfl, .cons _ (.cons _ (.refl _))⟩
def kI (l : IM) (i : Nat) : List Int := (l[i]?.map (·.1)).getD []
theorem mpI_get {l : IM} {i : Nat} (h : i < l.length) : (mpI l)[i]? = some (kI l i, iv (vI l i)) := by
  simp [mpI, kI, vI, List.getElem?_eq_getElem h]
section
variable {P : Program} {n B : Nat} {w0 : Wd} {fr : FR} {hs S : HS} {ty : TypeId} {K : Act → World → Prop} {ops : Array Oper} {l : List Oper} {d f : Nat} {fl : List Nat} {pos : String} {aft : Array Edge}
theorem k_lookup6I {t : TypeId} {xm xk : Operand} {b : Bool} {k m : Nat} {L : IM} (x : List Int) (h : mpt P t = some (b, k, iv 0)) (hf : f = (2 * k) + 6) (hb : b = !(k == 1)) (h1 : opv fr xm = some (.map (some m))) (h2 : opv fr xk = some (vOf b x)) (hm : (m, mapO b (mpI L)) ∈ w0.ms) (hx : x.length = k) (hL : ∀ p ∈ mpI L, p.1.length = k) (hn : d < n)
    (hk : Rk P n B w0 ops K fl l S ((d, iv (lkI L x)) :: fr) hs) : Rk P n B w0 ops K (f :: fl) (⟨some d, .lookup t xm xk false, ty, pos, aft, none⟩ :: l) S fr hs :=
  k_lookup6 h hf hb h1 h2 hm hx hL hn (by rw [lkp_mpI]; exact hk)
theorem s_nextI {x : Operand} {b : Bool} {m it : Nat} {L : IM} {sn : List Nat} {ms' : Nat → List (Nat × Obj)} (hx : opv fr x = some (.pointer (some ⟨it, 0, none⟩))) (hm : (m, mapO b (mpI L)) ∈ w0.ms) (hu : ∀ i, UpdM it (itO m (mpI L).length sn) (itO m (mpI L).length (sn ++ [i])) w0.ms (ms' i)) (hn : d < n)
    (hy : ∀ i, i < L.length → i ∉ sn → Sat n B ⟨w0.w, ms' i⟩ (sl P ops K l) ((d, .tuple #[.bool true, vOf b (kI L i), iv (vI L i)]) :: fr) hs) (ho : (∀ i, i < L.length → i ∈ sn) → Sat n B w0 (sl P ops K l) ((d, .tuple #[.bool false]) :: fr) hs) :
    Sat n B w0 (sl P ops K (⟨some d, .next x false, ty, pos, aft, none⟩ :: l)) fr hs :=
  s_next hx hm hu hn (fun i p hp hns => by
    have hi : i < L.length := by rw [← mpI_len]; exact (List.getElem?_eq_some_iff.1 hp).1
    rw [mpI_get hi, Option.some.injEq] at hp
    subst hp
    exact hy i hi hns) (fun h => ho fun i hi => h i (by rw [mpI_len]; exact hi))
theorem o_entryI {x : Operand} {b : Bool} {m it i : Nat} {L : IM} {sn : List Nat} (hx : opv fr x = some (.pointer (some ⟨it, 0, none⟩))) (hm : (m, mapO b (mpI L)) ∈ w0.ms) (hi : (it, itO m (mpI L).length (sn ++ [i])) ∈ w0.ms) (hp : i < L.length) :
    OpF P n B w0 (.entry x) ty fr hs (.tuple #[vOf b (kI L i), iv (vI L i)]) := o_entry hx hm hi (mpI_get hp)
end
theorem nodup_le : ∀ (n : Nat) (s : List Nat), s.Nodup → (∀ i ∈ s, i < n) → s.length ≤ n
  | 0, [], _, _ => Nat.le_refl _
  | 0, i :: s, _, h => absurd (h i (.head _)) (Nat.not_lt_zero i)
  | n + 1, s, h1, h2 => by
    have h3 := nodup_le n (s.erase n) (h1.erase n) (fun i hi => by
      have := h2 i (List.mem_of_mem_erase hi)
      have hne : i ≠ n := fun e => by
        subst e
        exact (List.Nodup.mem_erase_iff h1).1 hi |>.1 rfl
      omega)
    have h4 := List.length_erase (a := n) (l := s)
    split at h4 <;> omega
theorem nodup_snoc {s : List Nat} {i : Nat} (h : s.Nodup) (hi : i ∉ s) : (s ++ [i]).Nodup := by
  rw [List.nodup_append]
  exact ⟨h, by simp, fun a ha b hb => by rw [List.mem_singleton] at hb; subst hb; exact fun e => hi (e ▸ ha)⟩
theorem sumS_b {f : Nat → Int} {c : Int} (h : ∀ i, 0 ≤ f i ∧ f i ≤ c) : ∀ s, 0 ≤ sumS f s ∧ sumS f s ≤ s.length * c
  | [] => by simp [sumS]
  | i :: s => by
    have h1 := sumS_b h s
    have h2 := h i
    simp only [sumS, List.length_cons]
    rw [show ((s.length + 1 : Nat) : Int) * c = s.length * c + c by rw [Int.natCast_add, Int.add_mul]; simp]
    omega
theorem add_len (x : List Int) (v : Int) (l : IM) : (addM l x v).length ≤ l.length + 1 := by
  have := congrArg List.length (add_keys x v l)
  simp only [List.length_map] at this
  split at this
  · simp at this; omega
  · simp at this; omega
/-- What the map holds behind i parts of one blend and j of the other. -/
def lkW (lz wz : List Int) (A C : Int) (i j : Nat) (L T D : Int) : Int := sumTo (wts lz L T D) i * A - sumTo (wts wz L T D) j * C
structure Mst where
  i : Nat
  l : IM
def mok (lz wz : List Int) (A C : Int) (i j : Nat) (l : IM) : Prop := SM l ∧ l.length ≤ i + j ∧ ∀ L T D, lkI l [L, T, D] = lkW lz wz A C i j L T D
theorem mok_nil (lz wz : List Int) (A C : Int) : mok lz wz A C 0 0 [] := ⟨SM.nil, by simp, fun L T D => by unfold lkW; simp [sumTo, lkI]⟩
theorem sh_eq {L T D a b c : Int} : ([L, T, D] = [a, b, c]) ↔ a = L ∧ b = T ∧ c = D := by
  simp only [List.cons.injEq, and_true]
  exact ⟨fun h => ⟨h.1.symm, h.2.1.symm, h.2.2.symm⟩, fun h => ⟨h.1.symm, h.2.1.symm, h.2.2.symm⟩⟩
theorem mok_a {N : Nat} {lz wz : List Int} {A C : Int} {i j : Nat} {l : IM} (h : mok lz wz A C i j l) (hb : VB N lz) (hi : i < N) :
    mok lz wz A C (i + 1) j (addM l [lz.getD (i * 4) 0, lz.getD (i * 4 + 1) 0, lz.getD (i * 4 + 2) 0] (lz.getD (i * 4 + 3) 0 * A)) := by
  refine ⟨h.1.add (hb.sd i hi) _, by have := add_len [lz.getD (i * 4) 0, lz.getD (i * 4 + 1) 0, lz.getD (i * 4 + 2) 0] (lz.getD (i * 4 + 3) 0 * A) l; have := h.2.1; omega, fun L T D => ?_⟩
  rw [lkI_add, h.2.2 L T D]
  unfold lkW
  rw [sumTo_succ]
  have e : wts lz L T D i = if isS lz i L T D then lz.getD (i * 4 + 3) 0 else 0 := rfl
  by_cases hc : isS lz i L T D
  · rw [if_pos hc] at e
    rw [if_pos (sh_eq.2 hc), e, Int.add_mul]
    omega
  · rw [if_neg hc] at e
    rw [if_neg (fun hh => hc (sh_eq.1 hh)), e, Int.add_zero, Int.add_zero]
theorem mok_b {M : Nat} {lz wz : List Int} {A C : Int} {i j : Nat} {l : IM} (h : mok lz wz A C i j l) (hb : VB M wz) (hi : j < M) :
    mok lz wz A C i (j + 1) (addM l [wz.getD (j * 4) 0, wz.getD (j * 4 + 1) 0, wz.getD (j * 4 + 2) 0] (-(wz.getD (j * 4 + 3) 0 * C))) := by
  refine ⟨h.1.add (hb.sd j hi) _, by have := add_len [wz.getD (j * 4) 0, wz.getD (j * 4 + 1) 0, wz.getD (j * 4 + 2) 0] (-(wz.getD (j * 4 + 3) 0 * C)) l; have := h.2.1; omega, fun L T D => ?_⟩
  rw [lkI_add, h.2.2 L T D]
  unfold lkW
  rw [sumTo_succ]
  have e : wts wz L T D j = if isS wz j L T D then wz.getD (j * 4 + 3) 0 else 0 := rfl
  by_cases hc : isS wz j L T D
  · rw [if_pos hc] at e
    rw [if_pos (sh_eq.2 hc), e, Int.add_mul]
    omega
  · rw [if_neg hc] at e
    rw [if_neg (fun hh => hc (sh_eq.1 hh)), e, Int.add_zero, Int.add_zero]
theorem lkW_b {N M : Nat} {lz wz : List Int} {A C : Int} (h1 : VB N lz) (h2 : VB M wz) (hA : 0 ≤ A ∧ A ≤ 6000) (hC : 0 ≤ C ∧ C ≤ 6000) {i j : Nat} (hi : i ≤ N) (hj : j ≤ M) (L T D : Int) : -36000000 ≤ lkW lz wz A C i j L T D ∧ lkW lz wz A C i j L T D ≤ 36000000 := by
  have a1 := wts_le (L := L) (T := T) (C := D) h1.w i hi
  have a2 := wts_le (L := L) (T := T) (C := D) h2.w j hj
  have b1 := h1.le
  have b2 := h2.le
  have q1 := prod_b (x := sumTo (wts lz L T D) i) (y := A) ⟨a1.1, by omega⟩ hA
  have q2 := prod_b (x := sumTo (wts wz L T D) j) (y := C) ⟨a2.1, by omega⟩ hC
  unfold lkW
  omega
/-- All entries together. -/
theorem mok_sum {N M : Nat} {lz wz : List Int} {l : IM} (h : mok lz wz (tW wz M) (tW lz N) N M l) : sumTo (fun i => ab (vI l i)) l.length = dst N M lz wz := by
  rw [← sm_sum h.1]
  unfold dst
  refine sumTo_congr _ fun k _ => ?_
  rw [h.2.2]
  rfl
theorem mok_v {N M : Nat} {lz wz : List Int} {A C : Int} {l : IM} (h : mok lz wz A C N M l) (h1 : VB N lz) (h2 : VB M wz) (hA : 0 ≤ A ∧ A ≤ 6000) (hC : 0 ≤ C ∧ C ≤ 6000) (i : Nat) : -36000000 ≤ vI l i ∧ vI l i ≤ 36000000 := by
  unfold vI
  cases hi : l[i]? with
  | none => simp
  | some p =>
    obtain ⟨L, T, D, e, _⟩ := h.1.key p (List.mem_of_getElem? hi)
    have h3 := lkI_at h.1.nodup hi
    rw [e, h.2.2] at h3
    have h4 := lkW_b h1 h2 hA hC (Nat.le_refl N) (Nat.le_refl M) L T D
    simp only [Option.map_some, Option.getD_some]
    omega
end Go.Proofs.Ytphobgibcpmgdaa
