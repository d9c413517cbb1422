/- The program's search is the plain one. -/
import Derived.Test.YtphobgibcpmgdaaMD4
namespace Go.Proofs.Ytphobgibcpmgdaa
open Go.RowKit

section
variable {N M : Nat} {nr : Nat → Nat → Bool} {rec : Nat → Int → FS → Int × FS} {w : Nat} {n : Int} {t : FS}
theorem goK_end : goK N M nr rec w n 0 t = (0, t) := rfl
theorem goK_skip {k : Nat} (hk : k < N) (h : nr k w = false) : goK N M nr rec w n (N - k) t = goK N M nr rec w n (N - (k + 1)) t := by
  obtain ⟨d, hd⟩ : ∃ d, N - k = d + 1 := ⟨N - k - 1, by omega⟩
  rw [hd, show N - (k + 1) = d by omega]
  show (if nr (N - (d + 1)) w = false then goK N M nr rec w n d t else _) = _
  rw [show N - (d + 1) = k by omega, if_pos h]
theorem goK_stock {k : Nat} (hk : k < N) (h : nr k w = true) (hm : 0 < min n (t.s k)) : goK N M nr rec w n (N - k) t = (min n (t.s k), (t.take k (min n (t.s k))).give w k (min n (t.s k))) := by
  obtain ⟨d, hd⟩ : ∃ d, N - k = d + 1 := ⟨N - k - 1, by omega⟩
  rw [hd]
  unfold goK
  rw [show N - (d + 1) = k by omega, if_neg (by rw [h]; simp), if_pos hm]
theorem goK_found {k : Nat} (hk : k < N) (h : nr k w = true) (hm : ¬ 0 < min n (t.s k)) (h2 : 0 < (goO M rec w n k M t).1) : goK N M nr rec w n (N - k) t = goO M rec w n k M t := by
  obtain ⟨d, hd⟩ : ∃ d, N - k = d + 1 := ⟨N - k - 1, by omega⟩
  rw [hd]
  unfold goK
  rw [show N - (d + 1) = k by omega, if_neg (by rw [h]; simp), if_neg hm, if_pos h2]
theorem goK_next {k : Nat} (hk : k < N) (h : nr k w = true) (hm : ¬ 0 < min n (t.s k)) (h2 : ¬ 0 < (goO M rec w n k M t).1) : goK N M nr rec w n (N - k) t = goK N M nr rec w n (N - (k + 1)) (goO M rec w n k M t).2 := by
  obtain ⟨d, hd⟩ : ∃ d, N - k = d + 1 := ⟨N - k - 1, by omega⟩
  rw [hd, show N - (k + 1) = d by omega]
  show (if nr (N - (d + 1)) w = false then goK N M nr rec w n d t else if 0 < min n (t.s (N - (d + 1))) then _ else if 0 < (goO M rec w n (N - (d + 1)) M t).1 then _ else goK N M nr rec w n d (goO M rec w n (N - (d + 1)) M t).2) = _
  rw [show N - (d + 1) = k by omega, if_neg (by rw [h]; simp), if_neg hm, if_neg h2]
theorem goO_skip {k o : Nat} (ho : o < M) (h : t.md o = true ∨ t.g o k = 0) : goO M rec w n k (M - o) t = goO M rec w n k (M - (o + 1)) t := by
  obtain ⟨d, hd⟩ : ∃ d, M - o = d + 1 := ⟨M - o - 1, by omega⟩
  rw [hd, show M - (o + 1) = d by omega]
  show (if t.md (M - (d + 1)) = true ∨ t.g (M - (d + 1)) k = 0 then goO M rec w n k d t else _) = _
  rw [show M - (d + 1) = o by omega, if_pos h]
theorem goO_found {k o : Nat} {m : Int} {t3 : FS} (ho : o < M) (h : ¬ (t.md o = true ∨ t.g o k = 0)) (hr : rec o (min n (t.g o k)) t = (m, t3)) (hm : 0 < m) : goO M rec w n k (M - o) t = (m, (t3.back o k m).give w k m) := by
  obtain ⟨d, hd⟩ : ∃ d, M - o = d + 1 := ⟨M - o - 1, by omega⟩
  rw [hd]
  unfold goO
  rw [show M - (d + 1) = o by omega, if_neg h, hr, if_pos hm]
theorem goO_next {k o : Nat} {m : Int} {t3 : FS} (ho : o < M) (h : ¬ (t.md o = true ∨ t.g o k = 0)) (hr : rec o (min n (t.g o k)) t = (m, t3)) (hm : ¬ 0 < m) : goO M rec w n k (M - o) t = goO M rec w n k (M - (o + 1)) t3 := by
  obtain ⟨d, hd⟩ : ∃ d, M - o = d + 1 := ⟨M - o - 1, by omega⟩
  rw [hd, show M - (o + 1) = d by omega]
  show (if t.md (M - (d + 1)) = true ∨ t.g (M - (d + 1)) k = 0 then goO M rec w n k d t else if 0 < (rec (M - (d + 1)) (min n (t.g (M - (d + 1)) k)) t).1 then _ else goO M rec w n k d (rec (M - (d + 1)) (min n (t.g (M - (d + 1)) k)) t).2) = _
  rw [show M - (d + 1) = o by omega, if_neg h, hr, if_neg hm]
end
/-- Every lot's sum is small. -/
def FS.Bd (N M : Nat) (t : FS) : Prop := ∀ k, k < N → t.s k + sumTo (fun o => t.g o k) M ≤ 1000
theorem sumTo_one {F : Nat → Int} {i : Nat} : ∀ n, (∀ j, j < n → 0 ≤ F j) → i < n → F i ≤ sumTo F n
  | n + 1, h, hi => by
    rw [sumTo_succ]
    have h1 := h n (by omega)
    have h2 := sumTo_nonneg n (fun j hj => h j (by omega))
    by_cases e : i = n
    · subst e; omega
    · have := sumTo_one n (fun j hj => h j (by omega)) (show i < n by omega)
      omega
theorem FS.bnd {N M : Nat} {t : FS} (h1 : t.Ok N M) (h2 : t.Bd N M) {k : Nat} (hk : k < N) : 0 ≤ t.s k ∧ t.s k ≤ 1000 ∧ ∀ o, o < M → 0 ≤ t.g o k ∧ t.g o k ≤ 1000 := by
  have a1 := h1 k hk
  have a2 := h2 k hk
  have a3 := sumTo_nonneg M (F := fun o => t.g o k) (fun j hj => a1.2 j hj)
  refine ⟨a1.1, by omega, fun o ho => ⟨a1.2 o ho, ?_⟩⟩
  have := sumTo_one (F := fun o => t.g o k) M (fun j hj => a1.2 j hj) ho
  have e : (fun o => t.g o k) o = t.g o k := rfl
  omega
theorem Res.bd {N M : Nat} {nr : Nat → Nat → Bool} {w : Nat} {n m : Int} {t t' : FS} (h : Res N M nr w n t t' m) (hb : t.Bd N M) : t'.Bd N M := fun k hk => by rw [h.lot k hk]; exact hb k hk
/-- Which lot may be given to which want. -/
def nrF (lz wz : List Int) (k o : Nat) : Bool := nrB (lz.getD (k * 4 + 1) 0) (lz.getD (k * 4 + 2) 0) (lz.getD (k * 4 + 3) 0) (wz.getD (o * 5 + 1) 0) (wz.getD (o * 5 + 2) 0) (wz.getD (o * 5 + 3) 0) (wz.getD (o * 5 + 4) 0)
/-- Where a table lies. -/
structure TP where
  N : Nat
  M : Nat
  lz : List Int
  wz : List Int
  lk : Nat → Int
  c3 : Nat
  c7 : Nat
  pT : Nat
  pM : Nat
  pS : Nat
  pL : Nat
  pG : Nat
  cL : Nat
  cW : Nat
  cG : Nat
  oaL : Option Addr
  oaW : Option Addr
  pr : Nat → Nat
  gz : List Value
abbrev pt (b : Nat) : Value := .pointer (some ⟨b, 0, none⟩)
abbrev TP.fv (q : TP) : Value := .func (.func 81) #[] #[pt q.c3, pt q.c7]
abbrev TBH (q : TP) (t : FS) (hs : HS) : HS :=
  (q.c3, [pt q.pT]) :: (q.c7, [q.fv]) :: (q.pT, [.slice q.oaL q.N q.cL, .slice q.oaW q.M q.cW, .slice (some ⟨q.pG, 0, none⟩) q.M q.cG, .slice (some ⟨q.pS, 0, none⟩) q.N q.N, .slice (some ⟨q.pL, 0, none⟩) q.M q.M, .slice (some ⟨q.pM, 0, none⟩) q.M q.M])
    :: (q.pM, bvs q.M t.md) :: (q.pS, ivs (tab q.N t.s)) :: (q.pL, ivs (tab q.M q.lk)) :: (q.pG, spn q.N q.pr q.M ++ q.gz) :: (rws q.N q.pr t.g q.M ++ hs)
theorem Fn.frontT {P : Program} {g B : Nat} {w0 : Wd} {args : Array Value} {F hs : HS} {q : TP} {t t' : FS} {v : Value} (h : Fn P g args B w0 (TBH q t (F ++ hs)) (fun u x => u = v ∧ x = TBH q t' (F ++ hs))) :
    Fn P g args B w0 (F ++ TBH q t hs) (fun u x => ∃ h', (u = v ∧ h' = TBH q t' hs) ∧ x = F ++ h') := by
  have h1 : Fn P g args B w0 (TBH q t [] ++ (F ++ hs)) (fun u x => ∃ T', (u = v ∧ T' = TBH q t' []) ∧ x = T' ++ (F ++ hs)) := by
    have e : ∀ (t : FS) (X : HS), TBH q t [] ++ X = TBH q t X := fun t X => by simp [TBH]
    rw [e]
    refine h.mono ?_
    rintro u x ⟨rfl, rfl⟩
    exact ⟨_, ⟨rfl, rfl⟩, (e _ _).symm⟩
  have e : ∀ (t : FS) (X : HS), TBH q t [] ++ X = TBH q t X := fun t X => by simp [TBH]
  have h2 := Fn.front h1
  rw [e] at h2
  refine h2.mono ?_
  rintro u x ⟨h', ⟨T', ⟨rfl, rfl⟩, rfl⟩, rfl⟩
  exact ⟨_, ⟨rfl, e _ _⟩, rfl⟩
end Go.Proofs.Ytphobgibcpmgdaa
