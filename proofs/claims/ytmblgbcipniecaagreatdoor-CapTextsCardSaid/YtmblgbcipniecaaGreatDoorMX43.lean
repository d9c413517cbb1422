/- What the two parsers answer, plain. -/
import Derived.Test.YtmblgbcipniecaaGreatDoorMX42
namespace Go.Proofs.YtmblgbcipniecaaGreatDoor
open Go.RowKit
def pcD (P : List (List Int × List Int)) : List Pc := P.map fun x => ⟨none, 0, x.1, none, 0, x.2⟩
theorem pcD_at (ps : List Pc) (i : Nat) : (pcA (pcD (ps.map prP)) i).sd = (pcA ps i).sd ∧ (pcA (pcD (ps.map prP)) i).an = (pcA ps i).an := by
  unfold pcA pcD
  simp only [List.getD_eq_getElem?_getD, List.getElem?_map, List.map_map]
  cases h : ps[i]? with
  | none => exact ⟨rfl, rfl⟩
  | some p => exact ⟨rfl, rfl⟩
theorem pcD_sd (ps : List Pc) : sdF (pcD (ps.map prP)) = sdF ps := funext fun i => (pcD_at ps i).1
theorem pcD_an (ps : List Pc) : anF (pcD (ps.map prP)) = anF ps := funext fun i => (pcD_at ps i).2
theorem pcD_len (ps : List Pc) : (pcD (ps.map prP)).length = ps.length := by unfold pcD; simp
theorem vdC_D (ps : List Pc) (sm : List Int) (m : Nat) (e : Int) : vdC (pcD (ps.map prP)) sm m e = vdC ps sm m e := by
  unfold vdC
  rw [pcD_sd, pcD_an, pcD_len]
theorem pcsT_D (ps : List Pc) : ∀ k, pcsT (pcD (ps.map prP)) k = pcsT ps k
  | 0 => rfl
  | k + 1 => by rw [pcsT, pcsT, pcsT_D ps k, (pcD_at ps k).1, (pcD_at ps k).2]
theorem capT_D (ps : List Pc) (sm : List Int) (m : Nat) (e : Int) : capT (pcD (ps.map prP)) sm m e = capT ps sm m e := by
  unfold capT
  rw [pcsT_D, pcD_len]
def vdD (d : Rd) : Int := vdC (pcD d.P) d.S (d.S.length / 4) d.E
def tD (d : Rd) : List UInt8 := capT (pcD d.P) d.S (d.S.length / 4) d.E
def rd0 : Rd := ⟨[], [], 0⟩
/-- What a parser answers that reads lines so. -/
def paA (rd : Rd → List UInt8 → Rd) (t : List UInt8) : Rd × Int :=
  if 4000 < t.length then (rd0, 4) else
  if vdD ((wds 10 t).foldl rd rd0) = 0 ∧ tD ((wds 10 t).foldl rd rd0) = t then ((wds 10 t).foldl rd rd0, 0) else (rd0, 3)
theorem sgP_mul (r : Rd) (w : List UInt8) (L : List Int) (h : r.S.length % 4 = 0) : (sgP r w L).S.length % 4 = 0 := by
  unfold sgP
  split
  · exact h
  · split
    · exact h
    · split
      · rename_i h4
        show (r.S ++ L).length % 4 = 0
        rw [List.length_append, h4.2]; omega
      · exact h
theorem rdP_mul (r : Rd) (l : List UInt8) (h : r.S.length % 4 = 0) : (rdP r l).S.length % 4 = 0 := by
  unfold rdP
  split
  · exact h
  · split
    · exact h
    · exact sgP_mul _ _ _ h
theorem rdR_mul (Nr : List UInt8 → Int) (r : Rd) (l : List UInt8) (h : r.S.length % 4 = 0) : (rdR Nr r l).S.length % 4 = 0 := by
  unfold rdR
  split
  · exact h
  · rename_i w ws _
    have h1 : (sgR1 r w (ws.map Nr)).S.length % 4 = 0 := by unfold sgR1; split <;> exact h
    have h2 : (sgR2 (sgR1 r w (ws.map Nr)) w (ws.map Nr)).S.length % 4 = 0 := by unfold sgR2; split <;> exact h1
    unfold sgR3
    split
    · rename_i h4
      show ((sgR2 (sgR1 r w (ws.map Nr)) w (ws.map Nr)).S ++ ws.map Nr).length % 4 = 0
      rw [List.length_append, h4.2]; omega
    · exact h2
theorem fold_mul {rd : Rd → List UInt8 → Rd} (h : ∀ r l, r.S.length % 4 = 0 → (rd r l).S.length % 4 = 0) : ∀ (ls : List (List UInt8)) (r : Rd), r.S.length % 4 = 0 → (ls.foldl rd r).S.length % 4 = 0
  | [], _, hr => hr
  | l :: ls, r, hr => fold_mul h ls _ (h r l hr)
/-- Such a cap is the one that is read. -/
theorem fold_D {rd : Rd → List UInt8 → Rd} (R : RdOk rd) (d : Rd) (h4 : d.S.length % 4 = 0) (hv : vdD d = 0) : (wds 10 (tD d)).foldl rd rd0 = d := by
  have V := vdC_0 hv
  have h := fold_cap R V.tx (by omega)
  unfold tD rd0
  rw [h]
  have e : (pcD d.P).map prP = d.P := by
    unfold pcD
    rw [List.map_map]
    exact (List.map_congr_left fun x _ => rfl).trans (List.map_id _)
  rw [e]
theorem pa_eq {rd1 rd2 : Rd → List UInt8 → Rd} (R1 : RdOk rd1) (R2 : RdOk rd2) (m1 : ∀ r l, r.S.length % 4 = 0 → (rd1 r l).S.length % 4 = 0) (m2 : ∀ r l, r.S.length % 4 = 0 → (rd2 r l).S.length % 4 = 0) (t : List UInt8) : paA rd1 t = paA rd2 t := by
  have key : ∀ {ra rb : Rd → List UInt8 → Rd}, RdOk rb → (∀ r l, r.S.length % 4 = 0 → (ra r l).S.length % 4 = 0) → vdD ((wds 10 t).foldl ra rd0) = 0 ∧ tD ((wds 10 t).foldl ra rd0) = t → (wds 10 t).foldl rb rd0 = (wds 10 t).foldl ra rd0 := fun {ra rb} Rb ma h => by
    have hd := fold_D Rb ((wds 10 t).foldl ra rd0) (fold_mul ma _ _ rfl) h.1
    rw [h.2] at hd
    exact hd
  unfold paA
  by_cases h0 : 4000 < t.length
  · rw [if_pos h0, if_pos h0]
  · rw [if_neg h0, if_neg h0]
    by_cases h1 : vdD ((wds 10 t).foldl rd1 rd0) = 0 ∧ tD ((wds 10 t).foldl rd1 rd0) = t
    · have e := key R2 m1 h1
      rw [if_pos h1, e, if_pos h1]
    · by_cases h2 : vdD ((wds 10 t).foldl rd2 rd0) = 0 ∧ tD ((wds 10 t).foldl rd2 rd0) = t
      · exact absurd (by rw [key R1 m2 h2]; exact h2) h1
      · rw [if_neg h1, if_neg h2]
theorem pa_fmt {rd : Rd → List UInt8 → Rd} (R : RdOk rd) {ps : List Pc} {sm : List Int} {m : Nat} {e : Int} (hsm : sm.length = m * 4) (hv : vdC ps sm m e = 0) (hl : (capT ps sm m e).length ≤ 4000) : paA rd (capT ps sm m e) = (⟨ps.map prP, sm, e⟩, 0) := by
  have h := fold_cap R (vdC_0 hv).tx hsm
  unfold paA
  rw [if_neg (by omega)]
  have e4 : sm.length / 4 = m := by omega
  have h2 : (wds 10 (capT ps sm m e)).foldl rd rd0 = ⟨ps.map prP, sm, e⟩ := h
  rw [h2]
  unfold vdD tD
  dsimp only
  rw [e4, vdC_D, capT_D, if_pos ⟨hv, rfl⟩]
end Go.Proofs.YtmblgbcipniecaaGreatDoor
