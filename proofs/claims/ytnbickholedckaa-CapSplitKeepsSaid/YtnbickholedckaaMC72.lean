/- A cut, plain: the angles; the new cap is valid and has the same measures; its hairline has the same lengths. -/
import Derived.Test.YtnbickholedckaaMC71
import Derived.Test.YtnbickholedckaaMC79
namespace Go.Proofs.Ytnbickholedckaa
open Go.RowKit
theorem sum_tabx (F : Nat → Int) (s : Nat) (x : Int) : sumTo (fun u => (tab s F ++ [x]).getD u 0) (s + 1) = sumTo F s + x := by
  rw [sumTo_succ]
  congr 1
  · refine sumTo_congr s fun u hu => ?_
    rw [List.getD_eq_getElem?_getD, List.getElem?_append_left (by rw [tab_length]; exact hu), ← List.getD_eq_getElem?_getD, tab_getD F hu]
  · rw [List.getD_eq_getElem?_getD, List.getElem?_append_right (by rw [tab_length]; exact Nat.le_refl _), tab_length, Nat.sub_self]
    rfl
theorem tabx_at {F : Nat → Int} {s u : Nat} {x : Int} (h : u < s + 1) : (tab s F ++ [x]).getD u 0 = if u < s then F u else x := by
  rw [List.getD_eq_getElem?_getD]
  split
  · rename_i hu
    rw [List.getElem?_append_left (by rw [tab_length]; exact hu), ← List.getD_eq_getElem?_getD, tab_getD F hu]
  · rename_i hu
    obtain rfl : u = s := by omega
    rw [List.getElem?_append_right (by rw [tab_length]; exact Nat.le_refl _), tab_length, Nat.sub_self]
    rfl
theorem hv_sum {g : List Int} {i : Nat} (c : Int) (hi : i < g.length) : ∀ n, 1 ≤ n → sumTo (hvF g i c) n = sumTo (fun u => g.getD ((i + u) % g.length) 0) n + c - g.getD i 0
  | 1, _ => by
    show sumTo (hvF g i c) 0 + hvF g i c 0 = sumTo (fun u => g.getD ((i + u) % g.length) 0) 0 + g.getD ((i + 0) % g.length) 0 + c - g.getD i 0
    have e1 : sumTo (hvF g i c) 0 = 0 := rfl
    have e2 : sumTo (fun u => g.getD ((i + u) % g.length) 0) 0 = 0 := rfl
    have e3 : hvF g i c 0 = c := by unfold hvF; rw [if_pos rfl]
    rw [e1, e2, e3, Nat.add_zero, Nat.mod_eq_of_lt hi]
    omega
  | n + 2, _ => by
    rw [sumTo_succ, sumTo_succ (fun u => g.getD ((i + u) % g.length) 0), hv_sum c hi (n + 1) (by omega)]
    have e3 : hvF g i c (n + 1) = g.getD ((i + (n + 1)) % g.length) 0 := by unfold hvF; rw [if_neg (by omega)]
    rw [e3]
    omega
section
variable {ps : List Pc} {sm : List Int} {m : Nat} {e : Int} {p i j s : Nat} {z w : Int}
theorem SpX.okA (X : SpX ps sm m e p i j s z w) : pcOK (spA ps p i s z w).sd (spA ps p i s z w).an := by
  obtain ⟨v1, v2, v3, v4⟩ := X.V.ok p X.c.hp
  have hi : i < (pcA ps p).sd.length := X.c.hi
  have h2 := X.c.h2
  have hs : s + 2 ≤ (pcA ps p).sd.length := X.c.hs
  have e1 : (sdF ps p).length = (pcA ps p).sd.length := rfl
  have e2 : (anF ps p).length = (pcA ps p).an.length := rfl
  rw [e1] at v1 v2
  rw [e2] at v2
  have hz := X.z1
  have hw := X.w1
  have hL := X.L1
  have vi := (v3 i hi).2
  have hh : (spA ps p i s z w).sd = ptl (pcA ps p).sd i s z := rfl
  have hg : (spA ps p i s z w).an = tab s (hvF (pcA ps p).an i w) ++ [hvL (pcA ps p).an i s w] := rfl
  rw [hh, hg]
  refine ⟨by rw [ptl_len]; omega, by rw [ptl_len, List.length_append, tab_length]; rfl, fun u hu => ?_, ?_⟩
  · rw [ptl_len] at hu
    have hm : (i + u) % (pcA ps p).sd.length < (pcA ps p).sd.length := Nat.mod_lt _ (by omega)
    have vu := v3 _ hm
    unfold sdOK
    rw [tabx_at hu]
    by_cases hus : u < s
    · rw [if_pos hus, ptl_at hus]
      refine ⟨vu.1, ?_⟩
      unfold hvF
      split
      · have : (anF ps p).getD i 0 = (pcA ps p).an.getD i 0 := rfl
        omega
      · rw [v2]; exact vu.2
    · obtain rfl : u = s := by omega
      rw [if_neg hus, ptl_last]
      exact ⟨hz, hL⟩
  · rw [ptl_len, sum_tabx]
    unfold hvL
    omega
theorem SpX.okB (X : SpX ps sm m e p i j s z w) : pcOK (spB ps p i j s ((pcA ps p).sd.length - s) z w).sd (spB ps p i j s ((pcA ps p).sd.length - s) z w).an := by
  obtain ⟨v1, v2, v3, v4⟩ := X.V.ok p X.c.hp
  have hi : i < (pcA ps p).sd.length := X.c.hi
  have h2 := X.c.h2
  have hs : s + 2 ≤ (pcA ps p).sd.length := X.c.hs
  have e1 : (sdF ps p).length = (pcA ps p).sd.length := rfl
  have e2 : (anF ps p).length = (pcA ps p).an.length := rfl
  rw [e1] at v1 v2 v4
  rw [e2] at v2
  have hz := X.z1
  have hw := X.w1
  have hL := X.R1
  have hj := X.hj
  have hjm := X.jm
  have vi := (v3 i hi).2
  have hh : (spB ps p i j s ((pcA ps p).sd.length - s) z w).sd = ptl (pcA ps p).sd j ((pcA ps p).sd.length - s) z := rfl
  have hg : (spB ps p i j s ((pcA ps p).sd.length - s) z w).an = tab ((pcA ps p).sd.length - s) (hvF (pcA ps p).an j ((pcA ps p).an.getD j 0 - hvL (pcA ps p).an i s w)) ++ [(pcA ps p).an.getD i 0 - w] := rfl
  rw [hh, hg]
  have ei : (anF ps p).getD i 0 = (pcA ps p).an.getD i 0 := rfl
  refine ⟨by rw [ptl_len]; omega, by rw [ptl_len, List.length_append, tab_length]; rfl, fun u hu => ?_, ?_⟩
  · rw [ptl_len] at hu
    have hm : (j + u) % (pcA ps p).sd.length < (pcA ps p).sd.length := Nat.mod_lt _ (by omega)
    have vu := v3 _ hm
    unfold sdOK
    rw [tabx_at hu]
    by_cases hus : u < (pcA ps p).sd.length - s
    · rw [if_pos hus, ptl_at hus]
      refine ⟨vu.1, ?_⟩
      unfold hvF
      split
      · exact hL
      · rw [v2]; exact vu.2
    · obtain rfl : u = (pcA ps p).sd.length - s := by omega
      rw [if_neg hus, ptl_last]
      exact ⟨hz, by omega⟩
  · rw [ptl_len, sum_tabx, hv_sum _ (by omega) _ (by omega)]
    have hl : hvL (pcA ps p).an i s w = 180 * ((s : Int) + 1 - 2) - sumTo (hvF (pcA ps p).an i w) s := rfl
    rw [hv_sum _ (by omega) s (by omega)] at hl
    have r1 := sum_rot (fun v => (pcA ps p).an.getD v 0) hi
    have r2 := sumTo_addn (fun u => (pcA ps p).an.getD ((i + u) % (pcA ps p).sd.length) 0) s ((pcA ps p).sd.length - s)
    rw [show s + ((pcA ps p).sd.length - s) = (pcA ps p).sd.length by omega] at r2
    have r3 : sumTo (fun u => (pcA ps p).an.getD ((i + (s + u)) % (pcA ps p).sd.length) 0) ((pcA ps p).sd.length - s) = sumTo (fun u => (pcA ps p).an.getD ((j + u) % (pcA ps p).an.length) 0) ((pcA ps p).sd.length - s) := sumTo_congr _ fun u _ => by
      rw [v2, hjm, Nat.mod_add_mod, Nat.add_assoc]
    have r4 : sumTo (fun i => (anF ps p).getD i 0) (pcA ps p).sd.length = sumTo (fun v => (pcA ps p).an.getD v 0) (pcA ps p).sd.length := rfl
    have r5 : sumTo (fun u => (pcA ps p).an.getD ((i + u) % (pcA ps p).an.length) 0) s = sumTo (fun u => (pcA ps p).an.getD ((i + u) % (pcA ps p).sd.length) 0) s := by rw [v2]
    rw [r4] at v4
    rw [r5] at hl
    rw [r3] at r2
    omega
theorem SpX.vd (X : SpX ps sm m e p i j s z w) : VdC (spP ps p i j z w) (spM ps sm m p i j) (m + 1) e := by
  have h7 := X.n7
  refine ⟨by rw [X.len]; omega, by rw [X.len]; omega, X.V.e0, fun q hq => ?_, fun t ht => ?_⟩
  · rw [X.len] at hq
    rw [X.an, show sdF (spP ps p i j z w) q = (if q = p then (spA ps p i s z w).sd else if q = ps.length then (spB ps p i j s ((pcA ps p).sd.length - s) z w).sd else sdF ps q) by
      rw [X.sd]
      unfold sdS
      split
      · rfl
      · split
        · show _ = ptl (pcA ps p).sd j ((pcA ps p).sd.length - s) z
          rw [X.jm]; rfl
        · rfl]
    split
    · exact X.okA
    · split
      · exact X.okB
      · exact X.V.ok q (by omega)
  · rw [X.len, X.sd]
    exact X.se t ht
theorem SpX.cut (X : SpX ps sm m e p i j s z w) : CutN (nC ps) (nxC ps) (muC ps sm m) (nxC (spP ps p i j z w)) (muC (spP ps p i j z w) (spM ps sm m p i j) (m + 1)) (nwS (sdF ps) ps.length p i s z) (nwX (sdF ps) ps.length p i s z) (nwY (sdF ps) ps.length p i s z) (auS (sdF ps) p i (s - 1)) (auS (sdF ps) p i ((sdF ps p).length - 1)) := by
  have := cutN (z := z) X.c X.V.okS
  unfold nC nxC muC
  rw [X.sd, X.len, X.smL]
  exact this
theorem SpX.n2 (X : SpX ps sm m e p i j s z w) : nC (spP ps p i j z w) = nC ps + 2 := by
  unfold nC
  rw [X.sd, X.len]
  exact fsS_all X.c
theorem vdC_bd {ps : List Pc} {sm : List Int} {m : Nat} {e : Int} (V : VdC ps sm m e) (hsm : sm.length = m * 4) (hm : m ≤ 100) : Bd ps sm m := ⟨by have := V.n8; omega, vdC_ok V, hsm, hm⟩
end
end Go.Proofs.Ytnbickholedckaa
