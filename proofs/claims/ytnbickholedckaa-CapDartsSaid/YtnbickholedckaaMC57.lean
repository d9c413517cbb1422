/- A dart: angle moved from one corner of a piece to the next. Plain. -/
import Derived.Test.YtnbickholedckaaMC62
import Derived.Test.YtnbickholedckaaMC43
import Derived.Test.YtnbickholedckaaMB5
namespace Go.Proofs.Ytnbickholedckaa
open Go.RowKit
def dtA (an : List Int) (r q : Nat) (d : Int) : List Int := (an.set r (an.getD r 0 - d)).set q (an.getD q 0 + d)
theorem getD_set {l : List Int} {r j : Nat} {v : Int} (h : r < l.length) : (l.set r v).getD j 0 = if j = r then v else l.getD j 0 := by
  rw [List.getD_eq_getElem?_getD, List.getD_eq_getElem?_getD, List.getElem?_set]
  by_cases e : r = j
  · subst e; rw [if_pos rfl, if_pos rfl, if_pos h]; rfl
  · rw [if_neg e, if_neg (fun h => e h.symm)]
theorem dtA_len (an : List Int) (r q : Nat) (d : Int) : (dtA an r q d).length = an.length := by unfold dtA; rw [List.length_set, List.length_set]
theorem dtA_at {an : List Int} {r q j : Nat} {d : Int} (hr : r < an.length) (hq : q < an.length) : (dtA an r q d).getD j 0 = if j = q then an.getD q 0 + d else if j = r then an.getD r 0 - d else an.getD j 0 := by
  unfold dtA
  rw [getD_set (by rw [List.length_set]; exact hq), getD_set hr]
theorem dtA_sum {an : List Int} {r q : Nat} {d : Int} (hr : r < an.length) (hq : q < an.length) (hne : r ≠ q) : ∀ k, sumTo (fun j => (dtA an r q d).getD j 0) k = sumTo (fun j => an.getD j 0) k + (if q < k then d else 0) - (if r < k then d else 0)
  | 0 => by simp [sumTo]
  | k + 1 => by
    rw [sumTo_succ, sumTo_succ, dtA_sum hr hq hne k, dtA_at hr hq]
    (repeat' split) <;> first | omega | (subst_vars; omega)
/-- The pieces with a dart in piece p. -/
def dtP (ps : List Pc) (p r q : Nat) (d : Int) : List Pc := ps.set p { pcA ps p with an := dtA (pcA ps p).an r q d }
theorem dtP_at {ps : List Pc} {p r q i : Nat} {d : Int} (hp : p < ps.length) : pcA (dtP ps p r q d) i = if i = p then { pcA ps p with an := dtA (pcA ps p).an r q d } else pcA ps i := by
  have h1 : ∀ l : List Pc, pcA l i = l.getD i default := fun l => by unfold pcA; rfl
  rw [h1, h1 ps]
  unfold dtP
  rw [List.getD_eq_getElem?_getD, List.getD_eq_getElem?_getD, List.getElem?_set]
  by_cases e : p = i
  · subst e; rw [if_pos rfl, if_pos rfl, if_pos hp]; rfl
  · rw [if_neg e, if_neg (fun h => e h.symm)]
theorem dtP_len (ps : List Pc) (p r q : Nat) (d : Int) : (dtP ps p r q d).length = ps.length := by unfold dtP; rw [List.length_set]
theorem dtP_sd {ps : List Pc} {p r q : Nat} {d : Int} (hp : p < ps.length) : sdF (dtP ps p r q d) = sdF ps := funext fun i => by
  unfold sdF
  rw [dtP_at hp]
  split
  · rename_i h; rw [h]
  · rfl
theorem dtP_an {ps : List Pc} {p r q i : Nat} {d : Int} (hp : p < ps.length) : anF (dtP ps p r q d) i = if i = p then dtA (anF ps p) r q d else anF ps i := by
  unfold anF
  rw [dtP_at hp]
  split <;> rfl
theorem vdC_of {ps : List Pc} {sm : List Int} {m : Nat} {e : Int} (V : VdC ps sm m e) : vdC ps sm m e = 0 := by
  unfold vdC vdE
  have h1 : 1 ≤ ps.length ∧ ps.length ≤ 8 := ⟨V.n1, V.n8⟩
  rw [if_neg (by simp only [h1, and_self, not_true_eq_false, not_false_eq_true]), if_neg (by simp only [V.e0, V.ok, and_self, not_true_eq_false, or_self, not_false_eq_true])]
  exact fstE_iff.2 V.se
theorem dtP_vd {ps : List Pc} {sm : List Int} {m : Nat} {e d : Int} {p r q : Nat} (V : VdC ps sm m e) (hp : p < ps.length) (hr : r < (sdF ps p).length) (hq : q < (sdF ps p).length) (hne : r ≠ q) (hd : 1 ≤ d) (h1 : 1 ≤ (anF ps p).getD r 0 - d) (h2 : (anF ps p).getD q 0 + d ≤ 359) : VdC (dtP ps p r q d) sm m e := by
  refine ⟨by rw [dtP_len]; exact V.n1, by rw [dtP_len]; exact V.n8, V.e0, ?_, ?_⟩
  · rw [dtP_len, dtP_sd hp]
    intro i hi
    rw [dtP_an hp]
    split
    · rename_i h
      subst h
      obtain ⟨g1, g2, g3, g4⟩ := V.ok i hi
      refine ⟨g1, by rw [dtA_len]; exact g2, fun j hj => ⟨(g3 j hj).1, ?_⟩, ?_⟩
      · have a1 := (g3 j hj).2
        have a2 := (g3 r hr).2
        have a3 := (g3 q hq).2
        rw [dtA_at (by omega) (by omega)]
        split
        · omega
        · split <;> omega
      · rw [dtA_sum (by omega) (by omega) hne, g4, if_pos hr, if_pos hq]; omega
    · exact V.ok i hi
  · rw [dtP_len, dtP_sd hp]; exact V.se
theorem dtP_ms {ps : List Pc} {sm : List Int} {m : Nat} {e d : Int} {p r q : Nat} (hp : p < ps.length) (h1 : vdC ps sm m e = 0) (h2 : vdC (dtP ps p r q d) sm m e = 0) : msV (dtP ps p r q d) sm m e = msV ps sm m e ∧ hrC (dtP ps p r q d) sm m = hrC ps sm m := by
  have hl := dtP_len ps p r q d
  have hs := dtP_sd (r := r) (q := q) (d := d) hp
  generalize dtP ps p r q d = qs at *
  have e1 : paC qs sm m = paC ps sm m := by unfold paC; rw [hl, hs]
  have e2 : nC qs = nC ps := by unfold nC; rw [hl, hs]
  have e3 : nxC qs = nxC ps := by unfold nxC; rw [hl, hs]
  have e4 : muC qs sm m = muC ps sm m := by unfold muC; rw [hs]
  have e5 : (ptsC qs sm m).length = (ptsC ps sm m).length := by unfold ptsC; rw [ptsL_len, ptsL_len, e2, e3, e4]
  have e6 : lpsC qs sm m = lpsC ps sm m := by unfold lpsC; rw [e2, e3, e4]
  have e7 : euC qs sm m = euC ps sm m := by unfold euC; rw [e5, e2, hl]
  have e8 : haC qs sm m = haC ps sm m := by unfold haC; rw [e1, e7, e6]
  have e9 : lnF qs = lnF ps := funext fun x => by
    have a1 : ∀ l : List Pc, lnF l x = (sdF l (pcG (sdF l) l.length x)).getD (x - fsN (sdF l) (pcG (sdF l) l.length x)) 0 := fun l => rfl
    rw [a1, a1, hl, hs]
  refine ⟨?_, ?_⟩
  · unfold msV
    rw [e1, e7, e8, h1, h2]
  · unfold hrC; rw [e2, e3, e4, e9]
end Go.Proofs.Ytnbickholedckaa
