/- What is missing in all is 360 times the Euler number; parts and handles. Plain: no program. -/
import Derived.Test.YtnbickholedckaaMB6
import Derived.Test.YtnbickholedckaaMB1
namespace Go.Proofs.Ytnbickholedckaa
open Go.RowKit

def dsum (l : List Pt) : Int := (l.map (·.df)).foldr (· + ·) 0
theorem dsum_app : ∀ l l' : List Pt, dsum (l ++ l') = dsum l + dsum l'
  | [], l' => by simp [dsum]
  | x :: l, l' => by
    have := dsum_app l l'
    simp only [dsum, List.cons_append, List.map_cons, List.foldr_cons] at this ⊢
    omega
theorem dsum_take {l : List Pt} {j : Nat} {p : Pt} (h : l[j]? = some p) : dsum (l.take (j + 1)) = dsum (l.take j) + p.df := by
  rw [take_snoc h, dsum_app]; simp [dsum]
theorem asum_filter (ag : Nat → Int) (p : Nat → Bool) : ∀ n, asum ag ((List.range n).filter p) = sumTo (fun y => if p y = true then ag y else 0) n
  | 0 => rfl
  | n + 1 => by
    rw [List.range_succ, List.filter_append, asum_app, asum_filter ag p n, sumTo_succ]
    cases h : p n <;> simp [asum, h]
section
variable {n : Nat} {nx pv mu : Nat → Nat} {ag : Nat → Int}
theorem ptsL_sum : ∀ i, dsum (ptsL n nx mu ag i) = sumTo (fun j => if ptF n nx mu j = true then (ptO n nx mu ag j).df else 0) i
  | 0 => rfl
  | i + 1 => by
    rw [sumTo_succ, ← ptsL_sum i]
    cases h : ptF n nx mu i with
    | true => rw [ptsL_yes h, dsum_app]; simp [dsum]
    | false => rw [ptsL_no h]; simp
theorem cls_sum (E : List (Nat × Nat)) (n : Nat) (ag : Nat → Int) : ∀ i, sumTo (fun j => if rpE E j = j then sumTo (fun y => if rpE E y = rpE E j then ag y else 0) n else 0) i = sumTo (fun y => if rpE E y < i then ag y else 0) n
  | 0 => by rw [sumTo_zero n (fun y _ => if_neg (Nat.not_lt_zero _))]; rfl
  | i + 1 => by
    rw [sumTo_succ, cls_sum E n ag i]
    have e : sumTo (fun y => if rpE E y < i + 1 then ag y else 0) n = sumTo (fun y => (if rpE E y < i then ag y else 0) + (if rpE E y = i then ag y else 0)) n := sumTo_congr n fun y _ => by
      by_cases h1 : rpE E y < i
      · rw [if_pos h1, if_pos (by omega), if_neg (by omega)]; omega
      · by_cases h2 : rpE E y = i
        · rw [if_neg h1, if_pos h2, if_pos (by omega)]; omega
        · rw [if_neg h1, if_neg h2, if_neg (by omega)]; rfl
    rw [e, sumTo_add]
    congr 1
    by_cases h : rpE E i = i
    · rw [if_pos h]
      exact sumTo_congr n fun y _ => by rw [h]
    · rw [if_neg h, sumTo_zero]
      intro y _
      exact if_neg fun h2 => h (by rw [← h2, rpE_idem])
theorem cls_all (E : List (Nat × Nat)) (n : Nat) (ag : Nat → Int) : sumTo (fun j => if rpE E j = j then sumTo (fun y => if rpE E y = rpE E j then ag y else 0) n else 0) n = sumTo ag n := by
  rw [cls_sum]
  exact sumTo_congr n fun y hy => if_pos (by have := rpE_le E y; omega)
theorem cnN_sum (p : Nat → Bool) (q : Nat → Bool) : ∀ n, sumTo (fun j => if p j = true then (if q j = true then 360 else 180 : Int) else 0) n = 360 * (cnN (fun i => p i && q i) n : Int) + 180 * (cnN (fun i => p i && !q i) n : Int)
  | 0 => rfl
  | n + 1 => by
    rw [sumTo_succ, cnN_sum p q n]
    simp only [cnN]
    cases p n <;> cases q n <;> simp <;> omega
theorem sumTo_sub (F G : Nat → Int) : ∀ n, sumTo (fun i => F i - G i) n = sumTo F n - sumTo G n
  | 0 => rfl
  | n + 1 => by simp only [sumTo_succ, sumTo_sub F G n]; omega
/-- What is missing at all points. -/
theorem NetN.defect (h : NetN n nx pv mu) {m : Nat} (hf : frN n mu + 2 * m = n) : dsum (ptsL n nx mu ag n) = 360 * (ccE n (ptE n nx mu) : Int) - 180 * ((n : Int) - 2 * m) - sumTo ag n := by
  have e1 := cnN_split (fun i => decide (rpE (ptE n nx mu) i = i)) (innB n nx mu) n
  have e2 := h.outer
  have e3 := cnN_sum (fun i => decide (rpE (ptE n nx mu) i = i)) (innB n nx mu) n
  have e4 := cls_all (ptE n nx mu) n ag
  rw [ptsL_sum]
  have e5 : sumTo (fun j => if ptF n nx mu j = true then (ptO n nx mu ag j).df else 0) n = sumTo (fun j => (if decide (rpE (ptE n nx mu) j = j) = true then (if innB n nx mu j = true then 360 else 180 : Int) else 0) - (if rpE (ptE n nx mu) j = j then sumTo (fun y => if rpE (ptE n nx mu) y = rpE (ptE n nx mu) j then ag y else 0) n else 0)) n := sumTo_congr n fun j _ => by
    unfold ptF ptO
    simp only [decide_eq_true_eq]
    by_cases hj : rpE (ptE n nx mu) j = j
    · rw [if_pos hj, if_pos hj, if_pos hj]
      unfold clsL
      rw [asum_filter]
      simp only [decide_eq_true_eq]
    · rw [if_neg hj, if_neg hj, if_neg hj]; rfl
  rw [e5, sumTo_sub, e3, e4]
  have e6 : ccE n (ptE n nx mu) = cnN (fun i => decide (rpE (ptE n nx mu) i = i)) n := rfl
  omega
end
theorem sumTo_addn (F : Nat → Int) (a : Nat) : ∀ k, sumTo F (a + k) = sumTo F a + sumTo (fun i => F (a + i)) k
  | 0 => by simp [sumTo]
  | k + 1 => by
    rw [show a + (k + 1) = (a + k) + 1 by omega, sumTo_succ, sumTo_addn F a k, sumTo_succ]; omega
/-- The sum of all angles. -/
theorem ang_sum {ps : List Pc} (hA : allOK ps.length (sdF ps) (anF ps)) : ∀ p, p ≤ ps.length → sumTo (agF ps) (fsN (sdF ps) p) = 180 * (fsN (sdF ps) p : Int) - 360 * (p : Int)
  | 0, _ => rfl
  | p + 1, hp => by
    have e1 : fsN (sdF ps) (p + 1) = fsN (sdF ps) p + (sdF ps p).length := rfl
    rw [e1, sumTo_addn, ang_sum hA p (by omega)]
    obtain ⟨_, h2, _, h4⟩ := hA p (by omega)
    have e2 : sumTo (fun i => agF ps (fsN (sdF ps) p + i)) (sdF ps p).length = sumTo (fun i => (anF ps p).getD i 0) (sdF ps p).length := sumTo_congr _ fun i hi => by
      unfold agF
      have h5 : pcG (sdF ps) ps.length (fsN (sdF ps) p + i) = p := pcG_uniq (by omega) (by rw [e1]; omega) (by omega)
      rw [h5, show fsN (sdF ps) p + i - fsN (sdF ps) p = i by omega]
      rfl
    rw [e2, h4]
    omega
/-- The parts, the handles. -/
def paC (ps : List Pc) (sm : List Int) (m : Nat) : Nat := ccE ps.length (cmpE (pcG (sdF ps) ps.length) (smL (sdF ps) sm m))
def haC (ps : List Pc) (sm : List Int) (m : Nat) : Int := (2 * (paC ps sm m : Int) - euC ps sm m - ((lpsC ps sm m).length : Int)) / 2
section
variable {ps : List Pc} {sm : List Int} {m : Nat} {e : Int}
theorem VdC.msC (h : VdC ps sm m e) : dsum (ptsC ps sm m) = 360 * euC ps sm m := by
  have h1 := h.okS.free
  rw [smL_len] at h1
  have h2 := h.net.defect (ag := agF ps) h1
  have h3 := ang_sum h.ok ps.length (Nat.le_refl _)
  unfold ptsC euC
  unfold ptsC
  rw [ptsL_len, h2]
  unfold nC at h1 ⊢
  rw [h3]
  unfold muC
  omega
theorem VdC.pcs1 (h : VdC ps sm m e) : ∀ p, p < ps.length → 1 ≤ (sdF ps p).length := fun p hp => by
  have := (h.ok p hp).1.1; omega
theorem VdC.hd (h : VdC ps sm m e) : ∃ g : Nat, HdN (nC ps) (nxC ps) (pcG (sdF ps) ps.length) ps.length (smL (sdF ps) sm m) g :=
  h.okS.handles (cap_net (sdF ps) ps.length) (fun i hi => (nx_pc hi).1) (fun i hi => (pcG_spec hi).1) (cap_zero h.pcs1)
theorem VdC.sum (h : VdC ps sm m e) {g : Nat} (hg : HdN (nC ps) (nxC ps) (pcG (sdF ps) ps.length) ps.length (smL (sdF ps) sm m) g) : 2 * (paC ps sm m : Int) - euC ps sm m - ((lpsC ps sm m).length : Int) = 2 * (g : Int) := by
  have h1 := hg.sum (cap_net (sdF ps) ps.length) h.okS
  rw [smL_len] at h1
  unfold euC ptsC lpsC
  rw [ptsL_len, lpsL_len]
  unfold paC muC
  unfold nC nxC at *
  omega
theorem VdC.ha (h : VdC ps sm m e) {g : Nat} (hg : HdN (nC ps) (nxC ps) (pcG (sdF ps) ps.length) ps.length (smL (sdF ps) sm m) g) : haC ps sm m = (g : Int) := by
  unfold haC
  rw [h.sum hg, Int.mul_ediv_cancel_left _ (by decide)]
theorem VdC.ha0 (h : VdC ps sm m e) : 0 ≤ haC ps sm m ∧ euC ps sm m = 2 * (paC ps sm m : Int) - 2 * haC ps sm m - ((lpsC ps sm m).length : Int) := by
  obtain ⟨g, hg⟩ := h.hd
  have h1 := h.sum hg
  rw [h.ha hg]
  omega
theorem VdC.pa1 (h : VdC ps sm m e) : 1 ≤ paC ps sm m := by
  unfold paC ccE
  have h1 := h.n1
  have : (fun i => decide (rpE (cmpE (pcG (sdF ps) ps.length) (smL (sdF ps) sm m)) i = i)) 0 = true := by
    have := rpE_le (cmpE (pcG (sdF ps) ps.length) (smL (sdF ps) sm m)) 0
    simp only [decide_eq_true_eq]; omega
  have := cnN_rm (k := 0) (p := fun i => decide (rpE (cmpE (pcG (sdF ps) ps.length) (smL (sdF ps) sm m)) i = i)) this ps.length (by omega)
  omega
end
end Go.Proofs.Ytnbickholedckaa
