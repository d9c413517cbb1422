/- Parts of a bundle, mixed again. -/
import Derived.Test.YtiopaodiaokfdaaH24
import Derived.Test.YtiopaodiaokfdaaH20
namespace Go.Proofs.Ytiopaodiaokfdaa
open Go.RowKit

theorem cn_far {l : List Int} (h : l.length ≤ 24) {i : Nat} (hi : 25 ≤ i) : cn l i = 0 := by
  unfold cn
  rw [if_neg (by omega), List.getD_eq_getElem?_getD, List.getElem?_eq_none (by omega)]; rfl
theorem cn_parts {l : List Int} {F1 F2 : Nat → Int} (hl : l.length ≤ 24) (z1 : F1 0 = 0) (z2 : F2 0 = 0) (h : ∀ i, i < 25 → F1 i + F2 i = cn l i) : addF (cn (trm F1)) (cn (trm F2)) = cn l := by
  funext i
  unfold addF
  by_cases hi : i < 25
  · rw [cn_trm' z1 hi, cn_trm' z2 hi, h i hi]
  · rw [cn_far (trm_length _) (by omega), cn_far (trm_length _) (by omega), cn_far hl (by omega)]; rfl
theorem vErr_trmO {F G : Nat → Int} (hf : Okh F) (hg : Okh G) : vErr (trm F) (trm G) = 0 := (tie_ok (okh_okf hf) (okh_okf hg) (tie_okh hf hg).2.2).2.2
/-- Two parts of a bundle make the bundle. -/
theorem mix_parts {r g : List Int} (hv : vErr r g = 0) {F1 F2 G1 G2 : Nat → Int} (o1 : Okh F1) (o2 : Okh F2) (o3 : Okh G1) (o4 : Okh G2) (z1 : F1 0 = 0) (z2 : F2 0 = 0) (z3 : G1 0 = 0) (z4 : G2 0 = 0)
    (h1 : ∀ i, i < 25 → F1 i + F2 i = cn r i) (h2 : ∀ i, i < 25 → G1 i + G2 i = cn g i) :
    mxE (trm F1) (trm G1) (trm F2) (trm G2) = 0 ∧ mxR (trm F1) (trm G1) (trm F2) (trm G2) = trm (cn r) ∧ mxG (trm F1) (trm G1) (trm F2) (trm G2) = trm (cn g) ∧ pErr (trm (cn r)) (trm (cn g)) r g = 0 ∧ decide (pErr (trm (cn r)) (trm (cn g)) r g = 0 ∧ sameF (cn (trm (cn r))) (cn (trm (cn g))) (cn r) (cn g)) = true := by
  obtain ⟨hr, hg, q3, q4, q5, q6⟩ := vErr_zero hv
  have k1 := okh_cn q3 q5; have k2 := okh_cn q4 q6
  have hp : pErr (trm F1) (trm G1) (trm F2) (trm G2) = 0 := by rw [pErr_two (vErr_trmO o1 o3), vErr_trmO o2 o4]
  obtain ⟨t1, t2, t3⟩ := tie_okh k1 k2
  have hs : pErr (trm (cn r)) (trm (cn g)) r g = 0 := by rw [pErr_two (vErr_trmO k1 k2), hv]
  unfold mxE mxR mxG
  simp only [if_pos hp]
  rw [cn_parts hr z1 z2 h1, cn_parts hg z3 z4 h2]
  refine ⟨t3, t1, t2, hs, decide_eq_true ⟨hs, fun i hi => ⟨?_, ?_⟩⟩⟩
  · exact cn_trm' (cn_zero r) hi
  · exact cn_trm' (cn_zero g) hi
end Go.Proofs.Ytiopaodiaokfdaa
