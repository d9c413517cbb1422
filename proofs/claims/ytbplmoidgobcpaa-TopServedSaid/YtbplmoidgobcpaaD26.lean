/- No right gifts serve more than any bound (plain). -/
import Derived.Test.YtbplmoidgobcpaaD23
namespace Go.Proofs.Ytbplmoidgobcpaa
open Go.RowKit

theorem gifts_le {N M G : Nat} {lz wz gz : List Int} (hall : ∀ j, j < G → gfE N M lz wz gz j = 0) (S : Nat → Bool) : ∀ i, i ≤ G →
    smS gz i ≤ sumTo (fun o => outS S o (gtS gz i o)) M + sumTo (fun k => inS (nrS M (nrF lz wz) S) k (gvS gz i k)) N
  | 0, _ => by
    have e1 : sumTo (fun o => outS S o (gtS gz 0 o)) M = 0 := sumTo_zero M fun o _ => by unfold outS gtS; split <;> rfl
    have e2 : sumTo (fun k => inS (nrS M (nrF lz wz) S) k (gvS gz 0 k)) N = 0 := sumTo_zero N fun o _ => by unfold inS gvS; split <;> rfl
    rw [e1, e2]
    exact Int.le_refl _
  | i + 1, hi => by
    have ih := gifts_le hall S i (by omega)
    obtain ⟨h1, h2, h3, h4, h5, h6, h7⟩ := gf_ok (hall i (by omega))
    have e0 : smS gz (i + 1) = smS gz i + gX gz i := rfl
    have hwM : (gW gz i).toNat < M := by omega
    have hlN : (gL gz i).toNat < N := by omega
    have e1 : sumTo (fun o => outS S o (gtS gz (i + 1) o)) M = sumTo (fun o => outS S o (gtS gz i o)) M + if (gW gz i).toNat < M then outS S (gW gz i).toNat (gX gz i) else 0 := sum_put1 fun o ho => by
      have e : gtS gz (i + 1) o = gtS gz i o + if gW gz i = o then gX gz i else 0 := rfl
      rw [e]
      by_cases e2 : o = (gW gz i).toNat
      · rw [if_pos (show gW gz i = o by omega), if_pos e2, ← e2]; unfold outS; split <;> omega
      · rw [if_neg (show ¬ gW gz i = o by omega), if_neg e2]; unfold outS; split <;> omega
    have e2 : sumTo (fun k => inS (nrS M (nrF lz wz) S) k (gvS gz (i + 1) k)) N = sumTo (fun k => inS (nrS M (nrF lz wz) S) k (gvS gz i k)) N + if (gL gz i).toNat < N then inS (nrS M (nrF lz wz) S) (gL gz i).toNat (gX gz i) else 0 := sum_put1 fun o ho => by
      have e : gvS gz (i + 1) o = gvS gz i o + if gL gz i = o then gX gz i else 0 := rfl
      rw [e]
      by_cases e2 : o = (gL gz i).toNat
      · rw [if_pos (show gL gz i = o by omega), if_pos e2, ← e2]; unfold inS; split <;> omega
      · rw [if_neg (show ¬ gL gz i = o by omega), if_neg e2]; unfold inS; split <;> omega
    rw [if_pos hwM] at e1
    rw [if_pos hlN] at e2
    rw [e0, e1, e2]
    by_cases hs : S (gW gz i).toNat = true
    · have a1 : outS S (gW gz i).toNat (gX gz i) = 0 := if_pos hs
      have a2 : inS (nrS M (nrF lz wz) S) (gL gz i).toNat (gX gz i) = gX gz i := inS_t (nrS_to.2 ⟨_, hwM, hs, h7⟩)
      omega
    · have a1 : outS S (gW gz i).toNat (gX gz i) = gX gz i := if_neg hs
      have a2 : 0 ≤ inS (nrS M (nrF lz wz) S) (gL gz i).toNat (gX gz i) := by unfold inS; split <;> omega
      omega
theorem ck_zero {N M G : Nat} {lz wz gz : List Int} (h : ckE N M G lz wz gz = 0) : vlE N M lz wz = 0 ∧ (∀ j, j < G → gfE N M lz wz gz j = 0) ∧ (∀ k, k < N → fitL lz gz G k = true) ∧ ∀ o, o < M → fitW wz gz G o = true := by
  unfold ckE at h
  by_cases hv : vlE N M lz wz = 0
  · rw [if_neg (by rw [hv]; simp)] at h
    by_cases hf : fsE (gfE N M lz wz gz) G = 0
    · rw [if_neg (by rw [hf]; simp)] at h
      by_cases hb : allB (fitL lz gz G) N = true ∧ allB (fitW wz gz G) M = true
      · refine ⟨hv, fun j hj => ?_, allB_to.1 hb.1, allB_to.1 hb.2⟩
        have key : ∀ n, (∀ i, i < n → gfE N M lz wz gz i = 0) ∨ ∃ i, i < n ∧ gfE N M lz wz gz i ≠ 0 ∧ ∀ j, j < i → gfE N M lz wz gz j = 0 := by
          intro n
          induction n with
          | zero => exact .inl fun i hi => absurd hi (Nat.not_lt_zero i)
          | succ n ih =>
            rcases ih with ih | ⟨i, h1, h2, h3⟩
            · by_cases e : gfE N M lz wz gz n = 0
              · exact .inl fun i hi => by
                  by_cases e2 : i = n
                  · rw [e2]; exact e
                  · exact ih i (by omega)
              · exact .inr ⟨n, by omega, e, ih⟩
            · exact .inr ⟨i, by omega, h2, h3⟩
        rcases key G with h1 | ⟨i, h1, h2, h3⟩
        · exact h1 j hj
        · exact absurd hf (by rw [fsE_at h2 h3 G h1]; exact h2)
      · rw [if_neg hb] at h; cases h
    · rw [if_pos hf] at h; exact absurd h hf
  · rw [if_pos hv] at h; exact absurd h hv
/-- No right gifts serve more than the best ones. -/
theorem gifts_best {N M G : Nat} {lz wz gz : List Int} (h : ckE N M G lz wz gz = 0) : ckV N M G lz wz gz ≤ bsS N M lz wz := by
  obtain ⟨hv, hall, h1, h2⟩ := ck_zero h
  have e : ckV N M G lz wz gz = smS gz G := if_pos h
  obtain ⟨f1, f2⟩ := fill_fed hv
  obtain ⟨S, hS⟩ := tot_meets f1 f2
  have e2 : bsS N M lz wz = bdF N M lz wz S := (if_pos hv).trans hS
  have h3 := gifts_le hall S G (Nat.le_refl _)
  have h4 : sumTo (fun o => outS S o (gtS gz G o)) M ≤ sumTo (fun o => outS S o (wt 5 wz o)) M := sumTo_mono M fun o ho => by
    have : gtS gz G o ≤ wt 5 wz o := of_decide_eq_true (h2 o ho)
    unfold outS
    split <;> omega
  have h5 : sumTo (fun k => inS (nrS M (nrF lz wz) S) k (gvS gz G k)) N ≤ sumTo (fun k => inS (nrS M (nrF lz wz) S) k (wt 4 lz k)) N := sumTo_mono N fun k hk => by
    have : gvS gz G k ≤ wt 4 lz k := of_decide_eq_true (h1 k hk)
    unfold inS
    split <;> omega
  have e3 : bdF N M lz wz S = sumTo (fun o => outS S o (wt 5 wz o)) M + sumTo (fun k => inS (nrS M (nrF lz wz) S) k (wt 4 lz k)) N := rfl
  omega
/-- No bound is less than the best gifts. -/
theorem best_bound {N M G : Nat} {lz wz sz : List Int} (h : boE N M G lz wz sz = 0) : bsS N M lz wz ≤ boV N M G lz wz sz := by
  have e : boV N M G lz wz sz = bdF N M lz wz (inB sz G) := if_pos h
  have hv : vlE N M lz wz = 0 := by
    unfold boE at h
    by_cases hv : vlE N M lz wz = 0
    · exact hv
    · rw [if_pos hv] at h; exact absurd h hv
  rw [e]
  have e2 : bsS N M lz wz = tot N M (fillR N M lz wz).2 := if_pos hv
  rw [e2]
  exact tot_le (fill_fed hv).1 _
end Go.Proofs.Ytbplmoidgobcpaa
