/- Parts in their order, merged one by one: plain. -/
import Derived.Test.YtphobgibcpmgdaaMD42
namespace Go.Proofs.Ytphobgibcpmgdaa
open Go.RowKit

theorem isS_iff {lz : List Int} {i k κ : Nat} (h1 : shL κ = lz.getD (i * 4) 0) (h2 : shT_ κ = lz.getD (i * 4 + 1) 0) (h3 : shC κ = lz.getD (i * 4 + 2) 0) : isS lz i (shL k) (shT_ k) (shC k) ↔ k = κ := by
  unfold isS
  rw [← h1, ← h2, ← h3]
  constructor
  · rintro ⟨a, b, c⟩; exact s_inj a.symm b.symm c.symm
  · rintro rfl; exact ⟨rfl, rfl, rfl⟩
theorem s_lt {j k : Nat} (h : j < k) (hk : k < 240) : shL j < shL k ∨ (shL j = shL k ∧ (shT_ j < shT_ k ∨ (shT_ j = shT_ k ∧ shC j < shC k))) := by
  unfold shL shT_ shC; omega
/-- Rows of parts in order: what is known of them. -/
structure Ord (N : Nat) (lz : List Int) : Prop where
  sh : ∀ i, i < N → sdB (lz.getD (i * 4) 0) (lz.getD (i * 4 + 1) 0) (lz.getD (i * 4 + 2) 0) = true
  wt : ∀ i, i < N → 0 ≤ wgt lz i ∧ wgt lz i ≤ 10000000000
  ord : ∀ j i, j < i → i < N → ¬ (lz.getD (i * 4) 0 < lz.getD (j * 4) 0 ∨ (lz.getD (i * 4) 0 = lz.getD (j * 4) 0 ∧ (lz.getD (i * 4 + 1) 0 < lz.getD (j * 4 + 1) 0 ∨ (lz.getD (i * 4 + 1) 0 = lz.getD (j * 4 + 1) 0 ∧ lz.getD (i * 4 + 2) 0 < lz.getD (j * 4 + 2) 0))))
theorem wS_zero (lz : List Int) (k : Nat) : wS lz 0 k = 0 := rfl
theorem wS_succ (lz : List Int) (i k : Nat) : wS lz (i + 1) k = wS lz i k + if isS lz i (shL k) (shT_ k) (shC k) then wgt lz i else 0 := rfl
theorem wS_b {N : Nat} {lz : List Int} (h : ∀ i, i < N → 0 ≤ wgt lz i ∧ wgt lz i ≤ 10000000000) (k : Nat) : ∀ i, i ≤ N → 0 ≤ wS lz i k ∧ wS lz i k ≤ i * 10000000000
  | 0, _ => by rw [wS_zero]; omega
  | i + 1, hi => by
    have h1 := wS_b h k i (by omega)
    have h2 := h i (by omega)
    rw [wS_succ]
    split <;> omega
theorem wS_out {N : Nat} {lz : List Int} (h : ∀ i, i < N → sdB (lz.getD (i * 4) 0) (lz.getD (i * 4 + 1) 0) (lz.getD (i * 4 + 2) 0) = true) {k : Nat} (hk : 240 ≤ k) : ∀ i, i ≤ N → wS lz i k = 0
  | 0, _ => rfl
  | i + 1, hi => by
    rw [wS_succ, wS_out h hk i (by omega), if_neg]
    · rfl
    · obtain ⟨κ, h0, h1, h2, h3⟩ := s_all (h i (by omega))
      rw [isS_iff h1 h2 h3]; omega
theorem Ord.above {N : Nat} {lz : List Int} (h : Ord N lz) {i κ k : Nat} (hi : i < N) (h1 : shL κ = lz.getD (i * 4) 0) (h2 : shT_ κ = lz.getD (i * 4 + 1) 0) (h3 : shC κ = lz.getD (i * 4 + 2) 0) (hk : κ < k) (hk2 : k < 240) : ∀ j, j ≤ i → wS lz j k = 0
  | 0, _ => rfl
  | j + 1, hj => by
    rw [wS_succ, h.above hi h1 h2 h3 hk hk2 j (by omega), if_neg]
    · rfl
    · rintro ⟨e1, e2, e3⟩
      have h4 := h.ord j i (by omega) hi
      rw [e1, e2, e3, ← h1, ← h2, ← h3] at h4
      exact h4 (s_lt hk hk2)
theorem Ord.add {lz : List Int} {i κ : Nat} (h1 : shL κ = lz.getD (i * 4) 0) (h2 : shT_ κ = lz.getD (i * 4 + 1) 0) (h3 : shC κ = lz.getD (i * 4 + 2) 0) : wS lz (i + 1) = addW (wS lz i) κ (wgt lz i) := by
  funext k
  rw [wS_succ, addW]
  congr 1
  by_cases e : k = κ
  · rw [if_pos ((isS_iff h1 h2 h3).2 e), if_pos e]
  · rw [if_neg (fun hh => e ((isS_iff h1 h2 h3).1 hh)), if_neg e]
/-- The next part: merged with the last one, or a new one. -/
theorem Ord.step {N : Nat} {lz : List Int} (h : Ord N lz) {i : Nat} (hi : i < N) :
    (wgt lz i = 0 ∧ kp (wS lz (i + 1)) 240 = kp (wS lz i) 240 ∧ (kpr (wS lz (i + 1)) 240).length = (kpr (wS lz i) 240).length) ∨ 0 < wgt lz i ∧
    ((∃ A w, kp (wS lz i) 240 = A ++ [lz.getD (i * 4) 0, lz.getD (i * 4 + 1) 0, lz.getD (i * 4 + 2) 0, w] ∧ kp (wS lz (i + 1)) 240 = A ++ [lz.getD (i * 4) 0, lz.getD (i * 4 + 1) 0, lz.getD (i * 4 + 2) 0, w + wgt lz i] ∧ 0 ≤ w ∧ w ≤ i * 10000000000) ∨
     (kp (wS lz (i + 1)) 240 = kp (wS lz i) 240 ++ [lz.getD (i * 4) 0, lz.getD (i * 4 + 1) 0, lz.getD (i * 4 + 2) 0, wgt lz i] ∧
      (kp (wS lz i) 240 = [] ∨ ∃ A L T C w, kp (wS lz i) 240 = A ++ [L, T, C, w] ∧ ¬ (L = lz.getD (i * 4) 0 ∧ T = lz.getD (i * 4 + 1) 0 ∧ C = lz.getD (i * 4 + 2) 0)))) := by
  obtain ⟨κ, h0, h1, h2, h3⟩ := s_all (h.sh i hi)
  have hw := (h.wt i hi).1
  have hb := wS_b h.wt κ i (by omega)
  have ha := Ord.add h1 h2 h3
  by_cases hz : wgt lz i = 0
  · left
    have e : wS lz (i + 1) = wS lz i := by
      rw [ha]; funext k; unfold addW; rw [hz]; split <;> omega
    rw [e]
    exact ⟨hz, rfl, rfl⟩
  · right
    refine ⟨by omega, ?_⟩
    rw [ha]
    by_cases hp : 0 < wS lz i κ
    · left
      obtain ⟨q1, q2⟩ := kp_old (W := wS lz i) (w := wgt lz i) h0 (fun k a b => h.above hi h1 h2 h3 a b i (Nat.le_refl _)) hp hw
      refine ⟨kp (wS lz i) κ, wS lz i κ, ?_, ?_, hb⟩
      · rw [q1, rowK, h1, h2, h3]
      · rw [q2, h1, h2, h3]
    · right
      obtain ⟨q1, q2⟩ := kp_new (W := wS lz i) (w := wgt lz i) h0 (fun k a b => by
        by_cases e : k = κ
        · subst e; omega
        · exact h.above hi h1 h2 h3 (by omega) b i (Nat.le_refl _)) (by omega)
      refine ⟨by rw [q1, h1, h2, h3], ?_⟩
      rcases q2 with q2 | ⟨A, m, hm, q2⟩
      · exact .inl q2
      · refine .inr ⟨A, shL m, shT_ m, shC m, wS lz i m, q2, ?_⟩
        rw [← h1, ← h2, ← h3]
        rintro ⟨a, b, c⟩
        have := s_inj a b c
        omega
/-- Sorted rows are in order, and have the weights of the rows that were sorted. -/
theorem srt_ord {N : Nat} {l l' : List Int} (hs : Srt 4 N cfP l l') (h1 : ∀ i, i < N → sdB (l.getD (i * 4) 0) (l.getD (i * 4 + 1) 0) (l.getD (i * 4 + 2) 0) = true) (h2 : ∀ i, i < N → 0 ≤ wgt l i ∧ wgt l i ≤ 10000000000) : Ord N l' := by
  have g : ∀ (m : List Int) (i : Nat), (rw_ 4 m i).1.getD 0 0 = m.getD (i * 4) 0 ∧ (rw_ 4 m i).1.getD 1 0 = m.getD (i * 4 + 1) 0 ∧ (rw_ 4 m i).1.getD 2 0 = m.getD (i * 4 + 2) 0 ∧ (rw_ 4 m i).1.getD 3 0 = m.getD (i * 4 + 3) 0 := fun m i => ⟨rw_get (by decide), rw_get (by decide), rw_get (by decide), rw_get (by decide)⟩
  refine ⟨fun i hi => ?_, fun i hi => ?_, fun j i hij hi => ?_⟩
  · have := rwl_all hs.perm (p := fun x => sdB (x.1.getD 0 0) (x.1.getD 1 0) (x.1.getD 2 0) = true) (fun i hi => by obtain ⟨a, b, c, _⟩ := g l i; rw [a, b, c]; exact h1 i hi) i hi
    obtain ⟨a, b, c, _⟩ := g l' i
    rwa [a, b, c] at this
  · have := rwl_all hs.perm (p := fun x => 0 ≤ x.1.getD 3 0 ∧ x.1.getD 3 0 ≤ 10000000000) (fun i hi => by obtain ⟨_, _, _, d⟩ := g l i; rw [d]; exact h2 i hi) i hi
    obtain ⟨_, _, _, d⟩ := g l' i
    rwa [d] at this
  · have := hs.sorted j i hij hi
    unfold cfP at this
    obtain ⟨a, b, c, _⟩ := g l' i
    obtain ⟨a', b', c', _⟩ := g l' j
    rwa [a, b, c, a', b', c', cmS_lt] at this
theorem srt_wS {N : Nat} {l l' : List Int} (hs : Srt 4 N cfP l l') (k : Nat) : wS l' N k = wS l N k := by
  let f : Rw 4 → Int := fun x => if x.1.getD 0 0 = shL k ∧ x.1.getD 1 0 = shT_ k ∧ x.1.getD 2 0 = shC k then x.1.getD 3 0 else 0
  have e : ∀ m : List Int, wS m N k = sumR f (rwl 4 N m) := fun m => by
    rw [← sumTo_rwl]
    unfold wS
    apply sumTo_congr
    intro i _
    have a : (rw_ 4 m i).1.getD 0 0 = m.getD (i * 4) 0 := rw_get (by decide)
    have b : (rw_ 4 m i).1.getD 1 0 = m.getD (i * 4 + 1) 0 := rw_get (by decide)
    have c : (rw_ 4 m i).1.getD 2 0 = m.getD (i * 4 + 2) 0 := rw_get (by decide)
    have d : (rw_ 4 m i).1.getD 3 0 = m.getD (i * 4 + 3) 0 := rw_get (by decide)
    show _ = if (rw_ 4 m i).1.getD 0 0 = shL k ∧ (rw_ 4 m i).1.getD 1 0 = shT_ k ∧ (rw_ 4 m i).1.getD 2 0 = shC k then (rw_ 4 m i).1.getD 3 0 else 0
    rw [a, b, c, d]
    rfl
  rw [e l', e l]
  exact sumR_perm f hs.perm
end Go.Proofs.Ytphobgibcpmgdaa
