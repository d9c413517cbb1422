/- A row is spread by the earliest deadline first: the shares of every beginning. -/
import Derived.Test.YtlijcnocahplbaaK12
namespace Go.Proofs.Ytlijcnocahplbaa
open Go.RowKit

/-! ### Spread rows: the earliest deadline first keeps every share -/
theorem sumTo_mul (a : Int) (F : Nat → Int) : ∀ n, sumTo (fun i => a * F i) n = a * sumTo F n
  | 0 => by simp [sumTo]
  | n + 1 => by rw [sumTo_succ, sumTo_succ, sumTo_mul a F n, Int.mul_add]
theorem sumTo_mono {F G : Nat → Int} : ∀ n, (∀ i, i < n → F i ≤ G i) → sumTo F n ≤ sumTo G n
  | 0, _ => Int.le_refl _
  | n + 1, h => by rw [sumTo_succ, sumTo_succ]; have := sumTo_mono n (fun i hi => h i (by omega)); have := h n (by omega); omega
theorem sumTo_one (x : Int) (c : Nat) : ∀ n, c < n → sumTo (fun i => if i = c then x else 0) n = x
  | 0, h => by omega
  | n + 1, h => by
    rw [sumTo_succ]
    by_cases hc : c = n
    · subst hc; rw [sumTo_zero c (fun i hi => if_neg (by omega)), if_pos rfl, Int.zero_add]
    · rw [sumTo_one x c n (by omega), if_neg (by omega), Int.add_zero]
section
variable {w : Nat → Int} {S : Int} {m : Nat} {h : Nat → Nat → Int} {ch : Nat → Nat}
theorem edf_last (good : Nat → Prop) [∀ k, Decidable (good k)] : ∀ t : Nat, ∃ s, s ≤ t ∧ (s = 0 ∨ ∃ s', s = s' + 1 ∧ ¬ good s') ∧ ∀ k, s ≤ k → k < t → good k
  | 0 => ⟨0, by omega, .inl rfl, fun k _ h => by omega⟩
  | t + 1 => by
    by_cases hg : good t
    · obtain ⟨s, h1, h2, h3⟩ := edf_last good t
      refine ⟨s, by omega, h2, fun k hk hk2 => ?_⟩
      by_cases hkt : k = t
      · subst hkt; exact hg
      · exact h3 k hk (by omega)
    · exact ⟨t + 1, by omega, .inr ⟨t, rfl, hg⟩, fun k _ h => by omega⟩
theorem edf_mono (H1 : ∀ k c, h (k + 1) c = h k c + if c = ch k then 1 else 0) (c s : Nat) : ∀ d, h s c ≤ h (s + d) c
  | 0 => Int.le_refl _
  | d + 1 => by rw [show s + (d + 1) = s + d + 1 by omega, H1]; have := edf_mono H1 c s d; split <;> omega
theorem edf_stay (H1 : ∀ k c, h (k + 1) c = h k c + if c = ch k then 1 else 0) (t c s : Nat) (hg : ∀ k, s ≤ k → k < t → (h k (ch k) + 1) * S ≤ t * w (ch k)) : ∀ d, s + d ≤ t → h (s + d) c = h s c ∨ h (s + d) c * S ≤ t * w c
  | 0, _ => .inl rfl
  | d + 1, hd => by
    rw [show s + (d + 1) = s + d + 1 by omega, H1]
    by_cases hc : c = ch (s + d)
    · have := hg (s + d) (by omega) (by omega)
      rw [if_pos hc, hc]; exact .inr this
    · rw [if_neg hc, Int.add_zero]; exact edf_stay H1 t c s hg d (by omega)
theorem edf_low (H0 : ∀ c, h 0 c = 0) (H1 : ∀ k c, h (k + 1) c = h k c + if c = ch k then 1 else 0) (Hs : ∀ k, sumTo (h k) m = k) (HS : sumTo w m = S) (hS : 0 < S)
    (H3 : ∀ k c, c < m → h k c * S < (k + 1 : Nat) * w c → ∀ t : Nat, (h k c + 1) * S ≤ t * w c → (h k (ch k) + 1) * S ≤ t * w (ch k))
    (t c0 : Nat) (hc0 : c0 < m) (hw : ∀ c, c < m → 0 ≤ w c) : t * w c0 < (h t c0 + 1) * S := by
  refine Int.lt_of_not_ge fun hge => ?_
  obtain ⟨s, hst, hs, hg⟩ := edf_last (fun k => (h k (ch k) + 1) * S ≤ t * w (ch k)) t
  have hD : ∀ c, c < m → (h s c + 1) * S ≤ t * w c → s * w c ≤ h s c * S := fun c hc hd => by
    rcases hs with rfl | ⟨s', rfl, hb⟩
    · rw [H0]; simp
    · have hm1 := H1 s' c
      have hm : h s' c ≤ h (s' + 1) c := by rw [hm1]; split <;> omega
      have hm2 : h s' c * S ≤ h (s' + 1) c * S := Int.mul_le_mul_of_nonneg_right hm (by omega)
      by_cases he : h s' c * S < (s' + 1 : Nat) * w c
      · have hd2 : (h s' c + 1) * S ≤ t * w c := by rw [Int.add_mul] at hd ⊢; omega
        exact absurd (H3 s' c hc he t hd2) hb
      · omega
  have hE : ∀ c, c < m → h t c * S - h s c * S + (if c = c0 then S else 0) ≤ t * w c - s * w c := fun c hc => by
    have hmo := edf_mono H1 c s (t - s)
    have hst2 := edf_stay H1 t c s hg (t - s) (by omega)
    rw [show s + (t - s) = t by omega] at hmo hst2
    have hw' := hw c hc
    have hmul : h s c * S ≤ h t c * S := Int.mul_le_mul_of_nonneg_right hmo (by omega)
    by_cases hcc : c = c0
    · subst hcc
      rw [if_pos rfl]
      rw [Int.add_mul, Int.one_mul] at hge
      have := hD c hc (by rw [Int.add_mul, Int.one_mul]; omega)
      omega
    · rw [if_neg hcc]
      have h0 : s * w c ≤ t * w c := Int.mul_le_mul_of_nonneg_right (by omega) hw'
      by_cases heq : h t c = h s c
      · rw [heq]; omega
      · have hle : (h s c + 1) * S ≤ h t c * S := Int.mul_le_mul_of_nonneg_right (by omega) (by omega)
        rcases hst2 with h2 | h2
        · exact absurd h2 heq
        · have := hD c hc (by omega); omega
  have hsum := sumTo_mono m hE
  have e1 : ∀ k : Nat, sumTo (fun c => h k c * S) m = k * S := fun k => by
    rw [show (fun c => h k c * S) = fun c => S * h k c from funext fun c => Int.mul_comm _ _, sumTo_mul, Hs k, Int.mul_comm]
  have e2 : sumTo (fun c => h t c * S - h s c * S + (if c = c0 then S else 0)) m = t * S - s * S + S := by
    rw [sumTo_add, sumTo_one S c0 m hc0]
    have := sumTo_add (fun c => h t c * S - h s c * S) (fun c => h s c * S) m
    simp only [Int.sub_add_cancel] at this
    rw [e1, e1] at this
    omega
  have e3 : ∀ k : Nat, sumTo (fun c => (k : Int) * w c) m = k * S := fun k => by rw [sumTo_mul, HS]
  have e4 : sumTo (fun c => t * w c - s * w c) m = t * S - s * S := by
    have := sumTo_add (fun c => (t : Int) * w c - s * w c) (fun c => s * w c) m
    simp only [Int.sub_add_cancel] at this
    rw [e3, e3] at this
    omega
  rw [e2, e4] at hsum
  omega
theorem edf_up (H0 : ∀ c, h 0 c = 0) (H1 : ∀ k c, h (k + 1) c = h k c + if c = ch k then 1 else 0) (hS : 0 < S) (H2 : ∀ k, h k (ch k) * S < (k + 1 : Nat) * w (ch k)) (c : Nat) (hw : 0 ≤ w c) : ∀ t : Nat, h t c * S < t * w c + S
  | 0 => by rw [H0]; simp; exact hS
  | t + 1 => by
    have ih := edf_up H0 H1 hS H2 c hw t
    have e : ((t + 1 : Nat) : Int) * w c = t * w c + w c := by rw [Int.natCast_succ, Int.add_mul, Int.one_mul]
    rw [H1]
    by_cases hc : c = ch t
    · have := H2 t
      rw [← hc] at this
      rw [if_pos hc, Int.add_mul, Int.one_mul]
      omega
    · rw [if_neg hc, Int.add_zero]; omega
end
/-! The choice of a color. -/
def sEl (w : Nat → Int) (S : Int) (k : Nat) (h : Nat → Int) (c : Nat) : Prop := h c * S < k * w c
instance (w : Nat → Int) (S : Int) (k : Nat) (h : Nat → Int) (c : Nat) : Decidable (sEl w S k h c) := by unfold sEl; infer_instance
def sDue (w : Nat → Int) (S : Int) (h : Nat → Int) (c : Nat) : Int := ((h c + 1) * S + w c - 1) / w c
def sPk (w : Nat → Int) (S : Int) (k : Nat) (h : Nat → Int) : Nat → Int × Int
  | 0 => (-1, 0)
  | c + 1 => if sEl w S k h c then if (sPk w S k h c).1 < 0 ∨ sDue w S h c < (sPk w S k h c).2 then (c, sDue w S h c) else sPk w S k h c else sPk w S k h c
theorem sPk_spec (w : Nat → Int) (S : Int) (k : Nat) (h : Nat → Int) : ∀ i,
    (sPk w S k h i = (-1, 0) ∧ ∀ c, c < i → ¬ sEl w S k h c) ∨ ∃ b : Nat, b < i ∧ sPk w S k h i = ((b : Int), sDue w S h b) ∧ sEl w S k h b ∧ ∀ c, c < i → sEl w S k h c → sDue w S h b ≤ sDue w S h c
  | 0 => .inl ⟨rfl, fun c hc => by omega⟩
  | i + 1 => by
    have ih := sPk_spec w S k h i
    have all : ∀ {q : Nat → Prop}, (∀ c, c < i → q c) → q i → ∀ c, c < i + 1 → q c := fun h1 h2 c hc => by
      by_cases hci : c = i
      · subst hci; exact h2
      · exact h1 c (by omega)
    unfold sPk
    by_cases he : sEl w S k h i
    · rw [if_pos he]
      rcases ih with ⟨e, hn⟩ | ⟨b, hb, e, he2, hl⟩
      · rw [e, if_pos (Or.inl (by decide))]
        exact .inr ⟨i, by omega, rfl, he, all (fun c hc h2 => absurd h2 (hn c hc)) (fun _ => Int.le_refl _)⟩
      · rw [e]
        by_cases hlt : sDue w S h i < sDue w S h b
        · rw [if_pos (Or.inr hlt)]
          exact .inr ⟨i, by omega, rfl, he, all (fun c hc h2 => by have := hl c hc h2; omega) (fun _ => Int.le_refl _)⟩
        · rw [if_neg (by rintro (h1 | h1); · simp only at h1; omega
                         · exact hlt h1)]
          exact .inr ⟨b, by omega, rfl, he2, all hl (fun _ => by omega)⟩
    · rw [if_neg he]
      rcases ih with ⟨e, hn⟩ | ⟨b, hb, e, he2, hl⟩
      · exact .inl ⟨e, all hn he⟩
      · exact .inr ⟨b, by omega, e, he2, all hl (fun h2 => absurd h2 he)⟩
/-- How many hairs of each color there are after k hairs; the color of the next. -/
def sHv (w : Nat → Int) (S : Int) (m : Nat) : Nat → Nat → Int
  | 0 => fun _ => 0
  | k + 1 => fun c => sHv w S m k c + if c = (sPk w S (k + 1) (sHv w S m k) m).1.toNat then 1 else 0
def sCh (w : Nat → Int) (S : Int) (m k : Nat) : Nat := (sPk w S (k + 1) (sHv w S m k) m).1.toNat
theorem sDue_le {w : Nat → Int} {S : Int} {h : Nat → Int} {c : Nat} (hw : 0 < w c) (t : Int) : sDue w S h c ≤ t ↔ (h c + 1) * S ≤ t * w c := by
  unfold sDue
  constructor
  · intro h1
    have h2 := Int.lt_ediv_add_one_mul_self ((h c + 1) * S + w c - 1) hw
    have h3 := Int.mul_le_mul_of_nonneg_right h1 (Int.le_of_lt hw)
    generalize ((h c + 1) * S + w c - 1) / w c = q at h1 h2 h3
    rw [Int.add_mul q, Int.one_mul] at h2
    generalize (h c + 1) * S = z at h2 ⊢
    omega
  · intro h1
    have : ((h c + 1) * S + w c - 1) / w c < t + 1 := Int.ediv_lt_of_lt_mul hw (by rw [Int.add_mul t, Int.one_mul]; omega)
    omega
theorem s_step {w : Nat → Int} {S : Int} {m : Nat} (HS : sumTo w m = S) (hS : 0 < S) (k : Nat) (hsum : sumTo (sHv w S m k) m = k) : sCh w S m k < m ∧ sPk w S (k + 1) (sHv w S m k) m = ((sCh w S m k : Int), sDue w S (sHv w S m k) (sCh w S m k)) ∧ sEl w S (k + 1) (sHv w S m k) (sCh w S m k)
    ∧ ∀ c, c < m → sEl w S (k + 1) (sHv w S m k) c → sDue w S (sHv w S m k) (sCh w S m k) ≤ sDue w S (sHv w S m k) c := by
  rcases sPk_spec w S (k + 1) (sHv w S m k) m with ⟨_, hn⟩ | ⟨b, hb, e, he, hl⟩
  · exfalso
    have h1 : sumTo (fun c => ((k + 1 : Nat) : Int) * w c) m ≤ sumTo (fun c => S * sHv w S m k c) m := sumTo_mono m fun c hc => by
      have := hn c hc
      unfold sEl at this
      rw [Int.mul_comm S]; omega
    rw [sumTo_mul, sumTo_mul, HS, hsum, Int.natCast_succ, Int.add_mul, Int.one_mul, Int.mul_comm S] at h1
    omega
  · have e2 : sCh w S m k = b := by unfold sCh; rw [e]; simp
    rw [e2]; exact ⟨hb, e, he, hl⟩
theorem s_sum {w : Nat → Int} {S : Int} {m : Nat} (HS : sumTo w m = S) (hS : 0 < S) : ∀ k, sumTo (sHv w S m k) m = k
  | 0 => sumTo_zero m (fun _ _ => rfl)
  | k + 1 => by
    have ih := s_sum HS hS k
    have hs := s_step HS hS k ih
    show sumTo (fun c => sHv w S m k c + if c = sCh w S m k then 1 else 0) m = _
    rw [sumTo_add (sHv w S m k), ih, sumTo_one 1 _ m hs.1]; omega
theorem s_spread {w : Nat → Int} {S : Int} {m : Nat} (hw : ∀ c, c < m → 0 ≤ w c) (HS : sumTo w m = S) (hS : 0 < S) (k c : Nat) (hc : c < m) : 1 - S ≤ sHv w S m k c * S - k * w c ∧ sHv w S m k c * S - k * w c ≤ S - 1 := by
  have st := fun k => s_step HS hS k (s_sum HS hS k)
  have H1 : ∀ k c, sHv w S m (k + 1) c = sHv w S m k c + if c = sCh w S m k then 1 else 0 := fun _ _ => rfl
  have up := edf_up (h := sHv w S m) (ch := sCh w S m) (w := w) (fun _ => rfl) H1 hS (fun k => (st k).2.2.1) c (hw c hc) k
  have lo := edf_low (h := sHv w S m) (ch := sCh w S m) (w := w) (S := S) (m := m) (fun _ => rfl) H1 (s_sum HS hS) HS hS (fun k c hc he t ht => by
    have h1 := (st k).2.2.2 c hc he
    have wpos : ∀ c, c < m → sEl w S (k + 1) (sHv w S m k) c → 0 ≤ sHv w S m k c → 0 < w c := fun c hc he h0 => by
      unfold sEl at he
      have h2 : 0 ≤ sHv w S m k c * S := Int.mul_nonneg h0 (by omega)
      have h3 := hw c hc
      by_cases h4 : w c = 0
      · rw [h4] at he; simp at he; omega
      · omega
    have nn : ∀ k c, 0 ≤ sHv w S m k c := fun k c => by
      have := edf_mono H1 c 0 k
      rw [Nat.zero_add] at this
      exact this
    have p1 := wpos c hc he (nn k c)
    have p2 := wpos _ (st k).1 (st k).2.2.1 (nn k _)
    have h2 := (sDue_le p1 t).2 ht
    exact (sDue_le p2 t).1 (by omega)) k c hc hw
  rw [Int.add_mul, Int.one_mul] at lo
  omega
end Go.Proofs.Ytlijcnocahplbaa
