/- Plans: plain. -/
import Derived.Test.YtgcjddlcgpjlcaaMP42
namespace Go.Proofs.Ytgcjddlcgpjlcaa
open Go.RowKit

theorem sum_cat (F : Nat → Int) (M : Nat) : ∀ m, sumTo F (M + m) = sumTo F M + sumTo (fun a => F (M + a)) m
  | 0 => by simp [sumTo]
  | m + 1 => by rw [← Nat.add_assoc, sumTo_succ, sumTo_succ, sum_cat F M m]; omega
theorem one_in {p : Nat → Nat} {x : Int} {j : Nat} : ∀ m, (∀ a b, a < b → b < m → p a < p b) → sumTo (fun a => if p a = j then x else 0) m = x * sumTo (fun a => if p a = j then 1 else 0) m ∧ (sumTo (fun a => if p a = j then (1 : Int) else 0) m = 0 ∧ (∀ a, a < m → p a ≠ j) ∨ sumTo (fun a => if p a = j then (1 : Int) else 0) m = 1 ∧ ∃ a, a < m ∧ p a = j)
  | 0, _ => ⟨by simp [sumTo], .inl ⟨rfl, fun a h => absurd h (Nat.not_lt_zero _)⟩⟩
  | m + 1, h => by
    obtain ⟨h1, h2⟩ := one_in (p := p) (x := x) (j := j) m fun a b hab hb => h a b hab (by omega)
    rw [sumTo_succ, sumTo_succ]
    by_cases e : p m = j
    · rw [if_pos e, if_pos e]
      rcases h2 with ⟨g1, g2⟩ | ⟨g1, a, ha, hj⟩
      · refine ⟨by rw [h1, g1]; simp, .inr ⟨by omega, m, by omega, e⟩⟩
      · have := h a m ha (by omega); omega
    · rw [if_neg e, if_neg e]
      refine ⟨by rw [h1, Int.add_zero, Int.add_zero], ?_⟩
      rcases h2 with ⟨g1, g2⟩ | ⟨g1, a, ha, hj⟩
      · refine .inl ⟨by omega, fun a ha => ?_⟩
        by_cases ea : a = m
        · rw [ea]; exact e
        · exact g2 a (by omega)
      · exact .inr ⟨by omega, a, by omega, hj⟩
theorem sum_hit {p : Nat → Nat} {f : Nat → Int} {m j : Nat} (hp : ∀ a b, a < b → b < m → p a < p b) (hf : (∀ a, a < m → p a ≠ j) → f j = 0) : sumTo (fun a => if p a = j then f j else 0) m = f j := by
  obtain ⟨h1, h2⟩ := one_in (x := f j) (j := j) m hp
  rw [h1]
  rcases h2 with ⟨g1, g2⟩ | ⟨g1, _⟩
  · rw [g1, hf g2]; rfl
  · rw [g1]; omega
theorem sum_list {p : Nat → Nat} {f : Nat → Int} {m K : Nat} (hp : ∀ a b, a < b → b < m → p a < p b) (hK : ∀ a, a < m → p a < K) (hf : ∀ j, j < K → (∀ a, a < m → p a ≠ j) → f j = 0) : sumTo (fun a => f (p a)) m = sumTo f K := by
  have h1 : ∀ a, a < m → f (p a) = sumTo (fun j => if p a = j then f j else 0) K := fun a ha => by
    have key : ∀ K, sumTo (fun j => if p a = j then f j else 0) K = if p a < K then f (p a) else 0 := by
      intro K
      induction K with
      | zero => rfl
      | succ K ih =>
        rw [sumTo_succ, ih]
        by_cases e : p a = K
        · rw [if_neg (by omega), if_pos e, if_pos (by omega), e]; omega
        · rw [if_neg e]
          by_cases e2 : p a < K
          · rw [if_pos e2, if_pos (by omega)]; omega
          · rw [if_neg e2, if_neg (by omega)]; rfl
    rw [key, if_pos (hK a ha)]
  rw [sumTo_congr m h1, sum_swap (fun a j => if p a = j then f j else 0) K m]
  exact sumTo_congr K fun j hj => sum_hit hp (hf j hj)
/-- The slots of the first n days. -/
structure PlS (K n : Nat) (g : Nat → Nat → Int) (M : Nat) (P : List Int) : Prop where
  len : P.length = M * 3
  slot : ∀ t, t < M → ∃ d j : Nat, d < n ∧ j < K ∧ 0 < g d j ∧ pD P t = d ∧ pJ P t = j ∧ pM P t = g d j
  asc : ∀ a b, a < b → b < M → pD P a < pD P b ∨ (pD P a = pD P b ∧ pJ P a < pJ P b)
  day : ∀ d, d < n → dS P M d = sumTo (g d) K
  job : ∀ j, j < K → jS P M j = sumTo (fun d => g d j) n
theorem PlS.nil (K : Nat) (g : Nat → Nat → Int) : PlS K 0 g 0 [] := ⟨rfl, fun t h => absurd h (Nat.not_lt_zero _), fun a b _ h => absurd h (Nat.not_lt_zero _), fun d h => absurd h (Nat.not_lt_zero _), fun j _ => rfl⟩
def gup (g : Nat → Nat → Int) (n : Nat) (gd : Nat → Int) : Nat → Nat → Int := fun d => if d = n then gd else g d
theorem gup_at (g : Nat → Nat → Int) (n : Nat) (gd : Nat → Int) : gup g n gd n = gd := if_pos rfl
theorem gup_lt (g : Nat → Nat → Int) {n d : Nat} (gd : Nat → Int) (h : d < n) : gup g n gd d = g d := if_neg (by omega)
theorem lf_gup {W : Nat → Int} {g : Nat → Nat → Int} {n d j : Nat} {gd : Nat → Int} (h : d ≤ n) : lf W (gup g n gd) d j = lf W g d j := by
  unfold lf
  rw [sumTo_congr d fun e he => by rw [gup_lt g gd (by omega)]]
theorem PlS.step {K n M : Nat} {g : Nat → Nat → Int} {gd : Nat → Int} {P sl : List Int} {ps : List Nat} (h : PlS K n g M P) (hnn : ∀ j, j < K → 0 ≤ gd j) (hps : ∀ j, j ∈ ps ↔ j < K ∧ 0 < gd j) (hpa : ∀ a b, a < b → b < ps.length → ps.getD a 0 < ps.getD b 0) (hs : Sl3 n gd ps sl) : PlS K (n + 1) (gup g n gd) (M + ps.length) (P ++ sl) := by
  have hl := h.len
  have hL : ∀ t, t < M → pD (P ++ sl) t = pD P t ∧ pJ (P ++ sl) t = pJ P t ∧ pM (P ++ sl) t = pM P t := fun t ht => by
    unfold pD pJ pM
    rw [gD_l (by omega), gD_l (by omega), gD_l (by omega)]
    exact ⟨rfl, rfl, rfl⟩
  have hR : ∀ a, a < ps.length → pD (P ++ sl) (M + a) = n ∧ pJ (P ++ sl) (M + a) = (ps.getD a 0 : Int) ∧ pM (P ++ sl) (M + a) = gd (ps.getD a 0) := fun a ha => by
    obtain ⟨g1, g2, g3⟩ := hs.row a ha
    unfold pD pJ pM
    rw [gD_r (by omega), gD_r (by omega), gD_r (by omega)]
    rw [show (M + a) * 3 - P.length = a * 3 by omega, show (M + a) * 3 + 1 - P.length = a * 3 + 1 by omega, show (M + a) * 3 + 2 - P.length = a * 3 + 2 by omega]
    exact ⟨g1, g2, g3⟩
  have hpK : ∀ a, a < ps.length → ps.getD a 0 < K ∧ 0 < gd (ps.getD a 0) := fun a ha => (hps _).1 (getD_memN ha)
  have hz : ∀ j, j < K → (∀ a, a < ps.length → ps.getD a 0 ≠ j) → gd j = 0 := fun j hj hn => by
    have := hnn j hj
    by_cases hp : 0 < gd j
    · obtain ⟨a, ha, he⟩ := memN_getD ((hps j).2 ⟨hj, hp⟩)
      exact absurd he (hn a ha)
    · omega
  refine ⟨by rw [List.length_append, hl, hs.len]; omega, fun t ht => ?_, fun a b hab hb => ?_, fun d hd => ?_, fun j hj => ?_⟩
  · by_cases e : t < M
    · obtain ⟨d, j, h1, h2, h3, h4, h5, h6⟩ := h.slot t e
      obtain ⟨e1, e2, e3⟩ := hL t e
      exact ⟨d, j, by omega, h2, by rw [gup_lt g gd h1]; exact h3, by rw [e1]; exact h4, by rw [e2]; exact h5, by rw [e3, gup_lt g gd h1]; exact h6⟩
    · obtain ⟨a, rfl⟩ : ∃ a, t = M + a := ⟨t - M, by omega⟩
      obtain ⟨e1, e2, e3⟩ := hR a (by omega)
      obtain ⟨k1, k2⟩ := hpK a (by omega)
      exact ⟨n, ps.getD a 0, by omega, k1, by rw [gup_at]; exact k2, e1, e2, by rw [e3, gup_at]⟩
  · by_cases eb : b < M
    · obtain ⟨a1, a2, _⟩ := hL a (by omega)
      obtain ⟨b1, b2, _⟩ := hL b eb
      rw [a1, a2, b1, b2]; exact h.asc a b hab eb
    · obtain ⟨b', rfl⟩ : ∃ a, b = M + a := ⟨b - M, by omega⟩
      obtain ⟨b1, b2, _⟩ := hR b' (by omega)
      rw [b1, b2]
      by_cases ea : a < M
      · obtain ⟨a1, a2, _⟩ := hL a ea
        obtain ⟨d, j, h1, _, _, h4, _⟩ := h.slot a ea
        rw [a1, h4]; exact .inl (by omega)
      · obtain ⟨a', rfl⟩ : ∃ x, a = M + x := ⟨a - M, by omega⟩
        obtain ⟨a1, a2, _⟩ := hR a' (by omega)
        rw [a1, a2]
        exact .inr ⟨rfl, by have := hpa a' b' (by omega) (by omega); omega⟩
  · unfold dS
    rw [sum_cat, sumTo_congr M fun t ht => show (if pD (P ++ sl) t = (d : Int) then pM (P ++ sl) t else 0) = if pD P t = (d : Int) then pM P t else 0 from by rw [(hL t ht).1, (hL t ht).2.2]]
    rw [sumTo_congr (F := fun a => if pD (P ++ sl) (M + a) = (d : Int) then pM (P ++ sl) (M + a) else 0) ps.length fun a ha => show _ = if n = d then gd (ps.getD a 0) else 0 from by
      rw [(hR a ha).1, (hR a ha).2.2]
      by_cases e : n = d
      · rw [if_pos e, if_pos (by omega)]
      · rw [if_neg e, if_neg (by omega)]]
    by_cases e : d = n
    · subst e
      rw [gup_at, sumTo_congr ps.length fun a _ => if_pos rfl, sum_list (p := fun a => ps.getD a 0) hpa (fun a ha => (hpK a ha).1) hz]
      rw [sumTo_zero M fun t ht => if_neg (by obtain ⟨d', j, h1, _, _, h4, _⟩ := h.slot t ht; rw [h4]; omega)]
      omega
    · rw [gup_lt g gd (by omega), sumTo_zero ps.length fun a _ => if_neg (by omega), Int.add_zero]
      exact h.day d (by omega)
  · unfold jS
    rw [sum_cat, sumTo_congr M fun t ht => show (if pJ (P ++ sl) t = (j : Int) then pM (P ++ sl) t else 0) = if pJ P t = (j : Int) then pM P t else 0 from by rw [(hL t ht).2.1, (hL t ht).2.2]]
    rw [sumTo_congr (F := fun a => if pJ (P ++ sl) (M + a) = (j : Int) then pM (P ++ sl) (M + a) else 0) ps.length fun a ha => show _ = if ps.getD a 0 = j then gd j else 0 from by
      rw [(hR a ha).2.1, (hR a ha).2.2]
      by_cases e : ps.getD a 0 = j
      · rw [if_pos e, if_pos (by omega), e]
      · rw [if_neg e, if_neg (by omega)]]
    rw [sum_hit (p := fun a => ps.getD a 0) (f := gd) (j := j) hpa (hz j hj), sumTo_succ]
    have := h.job j hj
    unfold jS at this
    rw [this, gup_at, sumTo_congr (F := fun d => gup g n gd d j) n fun e he => by rw [gup_lt g gd he]]
theorem edf_of {N K : Nat} {sh W R D : Nat → Int} {g : Nat → Nat → Int} (h : ∀ d, d < N → DayOk K R D d (sh d) (lf W g d) (g d)) : Edf N K sh W R D g :=
  ⟨fun d j hd hj => (h d hd).nn j hj, fun d j hd hj hp => (h d hd).win j hj hp, fun d hd => (h d hd).cap, fun d j hd hj hp h1 h2 => (h d hd).edf j hj (by rw [lf_succ] at hp; exact hp) h1 h2⟩
theorem vj_jb {N K : Nat} {s z : List Int} (h : VJ N K s z) : Jb N K (sHf s) (jW z) (jR z) (jD z) :=
  ⟨fun j hj => (h.j j hj).1.1, fun j hj => ⟨(h.j j hj).2.1, (h.j j hj).2.2.1, (h.j j hj).2.2.2⟩, fun d hd => (h.d d hd).1⟩
/-- The slots of minutes that are right are a right plan. -/
theorem pls_cp {N K M : Nat} {s z P : List Int} {g : Nat → Nat → Int} (hv : vjE N K s z = 0) (hE : Edf N K (sHf s) (jW z) (jR z) (jD z) g) (h : PlS K N g M P) (h0 : ∀ j, j < K → lf (jW z) g N j = 0) : CP N K s z M P := by
  refine ⟨hv, fun t ht => ?_, fun i hi k hk he => ?_, fun d hd => ?_, fun j hj => ?_⟩
  · obtain ⟨d, j, h1, h2, h3, h4, h5, h6⟩ := h.slot t ht
    have hw := hE.win d j h1 h2 h3
    refine ⟨⟨by omega, by omega, by omega, by omega⟩, by omega, ?_, ?_⟩
    · rw [h5, h4]; simpa using hw.1
    · rw [h5, h4]; simpa using hw.2
  · have := h.asc k i hk hi; omega
  · rw [h.day d hd]; exact hE.cap d hd
  · have := h0 j hj
    unfold lf at this
    rw [h.job j hj]; omega
/-- From a right plan: minutes. -/
def xP (p : List Int) (M d j : Nat) : Int := sumTo (fun t => if pD p t = (d : Int) ∧ pJ p t = (j : Int) then pM p t else 0) M
theorem sum_hotj {x : Int} {y : Int} : ∀ K : Nat, 0 ≤ x → x < K → sumTo (fun j => if x = (j : Int) then y else 0) K = y
  | 0, h0, h1 => by omega
  | K + 1, h0, h1 => by
    rw [sumTo_succ]
    by_cases e : x = (K : Int)
    · rw [if_pos e, sumTo_zero K fun j hj => if_neg (by omega)]; omega
    · rw [if_neg e, sum_hotj K h0 (by omega)]; omega
theorem cp_spr {N K M : Nat} {s z p : List Int} (h : CP N K s z M p) {a b : Nat} (hab : a ≤ b) (hb : b < N) : 0 ≤ spV K s z a b := by
  have hJ := vj_jb (vj_to h.vj)
  have hx : ∀ t, t < M → 0 ≤ pD p t ∧ pD p t < N ∧ 0 ≤ pJ p t ∧ pJ p t < K ∧ 1 ≤ pM p t := fun t ht => by
    obtain ⟨⟨a, b, c, d⟩, e, _⟩ := h.ok t ht; exact ⟨a, b, c, d, e⟩
  refine plan_spr (x := xP p M) hJ (fun d j _ _ => sumTo_nonneg M fun t ht => by have := hx t ht; split <;> omega) (fun d j hd hj hp => ?_) (fun d hd => ?_) (fun j hj => ?_) hab hb
  · have : ∃ t, t < M ∧ pD p t = (d : Int) ∧ pJ p t = (j : Int) := Classical.byContradiction fun hn => by
      have : xP p M d j = 0 := sumTo_zero M fun t ht => if_neg fun hh => hn ⟨t, ht, hh⟩
      omega
    obtain ⟨t, ht, e1, e2⟩ := this
    obtain ⟨_, _, e3, e4⟩ := h.ok t ht
    rw [e1, e2] at e3 e4
    exact ⟨by simpa using e3, by simpa using e4⟩
  · have := h.day d hd
    have e : sumTo (xP p M d) K = dS p M d := by
      unfold xP dS
      rw [sum_swap (fun j t => if pD p t = (d : Int) ∧ pJ p t = (j : Int) then pM p t else 0) M K]
      refine sumTo_congr M fun t ht => ?_
      obtain ⟨_, _, c1, c2, _⟩ := hx t ht
      by_cases hd' : pD p t = (d : Int)
      · rw [if_pos hd', sumTo_congr K fun j _ => show (if pD p t = (d : Int) ∧ pJ p t = (j : Int) then pM p t else 0) = if pJ p t = (j : Int) then pM p t else 0 from by simp [hd'], sum_hotj K c1 c2]
      · rw [if_neg hd', sumTo_zero K fun j _ => if_neg fun hh => hd' hh.1]
    rw [e]; exact this
  · have := h.job j hj
    have e : sumTo (fun d => xP p M d j) N = jS p M j := by
      unfold xP jS
      rw [sum_swap (fun d t => if pD p t = (d : Int) ∧ pJ p t = (j : Int) then pM p t else 0) M N]
      refine sumTo_congr M fun t ht => ?_
      obtain ⟨c1, c2, _⟩ := hx t ht
      by_cases hd' : pJ p t = (j : Int)
      · rw [if_pos hd', sumTo_congr N fun d _ => show (if pD p t = (d : Int) ∧ pJ p t = (j : Int) then pM p t else 0) = if pD p t = (d : Int) then pM p t else 0 from by simp [hd'], sum_hotj N c1 c2]
      · rw [if_neg hd', sumTo_zero N fun j _ => if_neg fun hh => hd' hh.2]
    rw [e]; exact this
end Go.Proofs.Ytgcjddlcgpjlcaa
