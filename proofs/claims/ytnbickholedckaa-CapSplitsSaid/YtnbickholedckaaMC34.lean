/- A piece cut in two: the sides numbered anew. Plain: no program. -/
import Derived.Test.YtnbickholedckaaMB1
import Derived.Test.YtnbickholedckaaMC31
namespace Go.Proofs.Ytnbickholedckaa
open Go.RowKit

theorem md_add {i u k : Nat} (hi : i < k) (hu : u ≤ k) : (i + u) % k = if i + u < k then i + u else i + u - k := by
  split
  · rename_i h; exact Nat.mod_eq_of_lt h
  · rename_i h
    rw [Nat.mod_eq_sub_mod (by omega)]
    exact Nat.mod_eq_of_lt (by omega)
theorem md_back {i u k : Nat} (hi : i < k) (hu : u < k) : ((i + u) % k + k - i) % k = u := by
  rw [md_add hi (by omega)]
  split
  · rw [show i + u + k - i = u + k by omega, Nat.add_mod_right]; exact Nat.mod_eq_of_lt hu
  · rw [show i + u - k + k - i = u by omega]; exact Nat.mod_eq_of_lt hu
theorem md_fwd {i t k : Nat} (hi : i < k) (ht : t < k) : (i + (t + k - i) % k) % k = t ∧ (t + k - i) % k < k := by
  refine ⟨?_, Nat.mod_lt _ (by omega)⟩
  rw [Nat.add_mod_mod, show i + (t + k - i) = t + k by omega, Nat.add_mod_right]
  exact Nat.mod_eq_of_lt ht
theorem sum_rot (F : Nat → Int) {i k : Nat} (hi : i < k) : sumTo (fun u => F ((i + u) % k)) k = sumTo F k := by
  have e1 := sumTo_addn (fun u => F ((i + u) % k)) (k - i) i
  have e2 := sumTo_addn F i (k - i)
  rw [show k - i + i = k by omega] at e1
  rw [show i + (k - i) = k by omega] at e2
  rw [e1, e2]
  have e3 : sumTo (fun u => F ((i + u) % k)) (k - i) = sumTo (fun u => F (i + u)) (k - i) := sumTo_congr _ fun u hu => by
    show F ((i + u) % k) = F (i + u)
    rw [Nat.mod_eq_of_lt (by omega)]
  have e4 : sumTo (fun u => F ((i + (k - i + u)) % k)) i = sumTo F i := sumTo_congr _ fun u hu => by
    show F ((i + (k - i + u)) % k) = F u
    rw [show i + (k - i + u) = u + k by omega, Nat.add_mod_right, Nat.mod_eq_of_lt (by omega)]
  rw [e3, e4]; omega
/-- So many of a row from one on, around, and one more. -/
def ptl (l : List Int) (i s : Nat) (z : Int) : List Int := (tab s fun t => l.getD ((i + t) % l.length) 0) ++ [z]
theorem ptl_len (l : List Int) (i s : Nat) (z : Int) : (ptl l i s z).length = s + 1 := by simp [ptl, tab_length]
theorem ptl_at {l : List Int} {i s t : Nat} {z : Int} (h : t < s) : (ptl l i s z).getD t 0 = l.getD ((i + t) % l.length) 0 := by
  unfold ptl
  have := tab_getD (fun t => l.getD ((i + t) % l.length) 0) h
  rw [List.getD_eq_getElem?_getD] at this ⊢
  rw [List.getElem?_append_left (by rw [tab_length]; exact h), this]
theorem ptl_last {l : List Int} {i s : Nat} {z : Int} : (ptl l i s z).getD s 0 = z := by
  unfold ptl
  rw [List.getD_eq_getElem?_getD, List.getElem?_append_right (by rw [tab_length]; exact Nat.le_refl _), tab_length]
  simp
def sdS (sd : Nat → List Int) (P p i s : Nat) (z : Int) (q : Nat) : List Int :=
  if q = p then ptl (sd p) i s z else if q = P then ptl (sd p) ((i + s) % (sd p).length) ((sd p).length - s) z else sd q
/-- Where a side is afterwards. -/
def nwS (sd : Nat → List Int) (P p i s : Nat) (z : Int) (a : Nat) : Nat :=
  if pcG sd P a = p then
    (if (a - fsN sd p + (sd p).length - i) % (sd p).length < s then fsN (sdS sd P p i s z) p + (a - fsN sd p + (sd p).length - i) % (sd p).length
     else fsN (sdS sd P p i s z) P + ((a - fsN sd p + (sd p).length - i) % (sd p).length - s))
  else fsN (sdS sd P p i s z) (pcG sd P a) + (a - fsN sd (pcG sd P a))
/-- What is asked of the line. -/
structure CutQ (sd : Nat → List Int) (P p i s : Nat) : Prop where
  hp : p < P
  hi : i < (sd p).length
  h2 : 2 ≤ s
  hs : s + 2 ≤ (sd p).length
section
variable {sd : Nat → List Int} {P p i s : Nat} {z : Int}
theorem sdS_len (c : CutQ sd P p i s) (q : Nat) : (sdS sd P p i s z q).length = if q = p then s + 1 else if q = P then (sd p).length - s + 1 else (sd q).length := by
  unfold sdS
  split
  · exact ptl_len _ _ _ _
  · split
    · exact ptl_len _ _ _ _
    · rfl
theorem fsS (c : CutQ sd P p i s) : ∀ q, q ≤ P → fsN (sdS sd P p i s z) q + (if p < q then (sd p).length else 0) = fsN sd q + (if p < q then s + 1 else 0)
  | 0, _ => rfl
  | q + 1, hq => by
    have ih := fsS c q (by omega)
    have hl := sdS_len (z := z) c q
    have h1 := c.hp
    simp only [fsN]
    rw [hl]
    by_cases e : q = p
    · subst e
      rw [if_neg (by omega), if_neg (by omega)] at ih
      rw [if_pos (by omega), if_pos (by omega), if_pos (by omega)]; omega
    · rw [if_neg e, if_neg (show ¬ q = P by omega)]
      by_cases h : p < q
      · rw [if_pos h, if_pos h] at ih; rw [if_pos (by omega), if_pos (by omega)]; omega
      · rw [if_neg h, if_neg h] at ih; rw [if_neg (by omega), if_neg (by omega)]; omega
theorem fsS_all (c : CutQ sd P p i s) : fsN (sdS sd P p i s z) (P + 1) = fsN sd P + 2 := by
  have h1 := fsS (z := z) c P (Nat.le_refl _)
  have hl := sdS_len (z := z) c P
  have := c.hp
  have := c.hs
  have h3 := fsN_mono (sd := sd) (p := p + 1) (q := P) (by omega)
  have h4 : fsN sd (p + 1) = fsN sd p + (sd p).length := rfl
  rw [if_pos c.hp, if_pos c.hp] at h1
  rw [if_neg (by omega), if_pos rfl] at hl
  simp only [fsN]
  rw [hl]
  omega
/-- A place of a piece. -/
theorem plS (c : CutQ sd P p i s) {q t : Nat} (hq : q ≤ P) (ht : t < (sdS sd P p i s z q).length) : fsN (sdS sd P p i s z) q + t < fsN sd P + 2 ∧ pcG (sdS sd P p i s z) (P + 1) (fsN (sdS sd P p i s z) q + t) = q := by
  have h1 := fsN_mono (sd := sdS sd P p i s z) (p := q + 1) (q := P + 1) (by omega)
  have h2 : fsN (sdS sd P p i s z) (q + 1) = fsN (sdS sd P p i s z) q + (sdS sd P p i s z q).length := rfl
  rw [fsS_all c] at h1
  exact ⟨by omega, pcG_uniq (by omega) (by omega) (by omega)⟩
theorem plS_inj (c : CutQ sd P p i s) {q t q' t' : Nat} (hq : q ≤ P) (ht : t < (sdS sd P p i s z q).length) (hq' : q' ≤ P) (ht' : t' < (sdS sd P p i s z q').length) (e : fsN (sdS sd P p i s z) q + t = fsN (sdS sd P p i s z) q' + t') : q = q' ∧ t = t' := by
  have h1 := (plS c hq ht).2
  have h2 := (plS c hq' ht').2
  rw [e, h2] at h1
  subst h1
  exact ⟨rfl, by omega⟩
/-- The sides of the piece that is cut, from the line on. -/
def auS (sd : Nat → List Int) (p i u : Nat) : Nat := fsN sd p + (i + u) % (sd p).length
theorem auS_ok (c : CutQ sd P p i s) {u : Nat} : auS sd p i u < fsN sd P ∧ pcG sd P (auS sd p i u) = p ∧ auS sd p i u - fsN sd p = (i + u) % (sd p).length := by
  have h1 := fsN_mono (sd := sd) (p := p + 1) (q := P) (by have := c.hp; omega)
  have h2 : fsN sd (p + 1) = fsN sd p + (sd p).length := rfl
  have h3 := Nat.mod_lt (i + u) (y := (sd p).length) (by have := c.hi; omega)
  unfold auS
  exact ⟨by omega, pcG_uniq (by omega) (by omega) c.hp, by omega⟩
theorem auS_all (c : CutQ sd P p i s) {a : Nat} (ha : a < fsN sd P) (hp : pcG sd P a = p) : ∃ u, u < (sd p).length ∧ a = auS sd p i u := by
  obtain ⟨h1, h2, h3⟩ := pcG_spec ha
  rw [hp] at h2 h3
  have h4 : fsN sd (p + 1) = fsN sd p + (sd p).length := rfl
  obtain ⟨m1, m2⟩ := md_fwd (t := a - fsN sd p) c.hi (by omega)
  refine ⟨_, m2, ?_⟩
  unfold auS
  rw [m1]; omega
theorem nw_au (c : CutQ sd P p i s) {u : Nat} (hu : u < (sd p).length) : nwS sd P p i s z (auS sd p i u) = if u < s then fsN (sdS sd P p i s z) p + u else fsN (sdS sd P p i s z) P + (u - s) := by
  obtain ⟨_, h2, h3⟩ := auS_ok c (u := u)
  unfold nwS
  rw [if_pos h2, h3, md_back c.hi hu]
theorem nw_o (_c : CutQ sd P p i s) {a : Nat} (h : pcG sd P a ≠ p) : nwS sd P p i s z a = fsN (sdS sd P p i s z) (pcG sd P a) + (a - fsN sd (pcG sd P a)) := by
  unfold nwS; rw [if_neg h]
/-- A side's new piece and place. -/
theorem nw_pl (c : CutQ sd P p i s) {a : Nat} (ha : a < fsN sd P) : ∃ q t, q ≤ P ∧ t < (sdS sd P p i s z q).length ∧ nwS sd P p i s z a = fsN (sdS sd P p i s z) q + t ∧ (q = p → t < s) ∧ (q = P → t < (sd p).length - s) ∧ (pcG sd P a = p → q = p ∨ q = P) ∧ (pcG sd P a ≠ p → q = pcG sd P a) ∧ (sdS sd P p i s z q).getD t 0 = (sd (pcG sd P a)).getD (a - fsN sd (pcG sd P a)) 0 := by
  have hp := c.hp
  have h2 := c.h2
  have hs := c.hs
  by_cases h : pcG sd P a = p
  · obtain ⟨u, hu, rfl⟩ := auS_all c ha h
    obtain ⟨_, g2, g3⟩ := auS_ok c (u := u)
    rw [nw_au c hu, g2, g3]
    by_cases hus : u < s
    · rw [if_pos hus]
      refine ⟨p, u, by omega, by rw [sdS_len c, if_pos rfl]; omega, rfl, fun _ => hus, fun e => by omega, fun _ => .inl rfl, fun h => absurd rfl h, ?_⟩
      unfold sdS
      rw [if_pos rfl, ptl_at hus]
    · rw [if_neg hus]
      refine ⟨P, u - s, by omega, by rw [sdS_len c, if_neg (by omega), if_pos rfl]; omega, rfl, fun e => by omega, fun _ => by omega, fun _ => .inr rfl, fun h => absurd rfl h, ?_⟩
      unfold sdS
      rw [if_neg (by omega), if_pos rfl, ptl_at (by omega), Nat.mod_add_mod, show i + s + (u - s) = i + u by omega]
  · obtain ⟨g1, g2, g3⟩ := pcG_spec ha
    have g4 : fsN sd (pcG sd P a + 1) = fsN sd (pcG sd P a) + (sd (pcG sd P a)).length := rfl
    rw [nw_o c h]
    refine ⟨pcG sd P a, a - fsN sd (pcG sd P a), by omega, by rw [sdS_len c, if_neg h, if_neg (by omega)]; omega, rfl, fun e => absurd e h, fun e => by omega, fun e => absurd e h, fun _ => rfl, ?_⟩
    unfold sdS
    rw [if_neg h, if_neg (by omega)]
theorem nw_lt (c : CutQ sd P p i s) {a : Nat} (ha : a < fsN sd P) : nwS sd P p i s z a < fsN sd P + 2 := by
  obtain ⟨q, t, h1, h2, h3, _⟩ := nw_pl (z := z) c ha
  rw [h3]; exact (plS c h1 h2).1
theorem nw_inj (c : CutQ sd P p i s) {a b : Nat} (ha : a < fsN sd P) (hb : b < fsN sd P) (e : nwS sd P p i s z a = nwS sd P p i s z b) : a = b := by
  obtain ⟨a1, a2, a3⟩ := pcG_spec ha
  obtain ⟨b1, b2, b3⟩ := pcG_spec hb
  have hp := c.hp
  have h2 := c.h2
  have hs := c.hs
  have lP : (sdS sd P p i s z P).length = (sd p).length - s + 1 := by rw [sdS_len c, if_neg (by omega), if_pos rfl]
  have lp : (sdS sd P p i s z p).length = s + 1 := by rw [sdS_len c, if_pos rfl]
  by_cases h : pcG sd P a = p
  · by_cases h' : pcG sd P b = p
    · obtain ⟨u, hu, rfl⟩ := auS_all c ha h
      obtain ⟨v, hv, rfl⟩ := auS_all c hb h'
      rw [nw_au c hu, nw_au c hv] at e
      have : u = v := by
        by_cases c1 : u < s
        · by_cases c2 : v < s
          · rw [if_pos c1, if_pos c2] at e; omega
          · rw [if_pos c1, if_neg c2] at e
            have := (plS_inj c (q := p) (t := u) (q' := P) (t' := v - s) (by omega) (by omega) (by omega) (by omega) e).1
            omega
        · by_cases c2 : v < s
          · rw [if_neg c1, if_pos c2] at e
            have := (plS_inj c (q := P) (t := u - s) (q' := p) (t' := v) (by omega) (by omega) (by omega) (by omega) e).1
            omega
          · rw [if_neg c1, if_neg c2] at e; omega
      rw [this]
    · obtain ⟨q, t, q1, q2, q3, _, _, q6, _⟩ := nw_pl (z := z) c ha
      obtain ⟨q', t', r1, r2, r3, _, _, _, r7, _⟩ := nw_pl (z := z) c hb
      rw [q3, r3] at e
      have h1 := (plS_inj c q1 q2 r1 r2 e).1
      have h4 := q6 h
      have h5 := r7 h'
      omega
  · by_cases h' : pcG sd P b = p
    · obtain ⟨q, t, q1, q2, q3, _, _, _, q7, _⟩ := nw_pl (z := z) c ha
      obtain ⟨q', t', r1, r2, r3, _, _, r6, _⟩ := nw_pl (z := z) c hb
      rw [q3, r3] at e
      have h1 := (plS_inj c q1 q2 r1 r2 e).1
      have h4 := q7 h
      have h5 := r6 h'
      omega
    · rw [nw_o c h, nw_o c h'] at e
      have la : (sdS sd P p i s z (pcG sd P a)).length = (sd (pcG sd P a)).length := by rw [sdS_len c, if_neg h, if_neg (by omega)]
      have lb : (sdS sd P p i s z (pcG sd P b)).length = (sd (pcG sd P b)).length := by rw [sdS_len c, if_neg h', if_neg (by omega)]
      have g4 : fsN sd (pcG sd P a + 1) = fsN sd (pcG sd P a) + (sd (pcG sd P a)).length := rfl
      have g5 : fsN sd (pcG sd P b + 1) = fsN sd (pcG sd P b) + (sd (pcG sd P b)).length := rfl
      obtain ⟨e1, e2⟩ := plS_inj c (by omega) (by omega) (by omega) (by omega) e
      rw [e1] at e2 a2
      omega
def nwX (sd : Nat → List Int) (P p i s : Nat) (z : Int) : Nat := fsN (sdS sd P p i s z) p + s
def nwY (sd : Nat → List Int) (P p i s : Nat) (z : Int) : Nat := fsN (sdS sd P p i s z) P + ((sd p).length - s)
/-- The next side at a place. -/
theorem nx_pl (c : CutQ sd P p i s) {q t : Nat} (hq : q ≤ P) (ht : t < (sdS sd P p i s z q).length) : nxN (sdS sd P p i s z) (P + 1) (fsN (sdS sd P p i s z) q + t) = if t + 1 = (sdS sd P p i s z q).length then fsN (sdS sd P p i s z) q else fsN (sdS sd P p i s z) q + (t + 1) := by
  unfold nxN
  rw [(plS c hq ht).2]
  have h2 : fsN (sdS sd P p i s z) (q + 1) = fsN (sdS sd P p i s z) q + (sdS sd P p i s z q).length := rfl
  rw [h2]
  split
  · rw [if_pos (by omega)]
  · rw [if_neg (by omega)]; omega
theorem nx_au (c : CutQ sd P p i s) {u : Nat} (hu : u < (sd p).length) : nxN sd P (auS sd p i u) = auS sd p i (if u + 1 = (sd p).length then 0 else u + 1) := by
  obtain ⟨g1, g2, g3⟩ := auS_ok c (u := u)
  have h2 : fsN sd (p + 1) = fsN sd p + (sd p).length := rfl
  have hi := c.hi
  unfold nxN
  rw [g2, h2]
  unfold auS
  have e1 := md_add (u := u) hi (by omega)
  by_cases hc : u + 1 = (sd p).length
  · rw [if_pos hc]
    have e2 := md_add (u := 0) hi (by omega)
    rw [e1, e2]
    clear e1 e2 g1 g2 g3
    split <;> split <;> (try split) <;> omega
  · rw [if_neg hc]
    have e2 := md_add (u := u + 1) hi (by omega)
    rw [e1, e2]
    clear e1 e2 g1 g2 g3
    split <;> split <;> (try split) <;> omega
/-- The seams, numbered anew. -/
def smS (f : Nat → Nat) (S : List (Nat × Nat)) : List (Nat × Nat) := S.map fun e => (f e.1, f e.2)
theorem mu_mem {S : List (Nat × Nat)} {x : Nat} (h : muS S x ≠ x) : ∃ e ∈ S, x = e.1 ∨ x = e.2 := by
  have : ∀ (S : List (Nat × Nat)) (g : Nat → Nat), (∀ e ∈ S, x ≠ e.1 ∧ x ≠ e.2) → S.foldl updM g x = g x := by
    intro S
    induction S with
    | nil => intro g _; rfl
    | cons e S ih =>
      intro g hg
      rw [List.foldl_cons, ih _ fun e he => hg e (.tail _ he)]
      obtain ⟨h1, h2⟩ := hg e (.head _)
      unfold updM
      rw [if_neg h1, if_neg h2]
  by_cases hh : ∃ e ∈ S, x = e.1 ∨ x = e.2
  · exact hh
  · exact absurd (this S id fun e he => ⟨fun h1 => hh ⟨e, he, .inl h1⟩, fun h2 => hh ⟨e, he, .inr h2⟩⟩) h
theorem mu_map {n : Nat} {f : Nat → Nat} (hf : ∀ a b, a < n → b < n → f a = f b → a = b) {S : List (Nat × Nat)} (hS : OkS n S) : ∀ a, a < n → muS (smS f S) (f a) = f (muS S a) := by
  induction hS with
  | nil => intro a _; rfl
  | @snoc S u v h hu hv hne fu fv ih =>
    intro a ha
    have e : smS f (S ++ [(u, v)]) = smS f S ++ [(f u, f v)] := by simp [smS]
    rw [e, muS_snoc, muS_snoc]
    unfold updM
    by_cases h1 : a = u
    · subst h1; simp
    · by_cases h2 : a = v
      · subst h2
        simp only [h1, if_false, if_true]
        rw [if_neg (fun h => h1 (hf _ _ ha hu h))]
      · simp only [h1, h2, if_false]
        rw [if_neg (fun h => h1 (hf _ _ ha hu h)), if_neg (fun h => h2 (hf _ _ ha hv h))]
        exact ih a ha
theorem ok_map {n n' : Nat} {f : Nat → Nat} (hl : ∀ a, a < n → f a < n') (hf : ∀ a b, a < n → b < n → f a = f b → a = b) {S : List (Nat × Nat)} (hS : OkS n S) : OkS n' (smS f S) := by
  induction hS with
  | nil => exact .nil
  | @snoc S u v h hu hv hne fu fv ih =>
    have e : smS f (S ++ [(u, v)]) = smS f S ++ [(f u, f v)] := by simp [smS]
    rw [e]
    exact .snoc ih (hl _ hu) (hl _ hv) (fun h => hne (hf _ _ hu hv h)) (by rw [mu_map hf h _ hu, fu]) (by rw [mu_map hf h _ hv, fv])
theorem mu_out {n : Nat} {f : Nat → Nat} {S : List (Nat × Nat)} (hS : OkS n S) {w : Nat} (hw : ∀ a, a < n → f a ≠ w) : muS (smS f S) w = w := by
  by_cases h : muS (smS f S) w = w
  · exact h
  · obtain ⟨e, he, h1⟩ := mu_mem h
    simp only [smS, List.mem_map] at he
    obtain ⟨d, hd, rfl⟩ := he
    obtain ⟨g1, g2, _⟩ := hS.at d hd
    rcases h1 with h1 | h1
    · exact absurd h1.symm (hw _ g1)
    · exact absurd h1.symm (hw _ g2)
theorem nw_x (c : CutQ sd P p i s) : ∀ a, a < fsN sd P → nwS sd P p i s z a ≠ nwX sd P p i s z := fun a ha e => by
  obtain ⟨q, t, q1, q2, q3, q4, _⟩ := nw_pl (z := z) c ha
  have hp := c.hp
  rw [q3] at e
  obtain ⟨e1, e2⟩ := plS_inj c q1 q2 (q' := p) (t' := s) (by omega) (by rw [sdS_len c, if_pos rfl]; omega) e
  have := q4 e1
  omega
theorem nw_y (c : CutQ sd P p i s) : ∀ a, a < fsN sd P → nwS sd P p i s z a ≠ nwY sd P p i s z := fun a ha e => by
  obtain ⟨q, t, q1, q2, q3, _, q5, _⟩ := nw_pl (z := z) c ha
  have hp := c.hp
  rw [q3] at e
  obtain ⟨e1, e2⟩ := plS_inj c q1 q2 (q' := P) (t' := (sd p).length - s) (by omega) (by rw [sdS_len c, if_neg (by omega), if_pos rfl]; omega) e
  have := q5 e1
  omega
theorem nw_xy (c : CutQ sd P p i s) : nwX sd P p i s z < fsN sd P + 2 ∧ nwY sd P p i s z < fsN sd P + 2 ∧ nwX sd P p i s z ≠ nwY sd P p i s z := by
  have hp := c.hp
  have l1 : s < (sdS sd P p i s z p).length := by rw [sdS_len c, if_pos rfl]; omega
  have l2 : (sd p).length - s < (sdS sd P p i s z P).length := by rw [sdS_len c, if_neg (by omega), if_pos rfl]; omega
  refine ⟨(plS c (by omega) l1).1, (plS c (Nat.le_refl _) l2).1, fun e => ?_⟩
  have := (plS_inj c (by omega) l1 (Nat.le_refl _) l2 e).1
  omega
/-- The cap that is cut is a net with one more line. -/
theorem cutN (c : CutQ sd P p i s) {S : List (Nat × Nat)} (hS : OkS (fsN sd P) S) :
    CutN (fsN sd P) (nxN sd P) (muS S) (nxN (sdS sd P p i s z) (P + 1)) (muS (smS (nwS sd P p i s z) S ++ [(nwX sd P p i s z, nwY sd P p i s z)])) (nwS sd P p i s z) (nwX sd P p i s z) (nwY sd P p i s z) (auS sd p i (s - 1)) (auS sd p i ((sd p).length - 1)) := by
  have hp := c.hp
  have h2 := c.h2
  have hs := c.hs
  obtain ⟨xl, yl, xy⟩ := nw_xy (z := z) c
  have lP : (sdS sd P p i s z P).length = (sd p).length - s + 1 := by rw [sdS_len c, if_neg (by omega), if_pos rfl]
  have lp : (sdS sd P p i s z p).length = s + 1 := by rw [sdS_len c, if_pos rfl]
  have hfi : ∀ a b, a < fsN sd P → b < fsN sd P → nwS sd P p i s z a = nwS sd P p i s z b → a = b := fun a b ha hb e => nw_inj c ha hb e
  have mx := mu_out hS (nw_x (z := z) c)
  have my := mu_out hS (nw_y (z := z) c)
  exact {
    fl := fun a ha => nw_lt c ha
    fi := hfi
    xl := xl
    yl := yl
    xy := xy
    fx := nw_x c
    fy := nw_y c
    co := fun w hw => by
      have hw' : w < fsN (sdS sd P p i s z) (P + 1) := by rw [fsS_all c]; exact hw
      obtain ⟨g1, g2, g3⟩ := pcG_spec hw'
      generalize hq : pcG (sdS sd P p i s z) (P + 1) w = q at *
      have h4 : fsN (sdS sd P p i s z) (q + 1) = fsN (sdS sd P p i s z) q + (sdS sd P p i s z q).length := rfl
      by_cases e1 : q = p
      · subst e1
        rw [lp] at h4
        by_cases e2 : w = fsN (sdS sd P q i s z) q + s
        · exact .inl e2
        · refine .inr (.inr ⟨auS sd q i (w - fsN (sdS sd P q i s z) q), (auS_ok c).1, ?_⟩)
          rw [nw_au c (by omega), if_pos (by omega)]; omega
      · by_cases e3 : q = P
        · subst e3
          rw [lP] at h4
          by_cases e2 : w = fsN (sdS sd q p i s z) q + ((sd p).length - s)
          · exact .inr (.inl e2)
          · refine .inr (.inr ⟨auS sd p i (s + (w - fsN (sdS sd q p i s z) q)), (auS_ok c).1, ?_⟩)
            rw [nw_au c (by omega), if_neg (by omega)]; omega
        · have lq : (sdS sd P p i s z q).length = (sd q).length := by rw [sdS_len c, if_neg e1, if_neg e3]
          have h5 := fsN_mono (sd := sd) (p := q + 1) (q := P) (by omega)
          have h6 : fsN sd (q + 1) = fsN sd q + (sd q).length := rfl
          have h7 : pcG sd P (fsN sd q + (w - fsN (sdS sd P p i s z) q)) = q := pcG_uniq (by omega) (by omega) (by omega)
          refine .inr (.inr ⟨fsN sd q + (w - fsN (sdS sd P p i s z) q), by omega, ?_⟩)
          rw [nw_o c (by rw [h7]; exact e1), h7]; omega
    l1 := (auS_ok c).1
    l2 := (auS_ok c).1
    ne := fun e => by
      have e1 := nw_au (z := z) c (u := s - 1) (by omega)
      have e2 := nw_au (z := z) c (u := (sd p).length - 1) (by omega)
      rw [if_pos (by omega)] at e1
      rw [if_neg (by omega), ← e, e1] at e2
      have := (plS_inj c (z := z) (q := p) (t := s - 1) (q' := P) (t' := (sd p).length - 1 - s) (by omega) (by omega) (by omega) (by omega) e2).1
      omega
    mf := fun a ha => by
      rw [muS_snoc]
      unfold updM
      rw [if_neg (nw_x c a ha), if_neg (nw_y c a ha)]
      exact mu_map hfi hS a ha
    mx := by rw [muS_snoc]; unfold updM; rw [if_pos rfl]
    my := by rw [muS_snoc]; unfold updM; rw [if_neg (Ne.symm xy), if_pos rfl]
    nf := fun a ha n1 n2 => by
      by_cases h : pcG sd P a = p
      · obtain ⟨u, hu, rfl⟩ := auS_all c ha h
        have u1 : u ≠ s - 1 := fun e => n1 (by rw [e])
        have u2 : u ≠ (sd p).length - 1 := fun e => n2 (by rw [e])
        rw [nx_au c hu, if_neg (by omega), nw_au c hu, nw_au c (by omega)]
        by_cases hus : u < s
        · rw [if_pos hus, if_pos (by omega), nx_pl c (by omega) (by omega), if_neg (by omega)]
        · rw [if_neg hus, if_neg (by omega), nx_pl c (by omega) (by omega), if_neg (by omega)]; omega
      · obtain ⟨g1, g2, g3⟩ := pcG_spec ha
        have g4 : fsN sd (pcG sd P a + 1) = fsN sd (pcG sd P a) + (sd (pcG sd P a)).length := rfl
        have la : (sdS sd P p i s z (pcG sd P a)).length = (sd (pcG sd P a)).length := by rw [sdS_len c, if_neg h, if_neg (by omega)]
        have hn := (nx_pc ha).1
        rw [nw_o c h, nw_o c (by rw [hn]; exact h), hn, nx_pl c (by omega) (by omega), la]
        unfold nxN
        rw [g4]
        by_cases hc : a + 1 = fsN sd (pcG sd P a) + (sd (pcG sd P a)).length
        · rw [if_pos (by omega), if_pos hc]; omega
        · rw [if_neg (by omega), if_neg hc]; omega
    n1 := by
      rw [nw_au c (by omega), if_pos (by omega), nx_pl c (by omega) (by omega), if_neg (by omega)]
      unfold nwX; omega
    n2 := by
      rw [nw_au c (by omega), if_neg (by omega), nx_pl c (by omega) (by omega), if_neg (by omega)]
      unfold nwY; omega
    nX := by
      unfold nwX
      rw [nx_pl c (by omega) (by omega), if_pos (by omega), nx_au c (by omega), if_pos (by omega), nw_au c (by omega), if_pos (by omega)]; omega
    nY := by
      unfold nwY
      rw [nx_pl c (by omega) (by omega), if_pos (by omega), nx_au c (by omega), if_neg (by omega), nw_au c (by omega), if_neg (by omega)]; omega }
/-- As many parts as before. -/
theorem cut_parts (c : CutQ sd P p i s) {S : List (Nat × Nat)} (hS : OkS (fsN sd P) S) :
    ccE (P + 1) (cmpE (pcG (sdS sd P p i s z) (P + 1)) (smS (nwS sd P p i s z) S ++ [(nwX sd P p i s z, nwY sd P p i s z)])) = ccE P (cmpE (pcG sd P) S) := by
  have hp := c.hp
  have l1 : s < (sdS sd P p i s z p).length := by rw [sdS_len c, if_pos rfl]; omega
  have l2 : (sd p).length - s < (sdS sd P p i s z P).length := by rw [sdS_len c, if_neg (by omega), if_pos rfl]; omega
  have px : pcG (sdS sd P p i s z) (P + 1) (nwX sd P p i s z) = p := (plS c (by omega) l1).2
  have py : pcG (sdS sd P p i s z) (P + 1) (nwY sd P p i s z) = P := (plS c (Nat.le_refl _) l2).2
  have pf : ∀ a, a < fsN sd P → pcG (sdS sd P p i s z) (P + 1) (nwS sd P p i s z a) = pcG sd P a ∨ (pcG (sdS sd P p i s z) (P + 1) (nwS sd P p i s z a) = P ∧ pcG sd P a = p) := fun a ha => by
    obtain ⟨q, t, q1, q2, q3, _, _, q6, q7, _⟩ := nw_pl (z := z) c ha
    rw [q3, (plS c q1 q2).2]
    by_cases h : pcG sd P a = p
    · rcases q6 h with h1 | h1
      · exact .inl (by rw [h1, h])
      · exact .inr ⟨h1, h⟩
    · exact .inl (q7 h)
  rw [cmpE_snoc, px, py]
  generalize hE' : (p, P) :: cmpE (pcG (sdS sd P p i s z) (P + 1)) (smS (nwS sd P p i s z) S) = E'
  have hpP : rpE E' p = rpE E' P := by rw [← hE']; exact rpE_edge (.head _)
  have hE : ∀ e ∈ S, rpE E' (pcG (sdS sd P p i s z) (P + 1) (nwS sd P p i s z e.1)) = rpE E' (pcG (sdS sd P p i s z) (P + 1) (nwS sd P p i s z e.2)) := fun e he => by
    rw [← hE']
    refine rpE_edge (List.mem_cons_of_mem _ ?_)
    simp only [cmpE, smS, List.mem_map, List.mem_reverse]
    exact ⟨_, ⟨e, he, rfl⟩, rfl⟩
  have hcl : ∀ a, a < fsN sd P → rpE E' (pcG (sdS sd P p i s z) (P + 1) (nwS sd P p i s z a)) = rpE E' (pcG sd P a) := fun a ha => by
    rcases pf a ha with h | ⟨h1, h2⟩
    · rw [h]
    · rw [h1, h2, hpP]
  refine ccE_map id (fun a ha => by show a < P + 1; omega) (fun q1 q2 h1 h2 => ?_) (fun w hw => ?_)
  · show rpE E' q1 = rpE E' q2 ↔ _
    constructor
    · intro hh
      have := rpE_congr (E := E') (fun w => rpE (cmpE (pcG sd P) S) (if w = P then p else w)) (fun e he => by
        rw [← hE'] at he
        rcases List.mem_cons.1 he with rfl | he
        · show rpE _ (if p = P then p else p) = rpE _ (if P = P then p else P)
          rw [if_pos rfl, if_neg (by omega)]
        · simp only [cmpE, smS, List.mem_map, List.mem_reverse] at he
          obtain ⟨_, ⟨d, hd, rfl⟩, rfl⟩ := he
          obtain ⟨g1, g2, _⟩ := hS.at d hd
          have hg : ∀ a, a < fsN sd P → (if pcG (sdS sd P p i s z) (P + 1) (nwS sd P p i s z a) = P then p else pcG (sdS sd P p i s z) (P + 1) (nwS sd P p i s z a)) = pcG sd P a := fun a ha => by
            have := (pcG_spec ha).1
            rcases pf a ha with h | ⟨h1, h2⟩
            · rw [h, if_neg (by omega)]
            · rw [h1, if_pos rfl, h2]
          show rpE _ (if pcG _ _ _ = P then p else pcG _ _ _) = rpE _ (if pcG _ _ _ = P then p else pcG _ _ _)
          rw [hg _ g1, hg _ g2]
          refine rpE_edge ?_
          simp only [cmpE, List.mem_map, List.mem_reverse]
          exact ⟨d, hd, rfl⟩) hh
      rwa [if_neg (by omega), if_neg (by omega)] at this
    · intro hh
      refine rpE_ker (E := cmpE (pcG sd P) S) (fun e he => ?_) hh
      simp only [cmpE, List.mem_map, List.mem_reverse] at he
      obtain ⟨d, hd, rfl⟩ := he
      obtain ⟨g1, g2, _⟩ := hS.at d hd
      show rpE E' (pcG sd P d.1) = rpE E' (pcG sd P d.2)
      rw [← hcl _ g1, ← hcl _ g2]
      exact hE d hd
  · by_cases h : w = P
    · exact ⟨p, hp, by rw [h]; exact hpP.symm⟩
    · exact ⟨w, by omega, rfl⟩
end
end Go.Proofs.Ytnbickholedckaa
