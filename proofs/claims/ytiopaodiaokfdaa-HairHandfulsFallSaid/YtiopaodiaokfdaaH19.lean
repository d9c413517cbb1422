/- Wanted hairs are cut out: lengths one after another, from the longest. -/
import Derived.Test.YtiopaodiaokfdaaH16
namespace Go.Proofs.Ytiopaodiaokfdaa
open Go.RowKit

/-- The state while hairs are cut: those that lie right, those that lie wrong, how many are wanted still, how much is lost. -/
structure CutSt where
  f : Nat → Int
  g : Nat → Int
  need : Int
  lost : Int
def CutSt.n (s : CutSt) (j : Nat) : Int := min s.need (s.f j + s.g j)
def CutSt.r (s : CutSt) (j : Nat) : Int := min (s.n j) (s.f j)
/-- Cutting from hairs of the length j. -/
def cutS (i j : Nat) (s : CutSt) : CutSt := ⟨upd s.f j (s.f j - s.r j), upd s.g j (s.g j - (s.n j - s.r j)), s.need - s.n j, s.lost + s.n j * ((j : Int) - i)⟩
def cutI (i : Nat) (s : CutSt) : Nat → CutSt
  | 0 => s
  | k + 1 => cutS i (i + k) (cutI i s k)
def CutSt.Ok (s : CutSt) : Prop := Okh s.f ∧ Okh s.g ∧ 0 ≤ s.need
theorem CutSt.n_to {s : CutSt} (h : s.Ok) {j : Nat} (hj : j < 25) : 0 ≤ s.n j ∧ s.n j ≤ s.need ∧ s.n j ≤ s.f j + s.g j ∧ 0 ≤ s.r j ∧ s.r j ≤ s.f j ∧ 0 ≤ s.n j - s.r j ∧ s.n j - s.r j ≤ s.g j ∧ (s.n j = s.need ∨ s.n j = s.f j + s.g j) := by
  obtain ⟨h1, h2, h3⟩ := h
  have := h1 j hj; have := h2 j hj
  unfold CutSt.r CutSt.n
  omega
theorem okh_sub {f : Nat → Int} (h : Okh f) {j : Nat} {x : Int} (h0 : 0 ≤ x) (h1 : x ≤ f j) : Okh (upd f j (f j - x)) := fun i hi => by
  by_cases e : i = j
  · subst e; rw [upd_same]; have := h i hi; omega
  · rw [upd_ne _ _ e]; exact h i hi
theorem cutS_ok {s : CutSt} (h : s.Ok) {i j : Nat} (hj : j < 25) : (cutS i j s).Ok := by
  obtain ⟨a1, a2, a3, a4, a5, a6, a7, a8⟩ := CutSt.n_to h hj
  exact ⟨okh_sub h.1 a4 a5, okh_sub h.2.1 a6 a7, by show 0 ≤ s.need - s.n j; omega⟩
theorem cutI_ok {s : CutSt} (h : s.Ok) (i : Nat) : ∀ k, i + k ≤ 25 → (cutI i s k).Ok
  | 0, _ => h
  | k + 1, hk => cutS_ok (cutI_ok h i k (by omega)) (by omega)
/-- What is not wanted any more changes nothing. -/
theorem cutS_id {s : CutSt} (h : s.Ok) (h0 : s.need = 0) {i j : Nat} (hj : j < 25) : cutS i j s = s := by
  obtain ⟨a1, a2, a3, a4, a5, a6, a7, a8⟩ := CutSt.n_to h hj
  have e1 : s.n j = 0 := by omega
  have e2 : s.r j = 0 := by omega
  have e3 : ∀ f : Nat → Int, upd f j (f j) = f := fun f => by
    funext i
    by_cases e : i = j
    · subst e; rw [upd_same]
    · rw [upd_ne _ _ e]
  cases s
  simp only [cutS, e1, e2, Int.sub_zero, Int.zero_mul, Int.add_zero, e3]
theorem cutI_id {s : CutSt} (h : s.Ok) (i : Nat) {k : Nat} (h0 : (cutI i s k).need = 0) : ∀ d, i + (k + d) ≤ 25 → cutI i s (k + d) = cutI i s k
  | 0, _ => rfl
  | d + 1, hd => by
    show cutS i (i + (k + d)) (cutI i s (k + d)) = _
    rw [cutI_id h i h0 d (by omega), cutS_id (cutI_ok h i k (by omega)) h0 (by omega)]
theorem cutS_cnt (s : CutSt) {i j : Nat} (hj : j < 25) (hj1 : 1 ≤ j) {len : Int} (hl : len ≤ j) : cnt (cutS i j s).f (cutS i j s).g len = cnt s.f s.g len - s.n j := by
  show cnt (upd s.f j (s.f j - s.r j)) (upd s.g j (s.g j - (s.n j - s.r j))) len = _
  rw [cnt_wS, cnt_wS, wS_upd _ _ hj, wS_upd _ _ hj, if_pos ⟨hj1, hl⟩]
  omega
theorem cutS_inc (s : CutSt) {i j : Nat} (hj : j < 25) : inc (cutS i j s).f (cutS i j s).g + (cutS i j s).lost = inc s.f s.g + s.lost - i * s.n j := by
  show inc (upd s.f j (s.f j - s.r j)) (upd s.g j (s.g j - (s.n j - s.r j))) + (s.lost + s.n j * ((j : Int) - i)) = _
  rw [inc_wS, inc_wS, wS_upd _ _ hj, wS_upd _ _ hj]
  have e : (j : Int) * (s.f j - s.r j - s.f j) + j * (s.g j - (s.n j - s.r j) - s.g j) = - (j * s.n j) := by rw [← Int.mul_add, ← Int.mul_neg]; congr 1; omega
  have e2 : s.n j * ((j : Int) - i) = j * s.n j - i * s.n j := by rw [Int.mul_sub, Int.mul_comm (s.n j) j, Int.mul_comm (s.n j) i]
  rw [e2]
  omega
theorem cutI_inv (s : CutSt) {i : Nat} (hi : 1 ≤ i) : ∀ k, i + k ≤ 25 → (∀ len : Int, len ≤ i → cnt (cutI i s k).f (cutI i s k).g len = cnt s.f s.g len - (s.need - (cutI i s k).need)) ∧ inc (cutI i s k).f (cutI i s k).g + (cutI i s k).lost = inc s.f s.g + s.lost - i * (s.need - (cutI i s k).need)
  | 0, _ => ⟨fun len _ => by show _ = _ - (s.need - s.need); rw [Int.sub_self, Int.sub_zero]; rfl, by show _ = _ - i * (s.need - s.need); rw [Int.sub_self, Int.mul_zero, Int.sub_zero]; rfl⟩
  | k + 1, hk => by
    obtain ⟨h1, h2⟩ := cutI_inv s hi k (by omega)
    have e : (cutI i s (k + 1)).need = (cutI i s k).need - (cutI i s k).n (i + k) := rfl
    refine ⟨fun len hl => ?_, ?_⟩
    · show cnt (cutS i (i + k) (cutI i s k)).f (cutS i (i + k) (cutI i s k)).g len = _
      rw [cutS_cnt _ (by omega) (by omega) (by omega), h1 len hl, e]; omega
    · show inc (cutS i (i + k) (cutI i s k)).f (cutS i (i + k) (cutI i s k)).g + (cutS i (i + k) (cutI i s k)).lost = _
      rw [cutS_inc _ (by omega), h2, e]
      rw [show s.need - ((cutI i s k).need - (cutI i s k).n (i + k)) = (s.need - (cutI i s k).need) + (cutI i s k).n (i + k) by omega, Int.mul_add]; omega
theorem cutI_none {s : CutSt} (h : s.Ok) (i : Nat) : ∀ k, i + k ≤ 25 → (cutI i s k).need = 0 ∨ ∀ j, j < k → (cutI i s k).f (i + j) = 0 ∧ (cutI i s k).g (i + j) = 0
  | 0, _ => .inr fun j hj => absurd hj (by omega)
  | k + 1, hk => by
    have ho := cutI_ok h i k (by omega)
    obtain ⟨a1, a2, a3, a4, a5, a6, a7, a8⟩ := CutSt.n_to ho (j := i + k) (by omega)
    rcases a8 with a8 | a8
    · exact .inl (by show (cutI i s k).need - (cutI i s k).n (i + k) = 0; omega)
    rcases cutI_none h i k (by omega) with h0 | h0
    · exact .inl (by show (cutI i s k).need - (cutI i s k).n (i + k) = 0; omega)
    refine .inr fun j hj => ?_
    show upd _ (i + k) _ (i + j) = 0 ∧ upd _ (i + k) _ (i + j) = 0
    by_cases e : j = k
    · subst e; rw [upd_same, upd_same]; omega
    · rw [upd_ne _ _ (by omega), upd_ne _ _ (by omega)]; exact h0 j (by omega)
theorem cnt_none {f g : Nat → Int} {i : Nat} (h : ∀ j, i ≤ j → j < 25 → f j = 0 ∧ g j = 0) : cnt f g i = 0 := by
  unfold cnt
  rw [sumTo_congr 25 (G := fun _ => 0) fun j hj => ?_]; · rfl
  split
  next hc => have := h j (by omega) hj; omega
  · rfl
theorem cnt_nn {f g : Nat → Int} (hf : Okh f) (hg : Okh g) (len : Int) : 0 ≤ cnt f g len := sumTo_nonneg 25 fun i hi => by
  have := hf i hi; have := hg i hi
  split <;> omega
/-- All of one wanted length: it is lacking exactly if fewer hairs are long enough. -/
theorem cutI_lack {s : CutSt} (h : s.Ok) {i : Nat} (hi : 1 ≤ i) (hi2 : i ≤ 24) : (0 < (cutI i s (25 - i)).need ↔ cnt s.f s.g i < s.need) ∧ 0 ≤ (cutI i s (25 - i)).need := by
  have ho := cutI_ok h i (25 - i) (by omega)
  have h1 := (cutI_inv s hi (25 - i) (by omega)).1 i (by omega)
  have h3 := ho.2.2
  have h4 := cnt_nn ho.1 ho.2.1 i
  refine ⟨⟨fun hp => ?_, fun hp => by omega⟩, h3⟩
  rcases cutI_none h i (25 - i) (by omega) with h0 | h0
  · omega
  · have := cnt_none (f := (cutI i s (25 - i)).f) (g := (cutI i s (25 - i)).g) (i := i) fun j h1 h2 => by
      have := h0 (j - i) (by omega)
      rwa [show i + (j - i) = j by omega] at this
    omega
/-- The lengths one after another, from the longest. -/
def cutO (f g u v : Nat → Int) : Nat → CutSt
  | 0 => ⟨f, g, 0, 0⟩
  | k + 1 => cutI (24 - k) ⟨(cutO f g u v k).f, (cutO f g u v k).g, u (24 - k) + v (24 - k), (cutO f g u v k).lost⟩ (25 - (24 - k))
def cutB (f g u v : Nat → Int) (k : Nat) : CutSt := ⟨(cutO f g u v k).f, (cutO f g u v k).g, u (24 - k) + v (24 - k), (cutO f g u v k).lost⟩
theorem cutO_ok {f g u v : Nat → Int} (hf : Okh f) (hg : Okh g) (hu : Okh u) (hv : Okh v) : ∀ k, (cutO f g u v k).Ok ∧ (cutB f g u v k).Ok
  | 0 => ⟨⟨hf, hg, Int.le_refl _⟩, ⟨hf, hg, by have := hu 24 (by omega); have := hv 24 (by omega); show 0 ≤ u 24 + v 24; omega⟩⟩
  | k + 1 => by
    have := cutI_ok (cutO_ok hf hg hu hv k).2 (24 - k) (25 - (24 - k)) (by omega)
    exact ⟨this, this.1, this.2.1, by have := hu (24 - (k + 1)) (by omega); have := hv (24 - (k + 1)) (by omega); show 0 ≤ u _ + v _; omega⟩
theorem sumTo_one' (x : Int) (c : Nat) : ∀ n, c < n → sumTo (fun i => if i = c then x else 0) n = x
  | 0, h => by omega
  | n + 1, h => by
    rw [sumTo_succ]
    by_cases hc : c = n
    · subst hc; rw [sumTo_zero c (fun i hi => if_neg (by omega)), if_pos rfl, Int.zero_add]
    · rw [sumTo_one' x c n (by omega), if_neg (by omega), Int.add_zero]
theorem cnt_step (f g : Nat → Int) {i : Nat} (h1 : 1 ≤ i) (h2 : i < 25) : cnt f g i = cnt f g (i + 1 : Nat) + (f i + g i) := by
  unfold cnt
  rw [← sumTo_one' (f i + g i) i 25 h2, ← sumTo_add]
  refine sumTo_congr 25 fun j hj => ?_
  by_cases e : j = i
  · subst e; rw [if_pos (by omega), if_neg (by omega), if_pos rfl, Int.zero_add]
  · rw [if_neg e, Int.add_zero]
    by_cases hh : 1 ≤ j ∧ (i : Int) ≤ j
    · rw [if_pos hh, if_pos (by omega)]
    · rw [if_neg hh, if_neg (by omega)]
theorem cnt_top (f g : Nat → Int) : cnt f g (25 : Nat) = 0 := cnt_none fun j h1 h2 => by omega
/-- The inches of the wanted hairs of the longest k lengths. -/
def pI (u v : Nat → Int) : Nat → Int
  | 0 => 0
  | k + 1 => pI u v k + (24 - k : Nat) * (u (24 - k) + v (24 - k))
theorem pI_all (u v : Nat → Int) : ∀ k, k ≤ 24 → inc u v = sumTo (fun i => i * (u i + v i)) (25 - k) + pI u v k
  | 0, _ => by show _ = _ + (0 : Int); rw [Int.add_zero]; rfl
  | k + 1, h => by
    rw [pI_all u v k (by omega), show 25 - k = 24 - k + 1 by omega, sumTo_succ, show 25 - (k + 1) = 24 - k by omega]
    show _ = _ + (pI u v k + _); omega
theorem pI_end (u v : Nat → Int) : pI u v 24 = inc u v := by
  rw [pI_all u v 24 (by omega)]
  show _ = (0 + ((0 : Nat) : Int) * (u 0 + v 0)) + _
  simp
theorem cutO_inv {f g u v : Nat → Int} (hf : Okh f) (hg : Okh g) (hu : Okh u) (hv : Okh v) : ∀ k, k ≤ 24 → (∀ j, j ≤ k → (cutO f g u v j).need = 0) →
    (∀ len : Nat, len ≤ 25 - k → cnt (cutO f g u v k).f (cutO f g u v k).g len = cnt f g len - cnt u v (25 - k : Nat)) ∧ inc (cutO f g u v k).f (cutO f g u v k).g + (cutO f g u v k).lost = inc f g - pI u v k
  | 0, _, _ => ⟨fun len _ => by rw [cnt_top, Int.sub_zero]; rfl, by show _ + (0 : Int) = _ - (0 : Int); rw [Int.add_zero, Int.sub_zero]; rfl⟩
  | k + 1, hk, hn => by
    obtain ⟨h1, h2⟩ := cutO_inv hf hg hu hv k (by omega) (fun j hj => hn j (by omega))
    obtain ⟨g1, g2⟩ := cutI_inv (cutB f g u v k) (i := 24 - k) (by omega) (25 - (24 - k)) (by omega)
    have h0 : (cutI (24 - k) (cutB f g u v k) (25 - (24 - k))).need = 0 := hn (k + 1) (by omega)
    have hst := cnt_step u v (i := 24 - k) (by omega) (by omega)
    rw [show 24 - k + 1 = 25 - k by omega] at hst
    rw [h0, Int.sub_zero] at g1 g2
    refine ⟨fun len hl => ?_, ?_⟩
    · rw [show 25 - (k + 1) = 24 - k by omega, hst]
      refine (g1 len (by omega)).trans ?_
      show cnt (cutO f g u v k).f (cutO f g u v k).g len - (u (24 - k) + v (24 - k)) = _
      rw [h1 len (by omega)]; omega
    · refine g2.trans ?_
      show inc (cutO f g u v k).f (cutO f g u v k).g + (cutO f g u v k).lost - _ * (u (24 - k) + v (24 - k)) = _ - (pI u v k + _)
      rw [h2]; omega
theorem cutO_lack {f g u v : Nat → Int} (hf : Okh f) (hg : Okh g) (hu : Okh u) (hv : Okh v) {k : Nat} (hk : k < 24) (hn : ∀ j, j ≤ k → (cutO f g u v j).need = 0) :
    0 ≤ (cutO f g u v (k + 1)).need ∧ (0 < (cutO f g u v (k + 1)).need ↔ cnt f g (24 - k : Nat) < cnt u v (24 - k : Nat)) := by
  obtain ⟨h1, h2⟩ := cutO_inv hf hg hu hv k (by omega) hn
  obtain ⟨g1, g2⟩ := cutI_lack (cutO_ok hf hg hu hv k).2 (i := 24 - k) (by omega) (by omega)
  have hst := cnt_step u v (i := 24 - k) (by omega) (by omega)
  rw [show 24 - k + 1 = 25 - k by omega] at hst
  refine ⟨g2, g1.trans ?_⟩
  show cnt (cutO f g u v k).f (cutO f g u v k).g (24 - k : Nat) < u (24 - k) + v (24 - k) ↔ _
  rw [h1 (24 - k) (by omega)]
  omega
/-! ### How much is lost at most -/
theorem inc_nn {f g : Nat → Int} (hf : Okh f) (hg : Okh g) : 0 ≤ inc f g := sumTo_nonneg 25 fun i hi => Int.mul_nonneg (by omega) (by have := hf i hi; have := hg i hi; omega)
theorem cutI_lost {s : CutSt} (h : s.Ok) (hl : 0 ≤ s.lost) (i : Nat) : ∀ k, i + k ≤ 25 → 0 ≤ (cutI i s k).lost
  | 0, _ => hl
  | k + 1, hk => by
    have h0 := cutI_lost h hl i k (by omega)
    obtain ⟨a1, _⟩ := CutSt.n_to (cutI_ok h i k (by omega)) (j := i + k) (by omega)
    have := Int.mul_nonneg a1 (show 0 ≤ (((i + k : Nat) : Int) - i) by omega)
    show 0 ≤ (cutI i s k).lost + (cutI i s k).n (i + k) * (((i + k : Nat) : Int) - i)
    omega
theorem cutI_lost2 {s : CutSt} (h : s.Ok) {i : Nat} (hi : 1 ≤ i) {k : Nat} (hk : i + k ≤ 25) : (cutI i s k).lost ≤ inc s.f s.g + s.lost := by
  have h1 := (cutI_inv s hi k hk).2
  have ho := cutI_ok h i k hk
  have h2 := inc_nn ho.1 ho.2.1
  have h3 := (cutI_inv s hi k hk).1 i (by omega)
  have h4 : 0 ≤ s.need - (cutI i s k).need := by
    clear h1 h2 h3
    induction k with
    | zero => show 0 ≤ s.need - s.need; omega
    | succ k ih =>
      have := ih (by omega) (cutI_ok h i k (by omega))
      obtain ⟨a1, _⟩ := CutSt.n_to (cutI_ok h i k (by omega)) (j := i + k) (by omega)
      show 0 ≤ s.need - ((cutI i s k).need - (cutI i s k).n (i + k))
      omega
  have h5 := Int.mul_nonneg (show (0 : Int) ≤ i by omega) h4
  omega
theorem cutI_need {s : CutSt} (h : s.Ok) (i : Nat) : ∀ k, i + k ≤ 25 → (cutI i s k).need ≤ s.need
  | 0, _ => Int.le_refl _
  | k + 1, hk => by
    have := cutI_need h i k (by omega)
    obtain ⟨a1, _⟩ := CutSt.n_to (cutI_ok h i k (by omega)) (j := i + k) (by omega)
    show (cutI i s k).need - (cutI i s k).n (i + k) ≤ _
    omega
theorem pI_nn {u v : Nat → Int} (hu : Okh u) (hv : Okh v) : ∀ k, 0 ≤ pI u v k
  | 0 => Int.le_refl _
  | k + 1 => by
    have := pI_nn hu hv k
    have a := hu (24 - k) (by omega); have b := hv (24 - k) (by omega)
    have := Int.mul_nonneg (show (0 : Int) ≤ ((24 - k : Nat) : Int) by omega) (show 0 ≤ u (24 - k) + v (24 - k) by omega)
    show 0 ≤ pI u v k + _
    omega
theorem cutO_lost {f g u v : Nat → Int} (hf : Okh f) (hg : Okh g) (hu : Okh u) (hv : Okh v) : ∀ k, 0 ≤ (cutO f g u v k).lost
  | 0 => Int.le_refl _
  | k + 1 => cutI_lost (cutO_ok hf hg hu hv k).2 (cutO_lost hf hg hu hv k) (24 - k) (25 - (24 - k)) (by omega)
theorem cutO_lost2 {f g u v : Nat → Int} (hf : Okh f) (hg : Okh g) (hu : Okh u) (hv : Okh v) {k : Nat} (hk : k ≤ 24) (hn : ∀ j, j ≤ k → (cutO f g u v j).need = 0) : inc (cutO f g u v k).f (cutO f g u v k).g + (cutO f g u v k).lost ≤ inc f g := by
  have := (cutO_inv hf hg hu hv k hk hn).2
  have := pI_nn hu hv k
  omega
theorem mul_toC {a b m n : Int} (h1 : 0 ≤ a) (h2 : a ≤ m) (h3 : 0 ≤ b) (h4 : b ≤ n) : 0 ≤ a * b ∧ a * b ≤ m * n := ⟨Int.mul_nonneg h1 h3, Int.mul_le_mul h2 h4 h3 (by omega)⟩
/-! ### What cutting returns -/
def ctB (f g u v : Nat → Int) : Bool := decide (∀ j : Nat, j < 25 → (cutO f g u v j).need = 0)
def ctE (r g r' g' : List Int) : Int := if pErr r g r' g' = 0 then if ctB (cn r) (cn g) (cn r') (cn g') = true then 0 else 6 else pErr r g r' g'
def ctF (r g r' g' : List Int) : Nat → Int := (cutO (cn r) (cn g) (cn r') (cn g') 24).f
def ctG (r g r' g' : List Int) : Nat → Int := (cutO (cn r) (cn g) (cn r') (cn g') 24).g
def ctL (r g r' g' : List Int) : Int := if ctE r g r' g' = 0 then (cutO (cn r) (cn g) (cn r') (cn g') 24).lost else 0
def NewBL (r g : List Int) (l e : Int) (u : Value) (blk : HS) : Prop := ∃ v, u = .tuple #[v, iv l, iv e] ∧ NewB r g v blk
theorem NewBL.none (e : Int) : NewBL [] [] 0 e (.tuple #[.agg #[.slice none 0 0, .slice none 0 0], iv 0, iv e]) [] := ⟨_, rfl, NewB.none⟩
set_option maxRecDepth 100000 in
set_option maxHeartbeats 8000000 in
theorem h_Cut (o1 o2 p1 p2 : Option Addr) (c1 c2 d1 d2 : Nat) (r g r' g' : List Int) (B : Nat) (w0 : World) (hs : HS) (h1 : Sl B w0 hs o1 r) (h2 : Sl B w0 hs o2 g) (h3 : Sl B w0 hs p1 r') (h4 : Sl B w0 hs p2 g') :
    Fn Try.prog 55 #[bv o1 o2 r.length g.length c1 c2, bv p1 p2 r'.length g'.length d1 d2] B w0 hs (fun v hs' => ∃ blk, NewBL (lif (ctE r g r' g') (trm (ctF r g r' g'))) (lif (ctE r g r' g') (trm (ctG r g r' g'))) (ctL r g r' g') (ctE r g r' g') v blk ∧ hs' = blk ++ hs) := by
  have hP := fun hs a b c d => h_pair o1 o2 p1 p2 c1 c2 d1 d2 r g r' g' B w0 hs a b c d
  by_cases hE : pErr r g r' g' = 0
  · rw [hE] at hP
    simp only [show ∀ f, pF 0 f = f from fun f => rfl] at hP
    obtain ⟨z1, z2⟩ := pErr_zero hE
    obtain ⟨q1, q2, q3, q4, q5, q6⟩ := vErr_zero z1
    obtain ⟨s1, s2, s3, s4, s5, s6⟩ := vErr_zero z2
    have k1 := okh_cn q3 q5; have k2 := okh_cn q4 q6; have k3 := okh_cn s3 s5; have k4 := okh_cn s4 s6
    have hE2 : ctE r g r' g' = if ctB (cn r) (cn g) (cn r') (cn g') = true then 0 else 6 := if_pos hE
    have hin := inc_to (cn r) (cn g) (okh_okf k1) (okh_okf k2) 25 (by omega)
    have hin2 : inc (cn r) (cn g) ≤ 12500000000 := by have : inc (cn r) (cn g) = sumTo (fun i => i * (cn r i + cn g i)) 25 := rfl; omega
    have hcF : ctF r g r' g' = (cutO (cn r) (cn g) (cn r') (cn g') 24).f := rfl
    have hcG : ctG r g r' g' = (cutO (cn r) (cn g) (cn r') (cn g') 24).g := rfl
    have hcL : ctL r g r' g' = if ctE r g r' g' = 0 then (cutO (cn r) (cn g) (cn r') (cn g') 24).lost else 0 := rfl
    have hcB : ctB (cn r) (cn g) (cn r') (cn g') = decide (∀ j : Nat, j < 25 → (cutO (cn r) (cn g) (cn r') (cn g') j).need = 0) := rfl
    generalize ctF r g r' g' = RF at hcF ⊢
    generalize ctG r g r' g' = RG at hcG ⊢
    generalize ctL r g r' g' = RL at hcL ⊢
    generalize ctE r g r' g' = RE at hE2 hcL ⊢
    generalize ctB (cn r) (cn g) (cn r') (cn g') = RB at hE2 hcB ⊢
    have hl1 := lockC_length (cn r) (cn g)
    have hl2 := lockC_length (cn r') (cn g')
    refine fn_enter Try.func55 rfl Try.ntmps55 (by simp) ?_
    repeat' (first | ((with_reducible apply kF 82); refine sC 82 (hP _ (h1.sub SBt) (h2.sub SBt) (h3.sub SBt) (h4.sub SBt)) ?_) | (with_reducible first | refine c_seq ?_ | refine c_reg ?_ | refine c_region ?_ | refine c_block ?_ | refine c_skip ?_ | refine c_exit ?_ | refine c_ret ?_ | refine s_nil ?_ | refine x_then ?_ | refine x_then_exit ?_ | refine x_then_ret ?_ | refine x_block ?_ | refine x_block_ret ?_ | refine x_block_same ?_ | refine x_block_other (by rfl) ?_ | refine q_nil ?_ | refine k_nil ?_) | ((with_reducible apply kP (.makeFunc _ _ _)); refine sMF ?_) | ((with_reducible apply kG); first | refine gY1 ?_ | refine gN1 ?_ | refine gU1 ?_ | (refine gD1 (fun h => ?_) (fun h => ?_) <;> (try (exfalso; omega))) | refine gB1 (fun h => ?_) (fun h => ?_)) | ((with_reducible apply kN); first | refine stP ?_ | refine stI ?_ | refine st1 ?_ | refine stW ?_) | ((with_reducible apply kP (.alloc _)); refine sA (fun b => ?_)) | ((with_reducible apply kP (.box _ _)); first | refine sBA (fun b => ?_) | refine sB (fun b => ?_)) | ((with_reducible apply kP (.buildSlice _ 1 _)); first | refine sl1A (fun b => ?_) | refine sl1 (fun b => ?_)) | ((with_reducible apply kP (.buildSlice _ 2 _)); refine sl2 (fun b => ?_)) | ((with_reducible apply kP (.buildSlice _ 3 _)); refine sl3 (fun b => ?_)) | ((with_reducible apply kP (.buildSlice _ 4 _)); refine sl4 (fun b => ?_)) | ((with_reducible apply kP (.buildSlice _ 0 _)); refine s_bs0 (scTOf rfl) (zsTOf rfl) (by decide) (fun b => ?_)) | ((with_reducible apply kP (.makeSlice _ _ _)); refine sMk (fun b => ?_)) | ((with_reducible apply kP (.call ⟨.builtin .append, _, _⟩)); refine sAp (fun oa2 c2 blk2 hrow2 => ?_)) | ((with_reducible apply kP _); refine sP ?_) | ((with_reducible apply kP _); refine sX ?_) | ((with_reducible apply kQG); first | refine qY1 ?_ | refine qN1 ?_ | refine qU1 ?_ | (refine qD1 (fun h => ?_) (fun h => ?_) <;> (try (exfalso; omega))) | refine qB1 (fun h => ?_) (fun h => ?_)) | ((with_reducible apply kQP); refine qP ?_) | ((with_reducible apply kQP); refine qX ?_) | ((with_reducible apply kC); first | refine cT ?_ | refine cF ?_ | (refine cI (fun h => ?_) (fun h => ?_) <;> (try (exfalso; omega))) | refine cB (fun h => ?_) (fun h => ?_)) | ((with_reducible apply kR); refine cQ ?_))
    all_goals try (exfalso; omega)
    rename_i b2 b3 b4 b7
    generalize hf : cn r = f at *
    generalize hg : cn g = gg at *
    generalize hu : cn r' = u at *
    generalize hv : cn g' = v at *
    have h00 : ∀ j, j ≤ 0 → (cutO f gg u v j).need = 0 := fun j hj => by obtain rfl : j = 0 := by omega
                                                                         rfl
    refine Sat.perm (.swap _ _ _) ?_
    refine c_loop (fun k : Nat => [(4, .pointer (some ⟨b4, 0, none⟩)), (5, iv (cutO f gg u v k).lost), (7, .pointer (some ⟨b7, 0, none⟩)), (8, .pointer (some ⟨b, 0, none⟩)), (9, iv (24 - k : Nat))]) (fun k => (b7, ivs (lockC (cutO f gg u v k).f (cutO f gg u v k).g)) :: (b, ivs (lockC u v)) :: (b4, [.slice none 0 0, .slice none 0 0]) :: hs) (fun k => k ≤ 24 ∧ ∀ j, j ≤ k → (cutO f gg u v j).need = 0) (fun k => 24 - k) 0 ⟨by omega, h00⟩ (by repeat' first | trivial | rfl | apply And.intro) (by show List.Sublist ((b7, ivs (lockC f gg)) :: _) _; exact SCt) ?_
    rintro k ⟨hk, hn⟩
    have hlk := lockC_length (cutO f gg u v k).f (cutO f gg u v k).g
    by_cases hk' : k < 24
    · have hok := (cutO_ok k1 k2 k3 k4 k).2
      have hlo := cutO_lost k1 k2 k3 k4 k
      have hlo2 := cutO_lost2 k1 k2 k3 k4 hk hn
      obtain ⟨s0, hs0⟩ : ∃ s0, s0 = cutB f gg u v k := ⟨_, rfl⟩
      have a1 : (cutO f gg u v k).f = s0.f := by rw [hs0]; rfl
      have a2 : (cutO f gg u v k).g = s0.g := by rw [hs0]; rfl
      have a3 : (cutO f gg u v k).lost = s0.lost := by rw [hs0]; rfl
      have a4 : u (24 - k) + v (24 - k) = s0.need := by rw [hs0]; rfl
      have a5 : cutO f gg u v (k + 1) = cutI (24 - k) s0 (25 - (24 - k)) := by rw [hs0]; rfl
      have a6 : ((24 - k : Nat) : Int) - 1 = ((24 - (k + 1) : Nat) : Int) := by omega
      rw [← hs0] at hok
      rw [a1, a2, a3] at hlo2 ⊢
      rw [a1, a2] at hlk
      rw [a3] at hlo
      obtain ⟨i, hi⟩ : ∃ i, i = 24 - k := ⟨_, rfl⟩
      rw [← hi] at a4 a5 a6 ⊢
      have hi1 : 1 ≤ i := by omega
      have hi2 : i ≤ 24 := by omega
      have e1 : Value.int .i64 ((lockC u v).getD (i * 2) 0 + (lockC u v).getD (i * 2 + 1) 0) = iv s0.need := by rw [lockC_r _ _ (by omega), lockC_w _ _ (by omega), a4]; rfl
      have y1 := k3 i (by omega); have y2 := k4 i (by omega)
      rw [← lockC_r u v (show i < 25 by omega)] at y1
      rw [← lockC_w u v (show i < 25 by omega)] at y2
      repeat' (first | (with_reducible refine f_eq (t := 10) (v := Value.int .i64 ((lockC u v).getD (i * 2) 0 + (lockC u v).getD (i * 2 + 1) 0)) rfl e1 ?_) | (with_reducible first | refine c_seq ?_ | refine c_reg ?_ | refine c_region ?_ | refine c_block ?_ | refine c_skip ?_ | refine c_exit ?_ | refine c_ret ?_ | refine s_nil ?_ | refine x_then ?_ | refine x_then_exit ?_ | refine x_then_ret ?_ | refine x_block ?_ | refine x_block_ret ?_ | refine x_block_same ?_ | refine x_block_other (by rfl) ?_ | refine q_nil ?_ | refine k_nil ?_) | ((with_reducible apply kP (.makeFunc _ _ _)); refine sMF ?_) | ((with_reducible apply kG); first | refine gY1 ?_ | refine gN1 ?_ | refine gU1 ?_ | (refine gD1 (fun h => ?_) (fun h => ?_) <;> (try (exfalso; omega))) | refine gB1 (fun h => ?_) (fun h => ?_)) | ((with_reducible apply kN); first | refine stP ?_ | refine stI ?_ | refine st1 ?_ | refine stW ?_) | ((with_reducible apply kP (.alloc _)); refine sA (fun b => ?_)) | ((with_reducible apply kP (.box _ _)); first | refine sBA (fun b => ?_) | refine sB (fun b => ?_)) | ((with_reducible apply kP (.buildSlice _ 1 _)); first | refine sl1A (fun b => ?_) | refine sl1 (fun b => ?_)) | ((with_reducible apply kP (.buildSlice _ 2 _)); refine sl2 (fun b => ?_)) | ((with_reducible apply kP (.buildSlice _ 3 _)); refine sl3 (fun b => ?_)) | ((with_reducible apply kP (.buildSlice _ 4 _)); refine sl4 (fun b => ?_)) | ((with_reducible apply kP (.buildSlice _ 0 _)); refine s_bs0 (scTOf rfl) (zsTOf rfl) (by decide) (fun b => ?_)) | ((with_reducible apply kP (.makeSlice _ _ _)); refine sMk (fun b => ?_)) | ((with_reducible apply kP (.call ⟨.builtin .append, _, _⟩)); refine sAp (fun oa2 c2 blk2 hrow2 => ?_)) | ((with_reducible apply kP _); refine sP ?_) | ((with_reducible apply kP _); refine sX ?_) | ((with_reducible apply kQG); first | refine qY1 ?_ | refine qN1 ?_ | refine qU1 ?_ | (refine qD1 (fun h => ?_) (fun h => ?_) <;> (try (exfalso; omega))) | refine qB1 (fun h => ?_) (fun h => ?_)) | ((with_reducible apply kQP); refine qP ?_) | ((with_reducible apply kQP); refine qX ?_) | ((with_reducible apply kC); first | refine cT ?_ | refine cF ?_ | (refine cI (fun h => ?_) (fun h => ?_) <;> (try (exfalso; omega))) | refine cB (fun h => ?_) (fun h => ?_)) | ((with_reducible apply kR); refine cQ ?_))
      refine c_loop (fun j : Nat => [(4, .pointer (some ⟨b4, 0, none⟩)), (5, iv (cutI i s0 j).lost), (7, .pointer (some ⟨b7, 0, none⟩)), (8, .pointer (some ⟨b, 0, none⟩)), (9, iv i), (10, iv (cutI i s0 j).need), (11, iv (i + j : Nat))]) (fun j => (b7, ivs (lockC (cutI i s0 j).f (cutI i s0 j).g)) :: (b, ivs (lockC u v)) :: (b4, [.slice none 0 0, .slice none 0 0]) :: hs) (fun j => i + j ≤ 25) (fun j => 25 - i - j) 0 (by omega) (by repeat' first | trivial | rfl | apply And.intro) (by show List.Sublist ((b7, ivs (lockC s0.f s0.g)) :: _) _; exact SCt) ?_
      intro j hj
      have hoj := cutI_ok hok i j hj
      have hlj := cutI_lost hok hlo i j hj
      have hlj2 := cutI_lost2 hok hi1 hj
      have hlj3 := lockC_length (cutI i s0 j).f (cutI i s0 j).g
      by_cases hx : i + j = 25 ∨ (cutI i s0 j).need = 0
      · have hfin : cutI i s0 j = cutI i s0 (25 - i) := by
          rcases hx with hx | hx
          · rw [show j = 25 - i by omega]
          · have := cutI_id hok i hx (25 - i - j) (by omega)
            rw [← this, show j + (25 - i - j) = 25 - i by omega]
        have hj2 : i + j ≤ 24 → (cutI i s0 j).need = 0 := fun h => by rcases hx with hx | hx; omega; exact hx
        have hnn := hoj.2.2
        have a7 : cutO f gg u v (k + 1) = cutI i s0 j := by rw [a5, hfin]
        clear hfin hx
        generalize cutI i s0 j = sF at *
        by_cases hpos : 0 < sF.need
        · have hRB : RB = false := by rw [hcB]; exact decide_eq_false (fun h => by have := h (k + 1) (by omega); rw [a7] at this; omega)
          have hRE : RE = 6 := by rw [hE2, hRB]; rfl
          have hRE2 : ¬ RE = 0 := by omega
          have hRL : RL = 0 := by rw [hcL, if_neg hRE2]
          rw [lif_no hRE2, lif_no hRE2, hRL, hRE]
          repeat' (first | (with_reducible first | refine c_seq ?_ | refine c_reg ?_ | refine c_region ?_ | refine c_block ?_ | refine c_skip ?_ | refine c_exit ?_ | refine c_ret ?_ | refine s_nil ?_ | refine x_then ?_ | refine x_then_exit ?_ | refine x_then_ret ?_ | refine x_block ?_ | refine x_block_ret ?_ | refine x_block_same ?_ | refine x_block_other (by rfl) ?_ | refine q_nil ?_ | refine k_nil ?_) | ((with_reducible apply kP (.makeFunc _ _ _)); refine sMF ?_) | ((with_reducible apply kG); first | refine gY1 ?_ | refine gN1 ?_ | refine gU1 ?_ | (refine gD1 (fun h => ?_) (fun h => ?_) <;> (try (exfalso; omega))) | refine gB1 (fun h => ?_) (fun h => ?_)) | ((with_reducible apply kN); first | refine stP ?_ | refine stI ?_ | refine st1 ?_ | refine stW ?_) | ((with_reducible apply kP (.alloc _)); refine sA (fun b => ?_)) | ((with_reducible apply kP (.box _ _)); first | refine sBA (fun b => ?_) | refine sB (fun b => ?_)) | ((with_reducible apply kP (.buildSlice _ 1 _)); first | refine sl1A (fun b => ?_) | refine sl1 (fun b => ?_)) | ((with_reducible apply kP (.buildSlice _ 2 _)); refine sl2 (fun b => ?_)) | ((with_reducible apply kP (.buildSlice _ 3 _)); refine sl3 (fun b => ?_)) | ((with_reducible apply kP (.buildSlice _ 4 _)); refine sl4 (fun b => ?_)) | ((with_reducible apply kP (.buildSlice _ 0 _)); refine s_bs0 (scTOf rfl) (zsTOf rfl) (by decide) (fun b => ?_)) | ((with_reducible apply kP (.makeSlice _ _ _)); refine sMk (fun b => ?_)) | ((with_reducible apply kP (.call ⟨.builtin .append, _, _⟩)); refine sAp (fun oa2 c2 blk2 hrow2 => ?_)) | ((with_reducible apply kP _); refine sP ?_) | ((with_reducible apply kP _); refine sX ?_) | ((with_reducible apply kQG); first | refine qY1 ?_ | refine qN1 ?_ | refine qU1 ?_ | (refine qD1 (fun h => ?_) (fun h => ?_) <;> (try (exfalso; omega))) | refine qB1 (fun h => ?_) (fun h => ?_)) | ((with_reducible apply kQP); refine qP ?_) | ((with_reducible apply kQP); refine qX ?_) | ((with_reducible apply kC); first | refine cT ?_ | refine cF ?_ | (refine cI (fun h => ?_) (fun h => ?_) <;> (try (exfalso; omega))) | refine cB (fun h => ?_) (fun h => ?_)) | ((with_reducible apply kR); refine cQ ?_))
          exact e_ret3 (hs' := hs) rfl ⟨_, rfl, ld_two (shTOf rfl) MDt rfl rfl⟩ rfl rfl ⟨[], .none _, rfl⟩ SCt
        · repeat' (first | (with_reducible first | refine c_seq ?_ | refine c_reg ?_ | refine c_region ?_ | refine c_block ?_ | refine c_skip ?_ | refine c_exit ?_ | refine c_ret ?_ | refine s_nil ?_ | refine x_then ?_ | refine x_then_exit ?_ | refine x_then_ret ?_ | refine x_block ?_ | refine x_block_ret ?_ | refine x_block_same ?_ | refine x_block_other (by rfl) ?_ | refine q_nil ?_ | refine k_nil ?_) | ((with_reducible apply kP (.makeFunc _ _ _)); refine sMF ?_) | ((with_reducible apply kG); first | refine gY1 ?_ | refine gN1 ?_ | refine gU1 ?_ | (refine gD1 (fun h => ?_) (fun h => ?_) <;> (try (exfalso; omega))) | refine gB1 (fun h => ?_) (fun h => ?_)) | ((with_reducible apply kN); first | refine stP ?_ | refine stI ?_ | refine st1 ?_ | refine stW ?_) | ((with_reducible apply kP (.alloc _)); refine sA (fun b => ?_)) | ((with_reducible apply kP (.box _ _)); first | refine sBA (fun b => ?_) | refine sB (fun b => ?_)) | ((with_reducible apply kP (.buildSlice _ 1 _)); first | refine sl1A (fun b => ?_) | refine sl1 (fun b => ?_)) | ((with_reducible apply kP (.buildSlice _ 2 _)); refine sl2 (fun b => ?_)) | ((with_reducible apply kP (.buildSlice _ 3 _)); refine sl3 (fun b => ?_)) | ((with_reducible apply kP (.buildSlice _ 4 _)); refine sl4 (fun b => ?_)) | ((with_reducible apply kP (.buildSlice _ 0 _)); refine s_bs0 (scTOf rfl) (zsTOf rfl) (by decide) (fun b => ?_)) | ((with_reducible apply kP (.makeSlice _ _ _)); refine sMk (fun b => ?_)) | ((with_reducible apply kP (.call ⟨.builtin .append, _, _⟩)); refine sAp (fun oa2 c2 blk2 hrow2 => ?_)) | ((with_reducible apply kP _); refine sP ?_) | ((with_reducible apply kP _); refine sX ?_) | ((with_reducible apply kQG); first | refine qY1 ?_ | refine qN1 ?_ | refine qU1 ?_ | (refine qD1 (fun h => ?_) (fun h => ?_) <;> (try (exfalso; omega))) | refine qB1 (fun h => ?_) (fun h => ?_)) | ((with_reducible apply kQP); refine qP ?_) | ((with_reducible apply kQP); refine qX ?_) | ((with_reducible apply kC); first | refine cT ?_ | refine cF ?_ | (refine cI (fun h => ?_) (fun h => ?_) <;> (try (exfalso; omega))) | refine cB (fun h => ?_) (fun h => ?_)) | ((with_reducible apply kR); refine cQ ?_))
          all_goals
            refine r_end (k + 1) ⟨by omega, fun j hj => ?_⟩ (by omega) ⟨rfl, congrArg (fun s : CutSt => some (iv s.lost)) a7.symm, rfl, rfl, congrArg (fun x => some (iv x)) a6, trivial⟩ ?_
            · by_cases e : j = k + 1
              · subst e; rw [a7]; omega
              · exact hn j (by omega)
            · simp only [a7]; exact SCt
      · have y3 := k3 i (by omega)
        have y4 := k4 i (by omega)
        have hnd := cutI_need hok i j hj
        have hnd2 := hoj.2.2
        obtain ⟨n1, n2, n3, n4, n5, n6, n7, n8⟩ := CutSt.n_to hoj (j := i + j) (by omega)
        have o1 := hoj.1 (i + j) (by omega); have o2 := hoj.2.1 (i + j) (by omega)
        have e2 : Value.int .i64 (min (cutI i s0 j).need ((lockC (cutI i s0 j).f (cutI i s0 j).g).getD ((i + j) * 2) 0 + (lockC (cutI i s0 j).f (cutI i s0 j).g).getD ((i + j) * 2 + 1) 0)) = iv ((cutI i s0 j).n (i + j)) := by rw [lockC_r _ _ (by omega), lockC_w _ _ (by omega)]; rfl
        have tk := fun b hs => h_takeL (cutI i s0 j).f (cutI i s0 j).g (i + j) ((cutI i s0 j).n (i + j)) (by omega) (okh_okf hoj.1) (okh_okf hoj.2.1) n1 n3 b B w0 hs
        have x1 := mul_toC n1 (show (cutI i s0 j).n (i + j) ≤ 2000000 by omega) (show 0 ≤ ((i + j : Nat) : Int) - i by omega) (show ((i + j : Nat) : Int) - i ≤ 24 by omega)
        have o1' := o1; have o2' := o2
        rw [← lockC_r (cutI i s0 j).f (cutI i s0 j).g (show i + j < 25 by omega)] at o1'
        rw [← lockC_w (cutI i s0 j).f (cutI i s0 j).g (show i + j < 25 by omega)] at o2'
        repeat' (first | (with_reducible refine f_eq (t := 12) (v := Value.int .i64 (min (cutI i s0 j).need ((lockC (cutI i s0 j).f (cutI i s0 j).g).getD ((i + j) * 2) 0 + (lockC (cutI i s0 j).f (cutI i s0 j).g).getD ((i + j) * 2 + 1) 0))) rfl e2 ?_) | ((with_reducible apply kF 86); refine s_mut1 (goTOf rfl) rfl (by with_reducible ((repeat (first | exact Take.head | exact Take.one | apply Take.tail | apply Take.app)); done)) (tk _ _) (by decide) ?_) | (with_reducible first | refine c_seq ?_ | refine c_reg ?_ | refine c_region ?_ | refine c_block ?_ | refine c_skip ?_ | refine c_exit ?_ | refine c_ret ?_ | refine s_nil ?_ | refine x_then ?_ | refine x_then_exit ?_ | refine x_then_ret ?_ | refine x_block ?_ | refine x_block_ret ?_ | refine x_block_same ?_ | refine x_block_other (by rfl) ?_ | refine q_nil ?_ | refine k_nil ?_) | ((with_reducible apply kP (.makeFunc _ _ _)); refine sMF ?_) | ((with_reducible apply kG); first | refine gY1 ?_ | refine gN1 ?_ | refine gU1 ?_ | (refine gD1 (fun h => ?_) (fun h => ?_) <;> (try (exfalso; omega))) | refine gB1 (fun h => ?_) (fun h => ?_)) | ((with_reducible apply kN); first | refine stP ?_ | refine stI ?_ | refine st1 ?_ | refine stW ?_) | ((with_reducible apply kP (.alloc _)); refine sA (fun b => ?_)) | ((with_reducible apply kP (.box _ _)); first | refine sBA (fun b => ?_) | refine sB (fun b => ?_)) | ((with_reducible apply kP (.buildSlice _ 1 _)); first | refine sl1A (fun b => ?_) | refine sl1 (fun b => ?_)) | ((with_reducible apply kP (.buildSlice _ 2 _)); refine sl2 (fun b => ?_)) | ((with_reducible apply kP (.buildSlice _ 3 _)); refine sl3 (fun b => ?_)) | ((with_reducible apply kP (.buildSlice _ 4 _)); refine sl4 (fun b => ?_)) | ((with_reducible apply kP (.buildSlice _ 0 _)); refine s_bs0 (scTOf rfl) (zsTOf rfl) (by decide) (fun b => ?_)) | ((with_reducible apply kP (.makeSlice _ _ _)); refine sMk (fun b => ?_)) | ((with_reducible apply kP (.call ⟨.builtin .append, _, _⟩)); refine sAp (fun oa2 c2 blk2 hrow2 => ?_)) | ((with_reducible apply kP _); refine sP ?_) | ((with_reducible apply kP _); refine sX ?_) | ((with_reducible apply kQG); first | refine qY1 ?_ | refine qN1 ?_ | refine qU1 ?_ | (refine qD1 (fun h => ?_) (fun h => ?_) <;> (try (exfalso; omega))) | refine qB1 (fun h => ?_) (fun h => ?_)) | ((with_reducible apply kQP); refine qP ?_) | ((with_reducible apply kQP); refine qX ?_) | ((with_reducible apply kC); first | refine cT ?_ | refine cF ?_ | (refine cI (fun h => ?_) (fun h => ?_) <;> (try (exfalso; omega))) | refine cB (fun h => ?_) (fun h => ?_)) | ((with_reducible apply kR); refine cQ ?_))
        exact r_end (j + 1) (by omega) (by omega) ⟨rfl, rfl, rfl, rfl, rfl, rfl, rfl, trivial⟩ (.refl _)
    · obtain rfl : k = 24 := by omega
      have hRB : RB = true := by rw [hcB]; exact decide_eq_true (fun j hj => hn j (by omega))
      have hRE : RE = 0 := by rw [hE2, hRB]; rfl
      have hRL : RL = (cutO f gg u v 24).lost := by rw [hcL, if_pos hRE]
      have hok := (cutO_ok k1 k2 k3 k4 24).1
      rw [lif_yes hRE, lif_yes hRE, hRL, hRE, hcF, hcG]
      repeat' (first | ((with_reducible apply kF 73); refine sN 73 (h_tieO _ _ hok.1 hok.2.1 B w0 _) ?_; rintro u' blk hN; obtain ⟨x1, x2, x3, x4, rfl, _⟩ := hN.use) | (with_reducible first | refine c_seq ?_ | refine c_reg ?_ | refine c_region ?_ | refine c_block ?_ | refine c_skip ?_ | refine c_exit ?_ | refine c_ret ?_ | refine s_nil ?_ | refine x_then ?_ | refine x_then_exit ?_ | refine x_then_ret ?_ | refine x_block ?_ | refine x_block_ret ?_ | refine x_block_same ?_ | refine x_block_other (by rfl) ?_ | refine q_nil ?_ | refine k_nil ?_) | ((with_reducible apply kP (.makeFunc _ _ _)); refine sMF ?_) | ((with_reducible apply kG); first | refine gY1 ?_ | refine gN1 ?_ | refine gU1 ?_ | (refine gD1 (fun h => ?_) (fun h => ?_) <;> (try (exfalso; omega))) | refine gB1 (fun h => ?_) (fun h => ?_)) | ((with_reducible apply kN); first | refine stP ?_ | refine stI ?_ | refine st1 ?_ | refine stW ?_) | ((with_reducible apply kP (.alloc _)); refine sA (fun b => ?_)) | ((with_reducible apply kP (.box _ _)); first | refine sBA (fun b => ?_) | refine sB (fun b => ?_)) | ((with_reducible apply kP (.buildSlice _ 1 _)); first | refine sl1A (fun b => ?_) | refine sl1 (fun b => ?_)) | ((with_reducible apply kP (.buildSlice _ 2 _)); refine sl2 (fun b => ?_)) | ((with_reducible apply kP (.buildSlice _ 3 _)); refine sl3 (fun b => ?_)) | ((with_reducible apply kP (.buildSlice _ 4 _)); refine sl4 (fun b => ?_)) | ((with_reducible apply kP (.buildSlice _ 0 _)); refine s_bs0 (scTOf rfl) (zsTOf rfl) (by decide) (fun b => ?_)) | ((with_reducible apply kP (.makeSlice _ _ _)); refine sMk (fun b => ?_)) | ((with_reducible apply kP (.call ⟨.builtin .append, _, _⟩)); refine sAp (fun oa2 c2 blk2 hrow2 => ?_)) | ((with_reducible apply kP _); refine sP ?_) | ((with_reducible apply kP _); refine sX ?_) | ((with_reducible apply kQG); first | refine qY1 ?_ | refine qN1 ?_ | refine qU1 ?_ | (refine qD1 (fun h => ?_) (fun h => ?_) <;> (try (exfalso; omega))) | refine qB1 (fun h => ?_) (fun h => ?_)) | ((with_reducible apply kQP); refine qP ?_) | ((with_reducible apply kQP); refine qX ?_) | ((with_reducible apply kC); first | refine cT ?_ | refine cF ?_ | (refine cI (fun h => ?_) (fun h => ?_) <;> (try (exfalso; omega))) | refine cB (fun h => ?_) (fun h => ?_)) | ((with_reducible apply kR); refine cQ ?_))
      exact e_ret3 rfl ⟨_, rfl, ld_two (shTOf rfl) MDt rfl rfl⟩ rfl rfl ⟨blk, ⟨_, rfl, hN.b⟩, rfl⟩ SCt
  · have hE' : ctE r g r' g' = pErr r g r' g' := if_neg hE
    have hE2 : ¬ ctE r g r' g' = 0 := by rw [hE']; exact hE
    rw [lif_no hE2, lif_no hE2, show ctL r g r' g' = 0 from if_neg hE2, hE']
    have e1 : ∀ f, pF (pErr r g r' g') f = fun _ => 0 := fun f => if_neg hE
    simp only [e1] at hP
    have hl0 := lockC_length (fun _ => 0) (fun _ => 0)
    refine fn_enter Try.func55 rfl Try.ntmps55 (by simp) ?_
    repeat' (first | ((with_reducible apply kF 82); refine sC 82 (hP _ (h1.sub SBt) (h2.sub SBt) (h3.sub SBt) (h4.sub SBt)) ?_) | (with_reducible first | refine c_seq ?_ | refine c_reg ?_ | refine c_region ?_ | refine c_block ?_ | refine c_skip ?_ | refine c_exit ?_ | refine c_ret ?_ | refine s_nil ?_ | refine x_then ?_ | refine x_then_exit ?_ | refine x_then_ret ?_ | refine x_block ?_ | refine x_block_ret ?_ | refine x_block_same ?_ | refine x_block_other (by rfl) ?_ | refine q_nil ?_ | refine k_nil ?_) | ((with_reducible apply kP (.makeFunc _ _ _)); refine sMF ?_) | ((with_reducible apply kG); first | refine gY1 ?_ | refine gN1 ?_ | refine gU1 ?_ | (refine gD1 (fun h => ?_) (fun h => ?_) <;> (try (exfalso; omega))) | refine gB1 (fun h => ?_) (fun h => ?_)) | ((with_reducible apply kN); first | refine stP ?_ | refine stI ?_ | refine st1 ?_ | refine stW ?_) | ((with_reducible apply kP (.alloc _)); refine sA (fun b => ?_)) | ((with_reducible apply kP (.box _ _)); first | refine sBA (fun b => ?_) | refine sB (fun b => ?_)) | ((with_reducible apply kP (.buildSlice _ 1 _)); first | refine sl1A (fun b => ?_) | refine sl1 (fun b => ?_)) | ((with_reducible apply kP (.buildSlice _ 2 _)); refine sl2 (fun b => ?_)) | ((with_reducible apply kP (.buildSlice _ 3 _)); refine sl3 (fun b => ?_)) | ((with_reducible apply kP (.buildSlice _ 4 _)); refine sl4 (fun b => ?_)) | ((with_reducible apply kP (.buildSlice _ 0 _)); refine s_bs0 (scTOf rfl) (zsTOf rfl) (by decide) (fun b => ?_)) | ((with_reducible apply kP (.makeSlice _ _ _)); refine sMk (fun b => ?_)) | ((with_reducible apply kP (.call ⟨.builtin .append, _, _⟩)); refine sAp (fun oa2 c2 blk2 hrow2 => ?_)) | ((with_reducible apply kP _); refine sP ?_) | ((with_reducible apply kP _); refine sX ?_) | ((with_reducible apply kQG); first | refine qY1 ?_ | refine qN1 ?_ | refine qU1 ?_ | (refine qD1 (fun h => ?_) (fun h => ?_) <;> (try (exfalso; omega))) | refine qB1 (fun h => ?_) (fun h => ?_)) | ((with_reducible apply kQP); refine qP ?_) | ((with_reducible apply kQP); refine qX ?_) | ((with_reducible apply kC); first | refine cT ?_ | refine cF ?_ | (refine cI (fun h => ?_) (fun h => ?_) <;> (try (exfalso; omega))) | refine cB (fun h => ?_) (fun h => ?_)) | ((with_reducible apply kR); refine cQ ?_))
    exact e_ret3 (hs' := hs) rfl ⟨_, rfl, ld_two (shTOf rfl) MDt rfl rfl⟩ rfl rfl ⟨[], .none _, rfl⟩ SCt
end Go.Proofs.Ytiopaodiaokfdaa
