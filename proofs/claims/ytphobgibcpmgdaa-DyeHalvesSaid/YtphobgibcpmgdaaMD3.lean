/- Searching for gifts: the plain program, and what it does. -/
import Derived.Test.YtphobgibcpmgdaaMD2
namespace Go.Proofs.Ytphobgibcpmgdaa
open Go.RowKit

/-- What a search knows: what each want has of each lot, what is left, which wants are marked. -/
structure FS where
  g : Nat → Nat → Int
  s : Nat → Int
  md : Nat → Bool
def up2 (g : Nat → Nat → Int) (w k : Nat) (x : Int) : Nat → Nat → Int := fun i => if i = w then (fun j => if j = k then x else g w j) else g i
def FS.mark (t : FS) (w : Nat) : FS := ⟨t.g, t.s, fun i => if i = w then true else t.md i⟩
def FS.take (t : FS) (k : Nat) (m : Int) : FS := ⟨t.g, fun j => if j = k then t.s k - m else t.s j, t.md⟩
def FS.give (t : FS) (w k : Nat) (m : Int) : FS := ⟨up2 t.g w k (t.g w k + m), t.s, t.md⟩
def FS.back (t : FS) (w k : Nat) (m : Int) : FS := ⟨up2 t.g w k (t.g w k - m), t.s, t.md⟩
def goO (M : Nat) (rec : Nat → Int → FS → Int × FS) (w : Nat) (n : Int) (k : Nat) : Nat → FS → Int × FS
  | 0, t => (0, t)
  | d + 1, t =>
    if t.md (M - (d + 1)) = true ∨ t.g (M - (d + 1)) k = 0 then goO M rec w n k d t
    else if 0 < (rec (M - (d + 1)) (min n (t.g (M - (d + 1)) k)) t).1 then
      ((rec (M - (d + 1)) (min n (t.g (M - (d + 1)) k)) t).1, ((rec (M - (d + 1)) (min n (t.g (M - (d + 1)) k)) t).2.back (M - (d + 1)) k (rec (M - (d + 1)) (min n (t.g (M - (d + 1)) k)) t).1).give w k (rec (M - (d + 1)) (min n (t.g (M - (d + 1)) k)) t).1)
    else goO M rec w n k d (rec (M - (d + 1)) (min n (t.g (M - (d + 1)) k)) t).2
def goK (N M : Nat) (nr : Nat → Nat → Bool) (rec : Nat → Int → FS → Int × FS) (w : Nat) (n : Int) : Nat → FS → Int × FS
  | 0, t => (0, t)
  | d + 1, t =>
    if nr (N - (d + 1)) w = false then goK N M nr rec w n d t
    else if 0 < min n (t.s (N - (d + 1))) then (min n (t.s (N - (d + 1))), (t.take (N - (d + 1)) (min n (t.s (N - (d + 1))))).give w (N - (d + 1)) (min n (t.s (N - (d + 1)))))
    else if 0 < (goO M rec w n (N - (d + 1)) M t).1 then goO M rec w n (N - (d + 1)) M t
    else goK N M nr rec w n d (goO M rec w n (N - (d + 1)) M t).2
def srch (N M : Nat) (nr : Nat → Nat → Bool) : Nat → Nat → Int → FS → Int × FS
  | 0 => fun _ _ t => (0, t)
  | f + 1 => fun w n t => goK N M nr (srch N M nr f) w n N (t.mark w)

def FS.Ok (N M : Nat) (t : FS) : Prop := ∀ k, k < N → 0 ≤ t.s k ∧ ∀ o, o < M → 0 ≤ t.g o k
/-- What a search has done. -/
structure Res (N M : Nat) (nr : Nat → Nat → Bool) (w : Nat) (n : Int) (t t' : FS) (m : Int) : Prop where
  lo : 0 ≤ m
  hi : m ≤ n
  own : t'.md w = true
  md : ∀ i, t.md i = true → t'.md i = true
  same : ¬ 0 < m → t'.g = t.g ∧ t'.s = t.s
  row : ∀ i, i ≠ w → t.md i = true → t'.g i = t.g i
  more : ∀ k, t.g w k ≤ t'.g w k
  lot : ∀ k, k < N → t'.s k + sumTo (fun o => t'.g o k) M = t.s k + sumTo (fun o => t.g o k) M
  ok : t'.Ok N M
  want : ∀ o, o < M → sumTo (t'.g o) N = sumTo (t.g o) N + if o = w then m else 0
  near : ∀ o k, o < M → k < N → t'.g o k ≠ 0 → t.g o k ≠ 0 ∨ nr k o = true
  cl : ¬ 0 < m → ∀ i, i < M → t'.md i = true → t.md i = true ∨ ∀ k, k < N → nr k i = true → t.s k ≤ 0 ∧ ∀ o, o < M → t.g o k ≠ 0 → t'.md o = true

theorem up2_same (g : Nat → Nat → Int) (w k : Nat) (x : Int) (j : Nat) : up2 g w k x w j = if j = k then x else g w j := by unfold up2; rw [if_pos rfl]
theorem up2_ne (g : Nat → Nat → Int) {w i : Nat} (k : Nat) (x : Int) (h : i ≠ w) : up2 g w k x i = g i := by unfold up2; rw [if_neg h]
theorem sumTo_put (F : Nat → Int) (k : Nat) (x : Int) : ∀ n, sumTo (fun j => if j = k then x else F j) n = sumTo F n + if k < n then x - F k else 0
  | 0 => by simp [sumTo]
  | n + 1 => by
    rw [sumTo_succ, sumTo_succ, sumTo_put F k x n]
    by_cases h1 : n = k
    · subst h1; rw [if_pos rfl, if_neg (by omega), if_pos (by omega)]; omega
    · rw [if_neg h1]
      by_cases h2 : k < n
      · rw [if_pos h2, if_pos (by omega)]; omega
      · rw [if_neg h2, if_neg (by omega)]; omega
theorem up2_col (g : Nat → Nat → Int) (w k : Nat) (x : Int) (j M : Nat) : sumTo (fun o => up2 g w k x o j) M = sumTo (fun o => g o j) M + if w < M ∧ j = k then x - g w j else 0 := by
  have h : (fun o => up2 g w k x o j) = fun o => if o = w then (if j = k then x else g w j) else g o j := by
    funext o
    by_cases h : o = w
    · subst h; rw [up2_same, if_pos rfl]
    · rw [up2_ne _ _ _ h, if_neg h]
  rw [h, sumTo_put (fun o => g o j)]
  by_cases h1 : w < M
  · rw [if_pos h1]
    by_cases h2 : j = k
    · rw [if_pos h2, if_pos ⟨h1, h2⟩]
    · rw [if_neg h2, if_neg (fun hh => h2 hh.2)]; omega
  · rw [if_neg h1, if_neg (fun hh => h1 hh.1)]
theorem up2_row (g : Nat → Nat → Int) {w k N : Nat} (x : Int) (hk : k < N) (o : Nat) : sumTo (up2 g w k x o) N = sumTo (g o) N + if o = w then x - g w k else 0 := by
  by_cases h : o = w
  · subst h
    rw [if_pos rfl]
    have : up2 g o k x o = fun j => if j = k then x else g o j := by funext j; rw [up2_same]
    rw [this, sumTo_put, if_pos hk]
  · rw [up2_ne _ _ _ h, if_neg h]; omega
/-- A failed search, and another behind it. -/
theorem Res.after {N M : Nat} {nr : Nat → Nat → Bool} {w o : Nat} {n n' : Int} {t t1 t2 : FS} {m m1 : Int} (h : Res N M nr o n' t t1 m1) (h0 : ¬ 0 < m1) (hr : Res N M nr w n t1 t2 m) : Res N M nr w n t t2 m := by
  obtain ⟨e1, e2⟩ := h.same h0
  refine ⟨hr.lo, hr.hi, hr.own, fun i hi => hr.md i (h.md i hi), fun hm => by rw [← e1, ← e2]; exact hr.same hm, fun i hi hi2 => by rw [← e1]; exact hr.row i hi (h.md i hi2), fun k => by rw [← e1]; exact hr.more k, fun k hk => by rw [← e1, ← e2]; exact hr.lot k hk, hr.ok, fun o ho => by rw [← e1]; exact hr.want o ho, fun o k ho hk hg => by rw [← e1]; exact hr.near o k ho hk hg, fun hm i hi hi2 => ?_⟩
  rcases hr.cl hm i hi hi2 with h3 | h3
  · rcases h.cl h0 i hi h3 with h4 | h4
    · exact .inl h4
    · exact .inr fun k hk hn => ⟨(h4 k hk hn).1, fun o ho hg => hr.md o ((h4 k hk hn).2 o ho hg)⟩
  · rw [e1, e2] at h3
    exact .inr h3
theorem Res.refl {N M : Nat} {nr : Nat → Nat → Bool} {w : Nat} {n : Int} {t : FS} (hn : 0 ≤ n) (hw : t.md w = true) (ht : t.Ok N M) : Res N M nr w n t t 0 :=
  ⟨by omega, hn, hw, fun _ h => h, fun _ => ⟨rfl, rfl⟩, fun _ _ _ => rfl, fun _ => Int.le_refl _, fun _ _ => rfl, ht, fun o _ => by split <;> omega, fun _ _ _ _ h => .inl h, fun _ _ _ h => .inl h⟩
/-- What the inner search promises. -/
def RecOk (N M : Nat) (nr : Nat → Nat → Bool) (rec : Nat → Int → FS → Int × FS) (f : Nat) (un : (Nat → Bool) → Nat) : Prop :=
  ∀ o n t, o < M → t.md o = false → un t.md ≤ f → t.Ok N M → 0 < n → Res N M nr o n t (rec o n t).2 (rec o n t).1
def unm (mk : Nat → Bool) : Nat → Nat
  | 0 => 0
  | m + 1 => unm mk m + if mk m = true then 0 else 1
theorem unm_le {a b : Nat → Bool} : ∀ m, (∀ i, i < m → a i = true → b i = true) → unm b m ≤ unm a m
  | 0, _ => Nat.le_refl _
  | m + 1, h => by
    have := unm_le m (fun i hi => h i (by omega))
    have h1 := h m (by omega)
    unfold unm
    by_cases h2 : a m = true
    · rw [if_pos h2, if_pos (h1 h2)]; omega
    · rw [if_neg h2]; split <;> omega
theorem unm_lt {a b : Nat → Bool} {w : Nat} (hb : b w = true) (ha : a w = false) : ∀ m, (∀ i, i < m → a i = true → b i = true) → w < m → unm b m < unm a m
  | 0, _, h => by omega
  | m + 1, h, hw => by
    unfold unm
    by_cases h2 : w = m
    · subst h2
      rw [if_pos hb, if_neg (by rw [ha]; simp)]
      have := unm_le (a := a) (b := b) w (fun i hi => h i (by omega))
      omega
    · have := unm_lt hb ha m (fun i hi => h i (by omega)) (by omega)
      have h1 := h m (by omega)
      by_cases h3 : a m = true
      · rw [if_pos h3, if_pos (h1 h3)]; omega
      · rw [if_neg h3]; split <;> omega
theorem unm_max (a : Nat → Bool) : ∀ m, unm a m ≤ m
  | 0 => Nat.le_refl _
  | m + 1 => by have := unm_max a m; unfold unm; split <;> omega
theorem unm_pos {a : Nat → Bool} {w : Nat} (ha : a w = false) : ∀ m, w < m → 0 < unm a m
  | 0, h => by omega
  | m + 1, h => by
    unfold unm
    by_cases h2 : w = m
    · subst h2; rw [if_neg (by rw [ha]; simp)]; omega
    · have := unm_pos ha m (by omega); omega
section
variable {N M : Nat} {nr : Nat → Nat → Bool} {rec : Nat → Int → FS → Int × FS} {f : Nat}
/-- One gift is moved on: from another want. -/
theorem res_move {w o k : Nat} {n : Int} {t t' : FS} {m : Int} (hw : w < M) (hk : k < N) (ho : o < M) (how : o ≠ w) (hmw : t.md w = true) (hno : t.md o = false) (hkw : nr k w = true) (hmin : m ≤ n) (hg : m ≤ t.g o k) (hm : 0 < m)
    (h : Res N M nr o (min n (t.g o k)) t t' m) : Res N M nr w n t ((t'.back o k m).give w k m) m := by
  have hrw : t'.g w = t.g w := h.row w (Ne.symm how) hmw
  have e1 : ((t'.back o k m).give w k m).g = up2 (up2 t'.g o k (t'.g o k - m)) w k (t'.g w k + m) := by
    show up2 (up2 t'.g o k (t'.g o k - m)) w k (up2 t'.g o k (t'.g o k - m) w k + m) = _
    rw [up2_ne _ _ _ (Ne.symm how)]
  have e2 : ((t'.back o k m).give w k m).s = t'.s := rfl
  have e3 : ((t'.back o k m).give w k m).md = t'.md := rfl
  have hmo := h.more k
  refine ⟨h.lo, hmin, by rw [e3]; exact h.md w hmw, by rw [e3]; exact h.md, fun h0 => absurd hm h0, ?_, ?_, ?_, ?_, ?_, ?_, fun h0 => absurd hm h0⟩
  · intro i hi hmi
    have hio : i ≠ o := fun e => by rw [e, hno] at hmi; cases hmi
    rw [e1, up2_ne _ _ _ hi, up2_ne _ _ _ hio]
    exact h.row i hio hmi
  · intro j
    rw [e1, up2_same, up2_ne _ _ _ (Ne.symm how), hrw]
    split
    · rename_i e; subst e; omega
    · omega
  · intro j hj
    rw [e1, e2, ← h.lot j hj, up2_col, up2_col, up2_ne _ _ _ (Ne.symm how)]
    by_cases e : j = k
    · subst e; rw [if_pos ⟨ho, rfl⟩, if_pos ⟨hw, rfl⟩]; omega
    · rw [if_neg (fun hh => e hh.2), if_neg (fun hh => e hh.2)]; omega
  · intro j hj
    have h1 := h.ok j hj
    refine ⟨by rw [e2]; exact h1.1, fun i hi => ?_⟩
    rw [e1]
    by_cases e : i = w
    · subst e
      rw [up2_same, up2_ne _ _ _ (Ne.symm how)]
      have := h1.2 i hi
      have := (h.ok k hk).2 i hi
      split <;> omega
    · rw [up2_ne _ _ _ e]
      by_cases e4 : i = o
      · subst e4
        rw [up2_same]
        have := h1.2 i hi
        split
        · omega
        · exact this
      · rw [up2_ne _ _ _ e4]; exact h1.2 i hi
  · intro i hi
    rw [e1, up2_row _ _ hk, up2_row _ _ hk, h.want i hi]
    rw [up2_ne _ _ _ (Ne.symm how)]
    by_cases e : i = w
    · rw [if_pos e, if_neg (by omega), if_neg (by omega)]; simp only [if_pos e]; omega
    · rw [if_neg e]
      by_cases e4 : i = o
      · rw [if_pos e4, if_pos e4]; (try simp only [if_neg e]); omega
      · rw [if_neg e4, if_neg e4]; (try simp only [if_neg e]); omega
  · intro i j hi hj hg2
    rw [e1] at hg2
    by_cases e : i = w
    · subst e
      rw [up2_same] at hg2
      by_cases e4 : j = k
      · subst e4; exact .inr hkw
      · rw [if_neg e4, up2_ne _ _ _ (Ne.symm how)] at hg2; exact h.near i j hi hj hg2
    · rw [up2_ne _ _ _ e] at hg2
      by_cases e4 : i = o
      · subst e4
        rw [up2_same] at hg2
        by_cases e5 : j = k
        · subst e5
          exact .inl (by omega)
        · rw [if_neg e5] at hg2; exact h.near i j hi hj hg2
      · rw [up2_ne _ _ _ e4] at hg2; exact h.near i j hi hj hg2
/-- A gift out of stock. -/
theorem res_stock {w k : Nat} {n : Int} {t : FS} (hw : w < M) (hk : k < N) (hmw : t.md w = true) (hkw : nr k w = true) (hok : t.Ok N M) (hm : 0 < min n (t.s k)) :
    Res N M nr w n t ((t.take k (min n (t.s k))).give w k (min n (t.s k))) (min n (t.s k)) := by
  refine ⟨by omega, by omega, hmw, fun i hi => hi, fun h0 => absurd hm h0, ?_, ?_, ?_, ?_, ?_, ?_, fun h0 => absurd hm h0⟩
  · intro i hi _
    exact up2_ne _ _ _ hi
  · intro j
    show t.g w j ≤ up2 t.g w k _ w j
    rw [up2_same]
    split
    · rename_i e; subst e; show _ ≤ t.g w j + _; omega
    · omega
  · intro j hj
    show (if j = k then t.s k - min n (t.s k) else t.s j) + sumTo (fun o => up2 t.g w k (t.g w k + min n (t.s k)) o j) M = _
    rw [up2_col]
    by_cases e : j = k
    · subst e; rw [if_pos rfl, if_pos ⟨hw, rfl⟩]; omega
    · rw [if_neg e, if_neg (fun hh => e hh.2)]; omega
  · intro j hj
    have h1 := hok j hj
    refine ⟨?_, fun i hi => ?_⟩
    · show 0 ≤ (if j = k then t.s k - min n (t.s k) else t.s j)
      split
      · omega
      · exact h1.1
    · show 0 ≤ up2 t.g w k (t.g w k + min n (t.s k)) i j
      by_cases e : i = w
      · subst e
        rw [up2_same]
        have := h1.2 i hi
        have := (hok k hk).2 i hi
        split <;> omega
      · rw [up2_ne _ _ _ e]; exact h1.2 i hi
  · intro i hi
    show sumTo (up2 t.g w k (t.g w k + min n (t.s k)) i) N = _
    rw [up2_row _ _ hk]
    by_cases e : i = w
    · rw [if_pos e, if_pos e]; omega
    · rw [if_neg e, if_neg e]
  · intro i j hi hj hg2
    have hg3 : up2 t.g w k (t.g w k + min n (t.s k)) i j ≠ 0 := hg2
    by_cases e : i = w
    · subst e
      rw [up2_same] at hg3
      by_cases e4 : j = k
      · subst e4; exact .inr hkw
      · rw [if_neg e4] at hg3; exact .inl hg3
    · rw [up2_ne _ _ _ e] at hg3; exact .inl hg3
theorem res_goO (hrec : RecOk N M nr rec f (fun mk => unm mk M)) {w k : Nat} {n : Int} (hw : w < M) (hk : k < N) (hkw : nr k w = true) (hn : 0 < n) : ∀ d t, d ≤ M → t.md w = true → unm t.md M ≤ f → t.Ok N M →
    Res N M nr w n t (goO M rec w n k d t).2 (goO M rec w n k d t).1 ∧ (¬ 0 < (goO M rec w n k d t).1 → ∀ o, M - d ≤ o → o < M → t.g o k ≠ 0 → (goO M rec w n k d t).2.md o = true)
  | 0, t, _, hmw, _, hok => ⟨.refl (by omega) hmw hok, fun _ o h1 h2 => by omega⟩
  | d + 1, t, hd, hmw, hu, hok => by
    unfold goO
    split
    · rename_i h
      obtain ⟨h1, h2⟩ := res_goO hrec hw hk hkw hn d t (by omega) hmw hu hok
      refine ⟨h1, fun h0 o ho1 ho2 hg => ?_⟩
      by_cases e : o = M - (d + 1)
      · subst e
        rcases h with h | h
        · exact h1.md _ h
        · exact absurd h hg
      · exact h2 h0 o (by omega) ho2 hg
    · rename_i h
      have hno : t.md (M - (d + 1)) = false := by
        cases e : t.md (M - (d + 1)) with
        | true => exact absurd (.inl e) h
        | false => rfl
      have hg0 : t.g (M - (d + 1)) k ≠ 0 := fun e => h (.inr e)
      have hgp := (hok k hk).2 (M - (d + 1)) (by omega)
      have hr := hrec (M - (d + 1)) (min n (t.g (M - (d + 1)) k)) t (by omega) hno hu hok (by omega)
      have how : M - (d + 1) ≠ w := fun e => by rw [e, hmw] at hno; cases hno
      split
      · rename_i hm
        have := hr.hi
        exact ⟨res_move hw hk (by omega) how hmw hno hkw (by omega) (by omega) hm hr, fun h0 => absurd hm h0⟩
      · rename_i hm
        obtain ⟨e1, e2⟩ := hr.same hm
        obtain ⟨h1, h2⟩ := res_goO hrec hw hk hkw hn d _ (by omega) (hr.md w hmw) (Nat.le_trans (unm_le M (fun i _ => hr.md i)) hu) hr.ok
        refine ⟨Res.after hr hm h1, fun h0 o ho1 ho2 hg => ?_⟩
        by_cases e : o = M - (d + 1)
        · subst e
          exact h1.md _ hr.own
        · exact h2 h0 o (by omega) ho2 (by rw [e1]; exact hg)
theorem res_goK (hrec : RecOk N M nr rec f (fun mk => unm mk M)) {w : Nat} {n : Int} (hw : w < M) (hn : 0 < n) : ∀ d t, d ≤ N → t.md w = true → unm t.md M ≤ f → t.Ok N M →
    Res N M nr w n t (goK N M nr rec w n d t).2 (goK N M nr rec w n d t).1 ∧ (¬ 0 < (goK N M nr rec w n d t).1 → ∀ k, N - d ≤ k → k < N → nr k w = true → t.s k ≤ 0 ∧ ∀ o, o < M → t.g o k ≠ 0 → (goK N M nr rec w n d t).2.md o = true)
  | 0, t, _, hmw, _, hok => ⟨.refl (by omega) hmw hok, fun _ k h1 h2 => by omega⟩
  | d + 1, t, hd, hmw, hu, hok => by
    unfold goK
    split
    · rename_i h
      obtain ⟨h1, h2⟩ := res_goK hrec hw hn d t (by omega) hmw hu hok
      refine ⟨h1, fun h0 k hk1 hk2 hkw => ?_⟩
      by_cases e : k = N - (d + 1)
      · subst e; rw [h] at hkw; cases hkw
      · exact h2 h0 k (by omega) hk2 hkw
    · rename_i h
      have hkw : nr (N - (d + 1)) w = true := by
        cases e : nr (N - (d + 1)) w with
        | true => rfl
        | false => exact absurd e h
      split
      · rename_i hm
        exact ⟨res_stock hw (by omega) hmw hkw hok hm, fun h0 => absurd hm h0⟩
      · rename_i hm
        obtain ⟨h1, h2⟩ := res_goO hrec hw (show N - (d + 1) < N by omega) hkw hn M t (Nat.le_refl _) hmw hu hok
        split
        · rename_i h3
          exact ⟨h1, fun h0 => absurd h3 h0⟩
        · rename_i h3
          obtain ⟨e1, e2⟩ := h1.same h3
          obtain ⟨h4, h5⟩ := res_goK hrec hw hn d _ (by omega) (h1.md w hmw) (Nat.le_trans (unm_le M (fun i _ => h1.md i)) hu) h1.ok
          refine ⟨Res.after h1 h3 h4, fun h0 k hk1 hk2 hkw2 => ?_⟩
          by_cases e : k = N - (d + 1)
          · subst e
            exact ⟨by omega, fun o ho hg => h4.md _ (h2 h3 o (by omega) ho hg)⟩
          · obtain ⟨h6, h7⟩ := h5 h0 k (by omega) hk2 hkw2
            exact ⟨by rw [← e2]; exact h6, fun o ho hg => h7 o ho (by rw [e1]; exact hg)⟩
theorem mark_md (t : FS) (w i : Nat) : (t.mark w).md i = if i = w then true else t.md i := rfl
theorem mark_un {t : FS} {w M f : Nat} (hw : w < M) (h : t.md w = false) (hu : unm t.md M ≤ f + 1) : unm (t.mark w).md M ≤ f := by
  have := unm_lt (a := t.md) (b := (t.mark w).md) (w := w) (by rw [mark_md, if_pos rfl]) h M (fun i _ hi => by rw [mark_md]; split; rfl; exact hi) hw
  omega
theorem res_srch (N M : Nat) (nr : Nat → Nat → Bool) : ∀ f, RecOk N M nr (srch N M nr f) f (fun mk => unm mk M)
  | 0 => fun o n t ho hno hu _ _ => by have := unm_pos hno M ho; have : unm t.md M ≤ 0 := hu; omega
  | f + 1 => fun o n t ho hno hu hok hn => by
    obtain ⟨h1, h2⟩ := res_goK (res_srch N M nr f) ho hn N (t.mark o) (Nat.le_refl _) (by rw [mark_md, if_pos rfl]) (mark_un ho hno hu) hok
    refine ⟨h1.lo, h1.hi, h1.own, fun i hi => h1.md i (by rw [mark_md]; split; rfl; exact hi), h1.same, fun i hi hmi => h1.row i hi (by rw [mark_md, if_neg hi]; exact hmi), h1.more, h1.lot, h1.ok, h1.want, h1.near, fun h0 i hi hmi => ?_⟩
    rcases h1.cl h0 i hi hmi with h3 | h3
    · by_cases e : i = o
      · subst e
        exact .inr fun k hk hkw => h2 h0 k (by omega) hk hkw
      · rw [mark_md, if_neg e] at h3; exact .inl h3
    · exact .inr h3
end
end Go.Proofs.Ytphobgibcpmgdaa
