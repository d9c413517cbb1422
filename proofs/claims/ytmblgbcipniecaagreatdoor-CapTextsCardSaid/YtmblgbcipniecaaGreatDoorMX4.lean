/- Words of a text, numerals: plain. -/
import Derived.Shelf.Strings.SplitShaped
import Derived.Shelf.Strconv.Itoa3
import Derived.Shelf.Strconv.AtoiAll
import Derived.Lib.AtoiAllCases
import Derived.Lib.Join
namespace Go.Proofs.YtmblgbcipniecaaGreatDoor
/-- The words of a text between the bytes c. -/
def wds (c : UInt8) : List UInt8 → List (List UInt8)
  | [] => [[]]
  | x :: l => if x = c then [] :: wds c l else match wds c l with | w :: r => (x :: w) :: r | [] => [[x]]
theorem wds_ne (c : UInt8) : ∀ l, wds c l ≠ []
  | [] => by simp [wds]
  | x :: l => by
    unfold wds
    split
    · simp
    · split <;> simp
theorem wds_no {c : UInt8} : ∀ {l : List UInt8}, c ∉ l → wds c l = [l]
  | [], _ => rfl
  | x :: l, h => by
    have h1 : ¬ x = c := fun e => h (by rw [e]; exact .head _)
    have h2 := wds_no (l := l) (fun hm => h (.tail _ hm))
    unfold wds
    rw [if_neg h1, h2]
theorem wds_app {c : UInt8} : ∀ {w : List UInt8} (l : List UInt8), c ∉ w → wds c (w ++ c :: l) = w :: wds c l
  | [], l, _ => by
    show wds c (c :: l) = _
    rw [wds, if_pos rfl]
  | x :: w, l, h => by
    have h1 : ¬ x = c := fun e => h (by rw [e]; exact .head _)
    have h2 := wds_app (w := w) l (fun hm => h (.tail _ hm))
    show wds c (x :: (w ++ c :: l)) = _
    rw [wds, if_neg h1, h2]
theorem cut_at (c : UInt8) : ∀ {l : List UInt8}, c ∈ l → ∃ w r, l = w ++ c :: r ∧ c ∉ w
  | x :: l, h => by
    by_cases hx : x = c
    · exact ⟨[], l, by rw [hx]; rfl, by simp⟩
    · obtain ⟨w, r, h1, h2⟩ := cut_at c (l := l) (by
        rcases List.mem_cons.1 h with h | h
        · exact absurd h.symm hx
        · exact h)
      refine ⟨x :: w, r, by rw [h1]; rfl, fun hm => ?_⟩
      rcases List.mem_cons.1 hm with hm | hm
      · exact hx hm.symm
      · exact h2 hm
/-- The first word, and the rest of the text if there is one. -/
theorem wds_cut (c : UInt8) (l : List UInt8) : (c ∉ l ∧ wds c l = [l]) ∨ ∃ w r, l = w ++ c :: r ∧ c ∉ w ∧ wds c l = w :: wds c r := by
  by_cases h : c ∈ l
  · obtain ⟨w, r, h1, h2⟩ := cut_at c h
    exact .inr ⟨w, r, h1, h2, by rw [h1]; exact wds_app r h2⟩
  · exact .inl ⟨h, wds_no h⟩
theorem wds_join {c : UInt8} : ∀ {ws : List (List UInt8)}, ws ≠ [] → (∀ w ∈ ws, c ∉ w) → wds c (Go.Lib.join ws [c]) = ws
  | [], h, _ => absurd rfl h
  | [w], _, h => by
    rw [Go.Lib.join_one]
    exact wds_no (h w (.head _))
  | w :: v :: ws, _, h => by
    have ih := wds_join (ws := v :: ws) (by simp) (fun u hu => h u (.tail _ hu))
    have e : Go.Lib.join (w :: v :: ws) [c] = w ++ c :: Go.Lib.join (v :: ws) [c] := by
      rw [Go.Lib.join_cons, Go.Lib.join_cons]
      simp [Go.Lib.joinTail]
    rw [e, wds_app _ (h w (.head _)), ih]
theorem wds_len (c : UInt8) : ∀ l, (wds c l).length ≤ l.length + 1
  | [] => by simp [wds]
  | x :: l => by
    have := wds_len c l
    unfold wds
    split
    · simp; omega
    · split
      · rename_i w r h; rw [h] at this; simp at this ⊢; omega
      · simp
/-! ### The library's words -/
theorem index_one (c : UInt8) : ∀ {w : List UInt8} (r : List UInt8), c ∉ w → Go.Lib.index (w ++ c :: r) [c] = (w.length : Int)
  | [], r, _ => by
    show Go.Lib.index (c :: r) [c] = 0
    rw [Go.Lib.index]; simp [List.isPrefixOf]
  | x :: w, r, h => by
    have h1 : ¬ x = c := fun e => h (by rw [e]; exact .head _)
    have ih := index_one c (w := w) r (fun hm => h (.tail _ hm))
    have hp : ([c] : List UInt8).isPrefixOf (x :: (w ++ c :: r)) = false := by simp [List.isPrefixOf, Ne.symm h1]
    show Go.Lib.index (x :: (w ++ c :: r)) [c] = _
    rw [Go.Lib.index, hp, ih]
    have : ¬ ((w.length : Int) == -1) = true := by simp
    rw [if_neg (by simp), if_neg this]
    simp
theorem index_no {c : UInt8} : ∀ {l : List UInt8}, c ∉ l → Go.Lib.index l [c] = -1
  | [], _ => by simp [Go.Lib.index]
  | x :: l, h => by
    have h1 : ¬ x = c := fun e => h (by rw [e]; exact .head _)
    have ih := index_no (l := l) (fun hm => h (.tail _ hm))
    have hp : ([c] : List UInt8).isPrefixOf (x :: l) = false := by simp [List.isPrefixOf, Ne.symm h1]
    rw [Go.Lib.index, hp, ih]
    simp
theorem splitK_wds (c : UInt8) : ∀ (k : Nat) (l : List UInt8), Go.Lib.count l [c] = k → Go.Lib.splitK [c] 0 k l = wds c l
  | 0, l, h => by
    rw [Go.Lib.count_one] at h
    have hc : c ∉ l := fun hm => by have := List.count_pos_iff.2 hm; omega
    rw [wds_no hc]
    rfl
  | k + 1, l, h => by
    rcases wds_cut c l with ⟨h1, h2⟩ | ⟨w, r, h1, h2, h3⟩
    · rw [Go.Lib.count_one] at h
      have := List.count_eq_zero.2 h1
      omega
    · have hi := index_one c r h2
      rw [← h1] at hi
      have hn : ¬ (Go.Lib.index l [c] == -1) = true := by rw [hi]; simp
      unfold Go.Lib.splitK
      rw [if_neg hn, hi, h3]
      have e1 : ((w.length : Int).toNat + 0) = w.length := by omega
      have e2 : ((w.length : Int).toNat + ([c] : List UInt8).length) = w.length + 1 := by simp
      rw [e1, e2]
      have t1 : l.take w.length = w := by rw [h1]; exact List.take_left' rfl
      have t2 : l.drop (w.length + 1) = r := by rw [h1, ← List.drop_drop, List.drop_left' rfl]; rfl
      rw [t1, t2, splitK_wds c k r (by
        rw [Go.Lib.count_one] at h ⊢
        rw [h1, List.count_append, List.count_cons_self, List.count_eq_zero.2 h2] at h
        omega)]
theorem split_wds (c : UInt8) (l : List UInt8) : (Go.Lib.splitB ⟨#[c]⟩ 0 (Go.Lib.countB ⟨l.toArray⟩ ⟨#[c]⟩) ⟨l.toArray⟩).map Value.string = (wds c l).map (fun w => Value.string ⟨w.toArray⟩) := by
  have h := Go.Lib.splitB_data ⟨#[c]⟩ 0 (Go.Lib.countB ⟨l.toArray⟩ ⟨#[c]⟩) ⟨l.toArray⟩
  have h2 : Go.Lib.splitK [c] 0 (Go.Lib.countB ⟨l.toArray⟩ ⟨#[c]⟩) l = wds c l := splitK_wds c _ l rfl
  have e1 : (⟨#[c]⟩ : ByteArray).data.toList = [c] := rfl
  have e2 : (⟨l.toArray⟩ : ByteArray).data.toList = l := by simp
  rw [e1, e2, h2] at h
  rw [← h, List.map_map]
  refine List.map_congr_left fun s _ => ?_
  show Value.string s = Value.string ⟨s.data.toList.toArray⟩
  congr 1
theorem count_wds (c : UInt8) (l : List UInt8) : Go.Lib.countB ⟨l.toArray⟩ ⟨#[c]⟩ + 1 = (wds c l).length := by
  have h := split_wds c l
  have := congrArg List.length h
  rw [List.length_map, List.length_map, Go.Lib.splitB_all _ (by simp [ByteArray.size]) 0 _ _ rfl] at this
  exact this
/-! ### Numerals -/
theorem dec_step (u : Nat) : Go.Lib.decDigits u = if u < 10 then [UInt8.ofNat (48 + u)] else Go.Lib.decDigits (u / 10) ++ [UInt8.ofNat (48 + u % 10)] := by
  rw [Go.Lib.decDigits]
  split <;> rfl
theorem dec_ne (u : Nat) : Go.Lib.decDigits u ≠ [] := by
  rw [dec_step]
  split <;> simp
theorem dig_nat {d : Nat} (h : d < 10) : (UInt8.ofNat (48 + d)).toNat = 48 + d := by
  rw [UInt8.toNat_ofNat']
  omega
theorem dec_dig : ∀ (u : Nat), ∀ c ∈ Go.Lib.decDigits u, 48 ≤ c.toNat ∧ c.toNat ≤ 57 := by
  intro u
  induction u using Nat.strongRecOn with
  | _ u ih =>
    intro c hc
    rw [dec_step] at hc
    split at hc
    · rename_i h
      rw [List.mem_singleton] at hc
      rw [hc, dig_nat h]; omega
    · rename_i h
      rcases List.mem_append.1 hc with hc | hc
      · exact ih (u / 10) (by omega) c hc
      · rw [List.mem_singleton] at hc
        rw [hc, dig_nat (Nat.mod_lt _ (by omega))]
        have := Nat.mod_lt u (show 0 < 10 by omega)
        omega
theorem dec_len : ∀ (k u : Nat), u < 10 ^ (k + 1) → (Go.Lib.decDigits u).length ≤ k + 1
  | 0, u, h => by rw [dec_step, if_pos (by omega)]; simp
  | k + 1, u, h => by
    rw [dec_step]
    split
    · simp
    · have := dec_len k (u / 10) (by rw [Nat.pow_succ] at h; omega)
      rw [List.length_append]
      simp
      omega
/-- What the numbers before and the digits of l spell. -/
def spl (a : Nat) (l : List UInt8) : Nat := l.foldl (fun a c => 10 * a + (c.toNat - 48)) a
theorem spl_dec : ∀ (u : Nat), spl 0 (Go.Lib.decDigits u) = u := by
  intro u
  induction u using Nat.strongRecOn with
  | _ u ih =>
    rw [dec_step]
    split
    · rename_i h
      show 10 * 0 + ((UInt8.ofNat (48 + u)).toNat - 48) = u
      rw [dig_nat h]; omega
    · rename_i h
      have := ih (u / 10) (by omega)
      unfold spl at this ⊢
      rw [List.foldl_append, this]
      show 10 * (u / 10) + ((UInt8.ofNat (48 + u % 10)).toNat - 48) = u
      rw [dig_nat (Nat.mod_lt _ (by omega))]
      omega
theorem spl_mono : ∀ (l : List UInt8) (a : Nat), a ≤ spl a l
  | [], a => Nat.le_refl _
  | c :: l, a => Nat.le_trans (by omega) (spl_mono l (10 * a + (c.toNat - 48)))
theorem parse_spl : ∀ (l : List UInt8) (a : Nat), (∀ c ∈ l, 48 ≤ c.toNat ∧ c.toNat ≤ 57) → spl a l < 9223372036854775808 → Go.Lib.parseUint10 a l = .ok (spl a l)
  | [], a, _, _ => rfl
  | c :: l, a, h, hb => by
    have h1 := h c (.head _)
    have h2 : spl a (c :: l) = spl (10 * a + (c.toNat - 48)) l := rfl
    have h3 := spl_mono l (10 * a + (c.toNat - 48))
    rw [h2] at hb ⊢
    unfold Go.Lib.parseUint10
    rw [if_pos h1, if_neg (by omega), if_neg (by omega), show a * 10 + (c.toNat - 48) = 10 * a + (c.toNat - 48) by omega]
    exact parse_spl l _ (fun d hd => h d (.tail _ hd)) hb
theorem atoi_dec {u : Nat} (h : u < 9223372036854775808) : Go.Lib.atoiAll (Go.Lib.decDigits u) = .ok (u : Int) := by
  have hd := dec_dig u
  have hs := spl_dec u
  have hn := dec_ne u
  generalize Go.Lib.decDigits u = l at *
  cases l with
  | nil => exact absurd rfl hn
  | cons c r =>
    have hc := hd c (.head _)
    rw [Go.Lib.atoiAll_plain c r (by omega) (by omega)]
    have : Go.Lib.parseMag (c :: r) = .ok u := by
      unfold Go.Lib.parseMag
      rw [if_neg (by simp), parse_spl _ 0 hd (by rw [hs]; exact h), hs]
    rw [this]
    unfold Go.Lib.signless
    simp
    omega
theorem itoa_nat (u : Nat) : Go.Lib.itoa (u : Int) = Go.Lib.decDigits u := by
  unfold Go.Lib.itoa
  rw [if_neg (by omega), Int.toNat_natCast]
end Go.Proofs.YtmblgbcipniecaaGreatDoor
