/- Copies of caps: shared by the laws on changes. -/
import Derived.Test.YtnbickholedckaaMC50
import Derived.Test.YtnbickholedckaaMC80
namespace Go.Proofs.Ytnbickholedckaa
open Go.RowKit
theorem CpR.of {qs ps : List Pc} {sm : List Int} {m : Nat} {e : Int} {u : Value} {blk : HS} (h : CpR qs sm m e u blk) (hs : SmP qs ps) : CpR ps sm m e u blk := by
  obtain ⟨oP', cP', oS', cS', rs, bo, ko, g1, g2, g3, g4, g5, g6, g7⟩ := h
  exact ⟨oP', cP', oS', cS', rs, bo, ko, by rw [g1, hs.len], g2, g3, by rw [g4, hs.len], fun i hi => by
    have := g5 i (by rw [hs.len]; exact hi)
    have := hs.at i
    constructor
    · rw [(g5 i (by rw [hs.len]; exact hi)).1, this.1]
    · rw [(g5 i (by rw [hs.len]; exact hi)).2, this.2], g6, g7⟩
theorem CeR.of {E : Int} {qs ps : List Pc} {sm : List Int} {m : Nat} {e : Int} {hs h : HS} {v : Value} (hc : CeR E qs sm m e hs v h) (hq : SmP qs ps) : CeR E ps sm m e hs v h := by
  rcases hc with hc | ⟨h1, u, blk, h2, h3, h4⟩
  · exact .inl hc
  · exact .inr ⟨h1, u, blk, h2.of hq, h3, h4⟩
/-- Bounds of what a cap holds. -/
structure Bd (ps : List Pc) (sm : List Int) (m : Nat) : Prop where
  n : ps.length ≤ 100
  l : ∀ i, i < ps.length → (pcA ps i).sd.length ≤ 100 ∧ (pcA ps i).an.length ≤ 100
  s : sm.length = m * 4
  m : m ≤ 100
theorem CpR.zero : CpR [] [] 0 0 zcap [] := ⟨none, 0, none, 0, [], [], [], rfl, RowOk.nil, fun r hr => (by cases hr), rfl, fun i hi => absurd hi (Nat.not_lt_zero _), RowOk.nil, rfl⟩
theorem CeR.x {E : Int} {ps : List Pc} {sm : List Int} {m : Nat} {e : Int} (hb : E = 0 → Bd ps sm m) : ∃ PS SM M e1, Bd PS SM M ∧ (E = 0 → PS = ps ∧ SM = sm ∧ M = m ∧ e1 = e) ∧ (E ≠ 0 → PS = [] ∧ SM = [] ∧ M = 0) ∧ ∀ hs v h, CeR E ps sm m e hs v h → ∃ u blk, CpR PS SM M e1 u blk ∧ v = .tuple #[u, iv E] ∧ h = blk ++ hs := by
  by_cases hE : E = 0
  · exact ⟨ps, sm, m, e, hb hE, fun _ => ⟨rfl, rfl, rfl, rfl⟩, fun h => absurd hE h, fun hs v h hc => by
      rcases hc with ⟨h1, _⟩ | ⟨h1, u, blk, h2, h3, h4⟩
      · exact absurd hE h1
      · exact ⟨u, blk, h2, by rw [hE]; exact h3, h4⟩⟩
  · exact ⟨[], [], 0, 0, ⟨Nat.zero_le _, fun i hi => absurd hi (Nat.not_lt_zero _), rfl, Nat.zero_le _⟩, fun h => absurd h hE, fun _ => ⟨rfl, rfl, rfl⟩, fun hs v h hc => by
      rcases hc with ⟨h1, h2, h3⟩ | ⟨h1, _⟩
      · exact ⟨zcap, [], CpR.zero, h2, h3⟩
      · exact absurd h1 hE⟩
theorem CpR.x {ps : List Pc} {sm : List Int} {m : Nat} {e : Int} {u : Value} {blk : HS} (h : CpR ps sm m e u blk) (B : Nat) (w0 : Wd) : ∃ qs oP cP oS cS, u = .agg #[.slice oP ps.length cP, .slice oS m cS, iv e] ∧ SmP qs ps ∧ CapM B w0 blk oP oS qs sm := by
  obtain ⟨qs, oP, cP, oS, cS, h1, h2, h3⟩ := h.m (B := B) (w0 := w0)
  have := h3 []
  rw [List.append_nil] at this
  exact ⟨qs, oP, cP, oS, cS, by rw [h1, h2.len], h2, this⟩
attribute [local irreducible] OpF Ld CellAt Sl Sv pcA usP
theorem same_cp {ps qs1 qs2 : List Pc} {oP oS oP' oS' : Option Addr} {sm : List Int} {m : Nat} (e : Int) (cP cS cP' cS' : Nat) {b1 b2 : HS} {B : Nat} {w0 : Wd} (hb : Bd ps sm m) (h1 : SmP qs1 ps) (h2 : SmP qs2 ps) (g1 : CapM B w0 b1 oP oS qs1 sm) (g2 : CapM B w0 b2 oP' oS' qs2 sm) (hs : HS) (s1 : b1.Sublist hs) (s2 : b2.Sublist hs) :
    Fn Try.prog 20 #[.agg #[.slice oP ps.length cP, .slice oS m cS, iv e], .agg #[.slice oP' ps.length cP', .slice oS' m cS', iv e]] B w0 hs (fun v h => v = .bool true ∧ h = hs) := by
  have := r_SameT qs1 qs2 oP oS oP' oS' cP m cS cP' cS' sm e (by rw [h1.len]; exact hb.n) (by rw [h1.len, h2.len]) (fun i hi => by rw [(h1.at i).1, (h1.at i).2]; exact hb.l i (by rw [← h1.len]; exact hi)) (fun i _ => ⟨by rw [(h1.at i).1, (h2.at i).1], by rw [(h1.at i).2, (h2.at i).2]⟩) hb.s hb.m B w0 hs (g1.sub s1) (g2.sub s2)
  rw [h1.len] at this
  exact this
structure SwT where
  i : Nat
  rs : List Rp
theorem rpb_split : ∀ (l1 : List Rp) (r : Rp) (l2 : List Rp), rpb (l1 ++ r :: l2) = rpb l2 ++ (r.k ++ rpb l1) := fun l1 r l2 => by
  unfold rpb
  rw [List.foldl_append, List.foldl_cons, rpb_go l2]
  rfl
theorem split_at {α : Type} {l : List α} {i : Nat} (h : i < l.length) : ∃ l1 a l2, l = l1 ++ a :: l2 ∧ l1.length = i :=
  ⟨l.take i, l[i], l.drop (i + 1), by rw [← List.drop_eq_getElem_cons h, List.take_append_drop], by rw [List.length_take]; omega⟩
theorem rp_mid (l1 l2 : List Rp) (r : Rp) : pcA (rpP (l1 ++ r :: l2)) l1.length = r.p := by
  unfold pcA rpP
  rw [List.getD_eq_getElem?_getD, List.map_append, List.getElem?_append_right (by simp)]
  simp
theorem rp_ne (l1 l2 : List Rp) (r q : Rp) {u : Nat} (h : u ≠ l1.length) : pcA (rpP (l1 ++ q :: l2)) u = pcA (rpP (l1 ++ r :: l2)) u := by
  unfold pcA rpP
  rw [List.getD_eq_getElem?_getD, List.getD_eq_getElem?_getD, List.map_append, List.map_append]
  congr 1
  by_cases hu : u < l1.length
  · rw [List.getElem?_append_left (by simpa using hu), List.getElem?_append_left (by simpa using hu)]
  · rw [List.getElem?_append_right (by simpa using hu), List.getElem?_append_right (by simpa using hu)]
    obtain ⟨v, hv⟩ : ∃ v, u - (l1.map (·.p)).length = v + 1 := ⟨u - l1.length - 1, by simp; omega⟩
    rw [hv]
    simp
theorem ivs_setz {sd : List Int} {z : List Value} {j : Nat} (x : Int) (h : j < sd.length) : (ivs sd ++ z).set j (iv x) = ivs (sd.set j x) ++ z := by
  rw [List.set_append_left _ _ (by rw [ivs_length]; exact h)]
  congr 1
  simp [ivs, List.map_set]
end Go.Proofs.Ytnbickholedckaa
