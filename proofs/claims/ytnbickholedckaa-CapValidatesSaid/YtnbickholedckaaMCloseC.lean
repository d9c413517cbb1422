/- How caps are opened that came in: a slice of pieces (two slices each), a slice of seams, a number. -/
import Derived.Test.YtnbickholedckaaMClose2
import Derived.Test.YtnbickholedckaaMC27
namespace Go.Proofs.Ytnbickholedckaa
open Go.RowKit Go.ChangeShapes Go.WideShapes Go.ChangeAt
section
variable {H : Type} {enc : TypeId × Value → H} {P : Program} {W : World}
theorem bdl_two {t : TypeId} (hb : bdl P t = true) : P.cellsOf t = 2 := by
  unfold bdl at hb
  split at hb
  · split at hb
    · simp only [Bool.and_eq_true, beq_iff_eq] at hb
      exact hb.1.1.2
    · cases hb
  · cases hb
theorem sv_some {a : Addr} {l : List Value} (h : ∀ i, i < l.length → W.cell? (a.add i) = l[i]?) : Sv W.heap.size ⟨W, []⟩ [] (some a) l := fun i hi => ⟨rfl, fun w hw => by
  have h1 := h i hi
  rw [List.getElem?_eq_getElem hi] at h1
  have h2 := World.block_lt_of_cell? W _ h1
  rw [ea_some, hw.below.cell h2, h1, List.getElem?_eq_getElem hi]⟩
theorem opt_pcs {t e : TypeId} {cs : List Value} (hu : P.underlying t = some (.slice e)) (hb : bdl P e = true) (h : OpT enc P W t cs) :
    ∃ (oa : Option Addr) (c : Nat) (ps : List Pc), cs = [.slice oa ps.length c] ∧ ps.length ≤ c ∧ c ≤ maxLen ∧ Sv W.heap.size ⟨W, []⟩ [] oa (pcsv ps) ∧ (∀ i, i < ps.length → Sl W.heap.size ⟨W, []⟩ [] (pcA ps i).oa (pcA ps i).sd) ∧ ∀ i, i < ps.length → Sl W.heap.size ⟨W, []⟩ [] (pcA ps i).ob (pcA ps i).an := by
  obtain ⟨oa, len, c, X, rfl, h1, h2, h3, hx⟩ := opt_slice hu h
  rw [bdl_two hb] at hx
  have key : ∀ a, a ≤ len → ∃ ps : List Pc, ps.length = a ∧ (∀ i, i < a → X i = pcv (pcA ps i)) ∧ (∀ i, i < a → Sl W.heap.size ⟨W, []⟩ [] (pcA ps i).oa (pcA ps i).sd) ∧ ∀ i, i < a → Sl W.heap.size ⟨W, []⟩ [] (pcA ps i).ob (pcA ps i).an := by
    intro a
    induction a with
    | zero => exact fun _ => ⟨[], rfl, fun i hi => absurd hi (Nat.not_lt_zero _), fun i hi => absurd hi (Nat.not_lt_zero _), fun i hi => absurd hi (Nat.not_lt_zero _)⟩
    | succ a ih =>
      intro ha
      obtain ⟨ps, e1, e2, e3, e4⟩ := ih (by omega)
      obtain ⟨g1, _, _⟩ := hx a (by omega)
      obtain ⟨o1, o2, c1, c2, r, g, q1, _, _, _, _, _, _, q2, q3⟩ := opt_bundle hb g1
      have hE := pcA_eq ps ⟨o1, c1, r, o2, c2, g⟩
      rw [e1] at hE
      refine ⟨ps ++ [⟨o1, c1, r, o2, c2, g⟩], by simp [e1], fun i hi => ?_, fun i hi => ?_, fun i hi => ?_⟩
      all_goals by_cases h : i = a
      · subst h; rw [hE]; exact q1
      · rw [pcA_lt (by omega)]; exact e2 i (by omega)
      · subst h; rw [hE]; exact q2
      · rw [pcA_lt (by omega)]; exact e3 i (by omega)
      · subst h; rw [hE]; exact q3
      · rw [pcA_lt (by omega)]; exact e4 i (by omega)
  obtain ⟨ps, rfl, e2, e3, e4⟩ := key len (Nat.le_refl _)
  refine ⟨oa, c, ps, rfl, h1, h2, ?_, e3, e4⟩
  rcases Nat.eq_zero_or_pos ps.length with h0 | h0
  · rw [List.length_eq_zero_iff.1 h0]; exact fun i hi => absurd hi (Nat.not_lt_zero _)
  have h4 : oa.isSome = true := h3.resolve_left (by omega)
  obtain ⟨b, rfl⟩ := Option.isSome_iff_exists.1 h4
  refine sv_some fun i hi => ?_
  rw [pcsv_len] at hi
  have hq : i / 2 < ps.length := by omega
  obtain ⟨p1, p2⟩ := pcsv_at ps (i / 2) hq
  obtain ⟨_, _, g3⟩ := hx (i / 2) hq
  have g4 := g3 (i % 2) (by omega) b rfl
  rw [show i / 2 * 2 + i % 2 = i by omega, e2 _ hq] at g4
  rw [g4]
  rcases (show i % 2 = 0 ∨ i % 2 = 1 by omega) with h | h
  · rw [h, show i = 2 * (i / 2) by omega, p1]; simp [pcv]
  · rw [h]
    have : i = 2 * (i / 2) + 1 := by omega
    rw [this, p2, ← this]; simp [pcv]
theorem intsY {cs : List Value} (h : Ints 1 cs) : ∃ x, cs = [iv x] ∧ InI x := by
  obtain ⟨xs, rfl, h1, h2⟩ := h
  obtain ⟨x, rfl⟩ := len_1 h1
  exact ⟨x, rfl, h2 x (.head _)⟩
def slb (P : Program) (t : TypeId) : Bool := match P.underlying t with
  | some (.slice e) => bdl P e
  | _ => false
theorem slb_to {t : TypeId} (h : slb P t = true) : ∃ e, P.underlying t = some (.slice e) ∧ bdl P e = true := by
  unfold slb at h
  split at h
  · rename_i e he; exact ⟨e, he, h⟩
  · cases h
def bdc (P : Program) (t : TypeId) : Bool := match P.underlying t with
  | some (.struct fs) => match fs[0]?, fs[1]?, fs[2]? with
    | some f0, some f1, some f2 => f0.offset == 0 && f1.offset == 1 && f2.offset == 2 && P.cellsOf f0.type == 1 && P.cellsOf f1.type == 1 && P.cellsOf f2.type == 1 && P.cellsOf t == 3 && slb P f0.type && slf P 5 f1.type == some 4 && fl P 5 f2.type == some 1
    | _, _, _ => false
  | _ => false
theorem opt_cap {t : TypeId} {cs : List Value} (hb : bdc P t = true) (h : OpT enc P W t cs) :
    ∃ (o1 o2 : Option Addr) (c1 m c2 : Nat) (ps : List Pc) (sm : List Int) (x : Int), cs = [.slice o1 ps.length c1, .slice o2 m c2, iv x] ∧ sm.length = m * 4 ∧ InI x ∧ CapM W.heap.size ⟨W, []⟩ [] o1 o2 ps sm := by
  unfold bdc at hb
  split at hb
  · rename_i fs hu
    split at hb
    · rename_i f0 f2 f3 h0 h2 h3
      simp only [Bool.and_eq_true, beq_iff_eq] at hb
      obtain ⟨⟨⟨⟨⟨⟨⟨⟨⟨a0, a2⟩, a3⟩, b0⟩, b2⟩, b3⟩, b5⟩, b6⟩, b8⟩, b9⟩ := hb
      obtain ⟨hl, hf⟩ := opt_struct hu h
      have g0 := hf 0 f0 h0
      have g2 := hf 1 f2 h2
      have g3 := hf 2 f3 h3
      rw [a0, b0] at g0
      rw [a2, b2] at g2
      rw [a3, b3] at g3
      rw [b5] at hl
      obtain ⟨x, z, w, rfl⟩ := len_3 hl
      obtain ⟨e0, u0, k0⟩ := slb_to b6
      obtain ⟨o1, c1, ps, q1, q2, q3, q4, q5, q6⟩ := opt_pcs u0 k0 g0
      obtain ⟨e2, u2, k2⟩ := slf_to b8
      obtain ⟨o2, m, c2, sm, p1, p2, p3, p4, p5, p6⟩ := opt_ints u2 k2 g2
      obtain ⟨x3, i3, j3⟩ := intsY (opt_flat _ _ _ _ b9 g3)
      simp at q1 p1 i3
      exact ⟨o1, o2, c1, m, c2, ps, sm, x3, by rw [q1, p1, i3], p2, j3, ⟨q4, q5, q6, p6⟩⟩
    · cases hb
  · cases hb
theorem bdc_ag {t : TypeId} (hb : bdc P t = true) : agB P t = true := by
  unfold bdc at hb
  unfold agB
  split at hb
  · rename_i hu; rw [hu]
  · cases hb
theorem arg_cap {base : Nat} {t : TypeId} {v : Value} {d : DataW H} {p : List MemPlace} (hb : bdc P t = true) (hv : Value.okWide P W .any base t v) (h : DataW.Trod enc P W 0 (fun _ => true) true t v d p) :
    ∃ (o1 o2 : Option Addr) (c1 m c2 : Nat) (ps : List Pc) (sm : List Int) (x : Int), v = .agg #[.slice o1 ps.length c1, .slice o2 m c2, iv x] ∧ sm.length = m * 4 ∧ InI x ∧ CapM W.heap.size ⟨W, []⟩ [] o1 o2 ps sm := by
  obtain ⟨cs, rfl⟩ := val_agg (bdc_ag hb) hv
  obtain ⟨o1, o2, c1, m, c2, ps, sm, x, e, hh⟩ := opt_cap hb (OpT.of h)
  exact ⟨o1, o2, c1, m, c2, ps, sm, x, by simp only [Value.cells] at e; rw [← e], hh⟩
end
end Go.Proofs.Ytnbickholedckaa
