/- Points in memory; bounds; shared by the laws on caps. -/
import Derived.Test.YtnbickholedckaaMB7
import Derived.Test.YtnbickholedckaaMB6
namespace Go.Proofs.Ytnbickholedckaa
open Go.RowKit
def lnF (ps : List Pc) (x : Nat) : Int := (pcA ps (pcG (sdF ps) ps.length x)).sd.getD (x - fsN (sdF ps) (pcG (sdF ps) ps.length x)) 0
def natL (n : Nat) (F : Nat → Nat) : List Int := tab n fun x => ((F x : Nat) : Int)
theorem natL_at {n : Nat} {F : Nat → Nat} {x : Nat} (h : x < n) : (natL n F).getD x 0 = (F x : Int) := tab_getD _ h
theorem natL_len (n : Nat) (F : Nat → Nat) : (natL n F).length = n := tab_length _ _
section
variable {n : NN} {B : Nat} {w0 : Wd} {fr : FR} {hs hs' : HS} {ty : TypeId} {K : Act → World → Prop} {ops : Array Oper} {l : List Oper} {d : Nat} {pos : String} {aft : Array Edge}
/-- A number of an own row that has room is turned. -/
theorem stZ {t : TypeId} {x y : Operand} {b o : Nat} {m : List Int} {z : List Value} {u : Int} (h : Sat n B w0 (sl Try.prog ops K l) fr hs') (hx : opv fr x = some (.pointer (some ⟨b, o, none⟩))) (hl : o < m.length) (hy : opv fr y = some (iv u) := by rfl) (ht : getT shT t = some (false, 1) := by rfl)
    (hu : Upd b (ivs m ++ z) (ivs (m.set o u) ++ z) hs hs' := by with_reducible first | exact uu0 | exact uu1 | exact uu2 | exact uu3 | exact uu4 | exact uu5 | exact uu6 | exact uu7 | exact uu8 | ((repeat (first | exact uu0 | apply Upd.tail | apply Upd.app)); done)) :
    Sat n B w0 (sl Try.prog ops K (⟨none, .store t x y, ty, pos, aft, none⟩ :: l)) fr hs := by
  refine s_store1 hx hy rfl rfl (shTOf ht) (cs := ivs m ++ z) ?_ (by rw [List.length_append, ivs_length]; omega) h
  rw [List.set_append_left _ _ (by rw [ivs_length]; omega), ivs_set]
  exact hu
end
attribute [local irreducible] OpF Ld CellAt Sl Sv pcA usP
theorem VdC.n1c {ps : List Pc} {sm : List Int} {m : Nat} {e : Int} (h : VdC ps sm m e) : 1 ≤ fsN (sdF ps) ps.length := by
  have h1 := fsN_mono (sd := sdF ps) (p := 1) (q := ps.length) h.n1
  have h2 : fsN (sdF ps) 1 = 0 + (sdF ps 0).length := rfl
  have h3 := (h.ok 0 h.n1).1.1
  omega
instance : Inhabited Pr := ⟨⟨none, 0, ⟨[], false, 0, 0⟩, []⟩⟩
def prA (rs : List Pr) (i : Nat) : Pr := rs.getD i default
theorem prv_at : ∀ (rs : List Pr) (i : Nat), i < rs.length → (prv rs)[i * 4]? = some (.slice (prA rs i).oa (prA rs i).p.cs.length (prA rs i).c) ∧ (prv rs)[i * 4 + 1]? = some (.bool (prA rs i).p.inn) ∧ (prv rs)[i * 4 + 2]? = some (iv (prA rs i).p.an) ∧ (prv rs)[i * 4 + 3]? = some (iv (prA rs i).p.df)
  | [], i, h => by simp at h
  | r :: rs, 0, _ => by simp [prv, prA]
  | r :: rs, i + 1, h => by
    have := prv_at rs i (by simpa using h)
    have e : prA (r :: rs) (i + 1) = prA rs i := by simp [prA]
    rw [e]
    simp only [prv, List.flatMap_cons, List.cons_append, List.nil_append]
    rw [show (i + 1) * 4 = i * 4 + 1 + 1 + 1 + 1 by omega, show i * 4 + 1 + 1 + 1 + 1 + 1 = (i * 4 + 1) + 1 + 1 + 1 + 1 by omega, show i * 4 + 1 + 1 + 1 + 1 + 2 = (i * 4 + 2) + 1 + 1 + 1 + 1 by omega, show i * 4 + 1 + 1 + 1 + 1 + 3 = (i * 4 + 3) + 1 + 1 + 1 + 1 by omega]
    simpa [prv] using this
/-- Points in memory. -/
structure PrM (B : Nat) (w0 : Wd) (hs : HS) (oa : Option Addr) (rs : List Pr) : Prop where
  pv : Sv B w0 hs oa (prv rs)
  cs : ∀ i, i < rs.length → Sl B w0 hs (prA rs i).oa (nats (prA rs i).p.cs)
theorem PrM.sub {B : Nat} {w0 : Wd} {hs hs' : HS} {oa : Option Addr} {rs : List Pr} (h : PrM B w0 hs oa rs) (hsub : hs.Sublist hs') : PrM B w0 hs' oa rs := ⟨h.pv.sub hsub, fun i hi => (h.cs i hi).sub hsub⟩
theorem prb_go : ∀ (rs : List Pr) (acc : HS), rs.foldl (fun acc r => r.blk ++ acc) acc = prb rs ++ acc
  | [], acc => rfl
  | r :: rs, acc => by
    unfold prb
    simp only [List.foldl_cons]
    rw [prb_go rs (r.blk ++ acc), prb_go rs (r.blk ++ []), List.append_nil, List.append_assoc]
theorem prb_mem : ∀ {rs : List Pr} {r : Pr}, r ∈ rs → r.blk.Sublist (prb rs)
  | q :: rs, r, h => by
    have e : prb (q :: rs) = prb rs ++ q.blk := by show rs.foldl _ (q.blk ++ []) = _; rw [prb_go, List.append_nil]
    rw [e]
    rcases List.mem_cons.1 h with rfl | h
    · exact List.sublist_append_right _ _
    · exact (prb_mem h).trans (List.sublist_append_left _ _)
theorem prA_mem {rs : List Pr} {i : Nat} (hi : i < rs.length) : prA rs i ∈ rs := by
  unfold prA
  rw [List.getD_eq_getElem?_getD, List.getElem?_eq_getElem hi]
  exact List.getElem_mem hi
theorem prA_p {rs qs : List Pr} (h : rs.map (·.p) = qs.map (·.p)) {i : Nat} (hi : i < rs.length) : (prA rs i).p = (prA qs i).p := by
  have hl : rs.length = qs.length := by have := congrArg List.length h; simpa using this
  have h1 := congrArg (fun l => l[i]?) h
  simp only [List.getElem?_map] at h1
  rw [List.getElem?_eq_getElem hi, List.getElem?_eq_getElem (hl ▸ hi)] at h1
  unfold prA
  rw [List.getD_eq_getElem?_getD, List.getD_eq_getElem?_getD, List.getElem?_eq_getElem hi, List.getElem?_eq_getElem (hl ▸ hi)]
  simpa using h1
/-- What was handed over lies in memory. -/
theorem PrR.m {B : Nat} {w0 : Wd} {hs : HS} {pts : List Pt} {v : Value} {blk : HS} (h : PrR pts v blk) : ∃ oa c rs, v = .slice oa rs.length c ∧ rs.map (·.p) = pts ∧ PrM B w0 (blk ++ hs) oa rs := by
  obtain ⟨oa, c, rs, bo, rfl, h1, h2, h3, rfl⟩ := h
  refine ⟨oa, c, rs, rfl, h3, (Sv.rowC h1).sub ((List.sublist_append_left _ _).trans (List.sublist_append_left _ _)), fun i hi => ?_⟩
  have hm := prA_mem hi
  exact (Sl.row (h2 _ hm)).sub (((prb_mem hm).trans (List.sublist_append_right _ _)).trans (List.sublist_append_left _ _))
theorem PrM.nil {B : Nat} {w0 : Wd} {hs : HS} {oa : Option Addr} : PrM B w0 hs oa [] := ⟨by unfold Sv; exact fun i hi => absurd hi (Nat.not_lt_zero _), fun i hi => absurd hi (Nat.not_lt_zero _)⟩
theorem PrM.c {B : Nat} {w0 : Wd} {hs hs' : HS} {oa : Option Addr} {rs : List Pr} (h : PrM B w0 hs oa rs) (hsub : hs.Sublist hs') {i : Nat} (hi : i < rs.length) :
    CellAt B w0 hs' (ea oa (i * 4)) (.slice (prA rs i).oa (prA rs i).p.cs.length (prA rs i).c) ∧ CellAt B w0 hs' (ea oa (i * 4 + 1)) (.bool (prA rs i).p.inn) ∧ CellAt B w0 hs' (ea oa (i * 4 + 2)) (iv (prA rs i).p.an) ∧ CellAt B w0 hs' (ea oa (i * 4 + 3)) (iv (prA rs i).p.df) := by
  obtain ⟨h0, h1, h2, h3⟩ := prv_at rs i hi
  have hl := prv_len rs
  have hp := h.pv
  unfold Sv at hp
  unfold CellAt
  refine ⟨fun w hw => ?_, fun w hw => ?_, fun w hw => ?_, fun w hw => ?_⟩
  · rw [(hp (i * 4) (by omega)).2 w (hw.sub hsub)]; exact h0
  · rw [(hp (i * 4 + 1) (by omega)).2 w (hw.sub hsub)]; exact h1
  · rw [(hp (i * 4 + 2) (by omega)).2 w (hw.sub hsub)]; exact h2
  · rw [(hp (i * 4 + 3) (by omega)).2 w (hw.sub hsub)]; exact h3
theorem PrM.isS {B : Nat} {w0 : Wd} {hs : HS} {oa : Option Addr} {rs : List Pr} (h : PrM B w0 hs oa rs) {i : Nat} (hi : i < rs.length) : oa.isSome = true := by
  have hp := h.pv
  have hl := prv_len rs
  unfold Sv at hp
  exact (hp (i * 4) (by omega)).1
/-- What a cap that is not long says. -/
theorem lgC_no {ps : List Pc} {m : Nat} (h : ¬ lgC ps m) : ps.length ≤ 30 ∧ m ≤ 60 ∧ ∀ i, i < ps.length → (pcA ps i).sd.length ≤ 30 ∧ (pcA ps i).an.length ≤ 30 := by
  refine ⟨?_, ?_, fun i hi => ?_⟩
  · by_cases h1 : 30 < (ps.length : Int)
    · exact absurd (.inl h1) h
    · omega
  · by_cases h1 : 60 < (m : Int)
    · exact absurd (.inr (.inl h1)) h
    · omega
  · have h1 : ¬ lgP (pcA ps i) := fun h1 => h (.inr (.inr ⟨i, hi, h1⟩))
    unfold lgP at h1
    omega
theorem ptsC_in {ps : List Pc} {sm : List Int} {m : Nat} {e : Int} (V : VdC ps sm m e) : (ptsC ps sm m).length ≤ 48 ∧ ∀ p ∈ ptsC ps sm m, p.cs.length ≤ 48 := by
  have h2 := V.n48
  constructor
  · unfold ptsC
    rw [ptsL_len]
    unfold ccE
    have := cnN_le (fun i => decide (rpE (ptE (nC ps) (nxC ps) (muC ps sm m)) i = i)) (nC ps)
    omega
  · intro p hp
    unfold ptsC ptsL at hp
    obtain ⟨i, _, rfl⟩ := List.mem_map.1 hp
    have := List.length_filter_le (fun y => decide (rpE (ptE (nC ps) (nxC ps) (muC ps sm m)) y = rpE (ptE (nC ps) (nxC ps) (muC ps sm m)) i)) (List.range (nC ps))
    rw [List.length_range] at this
    show (clsL _ _ _ _).length ≤ 48
    unfold clsL
    omega
theorem VdC.lpn {ps : List Pc} {sm : List Int} {m : Nat} {e : Int} (V : VdC ps sm m e) : (lpsC ps sm m).length ≤ 48 := by
  have h2 := V.n48
  unfold lpsC
  rw [lpsL_len]
  unfold lpN
  have := cnN_le (fstB (nC ps) (nxC ps) (muC ps sm m)) (nC ps)
  omega
end Go.Proofs.Ytnbickholedckaa
