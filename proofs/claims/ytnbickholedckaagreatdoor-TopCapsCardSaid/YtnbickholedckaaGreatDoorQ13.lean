/- Texts of this claim, put together; the parts that it needs. -/
import Derived.Test.YtnbickholedckaaGreatDoorQ12
namespace Go.Proofs.YtnbickholedckaaGreatDoor
open Go.RowKit
def dtA (an : List Int) (r q : Nat) (d : Int) : List Int := (an.set r (an.getD r 0 - d)).set q (an.getD q 0 + d)
theorem dtA_len (an : List Int) (r q : Nat) (d : Int) : (dtA an r q d).length = an.length := by unfold dtA; rw [List.length_set, List.length_set]
theorem dtA_at {an : List Int} {r q j : Nat} {d : Int} (hr : r < an.length) (hq : q < an.length) : (dtA an r q d).getD j 0 = if j = q then an.getD q 0 + d else if j = r then an.getD r 0 - d else an.getD j 0 := by
  unfold dtA
  rw [getD_set (by rw [List.length_set]; exact hq), getD_set hr]
theorem dtA_sum {an : List Int} {r q : Nat} {d : Int} (hr : r < an.length) (hq : q < an.length) (hne : r ≠ q) : ∀ k, sumTo (fun j => (dtA an r q d).getD j 0) k = sumTo (fun j => an.getD j 0) k + (if q < k then d else 0) - (if r < k then d else 0)
  | 0 => by simp [sumTo]
  | k + 1 => by
    rw [sumTo_succ, sumTo_succ, dtA_sum hr hq hne k, dtA_at hr hq]
    (repeat' split) <;> first | omega | (subst_vars; omega)
/-- The pieces with a dart in piece p. -/
def dtP (ps : List Pc) (p r q : Nat) (d : Int) : List Pc := ps.set p { pcA ps p with an := dtA (pcA ps p).an r q d }
theorem dtP_at {ps : List Pc} {p r q i : Nat} {d : Int} (hp : p < ps.length) : pcA (dtP ps p r q d) i = if i = p then { pcA ps p with an := dtA (pcA ps p).an r q d } else pcA ps i := by
  have h1 : ∀ l : List Pc, pcA l i = l.getD i default := fun l => by unfold pcA; rfl
  rw [h1, h1 ps]
  unfold dtP
  rw [List.getD_eq_getElem?_getD, List.getD_eq_getElem?_getD, List.getElem?_set]
  by_cases e : p = i
  · subst e; rw [if_pos rfl, if_pos rfl, if_pos hp]; rfl
  · rw [if_neg e, if_neg (fun h => e h.symm)]
theorem dtP_len (ps : List Pc) (p r q : Nat) (d : Int) : (dtP ps p r q d).length = ps.length := by unfold dtP; rw [List.length_set]
theorem dtP_sd {ps : List Pc} {p r q : Nat} {d : Int} (hp : p < ps.length) : sdF (dtP ps p r q d) = sdF ps := funext fun i => by
  unfold sdF
  rw [dtP_at hp]
  split
  · rename_i h; rw [h]
  · rfl
theorem dtP_an {ps : List Pc} {p r q i : Nat} {d : Int} (hp : p < ps.length) : anF (dtP ps p r q d) i = if i = p then dtA (anF ps p) r q d else anF ps i := by
  unfold anF
  rw [dtP_at hp]
  split <;> rfl
theorem dtP_vd {ps : List Pc} {sm : List Int} {m : Nat} {e d : Int} {p r q : Nat} (V : VdC ps sm m e) (hp : p < ps.length) (hr : r < (sdF ps p).length) (hq : q < (sdF ps p).length) (hne : r ≠ q) (hd : 1 ≤ d) (h1 : 1 ≤ (anF ps p).getD r 0 - d) (h2 : (anF ps p).getD q 0 + d ≤ 359) : VdC (dtP ps p r q d) sm m e := by
  refine ⟨by rw [dtP_len]; exact V.n1, by rw [dtP_len]; exact V.n8, V.e0, ?_, ?_⟩
  · rw [dtP_len, dtP_sd hp]
    intro i hi
    rw [dtP_an hp]
    split
    · rename_i h
      subst h
      obtain ⟨g1, g2, g3, g4⟩ := V.ok i hi
      refine ⟨g1, by rw [dtA_len]; exact g2, fun j hj => ⟨(g3 j hj).1, ?_⟩, ?_⟩
      · have a1 := (g3 j hj).2
        have a2 := (g3 r hr).2
        have a3 := (g3 q hq).2
        rw [dtA_at (by omega) (by omega)]
        split
        · omega
        · split <;> omega
      · rw [dtA_sum (by omega) (by omega) hne, g4, if_pos hr, if_pos hq]; omega
    · exact V.ok i hi
  · rw [dtP_len, dtP_sd hp]; exact V.se
end Go.Proofs.YtnbickholedckaaGreatDoor
namespace Go.Proofs.YtnbickholedckaaGreatDoor
open Go.RowKit
theorem CpR.of {qs ps : List Pc} {sm : List Int} {m : Nat} {e : Int} {u : Value} {blk : HS} (h : CpR qs sm m e u blk) (hs : SmP qs ps) : CpR ps sm m e u blk := by
  obtain ⟨oP', cP', oS', cS', rs, bo, ko, g1, g2, g3, g4, g5, g6, g7⟩ := h
  exact ⟨oP', cP', oS', cS', rs, bo, ko, by rw [g1, hs.len], g2, g3, by rw [g4, hs.len], fun i hi => by
    have := g5 i (by rw [hs.len]; exact hi)
    have := hs.at i
    constructor
    · rw [(g5 i (by rw [hs.len]; exact hi)).1, this.1]
    · rw [(g5 i (by rw [hs.len]; exact hi)).2, this.2], g6, g7⟩
theorem CeR.of {E : Int} {qs ps : List Pc} {sm : List Int} {m : Nat} {e : Int} {hs h : HS} {v : Value} (hc : CeR E qs sm m e hs v h) (hq : SmP qs ps) : CeR E ps sm m e hs v h := by
  rcases hc with hc | ⟨h1, u, blk, h2, h3, h4⟩
  · exact .inl hc
  · exact .inr ⟨h1, u, blk, h2.of hq, h3, h4⟩
/-- Bounds of what a cap holds. -/
structure Bd (ps : List Pc) (sm : List Int) (m : Nat) : Prop where
  n : ps.length ≤ 100
  l : ∀ i, i < ps.length → (pcA ps i).sd.length ≤ 100 ∧ (pcA ps i).an.length ≤ 100
  s : sm.length = m * 4
  m : m ≤ 100
theorem CpR.zero : CpR [] [] 0 0 zcap [] := ⟨none, 0, none, 0, [], [], [], rfl, RowOk.nil, fun r hr => (by cases hr), rfl, fun i hi => absurd hi (Nat.not_lt_zero _), RowOk.nil, rfl⟩
theorem CeR.x {E : Int} {ps : List Pc} {sm : List Int} {m : Nat} {e : Int} (hb : E = 0 → Bd ps sm m) : ∃ PS SM M e1, Bd PS SM M ∧ (E = 0 → PS = ps ∧ SM = sm ∧ M = m ∧ e1 = e) ∧ (E ≠ 0 → PS = [] ∧ SM = [] ∧ M = 0) ∧ ∀ hs v h, CeR E ps sm m e hs v h → ∃ u blk, CpR PS SM M e1 u blk ∧ v = .tuple #[u, iv E] ∧ h = blk ++ hs := by
  by_cases hE : E = 0
  · exact ⟨ps, sm, m, e, hb hE, fun _ => ⟨rfl, rfl, rfl, rfl⟩, fun h => absurd hE h, fun hs v h hc => by
      rcases hc with ⟨h1, _⟩ | ⟨h1, u, blk, h2, h3, h4⟩
      · exact absurd hE h1
      · exact ⟨u, blk, h2, by rw [hE]; exact h3, h4⟩⟩
  · exact ⟨[], [], 0, 0, ⟨Nat.zero_le _, fun i hi => absurd hi (Nat.not_lt_zero _), rfl, Nat.zero_le _⟩, fun h => absurd h hE, fun _ => ⟨rfl, rfl, rfl⟩, fun hs v h hc => by
      rcases hc with ⟨h1, h2, h3⟩ | ⟨h1, _⟩
      · exact ⟨zcap, [], CpR.zero, h2, h3⟩
      · exact absurd h1 hE⟩
theorem CpR.x {ps : List Pc} {sm : List Int} {m : Nat} {e : Int} {u : Value} {blk : HS} (h : CpR ps sm m e u blk) (B : Nat) (w0 : Wd) : ∃ qs oP cP oS cS, u = .agg #[.slice oP ps.length cP, .slice oS m cS, iv e] ∧ SmP qs ps ∧ CapM B w0 blk oP oS qs sm := by
  obtain ⟨qs, oP, cP, oS, cS, h1, h2, h3⟩ := h.m (B := B) (w0 := w0)
  have := h3 []
  rw [List.append_nil] at this
  exact ⟨qs, oP, cP, oS, cS, by rw [h1, h2.len], h2, this⟩
attribute [local irreducible] OpF Ld CellAt Sl Sv pcA usP
theorem rpb_split : ∀ (l1 : List Rp) (r : Rp) (l2 : List Rp), rpb (l1 ++ r :: l2) = rpb l2 ++ (r.k ++ rpb l1) := fun l1 r l2 => by
  unfold rpb
  rw [List.foldl_append, List.foldl_cons, rpb_go l2]
  rfl
theorem split_at {α : Type} {l : List α} {i : Nat} (h : i < l.length) : ∃ l1 a l2, l = l1 ++ a :: l2 ∧ l1.length = i :=
  ⟨l.take i, l[i], l.drop (i + 1), by rw [← List.drop_eq_getElem_cons h, List.take_append_drop], by rw [List.length_take]; omega⟩
theorem rp_mid (l1 l2 : List Rp) (r : Rp) : pcA (rpP (l1 ++ r :: l2)) l1.length = r.p := by
  unfold pcA rpP
  rw [List.getD_eq_getElem?_getD, List.map_append, List.getElem?_append_right (by simp)]
  simp
theorem rp_ne (l1 l2 : List Rp) (r q : Rp) {u : Nat} (h : u ≠ l1.length) : pcA (rpP (l1 ++ q :: l2)) u = pcA (rpP (l1 ++ r :: l2)) u := by
  unfold pcA rpP
  rw [List.getD_eq_getElem?_getD, List.getD_eq_getElem?_getD, List.map_append, List.map_append]
  congr 1
  by_cases hu : u < l1.length
  · rw [List.getElem?_append_left (by simpa using hu), List.getElem?_append_left (by simpa using hu)]
  · rw [List.getElem?_append_right (by simpa using hu), List.getElem?_append_right (by simpa using hu)]
    obtain ⟨v, hv⟩ : ∃ v, u - (l1.map (·.p)).length = v + 1 := ⟨u - l1.length - 1, by simp; omega⟩
    rw [hv]
    simp
theorem ivs_setz {sd : List Int} {z : List Value} {j : Nat} (x : Int) (h : j < sd.length) : (ivs sd ++ z).set j (iv x) = ivs (sd.set j x) ++ z := by
  rw [List.set_append_left _ _ (by rw [ivs_length]; exact h)]
  congr 1
  simp [ivs, List.map_set]
end Go.Proofs.YtnbickholedckaaGreatDoor
namespace Go.Proofs.YtnbickholedckaaGreatDoor
open Go.RowKit
theorem Sv.c1 {B : Nat} {w0 : Wd} {bo hs : HS} {oP : Option Addr} {ps : List Pc} (h : Sv B w0 bo oP (pcsv ps)) (hsub : bo.Sublist hs) {i : Nat} (hi : i < ps.length) : CellAt B w0 hs (ea oP (i * 2 + 1)) (.slice (pcA ps i).ob (pcA ps i).an.length (pcA ps i).cb) := fun w hw => by
  rw [Nat.mul_comm i 2, (h (2 * i + 1) (by rw [pcsv_len]; omega)).2 w (hw.sub hsub)]; exact (pcsv_at ps i hi).2
theorem Sv.isP {B : Nat} {w0 : Wd} {bo : HS} {oP : Option Addr} {ps : List Pc} (h : Sv B w0 bo oP (pcsv ps)) {i : Nat} (hi : i < ps.length) : oP.isSome = true := (h (2 * i) (by rw [pcsv_len]; omega)).1
theorem setP_at {ps : List Pc} {p i : Nat} {an : List Int} (hp : p < ps.length) : pcA (ps.set p { pcA ps p with an := an }) i = if i = p then { pcA ps p with an := an } else pcA ps i := by
  have h1 : ∀ l : List Pc, pcA l i = l.getD i default := fun l => by unfold pcA; rfl
  rw [h1, h1 ps]
  rw [List.getD_eq_getElem?_getD, List.getD_eq_getElem?_getD, List.getElem?_set]
  by_cases e : p = i
  · subst e; rw [if_pos rfl, if_pos rfl, if_pos hp]; rfl
  · rw [if_neg e, if_neg (fun h => e h.symm)]
/-- A copy, with the row of angles of one piece in sight. -/
theorem CpR.atA {ps : List Pc} {sm : List Int} {m : Nat} {e : Int} {u : Value} {blk : HS} (h : CpR ps sm m e u blk) {p : Nat} (hp : p < ps.length) (hne : 1 ≤ (pcA ps p).an.length) :
    ∃ oP' cP' oS' cS' cb bb z F1 F2, u = .agg #[.slice oP' ps.length cP', .slice oS' m cS', iv e] ∧ blk = F1 ++ ((bb, ivs (pcA ps p).an ++ z) :: F2) ∧ oP'.isSome = true ∧ (∀ B w0 hs', F1.Sublist hs' → CellAt B w0 hs' (ea oP' (p * 2 + 1)) (.slice (some ⟨bb, 0, none⟩) (pcA ps p).an.length cb)) ∧ ∀ an', an'.length = (pcA ps p).an.length → CpR (ps.set p { pcA ps p with an := an' }) sm m e u (F1 ++ ((bb, ivs an' ++ z) :: F2)) := by
  obtain ⟨oP', cP', oS', cS', rs, bo, ko, rfl, g2, g3, g4, g5, g6, rfl⟩ := h
  obtain ⟨l1, ⟨⟨oa, ca, sd, ob, cb, an⟩, k⟩, l2, rfl, rfl⟩ := split_at (show p < rs.length by omega)
  have hpe := rp_mid l1 l2 ⟨⟨oa, ca, sd, ob, cb, an⟩, k⟩
  have hg := g5 _ hp
  rw [hpe] at hg
  obtain ⟨h1, h2⟩ := hg
  dsimp only at h1 h2
  obtain ⟨k1, k2, q1, q2, q3⟩ := g3 ⟨⟨oa, ca, sd, ob, cb, an⟩, k⟩ (by simp)
  dsimp only at q1 q2 q3
  rcases q2 with ⟨_, _, h3, _⟩ | ⟨bb, z, rfl, rfl, hz, hcc⟩
  · exfalso
    have : an.length = 0 := by
      have := congrArg List.length h3
      rw [ivs_length] at this
      simpa using this
    rw [h2] at this; omega
  subst q3
  have hrs : ∀ c, ko ++ (bo ++ (rpb l2 ++ (([(bb, c)] ++ k1) ++ rpb l1))) = (ko ++ (bo ++ rpb l2)) ++ ((bb, c) :: (k1 ++ rpb l1)) := fun c => by simp
  have hlen : (rpP (l1 ++ (⟨⟨oa, ca, sd, some ⟨bb, 0, none⟩, cb, an⟩, [(bb, ivs an ++ z)] ++ k1⟩ : Rp) :: l2)).length = ps.length := by rw [rpP, List.length_map]; exact g4
  refine ⟨oP', cP', oS', cS', cb, bb, z, ko ++ (bo ++ rpb l2), k1 ++ rpb l1, rfl, ?_, (Sv.rowC (B := 0) (w0 := ⟨default, []⟩) g2).isP (show l1.length < _ by omega), fun B w0 hs' hsub => ?_, fun an' hl => ?_⟩
  · rw [rpb_split, ← h2]
    exact hrs _
  · have := (Sv.rowC (B := B) (w0 := w0) g2).c1 (((List.sublist_append_left _ _).trans (List.sublist_append_right _ _)).trans hsub) (show l1.length < _ by omega)
    rw [hpe] at this
    dsimp only at this
    rw [← h2]
    exact this
  · rw [← h2] at hl
    have hv : pcsv (rpP (l1 ++ (⟨⟨oa, ca, sd, some ⟨bb, 0, none⟩, cb, an'⟩, [(bb, ivs an' ++ z)] ++ k1⟩ : Rp) :: l2)) = pcsv (rpP (l1 ++ (⟨⟨oa, ca, sd, some ⟨bb, 0, none⟩, cb, an⟩, [(bb, ivs an ++ z)] ++ k1⟩ : Rp) :: l2)) := by
      unfold rpP
      rw [List.map_append, List.map_append, pcsv_app, pcsv_app, List.map_cons, List.map_cons]
      unfold pcsv pcv
      dsimp only
      rw [hl]
    refine ⟨oP', cP', oS', cS', l1 ++ ⟨⟨oa, ca, sd, some ⟨bb, 0, none⟩, cb, an'⟩, [(bb, ivs an' ++ z)] ++ k1⟩ :: l2, bo, ko, by rw [List.length_set], by rw [hv]; exact g2, fun r hr => ?_, by rw [List.length_set, ← g4]; simp, fun i hi => ?_, g6, ?_⟩
    · rcases List.mem_append.1 hr with hr | hr
      · exact g3 r (List.mem_append_left _ hr)
      · rcases List.mem_cons.1 hr with rfl | hr
        · exact ⟨k1, _, q1, .inr ⟨bb, z, rfl, rfl, by dsimp only; rw [List.length_append, ivs_length] at *; rw [hl]; exact hz, hcc⟩, rfl⟩
        · exact g3 r (List.mem_append_right _ (.tail _ hr))
    · rw [List.length_set] at hi
      rw [setP_at hp]
      by_cases hul : i = l1.length
      · subst hul
        rw [rp_mid, if_pos rfl]
        exact ⟨h1, rfl⟩
      · rw [rp_ne l1 l2 ⟨⟨oa, ca, sd, some ⟨bb, 0, none⟩, cb, an⟩, [(bb, ivs an ++ z)] ++ k1⟩ _ hul, if_neg hul]
        exact g5 i hi
    · rw [rpb_split]
      exact (hrs _).symm
def dtE (ps : List Pc) (sm : List Int) (m : Nat) (e x d : Int) : Int := if vdC ps sm m e ≠ 0 then vdC ps sm m e else if ¬ (0 ≤ x ∧ x < (nC ps : Int)) then 5 else if d < 1 ∨ agF ps x.toNat - d < 1 ∨ 359 < agF ps (nxC ps x.toNat) + d then 1 else 0
def dtQ (ps : List Pc) (x : Nat) (d : Int) : List Pc := dtP ps (pcG (sdF ps) ps.length x) (x - fsN (sdF ps) (pcG (sdF ps) ps.length x)) (nxN (sdF ps) ps.length x - fsN (sdF ps) (pcG (sdF ps) ps.length x)) d
/-- A corner and the next. -/
structure DtX (ps : List Pc) (x p f r q : Nat) : Prop where
  hp : p < ps.length
  hk : 3 ≤ (pcA ps p).sd.length ∧ (pcA ps p).sd.length ≤ 6
  ha : (pcA ps p).an.length = (pcA ps p).sd.length
  xr : x = f + r
  hr : r < (pcA ps p).sd.length
  hq : q < (pcA ps p).sd.length
  he : q = if r + 1 = (pcA ps p).sd.length then 0 else r + 1
  hf : f + (pcA ps p).sd.length ≤ 48
  ff : fsN (sdF ps) p = f
  nx : nxN (sdF ps) ps.length x = f + q
  pc : pcG (sdF ps) ps.length x = p
  pq : pcG (sdF ps) ps.length (f + q) = p
  lt : f + q < fsN (sdF ps) ps.length
theorem dtX {ps : List Pc} {sm : List Int} {m : Nat} {e : Int} (V : VdC ps sm m e) {x : Nat} (hx : x < nC ps) : ∃ p f r q, DtX ps x p f r q ∧ dtQ ps x = dtP ps p r q ∧ agF ps x = (pcA ps p).an.getD r 0 ∧ agF ps (nxC ps x) = (pcA ps p).an.getD q 0 := by
  obtain ⟨_, h1, h2, h3⟩ := sdx hx
  obtain ⟨g1, g2⟩ := nx_pc (sd := sdF ps) (P := ps.length) hx
  have hN := V.n48
  have h4 := V.ok _ h1
  have hm := fsN_mono (sd := sdF ps) (p := pcG (sdF ps) ps.length x + 1) (q := ps.length) (by omega)
  have e2 : fsN (sdF ps) (pcG (sdF ps) ps.length x + 1) = fsN (sdF ps) (pcG (sdF ps) ps.length x) + (pcA ps (pcG (sdF ps) ps.length x)).sd.length := rfl
  have hk : (sdF ps (pcG (sdF ps) ps.length x)).length = (pcA ps (pcG (sdF ps) ps.length x)).sd.length := rfl
  have ha : (anF ps (pcG (sdF ps) ps.length x)).length = (pcA ps (pcG (sdF ps) ps.length x)).an.length := rfl
  have h5 := h4.1
  have h6 := h4.2.1
  have hnx : nxN (sdF ps) ps.length x = fsN (sdF ps) (pcG (sdF ps) ps.length x) + (if (x - fsN (sdF ps) (pcG (sdF ps) ps.length x)) + 1 = (pcA ps (pcG (sdF ps) ps.length x)).sd.length then 0 else (x - fsN (sdF ps) (pcG (sdF ps) ps.length x)) + 1) := by
    unfold nxN
    rw [e2]
    split
    · rw [if_pos (by omega)]; omega
    · rw [if_neg (by omega)]; omega
  have hq : (if (x - fsN (sdF ps) (pcG (sdF ps) ps.length x)) + 1 = (pcA ps (pcG (sdF ps) ps.length x)).sd.length then 0 else (x - fsN (sdF ps) (pcG (sdF ps) ps.length x)) + 1) < (pcA ps (pcG (sdF ps) ps.length x)).sd.length := by split <;> omega
  refine ⟨pcG (sdF ps) ps.length x, fsN (sdF ps) (pcG (sdF ps) ps.length x), x - fsN (sdF ps) (pcG (sdF ps) ps.length x), _, ⟨h1, by omega, by omega, by omega, by omega, hq, rfl, ?_, rfl, hnx, rfl, by rw [← hnx]; exact g1, by rw [← hnx]; exact g2⟩, ?_, rfl, ?_⟩
  · unfold nC at hN; omega
  · unfold dtQ
    rw [hnx, Nat.add_sub_cancel_left]
  · unfold agF nxC
    rw [g1, hnx, Nat.add_sub_cancel_left]
attribute [local irreducible] OpF Ld CellAt Sl Sv pcA usP
set_option maxRecDepth 100000 in
set_option maxHeartbeats 8000000 in
theorem k_Dart (ps : List Pc) (oP oS : Option Addr) (cP m cS : Nat) (sm : List Int) (e x d : Int) (hn : ps.length ≤ 10000) (hsm : sm.length = m * 4) (hm : m ≤ 10000) (B : Nat) (w0 : Wd) (hs : HS) (hC : CapM B w0 hs oP oS ps sm) :
    Fn Tryz.prog 26 #[.agg #[.slice oP ps.length cP, .slice oS m cS, iv e], iv x, iv d] B w0 hs (CeR (dtE ps sm m e x d) (dtQ ps x.toNat d) sm m e hs) := by
  have kv := fun hs' (h : hs.Sublist hs') => k_Validate ps oP oS cP m cS sm e hn hsm hm B w0 hs' (hC.sub h)
  unfold CeR dtE
  by_cases hv : vdC ps sm m e = 0
  · have V := vdC_0 hv
    rw [if_neg (fun h => h hv)]
    have hv' : vdE ps.length (sdF ps) (anF ps) m sm e = 0 := hv
    rw [hv'] at kv
    have ks := fun hs' (h : hs.Sublist hs') => k_sew ps oP oS cP m cS sm e V.n8 V.n1 hsm hm V.ok V.se B w0 hs' (hC.sub h)
    have hN := V.n48
    by_cases hx : 0 ≤ x ∧ x < (nC ps : Int)
    · rw [if_neg (fun h => h hx)]
      obtain ⟨x, rfl⟩ : ∃ y : Nat, x = (y : Int) := ⟨x.toNat, by omega⟩
      have hx' : x < fsN (sdF ps) ps.length := by have := hx.2; unfold nC at this; omega
      rw [show ((x : Nat) : Int).toNat = x by omega]
      have hll : ∀ i, i < ps.length → (pcA ps i).an.length = (pcA ps i).sd.length := fun i hi => (V.ok i hi).2.1
      obtain ⟨p, f, r, q, D, hQ, hA1, hA2⟩ := dtX V (show x < nC ps from hx')
      have hi1 := (V.ok p D.hp).2.2.1 r D.hr
      have hi2 := (V.ok p D.hp).2.2.1 q D.hq
      rw [hQ, hA1, hA2]
      have kt := fun (s : Sw) hs' (h : SewAt B w0 hs' s ps (muS (smL (sdF ps) sm m))) => k_turned1 s ps _ x hN hx' B w0 hs' h
      have ka1 := fun (s : Sw) hs' (h : SewAt B w0 hs' s ps (muS (smL (sdF ps) sm m))) => k_angle s ps _ x hN hx' hll B w0 hs' h
      have ka2 := fun (s : Sw) hs' (h : SewAt B w0 hs' s ps (muS (smL (sdF ps) sm m))) => k_angle s ps _ (f + q) hN D.lt hll B w0 hs' h
      rw [D.pc, D.ff, show x - f = r by have := D.xr; omega] at ka1
      rw [D.pq, D.ff, Nat.add_sub_cancel_left] at ka2
      rw [D.nx] at kt
      have hsd1 : 1 ≤ (pcA ps p).an.getD r 0 ∧ (pcA ps p).an.getD r 0 ≤ 359 := hi1.2
      have hsd2 : 1 ≤ (pcA ps p).an.getD q 0 ∧ (pcA ps p).an.getD q 0 ≤ 359 := hi2.2
      by_cases hg : d < 1 ∨ (pcA ps p).an.getD r 0 - d < 1 ∨ 359 < (pcA ps p).an.getD q 0 + d
      · rw [if_pos hg]
        refine fn_enter Tryz.func26 rfl Tryz.ntmps26 (by simp) ?_
        repeat' (first | ((with_reducible apply kP (.box 25 _)); refine sBA (fun b2 => ?_)) | ((with_reducible apply kP (.alloc 25)); refine sA (fun b4 => ?_)) | ((with_reducible apply kF 6); refine sC 6 (kv _ SBt) ?_) | ((with_reducible apply kF 28); refine sR 28 (ks _ SBt) ?_; rintro v7 h7 ⟨blk7, ⟨s, k1, k2, k3, rfl, q1, q2, q3, q4, hR, rfl⟩, rfl⟩) | ((with_reducible apply kRg 12); refine cD [1, 1, 1, 1, 1, 1, 1, 1, 1, 1, 1, 1, 1, 1, 1, 1, 1, 1, 1, 1, 4] ?_) | ((with_reducible apply kRg 13); refine cD [1, 1, 1, 1, 1, 1, 1, 1, 1, 1, 1, 1, 1, 1, 1, 1, 1, 1, 1, 1, 4] ?_) | (with_reducible first | refine c_seq ?_ | refine c_reg ?_ | refine c_region ?_ | refine c_block ?_ | refine c_skip ?_ | refine c_exit ?_ | refine c_ret ?_ | refine s_nil ?_ | refine x_then ?_ | refine x_then_exit ?_ | refine x_then_ret ?_ | refine x_block ?_ | refine x_block_ret ?_ | refine x_block_same ?_ | refine x_block_other (by first | rfl | decide) ?_ | refine q_nil ?_ | refine k_nil ?_) | ((with_reducible apply kG); first | refine gY1 ?_ | refine gN1 ?_ | refine gU1 ?_ | (refine gD1 (fun h => ?_) (fun h => ?_) <;> (try (exfalso; omega))) | refine gB1 (fun h => ?_) (fun h => ?_)) | ((with_reducible apply kN); first | refine stP ?_ | refine stI ?_ | refine st1 ?_ | refine stW ?_) | ((with_reducible apply kP (.alloc _)); refine sA (fun b => ?_)) | ((with_reducible apply kP (.box _ _)); first | refine sBA (fun b => ?_) | refine sB (fun b => ?_)) | ((with_reducible apply kP _); refine sP ?_) | ((with_reducible apply kP _); refine sX ?_) | ((with_reducible apply kC); first | refine cT ?_ | refine cF ?_ | (refine cI (fun h => ?_) (fun h => ?_) <;> (try (exfalso; omega))) | refine cB (fun h => ?_) (fun h => ?_)) | ((with_reducible apply kDN); first | refine dtI ?_ | refine dt1 ?_ | refine dtW ?_) | ((with_reducible apply kDP _); refine dP ?_) | ((with_reducible apply kDP _); refine dX ?_))
        subst q1 q2 q3 q4
        have hA := SewR.at (hC.sub (hs' := (b4, [.slice none 0 0, .slice none 0 0, .int .i64 0]) :: (b2, [.slice s.oP ps.length cP, .slice s.oS s.nS cS, iv s.e]) :: hs) (.cons _ (.cons _ (.refl _)))) hR
        have hme := fun hs' h => hA.me' (hs' := hs') h
        have hp1 := fun hs' h => hA.pc (hs' := hs') h hx'
        have hf1 := fun hs' h => hA.fs (hs' := hs') h D.hp
        rw [D.pc] at hp1
        rw [D.ff] at hf1
        have i1 := hA.s1 hx'
        have i2 := hA.s2 D.hp
        have hxr := D.xr
        have hff := D.hf
        have hkk := D.hk
        have haa := D.ha
        have hpp := D.hp
        have hrr := D.hr
        have hqq := D.hq
        repeat' (first | ((with_reducible apply kP (.load 27 (.tmp 27))); refine sP ?_ (o_load rfl (ld_one (shTOf rfl) (own (hme _ SBt) rfl)))) | ((with_reducible apply kDP (.load 27 (.tmp 27))); refine dP ?_ (hX := rfl) (hv := o_load rfl (ld_one (shTOf rfl) (own (hme _ SBt) rfl)))) | ((with_reducible apply kQO (.load 27 (.tmp 27))); refine qP ?_ (o_load rfl (ld_one (shTOf rfl) (own (hme _ SBt) rfl)))) | ((with_reducible apply kF 44); refine sC 44 (kt s _ (hA.sub SBt)) ?_) | ((with_reducible apply kF 16); refine sC 16 (k_within _ _ _ B w0 _) ?_) | ((with_reducible apply kF 45); refine sC 45 (ka1 s _ (hA.sub SBt)) ?_) | ((with_reducible apply kF 45); refine sC 45 (ka2 s _ (hA.sub SBt)) ?_) | ((with_reducible apply kN); refine stW ?_ (hf := flat_cons rfl (flat_cons rfl (flat1 rfl)))) | ((with_reducible apply kRg 12); refine cD [1, 1, 1, 1, 1, 1, 1, 1, 1, 1, 1, 1, 1, 1, 1, 1, 1, 1, 1, 1, 4] ?_) | ((with_reducible apply kRg 13); refine cD [1, 1, 1, 1, 1, 1, 1, 1, 1, 1, 1, 1, 1, 1, 1, 1, 1, 1, 1, 1, 4] ?_) | (with_reducible first | refine c_seq ?_ | refine c_reg ?_ | refine c_region ?_ | refine c_block ?_ | refine c_skip ?_ | refine c_exit ?_ | refine c_ret ?_ | refine s_nil ?_ | refine x_then ?_ | refine x_then_exit ?_ | refine x_then_ret ?_ | refine x_block ?_ | refine x_block_ret ?_ | refine x_block_same ?_ | refine x_block_other (by first | rfl | decide) ?_ | refine q_nil ?_ | refine k_nil ?_) | ((with_reducible apply kG); first | refine gY1 ?_ | refine gN1 ?_ | refine gU1 ?_ | (refine gD1 (fun h => ?_) (fun h => ?_) <;> (try (exfalso; omega))) | refine gB1 (fun h => ?_) (fun h => ?_)) | ((with_reducible apply kN); first | refine stP ?_ | refine stI ?_ | refine st1 ?_ | refine stW ?_) | ((with_reducible apply kP (.alloc _)); refine sA (fun b => ?_)) | ((with_reducible apply kP (.box _ _)); first | refine sBA (fun b => ?_) | refine sB (fun b => ?_)) | ((with_reducible apply kP _); refine sP ?_) | ((with_reducible apply kP _); refine sX ?_) | ((with_reducible apply kC); first | refine cT ?_ | refine cF ?_ | (refine cI (fun h => ?_) (fun h => ?_) <;> (try (exfalso; omega))) | refine cB (fun h => ?_) (fun h => ?_)) | ((with_reducible apply kDN); first | refine dtI ?_ | refine dt1 ?_ | refine dtW ?_) | ((with_reducible apply kDP _); refine dP ?_) | ((with_reducible apply kDP _); refine dX ?_))
        all_goals first
          | exact e_ret2 (hs' := hs) rfl ⟨_, rfl, ld_whole (shTOf rfl) MDt rfl⟩ rfl (.inl ⟨by decide, rfl, rfl⟩) SCt
          | (exfalso; omega)
          | trace_state
      · rw [if_neg hg]
        have kc := fun hs' (h : hs.Sublist hs') => k_copyCap ps oP oS cP m cS sm e (by omega) V.n1 (vdC_ok V) hsm (by omega) B w0 hs' (hC.sub h)
        refine fn_enter Tryz.func26 rfl Tryz.ntmps26 (by simp) ?_
        repeat' (first | ((with_reducible apply kP (.box 25 _)); refine sBA (fun b2 => ?_)) | ((with_reducible apply kP (.alloc 25)); refine sA (fun b4 => ?_)) | ((with_reducible apply kF 6); refine sC 6 (kv _ SBt) ?_) | ((with_reducible apply kF 28); refine sR 28 (ks _ SBt) ?_; rintro v7 h7 ⟨blk7, ⟨s, k1, k2, k3, rfl, q1, q2, q3, q4, hR, rfl⟩, rfl⟩) | ((with_reducible apply kRg 12); refine cD [1, 1, 1, 1, 1, 1, 1, 1, 1, 1, 1, 1, 1, 1, 1, 1, 1, 1, 1, 1, 4] ?_) | ((with_reducible apply kRg 13); refine cD [1, 1, 1, 1, 1, 1, 1, 1, 1, 1, 1, 1, 1, 1, 1, 1, 1, 1, 1, 1, 4] ?_) | (with_reducible first | refine c_seq ?_ | refine c_reg ?_ | refine c_region ?_ | refine c_block ?_ | refine c_skip ?_ | refine c_exit ?_ | refine c_ret ?_ | refine s_nil ?_ | refine x_then ?_ | refine x_then_exit ?_ | refine x_then_ret ?_ | refine x_block ?_ | refine x_block_ret ?_ | refine x_block_same ?_ | refine x_block_other (by first | rfl | decide) ?_ | refine q_nil ?_ | refine k_nil ?_) | ((with_reducible apply kG); first | refine gY1 ?_ | refine gN1 ?_ | refine gU1 ?_ | (refine gD1 (fun h => ?_) (fun h => ?_) <;> (try (exfalso; omega))) | refine gB1 (fun h => ?_) (fun h => ?_)) | ((with_reducible apply kN); first | refine stP ?_ | refine stI ?_ | refine st1 ?_ | refine stW ?_) | ((with_reducible apply kP (.alloc _)); refine sA (fun b => ?_)) | ((with_reducible apply kP (.box _ _)); first | refine sBA (fun b => ?_) | refine sB (fun b => ?_)) | ((with_reducible apply kP _); refine sP ?_) | ((with_reducible apply kP _); refine sX ?_) | ((with_reducible apply kC); first | refine cT ?_ | refine cF ?_ | (refine cI (fun h => ?_) (fun h => ?_) <;> (try (exfalso; omega))) | refine cB (fun h => ?_) (fun h => ?_)) | ((with_reducible apply kDN); first | refine dtI ?_ | refine dt1 ?_ | refine dtW ?_) | ((with_reducible apply kDP _); refine dP ?_) | ((with_reducible apply kDP _); refine dX ?_))
        subst q1 q2 q3 q4
        have hA := SewR.at (hC.sub (hs' := (b4, [.slice none 0 0, .slice none 0 0, .int .i64 0]) :: (b2, [.slice s.oP ps.length cP, .slice s.oS s.nS cS, iv s.e]) :: hs) (.cons _ (.cons _ (.refl _)))) hR
        have hme := fun hs' h => hA.me' (hs' := hs') h
        have hp1 := fun hs' h => hA.pc (hs' := hs') h hx'
        have hf1 := fun hs' h => hA.fs (hs' := hs') h D.hp
        rw [D.pc] at hp1
        rw [D.ff] at hf1
        have i1 := hA.s1 hx'
        have i2 := hA.s2 D.hp
        have hxr := D.xr
        have hff := D.hf
        have hkk := D.hk
        have haa := D.ha
        have hpp := D.hp
        have hrr := D.hr
        have hqq := D.hq
        have hj1 : (x : Int) - (f : Int) = (r : Int) := by omega
        have hj2 : ((f + q : Nat) : Int) - (f : Int) = (q : Int) := by omega
        have hne : r ≠ q := by rw [D.he]; split <;> omega
        have gr1 : ∀ z : List Value, (ivs (pcA ps p).an ++ z)[r]? = some (iv ((pcA ps p).an.getD r 0)) := fun z => by
          rw [List.getElem?_append_left (by rw [ivs_length]; omega)]; exact ivs_get (by omega)
        have gq1 : ∀ (z : List Value) v, ((ivs (pcA ps p).an ++ z).set r v)[q]? = some (iv ((pcA ps p).an.getD q 0)) := fun z v => by
          rw [List.getElem?_set_ne hne, List.getElem?_append_left (by rw [ivs_length]; omega)]; exact ivs_get (by omega)
        have gl1 : ∀ z : List Value, r < (ivs (pcA ps p).an ++ z).length := fun z => by rw [List.length_append, ivs_length]; omega
        have gl2 : ∀ (z : List Value) v, q < ((ivs (pcA ps p).an ++ z).set r v).length := fun z v => by rw [List.length_set, List.length_append, ivs_length]; omega
        have gg : ∀ (z : List Value) (v w : Int), ((ivs (pcA ps p).an ++ z).set r (iv v)).set q (iv w) = ivs (((pcA ps p).an.set r v).set q w) ++ z := fun z v w => by
          rw [ivs_setz _ (by omega), ivs_setz _ (by rw [List.length_set]; omega)]
        repeat' (first | ((with_reducible apply kP (.load 27 (.tmp 27))); refine sP ?_ (o_load rfl (ld_one (shTOf rfl) (own (hme _ SBt) rfl)))) | ((with_reducible apply kDP (.load 27 (.tmp 27))); refine dP ?_ (hX := rfl) (hv := o_load rfl (ld_one (shTOf rfl) (own (hme _ SBt) rfl)))) | ((with_reducible apply kQO (.load 27 (.tmp 27))); refine qP ?_ (o_load rfl (ld_one (shTOf rfl) (own (hme _ SBt) rfl)))) | ((with_reducible apply kF 44); refine sC 44 (kt s _ (hA.sub SBt)) ?_) | ((with_reducible apply kF 16); refine sC 16 (k_within _ _ _ B w0 _) ?_) | ((with_reducible apply kF 45); refine sC 45 (ka1 s _ (hA.sub SBt)) ?_) | ((with_reducible apply kF 45); refine sC 45 (ka2 s _ (hA.sub SBt)) ?_) | ((with_reducible apply kN); refine stW ?_ (hf := flat_cons rfl (flat_cons rfl (flat1 rfl)))) | ((with_reducible apply kF 42); refine sR 42 (kc _ SBt) ?_; rintro v7 h7 ⟨blk7, hcp, rfl⟩; obtain ⟨oP', cP', oS', cS', cb, bb, z, F1, F2, rfl, rfl, iP, hcl, hcp'⟩ := hcp.atA D.hp (by omega); rw [List.append_assoc, List.cons_append]) | ((with_reducible apply kP (.load 27 (.tmp 60))); refine sP ?_ (o_load rfl (ld_one (shTOf rfl) (own (hme _ SBt) rfl)))) | ((with_reducible apply kDP (.load 27 (.tmp 60))); refine dP ?_ (hX := rfl) (hv := o_load rfl (ld_one (shTOf rfl) (own (hme _ SBt) rfl)))) | ((with_reducible apply kQO (.load 27 (.tmp 60))); refine qP ?_ (o_load rfl (ld_one (shTOf rfl) (own (hme _ SBt) rfl)))) | ((with_reducible apply kP (.load 3 (.tmp 63))); refine sP ?_ (o_load rfl (ld_one (shTOf rfl) (hp1 _ SBt)))) | ((with_reducible apply kDP (.load 3 (.tmp 63))); refine dP ?_ (hX := rfl) (hv := o_load rfl (ld_one (shTOf rfl) (hp1 _ SBt)))) | ((with_reducible apply kQO (.load 3 (.tmp 63))); refine qP ?_ (o_load rfl (ld_one (shTOf rfl) (hp1 _ SBt)))) | ((with_reducible apply kP (.fieldAddr _ _ _)); refine sP ?_ (o_fieldE rfl (by assumption) (foTOf2 rfl rfl) (by with_reducible first | exact bb0 _ | exact bb1 _ | exact bb2 _ _))) | ((with_reducible apply kDP (.fieldAddr _ _ _)); refine dP ?_ (hX := rfl) (hv := o_fieldE rfl (by assumption) (foTOf2 rfl rfl) (by with_reducible first | exact bb0 _ | exact bb1 _ | exact bb2 _ _))) | ((with_reducible apply kQO (.fieldAddr _ _ _)); refine qP ?_ (o_fieldE rfl (by assumption) (foTOf2 rfl rfl) (by with_reducible first | exact bb0 _ | exact bb1 _ | exact bb2 _ _))) | ((with_reducible apply kP (.load 27 (.tmp 69))); refine sP ?_ (o_load rfl (ld_one (shTOf rfl) (hcl B w0 _ (.cons _ sbL))))) | ((with_reducible apply kDP (.load 27 (.tmp 69))); refine dP ?_ (hX := rfl) (hv := o_load rfl (ld_one (shTOf rfl) (hcl B w0 _ (.cons _ sbL))))) | ((with_reducible apply kQO (.load 27 (.tmp 69))); refine qP ?_ (o_load rfl (ld_one (shTOf rfl) (hcl B w0 _ (.cons _ sbL))))) | ((with_reducible apply kP (.load 27 (.tmp 89))); refine sP ?_ (o_load rfl (ld_one (shTOf rfl) (hcl B w0 _ (.cons _ sbL))))) | ((with_reducible apply kDP (.load 27 (.tmp 89))); refine dP ?_ (hX := rfl) (hv := o_load rfl (ld_one (shTOf rfl) (hcl B w0 _ (.cons _ sbL))))) | ((with_reducible apply kQO (.load 27 (.tmp 89))); refine qP ?_ (o_load rfl (ld_one (shTOf rfl) (hcl B w0 _ (.cons _ sbL))))) | ((with_reducible apply kP (.load 27 (.tmp 74))); refine sP ?_ (o_load rfl (ld_one (shTOf rfl) (own (hme _ SBt) rfl)))) | ((with_reducible apply kDP (.load 27 (.tmp 74))); refine dP ?_ (hX := rfl) (hv := o_load rfl (ld_one (shTOf rfl) (own (hme _ SBt) rfl)))) | ((with_reducible apply kQO (.load 27 (.tmp 74))); refine qP ?_ (o_load rfl (ld_one (shTOf rfl) (own (hme _ SBt) rfl)))) | ((with_reducible apply kP (.load 27 (.tmp 94))); refine sP ?_ (o_load rfl (ld_one (shTOf rfl) (own (hme _ SBt) rfl)))) | ((with_reducible apply kDP (.load 27 (.tmp 94))); refine dP ?_ (hX := rfl) (hv := o_load rfl (ld_one (shTOf rfl) (own (hme _ SBt) rfl)))) | ((with_reducible apply kQO (.load 27 (.tmp 94))); refine qP ?_ (o_load rfl (ld_one (shTOf rfl) (own (hme _ SBt) rfl)))) | ((with_reducible apply kP (.load 3 (.tmp 77))); refine sP ?_ (o_load rfl (ld_one (shTOf rfl) (hf1 _ SBt)))) | ((with_reducible apply kDP (.load 3 (.tmp 77))); refine dP ?_ (hX := rfl) (hv := o_load rfl (ld_one (shTOf rfl) (hf1 _ SBt)))) | ((with_reducible apply kQO (.load 3 (.tmp 77))); refine qP ?_ (o_load rfl (ld_one (shTOf rfl) (hf1 _ SBt)))) | ((with_reducible apply kP (.load 3 (.tmp 97))); refine sP ?_ (o_load rfl (ld_one (shTOf rfl) (hf1 _ SBt)))) | ((with_reducible apply kDP (.load 3 (.tmp 97))); refine dP ?_ (hX := rfl) (hv := o_load rfl (ld_one (shTOf rfl) (hf1 _ SBt)))) | ((with_reducible apply kQO (.load 3 (.tmp 97))); refine qP ?_ (o_load rfl (ld_one (shTOf rfl) (hf1 _ SBt)))) | ((with_reducible apply kP (.indexAddr 27 (.tmp 70) _)); refine sP ?_ (o_indexB (scTOf rfl) rfl rfl hj1 (aa0 _) (by omega))) | ((with_reducible apply kDP (.indexAddr 27 (.tmp 70) _)); refine dP ?_ (hX := rfl) (hv := o_indexB (scTOf rfl) rfl rfl hj1 (aa0 _) (by omega))) | ((with_reducible apply kQO (.indexAddr 27 (.tmp 70) _)); refine qP ?_ (o_indexB (scTOf rfl) rfl rfl hj1 (aa0 _) (by omega))) | ((with_reducible apply kP (.indexAddr 27 (.tmp 90) _)); refine sP ?_ (o_indexB (scTOf rfl) rfl rfl hj2 (aa0 _) (by omega))) | ((with_reducible apply kDP (.indexAddr 27 (.tmp 90) _)); refine dP ?_ (hX := rfl) (hv := o_indexB (scTOf rfl) rfl rfl hj2 (aa0 _) (by omega))) | ((with_reducible apply kQO (.indexAddr 27 (.tmp 90) _)); refine qP ?_ (o_indexB (scTOf rfl) rfl rfl hj2 (aa0 _) (by omega))) | ((with_reducible apply kP (.load 3 (.tmp 80))); refine sP ?_ (o_load rfl (ld_one (shTOf rfl) (own MMt (gr1 _))))) | ((with_reducible apply kDP (.load 3 (.tmp 80))); refine dP ?_ (hX := rfl) (hv := o_load rfl (ld_one (shTOf rfl) (own MMt (gr1 _))))) | ((with_reducible apply kQO (.load 3 (.tmp 80))); refine qP ?_ (o_load rfl (ld_one (shTOf rfl) (own MMt (gr1 _))))) | ((with_reducible apply kP (.load 3 (.tmp 100))); refine sP ?_ (o_load rfl (ld_one (shTOf rfl) (own MMt (gq1 _ _))))) | ((with_reducible apply kDP (.load 3 (.tmp 100))); refine dP ?_ (hX := rfl) (hv := o_load rfl (ld_one (shTOf rfl) (own MMt (gq1 _ _))))) | ((with_reducible apply kQO (.load 3 (.tmp 100))); refine qP ?_ (o_load rfl (ld_one (shTOf rfl) (own MMt (gq1 _ _))))) | ((with_reducible apply kDN); refine dt1 ?_ (hl := gl1 _)) | ((with_reducible apply kDN); refine dt1 ?_ (hl := gl2 _ _)) | ((with_reducible apply kRg 12); refine cD [1, 1, 1, 1, 1, 1, 1, 1, 1, 1, 1, 1, 1, 1, 1, 1, 1, 1, 1, 1, 4] ?_) | ((with_reducible apply kRg 13); refine cD [1, 1, 1, 1, 1, 1, 1, 1, 1, 1, 1, 1, 1, 1, 1, 1, 1, 1, 1, 1, 4] ?_) | (with_reducible first | refine c_seq ?_ | refine c_reg ?_ | refine c_region ?_ | refine c_block ?_ | refine c_skip ?_ | refine c_exit ?_ | refine c_ret ?_ | refine s_nil ?_ | refine x_then ?_ | refine x_then_exit ?_ | refine x_then_ret ?_ | refine x_block ?_ | refine x_block_ret ?_ | refine x_block_same ?_ | refine x_block_other (by first | rfl | decide) ?_ | refine q_nil ?_ | refine k_nil ?_) | ((with_reducible apply kG); first | refine gY1 ?_ | refine gN1 ?_ | refine gU1 ?_ | (refine gD1 (fun h => ?_) (fun h => ?_) <;> (try (exfalso; omega))) | refine gB1 (fun h => ?_) (fun h => ?_)) | ((with_reducible apply kN); first | refine stP ?_ | refine stI ?_ | refine st1 ?_ | refine stW ?_) | ((with_reducible apply kP (.alloc _)); refine sA (fun b => ?_)) | ((with_reducible apply kP (.box _ _)); first | refine sBA (fun b => ?_) | refine sB (fun b => ?_)) | ((with_reducible apply kP _); refine sP ?_) | ((with_reducible apply kP _); refine sX ?_) | ((with_reducible apply kC); first | refine cT ?_ | refine cF ?_ | (refine cI (fun h => ?_) (fun h => ?_) <;> (try (exfalso; omega))) | refine cB (fun h => ?_) (fun h => ?_)) | ((with_reducible apply kDN); first | refine dtI ?_ | refine dt1 ?_ | refine dtW ?_) | ((with_reducible apply kDP _); refine dP ?_) | ((with_reducible apply kDP _); refine dX ?_))
        all_goals try (exfalso; omega)
        have hgg : ((ivs (pcA ps p).an ++ z).set r (.int .i64 ((pcA ps p).an.getD r 0 - d))).set q (.int .i64 ((pcA ps p).an.getD q 0 + d)) = ivs (dtA (pcA ps p).an r q d) ++ z := gg z _ _
        rw [hgg]
        refine e_ret2 (hs' := (F1 ++ ((bb, ivs (dtA (pcA ps p).an r q d) ++ z) :: F2)) ++ hs) rfl ⟨_, rfl, ld_whole (shTOf rfl) MDt rfl⟩ rfl (.inr ⟨rfl, _, _, hcp' _ (dtA_len _ _ _ _), rfl, rfl⟩) ?_
        rw [List.append_assoc, List.cons_append]
        exact .cons _ (.append (.refl _) (.cons_cons _ (.append (.refl _) (sbA (.cons _ (.cons _ (.refl _)))))))
    · rw [if_pos hx]
      have hx3 : ¬ (0 ≤ x ∧ x < (fsN (sdF ps) ps.length : Int)) := hx
      have hN' : fsN (sdF ps) ps.length ≤ 48 := hN
      by_cases hx0 : x < 0
      · refine fn_enter Tryz.func26 rfl Tryz.ntmps26 (by simp) ?_
        repeat' (first | ((with_reducible apply kP (.box 25 _)); refine sBA (fun b2 => ?_)) | ((with_reducible apply kP (.alloc 25)); refine sA (fun b4 => ?_)) | ((with_reducible apply kF 6); refine sC 6 (kv _ SBt) ?_) | ((with_reducible apply kF 28); refine sR 28 (ks _ SBt) ?_; rintro v7 h7 ⟨blk7, ⟨s, k1, k2, k3, rfl, q1, q2, q3, q4, hR, rfl⟩, rfl⟩) | ((with_reducible apply kN); refine stW ?_ (hf := flat_cons rfl (flat_cons rfl (flat1 rfl)))) | ((with_reducible apply kRg 12); refine cD [1, 1, 1, 1, 1, 1, 1, 1, 1, 1, 1, 1, 1, 1, 1, 1, 1, 1, 1, 1, 4] ?_) | ((with_reducible apply kRg 13); refine cD [1, 1, 1, 1, 1, 1, 1, 1, 1, 1, 1, 1, 1, 1, 1, 1, 1, 1, 1, 1, 4] ?_) | (with_reducible first | refine c_seq ?_ | refine c_reg ?_ | refine c_region ?_ | refine c_block ?_ | refine c_skip ?_ | refine c_exit ?_ | refine c_ret ?_ | refine s_nil ?_ | refine x_then ?_ | refine x_then_exit ?_ | refine x_then_ret ?_ | refine x_block ?_ | refine x_block_ret ?_ | refine x_block_same ?_ | refine x_block_other (by first | rfl | decide) ?_ | refine q_nil ?_ | refine k_nil ?_) | ((with_reducible apply kG); first | refine gY1 ?_ | refine gN1 ?_ | refine gU1 ?_ | (refine gD1 (fun h => ?_) (fun h => ?_) <;> (try (exfalso; omega))) | refine gB1 (fun h => ?_) (fun h => ?_)) | ((with_reducible apply kN); first | refine stP ?_ | refine stI ?_ | refine st1 ?_ | refine stW ?_) | ((with_reducible apply kP (.alloc _)); refine sA (fun b => ?_)) | ((with_reducible apply kP (.box _ _)); first | refine sBA (fun b => ?_) | refine sB (fun b => ?_)) | ((with_reducible apply kP _); refine sP ?_) | ((with_reducible apply kP _); refine sX ?_) | ((with_reducible apply kC); first | refine cT ?_ | refine cF ?_ | (refine cI (fun h => ?_) (fun h => ?_) <;> (try (exfalso; omega))) | refine cB (fun h => ?_) (fun h => ?_)) | ((with_reducible apply kDN); first | refine dtI ?_ | refine dt1 ?_ | refine dtW ?_) | ((with_reducible apply kDP _); refine dP ?_) | ((with_reducible apply kDP _); refine dX ?_))
        all_goals try (exfalso; omega)
        exact e_ret2 (hs' := hs) rfl ⟨_, rfl, ld_whole (shTOf rfl) MDt rfl⟩ rfl (.inl ⟨by decide, rfl, rfl⟩) (sbA (.cons _ (.cons _ (.refl _))))
      · refine fn_enter Tryz.func26 rfl Tryz.ntmps26 (by simp) ?_
        repeat' (first | ((with_reducible apply kP (.box 25 _)); refine sBA (fun b2 => ?_)) | ((with_reducible apply kP (.alloc 25)); refine sA (fun b4 => ?_)) | ((with_reducible apply kF 6); refine sC 6 (kv _ SBt) ?_) | ((with_reducible apply kF 28); refine sR 28 (ks _ SBt) ?_; rintro v7 h7 ⟨blk7, ⟨s, k1, k2, k3, rfl, q1, q2, q3, q4, hR, rfl⟩, rfl⟩) | ((with_reducible apply kRg 12); refine cD [1, 1, 1, 1, 1, 1, 1, 1, 1, 1, 1, 1, 1, 1, 1, 1, 1, 1, 1, 1, 4] ?_) | ((with_reducible apply kRg 13); refine cD [1, 1, 1, 1, 1, 1, 1, 1, 1, 1, 1, 1, 1, 1, 1, 1, 1, 1, 1, 1, 4] ?_) | (with_reducible first | refine c_seq ?_ | refine c_reg ?_ | refine c_region ?_ | refine c_block ?_ | refine c_skip ?_ | refine c_exit ?_ | refine c_ret ?_ | refine s_nil ?_ | refine x_then ?_ | refine x_then_exit ?_ | refine x_then_ret ?_ | refine x_block ?_ | refine x_block_ret ?_ | refine x_block_same ?_ | refine x_block_other (by first | rfl | decide) ?_ | refine q_nil ?_ | refine k_nil ?_) | ((with_reducible apply kG); first | refine gY1 ?_ | refine gN1 ?_ | refine gU1 ?_ | (refine gD1 (fun h => ?_) (fun h => ?_) <;> (try (exfalso; omega))) | refine gB1 (fun h => ?_) (fun h => ?_)) | ((with_reducible apply kN); first | refine stP ?_ | refine stI ?_ | refine st1 ?_ | refine stW ?_) | ((with_reducible apply kP (.alloc _)); refine sA (fun b => ?_)) | ((with_reducible apply kP (.box _ _)); first | refine sBA (fun b => ?_) | refine sB (fun b => ?_)) | ((with_reducible apply kP _); refine sP ?_) | ((with_reducible apply kP _); refine sX ?_) | ((with_reducible apply kC); first | refine cT ?_ | refine cF ?_ | (refine cI (fun h => ?_) (fun h => ?_) <;> (try (exfalso; omega))) | refine cB (fun h => ?_) (fun h => ?_)) | ((with_reducible apply kDN); first | refine dtI ?_ | refine dt1 ?_ | refine dtW ?_) | ((with_reducible apply kDP _); refine dP ?_) | ((with_reducible apply kDP _); refine dX ?_))
        all_goals try (exfalso; omega)
        subst q1 q2 q3 q4
        have hA := SewR.at (hC.sub (hs' := (b4, [.slice none 0 0, .slice none 0 0, .int .i64 0]) :: (b2, [.slice s.oP ps.length cP, .slice s.oS s.nS cS, iv s.e]) :: hs) (.cons _ (.cons _ (.refl _)))) hR
        have hme := fun hs' h => hA.me' (hs' := hs') h
        repeat' (first | ((with_reducible apply kP (.load 27 (.tmp 27))); refine sP ?_ (o_load rfl (ld_one (shTOf rfl) (own (hme _ SBt) rfl)))) | ((with_reducible apply kDP (.load 27 (.tmp 27))); refine dP ?_ (hX := rfl) (hv := o_load rfl (ld_one (shTOf rfl) (own (hme _ SBt) rfl)))) | ((with_reducible apply kQO (.load 27 (.tmp 27))); refine qP ?_ (o_load rfl (ld_one (shTOf rfl) (own (hme _ SBt) rfl)))) | ((with_reducible apply kN); refine stW ?_ (hf := flat_cons rfl (flat_cons rfl (flat1 rfl)))) | ((with_reducible apply kRg 12); refine cD [1, 1, 1, 1, 1, 1, 1, 1, 1, 1, 1, 1, 1, 1, 1, 1, 1, 1, 1, 1, 4] ?_) | ((with_reducible apply kRg 13); refine cD [1, 1, 1, 1, 1, 1, 1, 1, 1, 1, 1, 1, 1, 1, 1, 1, 1, 1, 1, 1, 4] ?_) | (with_reducible first | refine c_seq ?_ | refine c_reg ?_ | refine c_region ?_ | refine c_block ?_ | refine c_skip ?_ | refine c_exit ?_ | refine c_ret ?_ | refine s_nil ?_ | refine x_then ?_ | refine x_then_exit ?_ | refine x_then_ret ?_ | refine x_block ?_ | refine x_block_ret ?_ | refine x_block_same ?_ | refine x_block_other (by first | rfl | decide) ?_ | refine q_nil ?_ | refine k_nil ?_) | ((with_reducible apply kG); first | refine gY1 ?_ | refine gN1 ?_ | refine gU1 ?_ | (refine gD1 (fun h => ?_) (fun h => ?_) <;> (try (exfalso; omega))) | refine gB1 (fun h => ?_) (fun h => ?_)) | ((with_reducible apply kN); first | refine stP ?_ | refine stI ?_ | refine st1 ?_ | refine stW ?_) | ((with_reducible apply kP (.alloc _)); refine sA (fun b => ?_)) | ((with_reducible apply kP (.box _ _)); first | refine sBA (fun b => ?_) | refine sB (fun b => ?_)) | ((with_reducible apply kP _); refine sP ?_) | ((with_reducible apply kP _); refine sX ?_) | ((with_reducible apply kC); first | refine cT ?_ | refine cF ?_ | (refine cI (fun h => ?_) (fun h => ?_) <;> (try (exfalso; omega))) | refine cB (fun h => ?_) (fun h => ?_)) | ((with_reducible apply kDN); first | refine dtI ?_ | refine dt1 ?_ | refine dtW ?_) | ((with_reducible apply kDP _); refine dP ?_) | ((with_reducible apply kDP _); refine dX ?_))
        all_goals try (exfalso; omega)
        exact e_ret2 (hs' := hs) rfl ⟨_, rfl, ld_whole (shTOf rfl) MDt rfl⟩ rfl (.inl ⟨by decide, rfl, rfl⟩) (sbA (.cons _ (.cons _ (.refl _))))
  · rw [if_pos hv]
    have hv' : vdE ps.length (sdF ps) (anF ps) m sm e ≠ 0 := hv
    have hv2 : vdC ps sm m e = vdE ps.length (sdF ps) (anF ps) m sm e := rfl
    rw [hv2]
    generalize vdE ps.length (sdF ps) (anF ps) m sm e = z at *
    refine fn_enter Tryz.func26 rfl Tryz.ntmps26 (by simp) ?_
    repeat' (first | ((with_reducible apply kP (.box 25 _)); refine sBA (fun b2 => ?_)) | ((with_reducible apply kP (.alloc 25)); refine sA (fun b4 => ?_)) | ((with_reducible apply kF 6); refine sC 6 (kv _ SBt) ?_) | ((with_reducible apply kN); refine stW ?_ (hf := flat_cons rfl (flat_cons rfl (flat1 rfl)))) | ((with_reducible apply kRg 12); refine cD [1, 1, 1, 1, 1, 1, 1, 1, 1, 1, 1, 1, 1, 1, 1, 1, 1, 1, 1, 1, 4] ?_) | ((with_reducible apply kRg 13); refine cD [1, 1, 1, 1, 1, 1, 1, 1, 1, 1, 1, 1, 1, 1, 1, 1, 1, 1, 1, 1, 4] ?_) | (with_reducible first | refine c_seq ?_ | refine c_reg ?_ | refine c_region ?_ | refine c_block ?_ | refine c_skip ?_ | refine c_exit ?_ | refine c_ret ?_ | refine s_nil ?_ | refine x_then ?_ | refine x_then_exit ?_ | refine x_then_ret ?_ | refine x_block ?_ | refine x_block_ret ?_ | refine x_block_same ?_ | refine x_block_other (by first | rfl | decide) ?_ | refine q_nil ?_ | refine k_nil ?_) | ((with_reducible apply kG); first | refine gY1 ?_ | refine gN1 ?_ | refine gU1 ?_ | (refine gD1 (fun h => ?_) (fun h => ?_) <;> (try (exfalso; omega))) | refine gB1 (fun h => ?_) (fun h => ?_)) | ((with_reducible apply kN); first | refine stP ?_ | refine stI ?_ | refine st1 ?_ | refine stW ?_) | ((with_reducible apply kP (.alloc _)); refine sA (fun b => ?_)) | ((with_reducible apply kP (.box _ _)); first | refine sBA (fun b => ?_) | refine sB (fun b => ?_)) | ((with_reducible apply kP _); refine sP ?_) | ((with_reducible apply kP _); refine sX ?_) | ((with_reducible apply kC); first | refine cT ?_ | refine cF ?_ | (refine cI (fun h => ?_) (fun h => ?_) <;> (try (exfalso; omega))) | refine cB (fun h => ?_) (fun h => ?_)) | ((with_reducible apply kDN); first | refine dtI ?_ | refine dt1 ?_ | refine dtW ?_) | ((with_reducible apply kDP _); refine dP ?_) | ((with_reducible apply kDP _); refine dX ?_))
    exact e_ret2 (hs' := hs) rfl ⟨_, rfl, ld_whole (shTOf rfl) MDt rfl⟩ rfl (.inl ⟨hv', rfl, rfl⟩) SCt
end Go.Proofs.YtnbickholedckaaGreatDoor
namespace Go.Proofs.YtnbickholedckaaGreatDoor
open Go.RowKit
theorem md_add {i u k : Nat} (hi : i < k) (hu : u ≤ k) : (i + u) % k = if i + u < k then i + u else i + u - k := by
  split
  · rename_i h; exact Nat.mod_eq_of_lt h
  · rename_i h
    rw [Nat.mod_eq_sub_mod (by omega)]
    exact Nat.mod_eq_of_lt (by omega)
theorem md_back {i u k : Nat} (hi : i < k) (hu : u < k) : ((i + u) % k + k - i) % k = u := by
  rw [md_add hi (by omega)]
  split
  · rw [show i + u + k - i = u + k by omega, Nat.add_mod_right]; exact Nat.mod_eq_of_lt hu
  · rw [show i + u - k + k - i = u by omega]; exact Nat.mod_eq_of_lt hu
theorem md_fwd {i t k : Nat} (hi : i < k) (ht : t < k) : (i + (t + k - i) % k) % k = t ∧ (t + k - i) % k < k := by
  refine ⟨?_, Nat.mod_lt _ (by omega)⟩
  rw [Nat.add_mod_mod, show i + (t + k - i) = t + k by omega, Nat.add_mod_right]
  exact Nat.mod_eq_of_lt ht
theorem sum_rot (F : Nat → Int) {i k : Nat} (hi : i < k) : sumTo (fun u => F ((i + u) % k)) k = sumTo F k := by
  have e1 := sumTo_addn (fun u => F ((i + u) % k)) (k - i) i
  have e2 := sumTo_addn F i (k - i)
  rw [show k - i + i = k by omega] at e1
  rw [show i + (k - i) = k by omega] at e2
  rw [e1, e2]
  have e3 : sumTo (fun u => F ((i + u) % k)) (k - i) = sumTo (fun u => F (i + u)) (k - i) := sumTo_congr _ fun u hu => by
    show F ((i + u) % k) = F (i + u)
    rw [Nat.mod_eq_of_lt (by omega)]
  have e4 : sumTo (fun u => F ((i + (k - i + u)) % k)) i = sumTo F i := sumTo_congr _ fun u hu => by
    show F ((i + (k - i + u)) % k) = F u
    rw [show i + (k - i + u) = u + k by omega, Nat.add_mod_right, Nat.mod_eq_of_lt (by omega)]
  rw [e3, e4]; omega
/-- So many of a row from one on, around, and one more. -/
def ptl (l : List Int) (i s : Nat) (z : Int) : List Int := (tab s fun t => l.getD ((i + t) % l.length) 0) ++ [z]
theorem ptl_len (l : List Int) (i s : Nat) (z : Int) : (ptl l i s z).length = s + 1 := by simp [ptl, tab_length]
theorem ptl_at {l : List Int} {i s t : Nat} {z : Int} (h : t < s) : (ptl l i s z).getD t 0 = l.getD ((i + t) % l.length) 0 := by
  unfold ptl
  have := tab_getD (fun t => l.getD ((i + t) % l.length) 0) h
  rw [List.getD_eq_getElem?_getD] at this ⊢
  rw [List.getElem?_append_left (by rw [tab_length]; exact h), this]
theorem ptl_last {l : List Int} {i s : Nat} {z : Int} : (ptl l i s z).getD s 0 = z := by
  unfold ptl
  rw [List.getD_eq_getElem?_getD, List.getElem?_append_right (by rw [tab_length]; exact Nat.le_refl _), tab_length]
  simp
def sdS (sd : Nat → List Int) (P p i s : Nat) (z : Int) (q : Nat) : List Int :=
  if q = p then ptl (sd p) i s z else if q = P then ptl (sd p) ((i + s) % (sd p).length) ((sd p).length - s) z else sd q
/-- Where a side is afterwards. -/
def nwS (sd : Nat → List Int) (P p i s : Nat) (z : Int) (a : Nat) : Nat :=
  if pcG sd P a = p then
    (if (a - fsN sd p + (sd p).length - i) % (sd p).length < s then fsN (sdS sd P p i s z) p + (a - fsN sd p + (sd p).length - i) % (sd p).length
     else fsN (sdS sd P p i s z) P + ((a - fsN sd p + (sd p).length - i) % (sd p).length - s))
  else fsN (sdS sd P p i s z) (pcG sd P a) + (a - fsN sd (pcG sd P a))
/-- What is asked of the line. -/
structure CutQ (sd : Nat → List Int) (P p i s : Nat) : Prop where
  hp : p < P
  hi : i < (sd p).length
  h2 : 2 ≤ s
  hs : s + 2 ≤ (sd p).length
section
variable {sd : Nat → List Int} {P p i s : Nat} {z : Int}
theorem sdS_len (c : CutQ sd P p i s) (q : Nat) : (sdS sd P p i s z q).length = if q = p then s + 1 else if q = P then (sd p).length - s + 1 else (sd q).length := by
  unfold sdS
  split
  · exact ptl_len _ _ _ _
  · split
    · exact ptl_len _ _ _ _
    · rfl
theorem fsS (c : CutQ sd P p i s) : ∀ q, q ≤ P → fsN (sdS sd P p i s z) q + (if p < q then (sd p).length else 0) = fsN sd q + (if p < q then s + 1 else 0)
  | 0, _ => rfl
  | q + 1, hq => by
    have ih := fsS c q (by omega)
    have hl := sdS_len (z := z) c q
    have h1 := c.hp
    simp only [fsN]
    rw [hl]
    by_cases e : q = p
    · subst e
      rw [if_neg (by omega), if_neg (by omega)] at ih
      rw [if_pos (by omega), if_pos (by omega), if_pos (by omega)]; omega
    · rw [if_neg e, if_neg (show ¬ q = P by omega)]
      by_cases h : p < q
      · rw [if_pos h, if_pos h] at ih; rw [if_pos (by omega), if_pos (by omega)]; omega
      · rw [if_neg h, if_neg h] at ih; rw [if_neg (by omega), if_neg (by omega)]; omega
theorem fsS_all (c : CutQ sd P p i s) : fsN (sdS sd P p i s z) (P + 1) = fsN sd P + 2 := by
  have h1 := fsS (z := z) c P (Nat.le_refl _)
  have hl := sdS_len (z := z) c P
  have := c.hp
  have := c.hs
  have h3 := fsN_mono (sd := sd) (p := p + 1) (q := P) (by omega)
  have h4 : fsN sd (p + 1) = fsN sd p + (sd p).length := rfl
  rw [if_pos c.hp, if_pos c.hp] at h1
  rw [if_neg (by omega), if_pos rfl] at hl
  simp only [fsN]
  rw [hl]
  omega
/-- A place of a piece. -/
theorem plS (c : CutQ sd P p i s) {q t : Nat} (hq : q ≤ P) (ht : t < (sdS sd P p i s z q).length) : fsN (sdS sd P p i s z) q + t < fsN sd P + 2 ∧ pcG (sdS sd P p i s z) (P + 1) (fsN (sdS sd P p i s z) q + t) = q := by
  have h1 := fsN_mono (sd := sdS sd P p i s z) (p := q + 1) (q := P + 1) (by omega)
  have h2 : fsN (sdS sd P p i s z) (q + 1) = fsN (sdS sd P p i s z) q + (sdS sd P p i s z q).length := rfl
  rw [fsS_all c] at h1
  exact ⟨by omega, pcG_uniq (by omega) (by omega) (by omega)⟩
theorem plS_inj (c : CutQ sd P p i s) {q t q' t' : Nat} (hq : q ≤ P) (ht : t < (sdS sd P p i s z q).length) (hq' : q' ≤ P) (ht' : t' < (sdS sd P p i s z q').length) (e : fsN (sdS sd P p i s z) q + t = fsN (sdS sd P p i s z) q' + t') : q = q' ∧ t = t' := by
  have h1 := (plS c hq ht).2
  have h2 := (plS c hq' ht').2
  rw [e, h2] at h1
  subst h1
  exact ⟨rfl, by omega⟩
/-- The sides of the piece that is cut, from the line on. -/
def auS (sd : Nat → List Int) (p i u : Nat) : Nat := fsN sd p + (i + u) % (sd p).length
theorem auS_ok (c : CutQ sd P p i s) {u : Nat} : auS sd p i u < fsN sd P ∧ pcG sd P (auS sd p i u) = p ∧ auS sd p i u - fsN sd p = (i + u) % (sd p).length := by
  have h1 := fsN_mono (sd := sd) (p := p + 1) (q := P) (by have := c.hp; omega)
  have h2 : fsN sd (p + 1) = fsN sd p + (sd p).length := rfl
  have h3 := Nat.mod_lt (i + u) (y := (sd p).length) (by have := c.hi; omega)
  unfold auS
  exact ⟨by omega, pcG_uniq (by omega) (by omega) c.hp, by omega⟩
theorem auS_all (c : CutQ sd P p i s) {a : Nat} (ha : a < fsN sd P) (hp : pcG sd P a = p) : ∃ u, u < (sd p).length ∧ a = auS sd p i u := by
  obtain ⟨h1, h2, h3⟩ := pcG_spec ha
  rw [hp] at h2 h3
  have h4 : fsN sd (p + 1) = fsN sd p + (sd p).length := rfl
  obtain ⟨m1, m2⟩ := md_fwd (t := a - fsN sd p) c.hi (by omega)
  refine ⟨_, m2, ?_⟩
  unfold auS
  rw [m1]; omega
theorem nw_au (c : CutQ sd P p i s) {u : Nat} (hu : u < (sd p).length) : nwS sd P p i s z (auS sd p i u) = if u < s then fsN (sdS sd P p i s z) p + u else fsN (sdS sd P p i s z) P + (u - s) := by
  obtain ⟨_, h2, h3⟩ := auS_ok c (u := u)
  unfold nwS
  rw [if_pos h2, h3, md_back c.hi hu]
theorem nw_o (_c : CutQ sd P p i s) {a : Nat} (h : pcG sd P a ≠ p) : nwS sd P p i s z a = fsN (sdS sd P p i s z) (pcG sd P a) + (a - fsN sd (pcG sd P a)) := by
  unfold nwS; rw [if_neg h]
/-- A side's new piece and place. -/
theorem nw_pl (c : CutQ sd P p i s) {a : Nat} (ha : a < fsN sd P) : ∃ q t, q ≤ P ∧ t < (sdS sd P p i s z q).length ∧ nwS sd P p i s z a = fsN (sdS sd P p i s z) q + t ∧ (q = p → t < s) ∧ (q = P → t < (sd p).length - s) ∧ (pcG sd P a = p → q = p ∨ q = P) ∧ (pcG sd P a ≠ p → q = pcG sd P a) ∧ (sdS sd P p i s z q).getD t 0 = (sd (pcG sd P a)).getD (a - fsN sd (pcG sd P a)) 0 := by
  have hp := c.hp
  have h2 := c.h2
  have hs := c.hs
  by_cases h : pcG sd P a = p
  · obtain ⟨u, hu, rfl⟩ := auS_all c ha h
    obtain ⟨_, g2, g3⟩ := auS_ok c (u := u)
    rw [nw_au c hu, g2, g3]
    by_cases hus : u < s
    · rw [if_pos hus]
      refine ⟨p, u, by omega, by rw [sdS_len c, if_pos rfl]; omega, rfl, fun _ => hus, fun e => by omega, fun _ => .inl rfl, fun h => absurd rfl h, ?_⟩
      unfold sdS
      rw [if_pos rfl, ptl_at hus]
    · rw [if_neg hus]
      refine ⟨P, u - s, by omega, by rw [sdS_len c, if_neg (by omega), if_pos rfl]; omega, rfl, fun e => by omega, fun _ => by omega, fun _ => .inr rfl, fun h => absurd rfl h, ?_⟩
      unfold sdS
      rw [if_neg (by omega), if_pos rfl, ptl_at (by omega), Nat.mod_add_mod, show i + s + (u - s) = i + u by omega]
  · obtain ⟨g1, g2, g3⟩ := pcG_spec ha
    have g4 : fsN sd (pcG sd P a + 1) = fsN sd (pcG sd P a) + (sd (pcG sd P a)).length := rfl
    rw [nw_o c h]
    refine ⟨pcG sd P a, a - fsN sd (pcG sd P a), by omega, by rw [sdS_len c, if_neg h, if_neg (by omega)]; omega, rfl, fun e => absurd e h, fun e => by omega, fun e => absurd e h, fun _ => rfl, ?_⟩
    unfold sdS
    rw [if_neg h, if_neg (by omega)]
theorem nw_lt (c : CutQ sd P p i s) {a : Nat} (ha : a < fsN sd P) : nwS sd P p i s z a < fsN sd P + 2 := by
  obtain ⟨q, t, h1, h2, h3, _⟩ := nw_pl (z := z) c ha
  rw [h3]; exact (plS c h1 h2).1
theorem nw_inj (c : CutQ sd P p i s) {a b : Nat} (ha : a < fsN sd P) (hb : b < fsN sd P) (e : nwS sd P p i s z a = nwS sd P p i s z b) : a = b := by
  obtain ⟨a1, a2, a3⟩ := pcG_spec ha
  obtain ⟨b1, b2, b3⟩ := pcG_spec hb
  have hp := c.hp
  have h2 := c.h2
  have hs := c.hs
  have lP : (sdS sd P p i s z P).length = (sd p).length - s + 1 := by rw [sdS_len c, if_neg (by omega), if_pos rfl]
  have lp : (sdS sd P p i s z p).length = s + 1 := by rw [sdS_len c, if_pos rfl]
  by_cases h : pcG sd P a = p
  · by_cases h' : pcG sd P b = p
    · obtain ⟨u, hu, rfl⟩ := auS_all c ha h
      obtain ⟨v, hv, rfl⟩ := auS_all c hb h'
      rw [nw_au c hu, nw_au c hv] at e
      have : u = v := by
        by_cases c1 : u < s
        · by_cases c2 : v < s
          · rw [if_pos c1, if_pos c2] at e; omega
          · rw [if_pos c1, if_neg c2] at e
            have := (plS_inj c (q := p) (t := u) (q' := P) (t' := v - s) (by omega) (by omega) (by omega) (by omega) e).1
            omega
        · by_cases c2 : v < s
          · rw [if_neg c1, if_pos c2] at e
            have := (plS_inj c (q := P) (t := u - s) (q' := p) (t' := v) (by omega) (by omega) (by omega) (by omega) e).1
            omega
          · rw [if_neg c1, if_neg c2] at e; omega
      rw [this]
    · obtain ⟨q, t, q1, q2, q3, _, _, q6, _⟩ := nw_pl (z := z) c ha
      obtain ⟨q', t', r1, r2, r3, _, _, _, r7, _⟩ := nw_pl (z := z) c hb
      rw [q3, r3] at e
      have h1 := (plS_inj c q1 q2 r1 r2 e).1
      have h4 := q6 h
      have h5 := r7 h'
      omega
  · by_cases h' : pcG sd P b = p
    · obtain ⟨q, t, q1, q2, q3, _, _, _, q7, _⟩ := nw_pl (z := z) c ha
      obtain ⟨q', t', r1, r2, r3, _, _, r6, _⟩ := nw_pl (z := z) c hb
      rw [q3, r3] at e
      have h1 := (plS_inj c q1 q2 r1 r2 e).1
      have h4 := q7 h
      have h5 := r6 h'
      omega
    · rw [nw_o c h, nw_o c h'] at e
      have la : (sdS sd P p i s z (pcG sd P a)).length = (sd (pcG sd P a)).length := by rw [sdS_len c, if_neg h, if_neg (by omega)]
      have lb : (sdS sd P p i s z (pcG sd P b)).length = (sd (pcG sd P b)).length := by rw [sdS_len c, if_neg h', if_neg (by omega)]
      have g4 : fsN sd (pcG sd P a + 1) = fsN sd (pcG sd P a) + (sd (pcG sd P a)).length := rfl
      have g5 : fsN sd (pcG sd P b + 1) = fsN sd (pcG sd P b) + (sd (pcG sd P b)).length := rfl
      obtain ⟨e1, e2⟩ := plS_inj c (by omega) (by omega) (by omega) (by omega) e
      rw [e1] at e2 a2
      omega
def nwX (sd : Nat → List Int) (P p i s : Nat) (z : Int) : Nat := fsN (sdS sd P p i s z) p + s
def nwY (sd : Nat → List Int) (P p i s : Nat) (z : Int) : Nat := fsN (sdS sd P p i s z) P + ((sd p).length - s)
/-- The next side at a place. -/
theorem nx_pl (c : CutQ sd P p i s) {q t : Nat} (hq : q ≤ P) (ht : t < (sdS sd P p i s z q).length) : nxN (sdS sd P p i s z) (P + 1) (fsN (sdS sd P p i s z) q + t) = if t + 1 = (sdS sd P p i s z q).length then fsN (sdS sd P p i s z) q else fsN (sdS sd P p i s z) q + (t + 1) := by
  unfold nxN
  rw [(plS c hq ht).2]
  have h2 : fsN (sdS sd P p i s z) (q + 1) = fsN (sdS sd P p i s z) q + (sdS sd P p i s z q).length := rfl
  rw [h2]
  split
  · rw [if_pos (by omega)]
  · rw [if_neg (by omega)]; omega
theorem nx_au (c : CutQ sd P p i s) {u : Nat} (hu : u < (sd p).length) : nxN sd P (auS sd p i u) = auS sd p i (if u + 1 = (sd p).length then 0 else u + 1) := by
  obtain ⟨g1, g2, g3⟩ := auS_ok c (u := u)
  have h2 : fsN sd (p + 1) = fsN sd p + (sd p).length := rfl
  have hi := c.hi
  unfold nxN
  rw [g2, h2]
  unfold auS
  have e1 := md_add (u := u) hi (by omega)
  by_cases hc : u + 1 = (sd p).length
  · rw [if_pos hc]
    have e2 := md_add (u := 0) hi (by omega)
    rw [e1, e2]
    clear e1 e2 g1 g2 g3
    split <;> split <;> (try split) <;> omega
  · rw [if_neg hc]
    have e2 := md_add (u := u + 1) hi (by omega)
    rw [e1, e2]
    clear e1 e2 g1 g2 g3
    split <;> split <;> (try split) <;> omega
/-- The seams, numbered anew. -/
def smS (f : Nat → Nat) (S : List (Nat × Nat)) : List (Nat × Nat) := S.map fun e => (f e.1, f e.2)
theorem mu_mem {S : List (Nat × Nat)} {x : Nat} (h : muS S x ≠ x) : ∃ e ∈ S, x = e.1 ∨ x = e.2 := by
  have : ∀ (S : List (Nat × Nat)) (g : Nat → Nat), (∀ e ∈ S, x ≠ e.1 ∧ x ≠ e.2) → S.foldl updM g x = g x := by
    intro S
    induction S with
    | nil => intro g _; rfl
    | cons e S ih =>
      intro g hg
      rw [List.foldl_cons, ih _ fun e he => hg e (.tail _ he)]
      obtain ⟨h1, h2⟩ := hg e (.head _)
      unfold updM
      rw [if_neg h1, if_neg h2]
  by_cases hh : ∃ e ∈ S, x = e.1 ∨ x = e.2
  · exact hh
  · exact absurd (this S id fun e he => ⟨fun h1 => hh ⟨e, he, .inl h1⟩, fun h2 => hh ⟨e, he, .inr h2⟩⟩) h
theorem mu_map {n : Nat} {f : Nat → Nat} (hf : ∀ a b, a < n → b < n → f a = f b → a = b) {S : List (Nat × Nat)} (hS : OkS n S) : ∀ a, a < n → muS (smS f S) (f a) = f (muS S a) := by
  induction hS with
  | nil => intro a _; rfl
  | @snoc S u v h hu hv hne fu fv ih =>
    intro a ha
    have e : smS f (S ++ [(u, v)]) = smS f S ++ [(f u, f v)] := by simp [smS]
    rw [e, muS_snoc, muS_snoc]
    unfold updM
    by_cases h1 : a = u
    · subst h1; simp
    · by_cases h2 : a = v
      · subst h2
        simp only [h1, if_false, if_true]
        rw [if_neg (fun h => h1 (hf _ _ ha hu h))]
      · simp only [h1, h2, if_false]
        rw [if_neg (fun h => h1 (hf _ _ ha hu h)), if_neg (fun h => h2 (hf _ _ ha hv h))]
        exact ih a ha
theorem mu_out {n : Nat} {f : Nat → Nat} {S : List (Nat × Nat)} (hS : OkS n S) {w : Nat} (hw : ∀ a, a < n → f a ≠ w) : muS (smS f S) w = w := by
  by_cases h : muS (smS f S) w = w
  · exact h
  · obtain ⟨e, he, h1⟩ := mu_mem h
    simp only [smS, List.mem_map] at he
    obtain ⟨d, hd, rfl⟩ := he
    obtain ⟨g1, g2, _⟩ := hS.at d hd
    rcases h1 with h1 | h1
    · exact absurd h1.symm (hw _ g1)
    · exact absurd h1.symm (hw _ g2)
theorem nw_x (c : CutQ sd P p i s) : ∀ a, a < fsN sd P → nwS sd P p i s z a ≠ nwX sd P p i s z := fun a ha e => by
  obtain ⟨q, t, q1, q2, q3, q4, _⟩ := nw_pl (z := z) c ha
  have hp := c.hp
  rw [q3] at e
  obtain ⟨e1, e2⟩ := plS_inj c q1 q2 (q' := p) (t' := s) (by omega) (by rw [sdS_len c, if_pos rfl]; omega) e
  have := q4 e1
  omega
theorem nw_y (c : CutQ sd P p i s) : ∀ a, a < fsN sd P → nwS sd P p i s z a ≠ nwY sd P p i s z := fun a ha e => by
  obtain ⟨q, t, q1, q2, q3, _, q5, _⟩ := nw_pl (z := z) c ha
  have hp := c.hp
  rw [q3] at e
  obtain ⟨e1, e2⟩ := plS_inj c q1 q2 (q' := P) (t' := (sd p).length - s) (by omega) (by rw [sdS_len c, if_neg (by omega), if_pos rfl]; omega) e
  have := q5 e1
  omega
theorem nw_xy (c : CutQ sd P p i s) : nwX sd P p i s z < fsN sd P + 2 ∧ nwY sd P p i s z < fsN sd P + 2 ∧ nwX sd P p i s z ≠ nwY sd P p i s z := by
  have hp := c.hp
  have l1 : s < (sdS sd P p i s z p).length := by rw [sdS_len c, if_pos rfl]; omega
  have l2 : (sd p).length - s < (sdS sd P p i s z P).length := by rw [sdS_len c, if_neg (by omega), if_pos rfl]; omega
  refine ⟨(plS c (by omega) l1).1, (plS c (Nat.le_refl _) l2).1, fun e => ?_⟩
  have := (plS_inj c (by omega) l1 (Nat.le_refl _) l2 e).1
  omega
/-- The cap that is cut is a net with one more line. -/
theorem cutN (c : CutQ sd P p i s) {S : List (Nat × Nat)} (hS : OkS (fsN sd P) S) :
    CutN (fsN sd P) (nxN sd P) (muS S) (nxN (sdS sd P p i s z) (P + 1)) (muS (smS (nwS sd P p i s z) S ++ [(nwX sd P p i s z, nwY sd P p i s z)])) (nwS sd P p i s z) (nwX sd P p i s z) (nwY sd P p i s z) (auS sd p i (s - 1)) (auS sd p i ((sd p).length - 1)) := by
  have hp := c.hp
  have h2 := c.h2
  have hs := c.hs
  obtain ⟨xl, yl, xy⟩ := nw_xy (z := z) c
  have lP : (sdS sd P p i s z P).length = (sd p).length - s + 1 := by rw [sdS_len c, if_neg (by omega), if_pos rfl]
  have lp : (sdS sd P p i s z p).length = s + 1 := by rw [sdS_len c, if_pos rfl]
  have hfi : ∀ a b, a < fsN sd P → b < fsN sd P → nwS sd P p i s z a = nwS sd P p i s z b → a = b := fun a b ha hb e => nw_inj c ha hb e
  have mx := mu_out hS (nw_x (z := z) c)
  have my := mu_out hS (nw_y (z := z) c)
  exact {
    fl := fun a ha => nw_lt c ha
    fi := hfi
    xl := xl
    yl := yl
    xy := xy
    fx := nw_x c
    fy := nw_y c
    co := fun w hw => by
      have hw' : w < fsN (sdS sd P p i s z) (P + 1) := by rw [fsS_all c]; exact hw
      obtain ⟨g1, g2, g3⟩ := pcG_spec hw'
      generalize hq : pcG (sdS sd P p i s z) (P + 1) w = q at *
      have h4 : fsN (sdS sd P p i s z) (q + 1) = fsN (sdS sd P p i s z) q + (sdS sd P p i s z q).length := rfl
      by_cases e1 : q = p
      · subst e1
        rw [lp] at h4
        by_cases e2 : w = fsN (sdS sd P q i s z) q + s
        · exact .inl e2
        · refine .inr (.inr ⟨auS sd q i (w - fsN (sdS sd P q i s z) q), (auS_ok c).1, ?_⟩)
          rw [nw_au c (by omega), if_pos (by omega)]; omega
      · by_cases e3 : q = P
        · subst e3
          rw [lP] at h4
          by_cases e2 : w = fsN (sdS sd q p i s z) q + ((sd p).length - s)
          · exact .inr (.inl e2)
          · refine .inr (.inr ⟨auS sd p i (s + (w - fsN (sdS sd q p i s z) q)), (auS_ok c).1, ?_⟩)
            rw [nw_au c (by omega), if_neg (by omega)]; omega
        · have lq : (sdS sd P p i s z q).length = (sd q).length := by rw [sdS_len c, if_neg e1, if_neg e3]
          have h5 := fsN_mono (sd := sd) (p := q + 1) (q := P) (by omega)
          have h6 : fsN sd (q + 1) = fsN sd q + (sd q).length := rfl
          have h7 : pcG sd P (fsN sd q + (w - fsN (sdS sd P p i s z) q)) = q := pcG_uniq (by omega) (by omega) (by omega)
          refine .inr (.inr ⟨fsN sd q + (w - fsN (sdS sd P p i s z) q), by omega, ?_⟩)
          rw [nw_o c (by rw [h7]; exact e1), h7]; omega
    l1 := (auS_ok c).1
    l2 := (auS_ok c).1
    ne := fun e => by
      have e1 := nw_au (z := z) c (u := s - 1) (by omega)
      have e2 := nw_au (z := z) c (u := (sd p).length - 1) (by omega)
      rw [if_pos (by omega)] at e1
      rw [if_neg (by omega), ← e, e1] at e2
      have := (plS_inj c (z := z) (q := p) (t := s - 1) (q' := P) (t' := (sd p).length - 1 - s) (by omega) (by omega) (by omega) (by omega) e2).1
      omega
    mf := fun a ha => by
      rw [muS_snoc]
      unfold updM
      rw [if_neg (nw_x c a ha), if_neg (nw_y c a ha)]
      exact mu_map hfi hS a ha
    mx := by rw [muS_snoc]; unfold updM; rw [if_pos rfl]
    my := by rw [muS_snoc]; unfold updM; rw [if_neg (Ne.symm xy), if_pos rfl]
    nf := fun a ha n1 n2 => by
      by_cases h : pcG sd P a = p
      · obtain ⟨u, hu, rfl⟩ := auS_all c ha h
        have u1 : u ≠ s - 1 := fun e => n1 (by rw [e])
        have u2 : u ≠ (sd p).length - 1 := fun e => n2 (by rw [e])
        rw [nx_au c hu, if_neg (by omega), nw_au c hu, nw_au c (by omega)]
        by_cases hus : u < s
        · rw [if_pos hus, if_pos (by omega), nx_pl c (by omega) (by omega), if_neg (by omega)]
        · rw [if_neg hus, if_neg (by omega), nx_pl c (by omega) (by omega), if_neg (by omega)]; omega
      · obtain ⟨g1, g2, g3⟩ := pcG_spec ha
        have g4 : fsN sd (pcG sd P a + 1) = fsN sd (pcG sd P a) + (sd (pcG sd P a)).length := rfl
        have la : (sdS sd P p i s z (pcG sd P a)).length = (sd (pcG sd P a)).length := by rw [sdS_len c, if_neg h, if_neg (by omega)]
        have hn := (nx_pc ha).1
        rw [nw_o c h, nw_o c (by rw [hn]; exact h), hn, nx_pl c (by omega) (by omega), la]
        unfold nxN
        rw [g4]
        by_cases hc : a + 1 = fsN sd (pcG sd P a) + (sd (pcG sd P a)).length
        · rw [if_pos (by omega), if_pos hc]; omega
        · rw [if_neg (by omega), if_neg hc]; omega
    n1 := by
      rw [nw_au c (by omega), if_pos (by omega), nx_pl c (by omega) (by omega), if_neg (by omega)]
      unfold nwX; omega
    n2 := by
      rw [nw_au c (by omega), if_neg (by omega), nx_pl c (by omega) (by omega), if_neg (by omega)]
      unfold nwY; omega
    nX := by
      unfold nwX
      rw [nx_pl c (by omega) (by omega), if_pos (by omega), nx_au c (by omega), if_pos (by omega), nw_au c (by omega), if_pos (by omega)]; omega
    nY := by
      unfold nwY
      rw [nx_pl c (by omega) (by omega), if_pos (by omega), nx_au c (by omega), if_neg (by omega), nw_au c (by omega), if_neg (by omega)]; omega }
end
end Go.Proofs.YtnbickholedckaaGreatDoor
namespace Go.Proofs.YtnbickholedckaaGreatDoor
open Go.RowKit
attribute [local irreducible] OpF Ld CellAt Sl Sv pcA usP
structure PtI where
  n : Nat
  oa : Option Addr
  ca : Nat
  ka : HS
  ob : Option Addr
  cb : Nat
  kb : HS
theorem ptl_row {l : List Int} {i s : Nat} {z : Int} : ivs (ptl l i s z) = ivs (tab s fun t => l.getD ((i + t) % l.length) 0) ++ [iv z] := by unfold ptl; rw [← ivs_snoc]
set_option maxRecDepth 100000 in
set_option maxHeartbeats 8000000 in
theorem k_part (o1 o2 : Option Addr) (c1 c2 : Nat) (r g : List Int) (i s : Nat) (z : Int) (hr : 1 ≤ r.length ∧ r.length ≤ 6) (hg : g.length = r.length) (hi : i < r.length) (hs1 : s ≤ 6) (B : Nat) (w0 : Wd) (hs : HS) (h1 : Sl B w0 hs o1 r) (h2 : Sl B w0 hs o2 g) :
    Fn Tryz.prog 46 #[.agg #[.slice o1 r.length c1, .slice o2 g.length c2], iv i, iv s, iv z] B w0 hs (fun u hs' => ∃ blk, NewP (ptl r i s z) (ptl g i s 0) u blk ∧ hs' = blk ++ hs) := by
  refine fn_enter Tryz.func46 rfl Tryz.ntmps46 (by simp) ?_
  repeat' (first | ((with_reducible apply kP (.box 29 _)); refine sBA (fun b4 => ?_)) | ((with_reducible apply kP (.alloc 29)); refine sA (fun b8 => ?_)) | ((with_reducible apply kRg 6); refine cD [1, 1, 1, 1, 1, 1, 1, 1, 1, 1, 1, 2, 4, 1, 4] ?_) | ((with_reducible apply kRg 7); refine cD [1, 1, 1, 1, 1, 1, 1, 1, 1, 1, 1, 2, 4, 1, 4] ?_) | (with_reducible first | refine c_seq ?_ | refine c_reg ?_ | refine c_region ?_ | refine c_block ?_ | refine c_skip ?_ | refine c_exit ?_ | refine c_ret ?_ | refine s_nil ?_ | refine x_then ?_ | refine x_then_exit ?_ | refine x_then_ret ?_ | refine x_block ?_ | refine x_block_ret ?_ | refine x_block_same ?_ | refine x_block_other (by first | rfl | decide) ?_ | refine q_nil ?_ | refine k_nil ?_) | ((with_reducible apply kN); first | refine stP ?_ | refine stI ?_ | refine st1 ?_ | refine stW ?_) | ((with_reducible apply kP (.alloc _)); refine sA (fun b => ?_)) | ((with_reducible apply kP (.box _ _)); first | refine sBA (fun b => ?_) | refine sB (fun b => ?_)) | ((with_reducible apply kP (.buildSlice _ 1 _)); first | refine sl1A (fun b => ?_) | refine sl1 (fun b => ?_)) | ((with_reducible apply kP (.call ⟨.builtin .append, _, _⟩)); refine sAp (fun oa2 c2 blk2 hrow2 => ?_)) | ((with_reducible apply kP _); refine sP ?_) | ((with_reducible apply kP _); refine sX ?_) | ((with_reducible apply kC); first | refine cT ?_ | refine cF ?_ | (refine cI (fun h => ?_) (fun h => ?_) <;> (try (exfalso; omega))) | refine cB (fun h => ?_) (fun h => ?_)) | ((with_reducible apply kDN); first | refine dtI ?_ | refine dt1 ?_ | refine dtW ?_) | ((with_reducible apply kDP (.buildSlice _ 1 _)); first | refine dl1A (fun b => ?_) | refine dl1 (fun b => ?_)) | ((with_reducible apply kDP (.call ⟨.builtin .append, _, _⟩)); first | refine dAp3 (fun oa2 c2 blk2 hrow2 => ?_) (hS := SCt) | refine dAp4 (fun oa2 c2 blk2 hrow2 => ?_)) | ((with_reducible apply kDP _); refine dP ?_) | ((with_reducible apply kDP _); refine dX ?_))
  rename_i b9
  refine c_loop (fun t : PtI => [(1, iv i), (3, iv z), (4, .pointer (some ⟨b4, 0, none⟩)), (8, .pointer (some ⟨b9, 0, none⟩)), (9, .pointer (some ⟨b8, 0, none⟩)), (10, iv r.length), (15, iv s), (16, iv t.n)])
    (fun t => t.kb ++ (t.ka ++ ((b8, [.slice t.oa t.n t.ca, .slice t.ob t.n t.cb]) :: (b9, [.slice none 0 0, .slice none 0 0]) :: (b4, [.slice o1 r.length c1, .slice o2 g.length c2]) :: hs)))
    (fun t => t.n ≤ s ∧ RowOk t.oa t.ca 1 (ivs (tab t.n fun u => r.getD ((i + u) % r.length) 0)) t.ka ∧ RowOk t.ob t.cb 1 (ivs (tab t.n fun u => g.getD ((i + u) % g.length) 0)) t.kb) (fun t => s - t.n) ⟨0, none, 0, [], none, 0, []⟩ ⟨Nat.zero_le _, RowOk.nil, RowOk.nil⟩ (by repeat' first | trivial | rfl | apply And.intro) (.refl _) ?_
  rintro ⟨n, oa, ca, ka, ob, cb, kb⟩ ⟨hn, hra, hrb⟩
  dsimp only at hn hra hrb ⊢
  by_cases hn' : n < s
  · have hm : ((i : Int) + (n : Int)) % (r.length : Int) = (((i + n) % r.length : Nat) : Int) := by rw [← Int.natCast_add, ← Int.natCast_emod]
    have hml : (i + n) % r.length < r.length := Nat.mod_lt _ (by omega)
    have hmg : (i + n) % r.length < g.length := by omega
    have g1 := h1.any hml
    have g2 := h2.any hmg
    have hka : (ivs (tab n fun u => r.getD ((i + u) % r.length) 0)).length = n * 1 := by rw [ivs_length, tab_length, Nat.mul_one]
    have hkb : (ivs (tab n fun u => g.getD ((i + u) % g.length) 0)).length = n * 1 := by rw [ivs_length, tab_length, Nat.mul_one]
    repeat' (first | ((with_reducible apply kP (.indexAddr 27 (.tmp 22) _)); refine sP ?_ (o_indexS (scTOf rfl) rfl rfl hm (aa0 _) g1 (by omega))) | ((with_reducible apply kDP (.indexAddr 27 (.tmp 22) _)); refine dP ?_ (hX := rfl) (hv := o_indexS (scTOf rfl) rfl rfl hm (aa0 _) g1 (by omega))) | ((with_reducible apply kQO (.indexAddr 27 (.tmp 22) _)); refine qP ?_ (o_indexS (scTOf rfl) rfl rfl hm (aa0 _) g1 (by omega))) | ((with_reducible apply kP (.indexAddr 27 (.tmp 36) _)); refine sP ?_ (o_indexS (scTOf rfl) rfl rfl hm (aa0 _) g2 (by omega))) | ((with_reducible apply kDP (.indexAddr 27 (.tmp 36) _)); refine dP ?_ (hX := rfl) (hv := o_indexS (scTOf rfl) rfl rfl hm (aa0 _) g2 (by omega))) | ((with_reducible apply kQO (.indexAddr 27 (.tmp 36) _)); refine qP ?_ (o_indexS (scTOf rfl) rfl rfl hm (aa0 _) g2 (by omega))) | ((with_reducible apply kDP (.call ⟨.builtin .append, _, _⟩)); refine dAp4 (fun oa5 c5 k5 hr5 => ?_) (hr := hra) (hk := hka)) | ((with_reducible apply kDP (.call ⟨.builtin .append, _, _⟩)); refine dAp4 (fun oa6 c6 k6 hr6 => ?_) (hr := hrb) (hk := hkb)) | ((with_reducible apply kDN); refine dtC ?_) | ((with_reducible apply kRg 6); refine cD [1, 1, 1, 1, 1, 1, 1, 1, 1, 1, 1, 2, 4, 1, 4] ?_) | ((with_reducible apply kRg 7); refine cD [1, 1, 1, 1, 1, 1, 1, 1, 1, 1, 1, 2, 4, 1, 4] ?_) | (with_reducible first | refine c_seq ?_ | refine c_reg ?_ | refine c_region ?_ | refine c_block ?_ | refine c_skip ?_ | refine c_exit ?_ | refine c_ret ?_ | refine s_nil ?_ | refine x_then ?_ | refine x_then_exit ?_ | refine x_then_ret ?_ | refine x_block ?_ | refine x_block_ret ?_ | refine x_block_same ?_ | refine x_block_other (by first | rfl | decide) ?_ | refine q_nil ?_ | refine k_nil ?_) | ((with_reducible apply kN); first | refine stP ?_ | refine stI ?_ | refine st1 ?_ | refine stW ?_) | ((with_reducible apply kP (.alloc _)); refine sA (fun b => ?_)) | ((with_reducible apply kP (.box _ _)); first | refine sBA (fun b => ?_) | refine sB (fun b => ?_)) | ((with_reducible apply kP (.buildSlice _ 1 _)); first | refine sl1A (fun b => ?_) | refine sl1 (fun b => ?_)) | ((with_reducible apply kP (.call ⟨.builtin .append, _, _⟩)); refine sAp (fun oa2 c2 blk2 hrow2 => ?_)) | ((with_reducible apply kP _); refine sP ?_) | ((with_reducible apply kP _); refine sX ?_) | ((with_reducible apply kC); first | refine cT ?_ | refine cF ?_ | (refine cI (fun h => ?_) (fun h => ?_) <;> (try (exfalso; omega))) | refine cB (fun h => ?_) (fun h => ?_)) | ((with_reducible apply kDN); first | refine dtI ?_ | refine dt1 ?_ | refine dtW ?_) | ((with_reducible apply kDP (.buildSlice _ 1 _)); first | refine dl1A (fun b => ?_) | refine dl1 (fun b => ?_)) | ((with_reducible apply kDP (.call ⟨.builtin .append, _, _⟩)); first | refine dAp3 (fun oa2 c2 blk2 hrow2 => ?_) (hS := SCt) | refine dAp4 (fun oa2 c2 blk2 hrow2 => ?_)) | ((with_reducible apply kDP _); refine dP ?_) | ((with_reducible apply kDP _); refine dX ?_))
    have hr5' : RowOk oa5 c5 1 (ivs (tab (n + 1) fun u => r.getD ((i + u) % r.length) 0)) k5 := by rw [tab_snoc]; exact hr5
    have hr6' : RowOk oa6 c6 1 (ivs (tab (n + 1) fun u => g.getD ((i + u) % g.length) 0)) k6 := by rw [tab_snoc, show (i + n) % g.length = (i + n) % r.length by rw [hg]]; exact hr6
    exact r_end (⟨n + 1, oa5, c5, k5, oa6, c6, k6⟩ : PtI) ⟨hn', hr5', hr6'⟩ (by dsimp only; omega) (by repeat' first | trivial | rfl | apply And.intro) (.append (.refl _) (.cons _ (.append (.refl _) (.cons _ (.refl _)))))
  · obtain rfl : s = n := by omega
    have hka : (ivs (tab s fun u => r.getD ((i + u) % r.length) 0)).length = s * 1 := by rw [ivs_length, tab_length, Nat.mul_one]
    have hkb : (ivs (tab s fun u => g.getD ((i + u) % g.length) 0)).length = s * 1 := by rw [ivs_length, tab_length, Nat.mul_one]
    repeat' (first | ((with_reducible apply kP (.call ⟨.builtin .append, _, _⟩)); refine sAp (fun oa5 c5 k5 hr5 => ?_) (hr := hra) (hk := hka)) | ((with_reducible apply kP (.call ⟨.builtin .append, _, _⟩)); refine sAp (fun oa6 c6 k6 hr6 => ?_) (hr := hrb) (hk := hkb)) | ((with_reducible apply kN); first | refine stC ?_ | refine stW ?_ (hf := flat_cons rfl (flat1 rfl))) | ((with_reducible apply kRg 6); refine cD [1, 1, 1, 1, 1, 1, 1, 1, 1, 1, 1, 2, 4, 1, 4] ?_) | ((with_reducible apply kRg 7); refine cD [1, 1, 1, 1, 1, 1, 1, 1, 1, 1, 1, 2, 4, 1, 4] ?_) | (with_reducible first | refine c_seq ?_ | refine c_reg ?_ | refine c_region ?_ | refine c_block ?_ | refine c_skip ?_ | refine c_exit ?_ | refine c_ret ?_ | refine s_nil ?_ | refine x_then ?_ | refine x_then_exit ?_ | refine x_then_ret ?_ | refine x_block ?_ | refine x_block_ret ?_ | refine x_block_same ?_ | refine x_block_other (by first | rfl | decide) ?_ | refine q_nil ?_ | refine k_nil ?_) | ((with_reducible apply kN); first | refine stP ?_ | refine stI ?_ | refine st1 ?_ | refine stW ?_) | ((with_reducible apply kP (.alloc _)); refine sA (fun b => ?_)) | ((with_reducible apply kP (.box _ _)); first | refine sBA (fun b => ?_) | refine sB (fun b => ?_)) | ((with_reducible apply kP (.buildSlice _ 1 _)); first | refine sl1A (fun b => ?_) | refine sl1 (fun b => ?_)) | ((with_reducible apply kP (.call ⟨.builtin .append, _, _⟩)); refine sAp (fun oa2 c2 blk2 hrow2 => ?_)) | ((with_reducible apply kP _); refine sP ?_) | ((with_reducible apply kP _); refine sX ?_) | ((with_reducible apply kC); first | refine cT ?_ | refine cF ?_ | (refine cI (fun h => ?_) (fun h => ?_) <;> (try (exfalso; omega))) | refine cB (fun h => ?_) (fun h => ?_)) | ((with_reducible apply kDN); first | refine dtI ?_ | refine dt1 ?_ | refine dtW ?_) | ((with_reducible apply kDP (.buildSlice _ 1 _)); first | refine dl1A (fun b => ?_) | refine dl1 (fun b => ?_)) | ((with_reducible apply kDP (.call ⟨.builtin .append, _, _⟩)); first | refine dAp3 (fun oa2 c2 blk2 hrow2 => ?_) (hS := SCt) | refine dAp4 (fun oa2 c2 blk2 hrow2 => ?_)) | ((with_reducible apply kDP _); refine dP ?_) | ((with_reducible apply kDP _); refine dX ?_))
    have hr5' : RowOk oa5 c5 1 (ivs (ptl r i s z)) k5 := by rw [ptl_row]; exact hr5
    have hr6' : RowOk oa6 c6 1 (ivs (ptl g i s 0)) k6 := by rw [ptl_row]; exact hr6
    refine e_ret1 rfl ⟨_, rfl, ld_two (shTOf rfl) MDt rfl rfl⟩ ⟨k6 ++ k5, ⟨oa5, oa6, c5, c6, k5, k6, by rw [ptl_len, ptl_len], hr5', hr6', rfl⟩, rfl⟩ ?_
    rw [List.append_assoc]
    exact .append (.refl _) (.cons _ (.append (.refl _) (.cons _ (.cons _ (.cons _ (.cons _ (.refl _)))))))
end Go.Proofs.YtnbickholedckaaGreatDoor
namespace Go.Proofs.YtnbickholedckaaGreatDoor
open Go.RowKit
theorem o_sliceH0 {P : Program} {n : NN} {B : Nat} {w0 : Wd} {fr : FR} {hs : HS} {ty t : TypeId} {x hi : Operand} {b : Bool} {k len cap j : Nat} {i : Int} {oa : Option Addr} (ht : sc P t = some (b, k)) (hx : opv fr x = some (.slice oa len cap)) (hl : opv fr hi = some (.int .i64 i)) (hj : i = (j : Int)) (h1 : j ≤ cap) :
    OpF P n B w0 (.slice t x none (some hi) none) ty fr hs (.slice oa j cap) := by
  have := o_sliceH (P := P) (n := n) (B := B) (w0 := w0) (fr := fr) (hs := hs) (ty := ty) ht hx hl hj h1
  rwa [subA_zero] at this
attribute [local irreducible] OpF Ld CellAt Sl Sv pcA usP
set_option maxRecDepth 100000 in
set_option maxHeartbeats 8000000 in
theorem k_closeAngles (oa : Option Addr) (ca cb b : Nat) (sd an : List Int) (w : List Value) (hk : 2 ≤ sd.length ∧ sd.length ≤ 10) (ha : an.length = sd.length) (hcb : sd.length ≤ cb) (hb : ∀ j, j < sd.length - 1 → -100000 ≤ an.getD j 0 ∧ an.getD j 0 ≤ 100000) (B : Nat) (w0 : Wd) (hs : HS) :
    Fn Tryz.prog 47 #[.agg #[.slice oa sd.length ca, .slice (some ⟨b, 0, none⟩) an.length cb]] B w0 ((b, ivs an ++ w) :: hs) (fun v h => v = .tuple #[] ∧ h = (b, ivs (an.set (sd.length - 1) (180 * ((sd.length : Int) - 2) - sumTo (fun j => an.getD j 0) (sd.length - 1))) ++ w) :: hs) := by
  have gl : ∀ (l : List Int), l.length = sd.length → sd.length - 1 < (ivs l ++ w).length := fun l h => by rw [List.length_append, ivs_length, h]; omega
  have gs : ∀ j, j ≤ sd.length - 1 → -100000 * (j : Int) ≤ sumTo (fun j => an.getD j 0) j ∧ sumTo (fun j => an.getD j 0) j ≤ 100000 * (j : Int) := fun j => by
    induction j with
    | zero => intro _; simp [sumTo]
    | succ j ih =>
      intro h
      have h1 := ih (by omega)
      have h2 := hb j (by omega)
      rw [sumTo_succ]
      omega
  have gset : ∀ (l : List Int) (x : Int), l.length = sd.length → (ivs l ++ w).set (sd.length - 1) (iv x) = ivs (l.set (sd.length - 1) x) ++ w := fun l x h => ivs_setz x (by omega)
  have gg : ∀ (x : Int) j, j < sd.length - 1 → (ivs (an.set (sd.length - 1) x) ++ w)[j]? = some (iv (an.getD j 0)) := fun x j h => by
    rw [List.getElem?_append_left (by rw [ivs_length, List.length_set]; omega), ivs_get (by rw [List.length_set]; omega), getD_set (by omega), if_neg (by omega)]
  have gl2 : ∀ (x : Int), (ivs (an.set (sd.length - 1) x) ++ w)[sd.length - 1]? = some (iv x) := fun x => by
    rw [List.getElem?_append_left (by rw [ivs_length, List.length_set]; omega), ivs_get (by rw [List.length_set]; omega), getD_set (by omega), if_pos rfl]
  have hj1 : (sd.length : Int) - 1 = ((sd.length - 1 : Nat) : Int) := by omega
  refine fn_enter Tryz.func47 rfl Tryz.ntmps47 (by simp) ?_
  repeat' (first | ((with_reducible apply kP (.box 29 _)); refine sBA (fun b4 => ?_)) | ((with_reducible apply kN); refine st1 ?_ (hl := gl an ha)) | ((with_reducible apply kP (.slice 27 _ none (some _) none)); refine sP ?_ (o_sliceH0 (scTOf rfl) rfl rfl hj1 (by omega))) | ((with_reducible apply kDP (.slice 27 _ none (some _) none)); refine dP ?_ (hX := rfl) (hv := o_sliceH0 (scTOf rfl) rfl rfl hj1 (by omega))) | ((with_reducible apply kQO (.slice 27 _ none (some _) none)); refine qP ?_ (o_sliceH0 (scTOf rfl) rfl rfl hj1 (by omega))) | (with_reducible first | refine c_seq ?_ | refine c_reg ?_ | refine c_region ?_ | refine c_block ?_ | refine c_skip ?_ | refine c_exit ?_ | refine c_ret ?_ | refine s_nil ?_ | refine x_then ?_ | refine x_then_exit ?_ | refine x_then_ret ?_ | refine x_block ?_ | refine x_block_ret ?_ | refine x_block_same ?_ | refine x_block_other (by first | rfl | decide) ?_ | refine q_nil ?_ | refine k_nil ?_) | ((with_reducible apply kN); first | refine stP ?_ | refine stI ?_ | refine st1 ?_ | refine stW ?_) | ((with_reducible apply kP (.box _ _)); first | refine sBA (fun b => ?_) | refine sB (fun b => ?_)) | ((with_reducible apply kP _); refine sP ?_) | ((with_reducible apply kP _); refine sX ?_) | ((with_reducible apply kC); first | refine cT ?_ | refine cF ?_ | (refine cI (fun h => ?_) (fun h => ?_) <;> (try (exfalso; omega))) | refine cB (fun h => ?_) (fun h => ?_)))
  rw [show (ivs an ++ w).set (sd.length - 1) (.int .i64 (180 * ((sd.length : Int) - 2))) = ivs (an.set (sd.length - 1) (180 * ((sd.length : Int) - 2) - sumTo (fun j => an.getD j 0) 0)) ++ w by rw [show sumTo (fun j => an.getD j 0) 0 = 0 from rfl, Int.sub_zero]; exact gset an _ ha]
  refine c_loop (fun j : Nat => [(1, .pointer (some ⟨b4, 0, none⟩)), (2, iv sd.length), (20, .slice (some ⟨b, 0, none⟩) (sd.length - 1) cb), (21, iv (sd.length - 1 : Nat)), (22, iv j)])
    (fun j => (b4, [.slice oa sd.length ca, .slice (some ⟨b, 0, none⟩) an.length cb]) :: (b, ivs (an.set (sd.length - 1) (180 * ((sd.length : Int) - 2) - sumTo (fun j => an.getD j 0) j)) ++ w) :: hs) (fun j => j ≤ sd.length - 1) (fun j => sd.length - 1 - j) 0 (Nat.zero_le _) (by repeat' first | trivial | rfl | apply And.intro) (.refl _) ?_
  intro j hj
  have hsj := gs j hj
  by_cases hj' : j < sd.length - 1
  · have hbj := hb j hj'
    have ggj := gg (180 * ((sd.length : Int) - 2) - sumTo (fun j => an.getD j 0) j) j hj'
    have gl3 : sd.length - 1 < (ivs (an.set (sd.length - 1) (180 * ((sd.length : Int) - 2) - sumTo (fun j => an.getD j 0) j)) ++ w).length := gl _ (by rw [List.length_set]; exact ha)
    have e5 : ∀ v : Int, (ivs (an.set (sd.length - 1) (180 * ((sd.length : Int) - 2) - sumTo (fun j => an.getD j 0) j)) ++ w).set (sd.length - 1) (.int .i64 v) = ivs (an.set (sd.length - 1) v) ++ w := fun v => by
      have := gset (an.set (sd.length - 1) (180 * ((sd.length : Int) - 2) - sumTo (fun j => an.getD j 0) j)) v (by rw [List.length_set]; exact ha)
      rw [List.set_set] at this
      exact this
    have gl2j := gl2 (180 * ((sd.length : Int) - 2) - sumTo (fun j => an.getD j 0) j)
    have e6 : (180 * ((sd.length : Int) - 2) - sumTo (fun j => an.getD j 0) j) - an.getD j 0 = 180 * ((sd.length : Int) - 2) - sumTo (fun j => an.getD j 0) (j + 1) := by rw [sumTo_succ]; omega
    repeat' (first | ((with_reducible apply kP (.load 3 (.tmp 24))); refine sP ?_ (o_load rfl (ld_one (shTOf rfl) (own MMt ggj)))) | ((with_reducible apply kDP (.load 3 (.tmp 24))); refine dP ?_ (hX := rfl) (hv := o_load rfl (ld_one (shTOf rfl) (own MMt ggj)))) | ((with_reducible apply kQO (.load 3 (.tmp 24))); refine qP ?_ (o_load rfl (ld_one (shTOf rfl) (own MMt ggj)))) | ((with_reducible apply kP (.load 3 (.tmp 30))); refine sP ?_ (o_load rfl (ld_one (shTOf rfl) (own MMt gl2j)))) | ((with_reducible apply kDP (.load 3 (.tmp 30))); refine dP ?_ (hX := rfl) (hv := o_load rfl (ld_one (shTOf rfl) (own MMt gl2j)))) | ((with_reducible apply kQO (.load 3 (.tmp 30))); refine qP ?_ (o_load rfl (ld_one (shTOf rfl) (own MMt gl2j)))) | ((with_reducible apply kN); refine st1 ?_ (hl := gl3)) | (with_reducible first | refine c_seq ?_ | refine c_reg ?_ | refine c_region ?_ | refine c_block ?_ | refine c_skip ?_ | refine c_exit ?_ | refine c_ret ?_ | refine s_nil ?_ | refine x_then ?_ | refine x_then_exit ?_ | refine x_then_ret ?_ | refine x_block ?_ | refine x_block_ret ?_ | refine x_block_same ?_ | refine x_block_other (by first | rfl | decide) ?_ | refine q_nil ?_ | refine k_nil ?_) | ((with_reducible apply kN); first | refine stP ?_ | refine stI ?_ | refine st1 ?_ | refine stW ?_) | ((with_reducible apply kP (.box _ _)); first | refine sBA (fun b => ?_) | refine sB (fun b => ?_)) | ((with_reducible apply kP _); refine sP ?_) | ((with_reducible apply kP _); refine sX ?_) | ((with_reducible apply kC); first | refine cT ?_ | refine cF ?_ | (refine cI (fun h => ?_) (fun h => ?_) <;> (try (exfalso; omega))) | refine cB (fun h => ?_) (fun h => ?_)))
    rw [e5, e6]
    exact r_end (j + 1) hj' (by omega) (by repeat' first | trivial | rfl | apply And.intro) (.refl _)
  · obtain rfl : sd.length - 1 = j := by omega
    repeat' (first | (with_reducible first | refine c_seq ?_ | refine c_reg ?_ | refine c_region ?_ | refine c_block ?_ | refine c_skip ?_ | refine c_exit ?_ | refine c_ret ?_ | refine s_nil ?_ | refine x_then ?_ | refine x_then_exit ?_ | refine x_then_ret ?_ | refine x_block ?_ | refine x_block_ret ?_ | refine x_block_same ?_ | refine x_block_other (by first | rfl | decide) ?_ | refine q_nil ?_ | refine k_nil ?_) | ((with_reducible apply kN); first | refine stP ?_ | refine stI ?_ | refine st1 ?_ | refine stW ?_) | ((with_reducible apply kP (.box _ _)); first | refine sBA (fun b => ?_) | refine sB (fun b => ?_)) | ((with_reducible apply kP _); refine sP ?_) | ((with_reducible apply kP _); refine sX ?_) | ((with_reducible apply kC); first | refine cT ?_ | refine cF ?_ | (refine cI (fun h => ?_) (fun h => ?_) <;> (try (exfalso; omega))) | refine cB (fun h => ?_) (fun h => ?_)))
    exact e_ret0 rfl ⟨rfl, rfl⟩ (.cons _ (.refl _))
end Go.Proofs.YtnbickholedckaaGreatDoor
namespace Go.Proofs.YtnbickholedckaaGreatDoor
open Go.RowKit
def mv1 (a x p i k s P : Nat) : Nat := if a ≠ p then a else if (x + k - i) % k < s then p else P
def mv2 (a x p i j k s : Nat) : Nat := if a ≠ p then x else if (x + k - i) % k < s then (x + k - i) % k else (x + k - j) % k
theorem md_int {x i k : Nat} (hi : i < k) : ((x : Int) - (i : Int) + (k : Int)) % (k : Int) = (((x + k - i) % k : Nat) : Int) := by
  rw [show (x : Int) - (i : Int) + (k : Int) = ((x + k - i : Nat) : Int) by omega, ← Int.natCast_emod]
attribute [local irreducible] OpF Ld CellAt Sl Sv pcA usP
set_option maxRecDepth 100000 in
set_option maxHeartbeats 8000000 in
theorem k_move (a x p i j k s P b7 b8 b16 b17 b21 b9 cP : Nat) (oP : Option Addr) (u v : Value) (ha : a ≤ 100) (hx : x ≤ 100) (hP : P ≤ 100) (hp : p ≤ 100) (hk : k ≤ 100) (hi : i < k) (hj : j < k) (hsk : s ≤ 100) (B : Nat) (w0 : Wd) (hs : HS)
    (h7 : (b7, [iv p]) ∈ hs) (h8 : (b8, [iv i]) ∈ hs) (h16 : (b16, [iv k]) ∈ hs) (h17 : (b17, [iv s]) ∈ hs) (h21 : (b21, [.slice oP (P + 1) cP, u, v]) ∈ hs) (h9 : (b9, [iv j]) ∈ hs) :
    Fn Tryz.prog 48 #[iv a, iv x, .pointer (some ⟨b7, 0, none⟩), .pointer (some ⟨b8, 0, none⟩), .pointer (some ⟨b16, 0, none⟩), .pointer (some ⟨b17, 0, none⟩), .pointer (some ⟨b21, 0, none⟩), .pointer (some ⟨b9, 0, none⟩)] B w0 hs (fun v h => v = .tuple #[iv (mv1 a x p i k s P), iv (mv2 a x p i j k s)] ∧ h = hs) := by
  have e1 := md_int (x := x) hi
  have e2 := md_int (x := x) hj
  have l1 : (x + k - i) % k < k := Nat.mod_lt _ (by omega)
  unfold mv1 mv2
  by_cases hap : a = p
  · have hne : ¬ (a ≠ p) := fun h' => h' hap
    rw [if_neg hne, if_neg hne]
    by_cases h2 : (x + k - i) % k < s
    · rw [if_pos h2, if_pos h2]
      refine fn_enter Tryz.func48 rfl Tryz.ntmps48 (by simp) ?_
      repeat' (first | ((with_reducible apply kP (.load 3 _)); refine sP ?_ (o_load rfl (ld_one (shTOf rfl) (own (by first | exact h7 | exact h8 | exact h16 | exact h17 | exact h9) rfl)))) | ((with_reducible apply kDP (.load 3 _)); refine dP ?_ (hX := rfl) (hv := o_load rfl (ld_one (shTOf rfl) (own (by first | exact h7 | exact h8 | exact h16 | exact h17 | exact h9) rfl)))) | ((with_reducible apply kQO (.load 3 _)); refine qP ?_ (o_load rfl (ld_one (shTOf rfl) (own (by first | exact h7 | exact h8 | exact h16 | exact h17 | exact h9) rfl)))) | (with_reducible first | refine c_seq ?_ | refine c_reg ?_ | refine c_region ?_ | refine c_block ?_ | refine c_skip ?_ | refine c_exit ?_ | refine c_ret ?_ | refine s_nil ?_ | refine x_then ?_ | refine x_then_exit ?_ | refine x_then_ret ?_ | refine x_block ?_ | refine x_block_ret ?_ | refine x_block_same ?_ | refine x_block_other (by first | rfl | decide) ?_ | refine q_nil ?_ | refine k_nil ?_) | ((with_reducible apply kP _); refine sP ?_) | ((with_reducible apply kP _); refine sX ?_) | ((with_reducible apply kQP); refine qP ?_) | ((with_reducible apply kQP); refine qX ?_) | ((with_reducible apply kC); first | refine cT ?_ | refine cF ?_ | (refine cI (fun h => ?_) (fun h => ?_) <;> (try (exfalso; omega))) | refine cB (fun h => ?_) (fun h => ?_)) | ((with_reducible apply kR); refine cQ ?_))
      all_goals first
        | (exfalso; omega)
        | (refine e_ret2 (hs' := hs) rfl rfl rfl ⟨?_, rfl⟩ SCt; rw [e1]; try rfl)
        | trace_state
    · rw [if_neg h2, if_neg h2]
      refine fn_enter Tryz.func48 rfl Tryz.ntmps48 (by simp) ?_
      repeat' (first | ((with_reducible apply kP (.load 3 _)); refine sP ?_ (o_load rfl (ld_one (shTOf rfl) (own (by first | exact h7 | exact h8 | exact h16 | exact h17 | exact h9) rfl)))) | ((with_reducible apply kDP (.load 3 _)); refine dP ?_ (hX := rfl) (hv := o_load rfl (ld_one (shTOf rfl) (own (by first | exact h7 | exact h8 | exact h16 | exact h17 | exact h9) rfl)))) | ((with_reducible apply kQO (.load 3 _)); refine qP ?_ (o_load rfl (ld_one (shTOf rfl) (own (by first | exact h7 | exact h8 | exact h16 | exact h17 | exact h9) rfl)))) | ((with_reducible apply kP (.load 22 _)); refine sP ?_ (o_load rfl (ld_one (shTOf rfl) (own h21 rfl)))) | ((with_reducible apply kDP (.load 22 _)); refine dP ?_ (hX := rfl) (hv := o_load rfl (ld_one (shTOf rfl) (own h21 rfl)))) | ((with_reducible apply kQO (.load 22 _)); refine qP ?_ (o_load rfl (ld_one (shTOf rfl) (own h21 rfl)))) | (with_reducible first | refine c_seq ?_ | refine c_reg ?_ | refine c_region ?_ | refine c_block ?_ | refine c_skip ?_ | refine c_exit ?_ | refine c_ret ?_ | refine s_nil ?_ | refine x_then ?_ | refine x_then_exit ?_ | refine x_then_ret ?_ | refine x_block ?_ | refine x_block_ret ?_ | refine x_block_same ?_ | refine x_block_other (by first | rfl | decide) ?_ | refine q_nil ?_ | refine k_nil ?_) | ((with_reducible apply kP _); refine sP ?_) | ((with_reducible apply kP _); refine sX ?_) | ((with_reducible apply kQP); refine qP ?_) | ((with_reducible apply kQP); refine qX ?_) | ((with_reducible apply kC); first | refine cT ?_ | refine cF ?_ | (refine cI (fun h => ?_) (fun h => ?_) <;> (try (exfalso; omega))) | refine cB (fun h => ?_) (fun h => ?_)) | ((with_reducible apply kR); refine cQ ?_))
      all_goals first
        | (exfalso; omega)
        | (refine e_ret2 (hs' := hs) rfl rfl rfl ⟨?_, rfl⟩ SCt; rw [e2, show ((P + 1 : Nat) : Int) - 1 = (P : Int) by omega]; try rfl)
        | trace_state
  · rw [if_pos hap, if_pos hap]
    refine fn_enter Tryz.func48 rfl Tryz.ntmps48 (by simp) ?_
    repeat' (first | ((with_reducible apply kP (.load 3 _)); refine sP ?_ (o_load rfl (ld_one (shTOf rfl) (own (by first | exact h7 | exact h8 | exact h16 | exact h17 | exact h9) rfl)))) | ((with_reducible apply kDP (.load 3 _)); refine dP ?_ (hX := rfl) (hv := o_load rfl (ld_one (shTOf rfl) (own (by first | exact h7 | exact h8 | exact h16 | exact h17 | exact h9) rfl)))) | ((with_reducible apply kQO (.load 3 _)); refine qP ?_ (o_load rfl (ld_one (shTOf rfl) (own (by first | exact h7 | exact h8 | exact h16 | exact h17 | exact h9) rfl)))) | (with_reducible first | refine c_seq ?_ | refine c_reg ?_ | refine c_region ?_ | refine c_block ?_ | refine c_skip ?_ | refine c_exit ?_ | refine c_ret ?_ | refine s_nil ?_ | refine x_then ?_ | refine x_then_exit ?_ | refine x_then_ret ?_ | refine x_block ?_ | refine x_block_ret ?_ | refine x_block_same ?_ | refine x_block_other (by first | rfl | decide) ?_ | refine q_nil ?_ | refine k_nil ?_) | ((with_reducible apply kP _); refine sP ?_) | ((with_reducible apply kP _); refine sX ?_) | ((with_reducible apply kQP); refine qP ?_) | ((with_reducible apply kQP); refine qX ?_) | ((with_reducible apply kC); first | refine cT ?_ | refine cF ?_ | (refine cI (fun h => ?_) (fun h => ?_) <;> (try (exfalso; omega))) | refine cB (fun h => ?_) (fun h => ?_)) | ((with_reducible apply kR); refine cQ ?_))
    all_goals first
      | (exfalso; omega)
      | exact e_ret2 (hs' := hs) rfl rfl rfl ⟨rfl, rfl⟩ SCt
      | trace_state
end Go.Proofs.YtnbickholedckaaGreatDoor
namespace Go.Proofs.YtnbickholedckaaGreatDoor
open Go.RowKit
/-- The two pieces of a cut. -/
def spA (ps : List Pc) (p i s : Nat) (z w : Int) : Pc := { (default : Pc) with sd := ptl (pcA ps p).sd i s z, an := tab s (hvF (pcA ps p).an i w) ++ [hvL (pcA ps p).an i s w] }
def spB (ps : List Pc) (p i j s t : Nat) (z w : Int) : Pc := { (default : Pc) with sd := ptl (pcA ps p).sd j t z, an := tab t (hvF (pcA ps p).an j ((pcA ps p).an.getD j 0 - hvL (pcA ps p).an i s w)) ++ [(pcA ps p).an.getD i 0 - w] }
def spP (ps : List Pc) (p i j : Nat) (z w : Int) : List Pc :=
  ps.set p (spA ps p i ((j + (pcA ps p).sd.length - i) % (pcA ps p).sd.length) z w) ++ [spB ps p i j ((j + (pcA ps p).sd.length - i) % (pcA ps p).sd.length) ((pcA ps p).sd.length - (j + (pcA ps p).sd.length - i) % (pcA ps p).sd.length) z w]
/-- The seams after a cut, the first so many. -/
def spT (sm : List Int) (p i j k s P : Nat) : Nat → List Int
  | 0 => []
  | t + 1 => spT sm p i j k s P t ++ [((mv1 (smA sm t).toNat (smI sm t).toNat p i k s P : Nat) : Int), ((mv2 (smA sm t).toNat (smI sm t).toNat p i j k s : Nat) : Int), ((mv1 (smB sm t).toNat (smJ sm t).toNat p i k s P : Nat) : Int), ((mv2 (smB sm t).toNat (smJ sm t).toNat p i j k s : Nat) : Int)]
theorem spT_len (sm : List Int) (p i j k s P : Nat) : ∀ t, (spT sm p i j k s P t).length = t * 4
  | 0 => rfl
  | t + 1 => by unfold spT; rw [List.length_append, spT_len sm p i j k s P t]; simp only [List.length_cons, List.length_nil]; omega
def spM (ps : List Pc) (sm : List Int) (m p i j : Nat) : List Int :=
  spT sm p i j (pcA ps p).sd.length ((j + (pcA ps p).sd.length - i) % (pcA ps p).sd.length) ps.length m ++ [(p : Int), (((j + (pcA ps p).sd.length - i) % (pcA ps p).sd.length : Nat) : Int), (ps.length : Int), (((pcA ps p).sd.length - (j + (pcA ps p).sd.length - i) % (pcA ps p).sd.length : Nat) : Int)]
/-- What is wrong with a cut. -/
def spE (ps : List Pc) (sm : List Int) (m : Nat) (e p i j z w : Int) : Int :=
  if vdC ps sm m e ≠ 0 then vdC ps sm m e
  else if ¬ (hsP ps.length (sdF ps) p i ∧ hsP ps.length (sdF ps) p j) then 5
  else if (j.toNat + (pcA ps p.toNat).sd.length - i.toNat) % (pcA ps p.toNat).sd.length < 2 ∨ (pcA ps p.toNat).sd.length < (j.toNat + (pcA ps p.toNat).sd.length - i.toNat) % (pcA ps p.toNat).sd.length + 2 ∨ ¬ (1 ≤ z ∧ z ≤ 200) ∨ ¬ (1 ≤ w ∧ w < (pcA ps p.toNat).an.getD i.toNat 0) then 1
  else if ¬ (1 ≤ hvL (pcA ps p.toNat).an i.toNat ((j.toNat + (pcA ps p.toNat).sd.length - i.toNat) % (pcA ps p.toNat).sd.length) w ∧ hvL (pcA ps p.toNat).an i.toNat ((j.toNat + (pcA ps p.toNat).sd.length - i.toNat) % (pcA ps p.toNat).sd.length) w ≤ 359) ∨ ¬ (1 ≤ (pcA ps p.toNat).an.getD j.toNat 0 - hvL (pcA ps p.toNat).an i.toNat ((j.toNat + (pcA ps p.toNat).sd.length - i.toNat) % (pcA ps p.toNat).sd.length) w ∧ (pcA ps p.toNat).an.getD j.toNat 0 - hvL (pcA ps p.toNat).an i.toNat ((j.toNat + (pcA ps p.toNat).sd.length - i.toNat) % (pcA ps p.toNat).sd.length) w ≤ 359) then 1
  else if ps.length = 8 then 4 else 0
theorem pcsv_mid (l1 l2 : List Rp) (r : Rp) : pcsv (rpP (l1 ++ r :: l2)) = pcsv (rpP l1) ++ (.slice r.p.oa r.p.sd.length r.p.ca :: .slice r.p.ob r.p.an.length r.p.cb :: pcsv (rpP l2)) := by
  unfold rpP
  rw [List.map_append, pcsv_app, List.map_cons]
  rfl
/-- A copy whose piece p is another one, with one piece more, and other seams. -/
theorem CpR.cut {ps : List Pc} {oP oS : Option Addr} {cP cS m' p : Nat} {e : Int} {l1 l2 : List Rp} {r a b : Rp} {sm' : List Int} {bo ko : HS} {xa xb : Pc} (hl : (l1 ++ r :: l2).length = ps.length) (hp : l1.length = p)
    (hr : ∀ q ∈ l1 ++ r :: l2, RpOk q) (he : ∀ i, i < ps.length → (pcA (rpP (l1 ++ r :: l2)) i).sd = (pcA ps i).sd ∧ (pcA (rpP (l1 ++ r :: l2)) i).an = (pcA ps i).an)
    (ha : RpOk a) (hb : RpOk b) (ea : a.p.sd = xa.sd ∧ a.p.an = xa.an) (eb : b.p.sd = xb.sd ∧ b.p.an = xb.an)
    (hbo : RowOk oP cP 2 (pcsv (rpP (l1 ++ a :: l2)) ++ [.slice b.p.oa b.p.sd.length b.p.ca, .slice b.p.ob b.p.an.length b.p.cb]) bo) (hko : RowOk oS cS 4 (ivs sm') ko) :
    CpR (ps.set p xa ++ [xb]) sm' m' e (.agg #[.slice oP (ps.length + 1) cP, .slice oS m' cS, iv e]) (ko ++ (bo ++ (b.k ++ (rpb l2 ++ (a.k ++ rpb l1))))) := by
  have hpl : p < ps.length := by rw [← hl, ← hp]; simp
  have hlen : (ps.set p xa ++ [xb]).length = ps.length + 1 := by simp
  have e1 : ∀ q : List Rp, ∀ x : Rp, pcsv (rpP (q ++ [x])) = pcsv (rpP q) ++ [.slice x.p.oa x.p.sd.length x.p.ca, .slice x.p.ob x.p.an.length x.p.cb] := fun q x => by
    unfold rpP; rw [List.map_append, pcsv_app]; rfl
  refine ⟨oP, cP, oS, cS, (l1 ++ a :: l2) ++ [b], bo, ko, by rw [hlen], by rw [e1]; exact hbo, fun q hq => ?_, ?_, fun i hi => ?_, hko, ?_⟩
  · rcases List.mem_append.1 hq with hq | hq
    · rcases List.mem_append.1 hq with hq | hq
      · exact hr q (List.mem_append_left _ hq)
      · rcases List.mem_cons.1 hq with rfl | hq
        · exact ha
        · exact hr q (List.mem_append_right _ (.tail _ hq))
    · rw [List.mem_singleton] at hq; subst hq; exact hb
  · rw [hlen, ← hl]; simp; omega
  · rw [hlen] at hi
    have hlr : (rpP (l1 ++ a :: l2)).length = ps.length := by rw [rpP, List.length_map, ← hl]; simp
    have e2 : rpP ((l1 ++ a :: l2) ++ [b]) = rpP (l1 ++ a :: l2) ++ [b.p] := by unfold rpP; rw [List.map_append]; rfl
    rw [e2]
    by_cases hin : i < ps.length
    · rw [pcA_lt (by omega), pcA_lt (by rw [List.length_set]; exact hin)]
      by_cases hip : i = p
      · subst hip
        rw [show pcA (ps.set i xa) i = xa by unfold pcA; rw [List.getD_eq_getElem?_getD, List.getElem?_set_self hin]; rfl]
        rw [← hp, rp_mid]
        exact ea
      · rw [show pcA (ps.set p xa) i = pcA ps i by unfold pcA; rw [List.getD_eq_getElem?_getD, List.getD_eq_getElem?_getD, List.getElem?_set_ne (fun h => hip h.symm)]]
        rw [rp_ne l1 l2 r a (by omega)]
        exact he i hin
    · obtain rfl : i = ps.length := by omega
      have q1 := pcA_eq (rpP (l1 ++ a :: l2)) b.p
      rw [hlr] at q1
      have q2 := pcA_eq (ps.set p xa) xb
      rw [List.length_set] at q2
      rw [q1, q2]
      exact eb
  · rw [rpb_snoc, rpb_split]
theorem seP {n : Nat} {sd : Nat → List Int} {sm : List Int} {e : Int} {k : Nat} (h : seE n sd sm e k = 0) : hsP n sd (smA sm k) (smI sm k) ∧ hsP n sd (smB sm k) (smJ sm k) := by
  by_cases hn : hsP n sd (smA sm k) (smI sm k) ∧ hsP n sd (smB sm k) (smJ sm k)
  · exact hn
  · rw [seE_5 hn] at h; exact absurd h (by decide)
theorem CpR.cutS {ps : List Pc} {oaN oaM oa5 oa6 oa7 oa8 : Option Addr} {cN cM c5 c6 c7 c8 m p i j s : Nat} {e z w : Int} {sm : List Int} {L1 L2 : List Rp} {r : Rp} {kN kM k5 k6 k7 k8 : HS} (hsE : s = (j + (pcA ps p).sd.length - i) % (pcA ps p).sd.length)
    (g4 : (L1 ++ r :: L2).length = ps.length) (hL1 : L1.length = p) (g3 : ∀ q ∈ L1 ++ r :: L2, RpOk q) (g5 : ∀ i, i < ps.length → (pcA (rpP (L1 ++ r :: L2)) i).sd = (pcA ps i).sd ∧ (pcA (rpP (L1 ++ r :: L2)) i).an = (pcA ps i).an)
    (hr5 : RowOk oa5 c5 1 (ivs (ptl (pcA ps p).sd i s z)) k5) (hr6 : RowOk oa6 c6 1 (ivs (tab s (hvF (pcA ps p).an i w) ++ [hvL (pcA ps p).an i s w])) k6) (hr7 : RowOk oa7 c7 1 (ivs (ptl (pcA ps p).sd j ((pcA ps p).sd.length - s) z)) k7)
    (hr8 : RowOk oa8 c8 1 (ivs (tab ((pcA ps p).sd.length - s) (hvF (pcA ps p).an j ((pcA ps p).an.getD j 0 - hvL (pcA ps p).an i s w)) ++ [(pcA ps p).an.getD i 0 - w])) k8)
    (hrN : RowOk oaN cN 2 ((pcsv (rpP L1) ++ (.slice oa5 (s + 1) c5 :: .slice oa6 (s + 1) c6 :: pcsv (rpP L2))) ++ [.slice oa7 ((pcA ps p).sd.length - s + 1) c7, .slice oa8 ((pcA ps p).sd.length - s + 1) c8]) kN)
    (hrM : RowOk oaM cM 4 (ivs (spT sm p i j (pcA ps p).sd.length s ps.length m) ++ [iv p, iv s, iv ps.length, iv ((pcA ps p).sd.length - s : Nat)]) kM) :
    CpR (spP ps p i j z w) (spM ps sm m p i j) (m + 1) e (.agg #[.slice oaN (ps.length + 1) cN, .slice oaM (m + 1) cM, iv e]) (kM ++ (kN ++ ((k8 ++ k7) ++ (rpb L2 ++ ((k6 ++ k5) ++ rpb L1))))) := by
  have l1 : ∀ (n : Nat) (F : Nat → Int) (x : Int), (tab n F ++ [x]).length = n + 1 := fun n F x => by rw [List.length_append, tab_length]; rfl
  have q := CpR.cut (m' := m + 1) (e := e) (sm' := spM ps sm m p i j) (xa := spA ps p i s z w) (xb := spB ps p i j s ((pcA ps p).sd.length - s) z w) g4 hL1 g3 g5
    (a := ⟨⟨oa5, c5, ptl (pcA ps p).sd i s z, oa6, c6, tab s (hvF (pcA ps p).an i w) ++ [hvL (pcA ps p).an i s w]⟩, k6 ++ k5⟩)
    (b := ⟨⟨oa7, c7, ptl (pcA ps p).sd j ((pcA ps p).sd.length - s) z, oa8, c8, tab ((pcA ps p).sd.length - s) (hvF (pcA ps p).an j ((pcA ps p).an.getD j 0 - hvL (pcA ps p).an i s w)) ++ [(pcA ps p).an.getD i 0 - w]⟩, k8 ++ k7⟩)
    (oP := oaN) (cP := cN) (bo := kN) (oS := oaM) (cS := cM) (ko := kM) ⟨k5, k6, hr5, hr6, rfl⟩ ⟨k7, k8, hr7, hr8, rfl⟩ ⟨rfl, rfl⟩ ⟨rfl, rfl⟩ (by
      rw [pcsv_mid]
      dsimp only
      rw [ptl_len, ptl_len, l1, l1]
      exact hrN) (by
      unfold spM
      rw [← hsE, show ∀ a b : List Int, ivs (a ++ b) = ivs a ++ ivs b from fun a b => by unfold ivs; rw [List.map_append]]
      exact hrM)
  unfold spP
  rw [← hsE]
  exact q
theorem o_bld4 {P : Program} {n : NN} {B : Nat} {w0 : Wd} {fr : FR} {hs : HS} {ty t : TypeId} {x y q p : Operand} {v u r s z0 z1 z2 z3 : Value} (hx : opv fr x = some v) (hy : opv fr y = some u) (hq : opv fr q = some r) (hp : opv fr p = some s) (h1 : v.cells = #[v]) (h2 : u.cells = #[u]) (h3 : r.cells = #[r]) (h4 : s.cells = #[s]) (hz : zc P t = some [z0, z1, z2, z3].toArray) (hpl : pl P t = some [(0, 1), (1, 1), (2, 1), (3, 1)]) :
    OpF P n B w0 (.build t #[(0, x), (1, y), (2, q), (3, p)]) ty fr hs (.agg #[v, u, r, s]) :=
  o_build (xs := [(0, x), (1, y), (2, q), (3, p)]) (vs := [(0, v), (1, u), (2, r), (3, s)]) (by simp [partv, hx, hy, hq, hp]) hz hpl (by simp [bldL, one_sz h1, one_sz h2, one_sz h3, one_sz h4, one_toList h1, one_toList h2, one_toList h3, one_toList h4, setAll])
section
variable {n : NN} {B : Nat} {w0 : Wd} {fr : FR} {hs hs' : HS} {ty : TypeId} {K : Act → World → Prop} {ops : Array Oper} {l : List Oper} {pos : String} {aft : Array Edge}
/-- A struct of two cells is put into a row of such. -/
theorem st41 {t : TypeId} {x y : Operand} {b o : Nat} {A C zz : List Value} {x0 y0 v1 v2 : Value} (ho : o = A.length) (h : Sat n B w0 (sl Tryz.prog ops K l) fr hs') (hf : Flat [v1, v2]) (hx : opv fr x = some (.pointer (some ⟨b, o, none⟩)) := by rfl) (hy : opv fr y = some (.agg #[v1, v2]) := by rfl) (hc : (Value.agg #[v1, v2]).cells = #[v1, v2] := by rfl) (ht : getT shT t = some (true, 2) := by rfl)
    (hu : Upd b ((A ++ (x0 :: y0 :: C)) ++ zz) ((A ++ (v1 :: v2 :: C)) ++ zz) hs hs' := by with_reducible first | exact uu0 | exact uu1 | exact uu2 | exact uu3 | exact uu4 | exact uu5 | exact uu6 | exact uu7 | exact uu8 | ((repeat (first | exact uu0 | apply Upd.tail | apply Upd.app)); done)) :
    Sat n B w0 (sl Tryz.prog ops K (⟨none, .store t x y, ty, pos, aft, none⟩ :: l)) fr hs := by
  subst ho
  refine s_store (cs := (A ++ (x0 :: y0 :: C)) ++ zz) (k := 2) (bb := true) hx hy (shTOf ht) (by rw [hc]; rfl) (by rw [hc]; exact hf) (by simp) ?_ rfl h
  rw [hc]
  have : setAll ((A ++ (x0 :: y0 :: C)) ++ zz) A.length #[v1, v2].toList = (A ++ (v1 :: v2 :: C)) ++ zz := by
    show ((((A ++ (x0 :: y0 :: C)) ++ zz).set A.length v1).set (A.length + 1) v2) = _
    rw [set_mid, set_mid1]
  rw [this]
  exact hu
/-- A struct of four numbers is put into a row of such. -/
theorem st56 {t : TypeId} {x y : Operand} {b o : Nat} {L R : List Int} {zz : List Value} {x0 x1 x2 x3 v0 v1 v2 v3 : Int} (ho : o = L.length) (h : Sat n B w0 (sl Tryz.prog ops K l) fr hs') (hx : opv fr x = some (.pointer (some ⟨b, o, none⟩)) := by rfl) (hy : opv fr y = some (.agg #[iv v0, iv v1, iv v2, iv v3]) := by rfl) (ht : getT shT t = some (true, 4) := by rfl)
    (hu : Upd b (ivs (L ++ (x0 :: x1 :: x2 :: x3 :: R)) ++ zz) (ivs (L ++ (v0 :: v1 :: v2 :: v3 :: R)) ++ zz) hs hs' := by with_reducible first | exact uu0 | exact uu1 | exact uu2 | exact uu3 | exact uu4 | exact uu5 | exact uu6 | exact uu7 | exact uu8 | ((repeat (first | exact uu0 | apply Upd.tail | apply Upd.app)); done)) :
    Sat n B w0 (sl Tryz.prog ops K (⟨none, .store t x y, ty, pos, aft, none⟩ :: l)) fr hs := by
  subst ho
  have hc : (Value.agg #[iv v0, iv v1, iv v2, iv v3]).cells = #[iv v0, iv v1, iv v2, iv v3] := by rfl
  refine s_store (cs := ivs (L ++ (x0 :: x1 :: x2 :: x3 :: R)) ++ zz) (k := 4) (bb := true) hx hy (shTOf ht) (by rw [hc]; rfl) (by rw [hc]; exact flat_iv [v0, v1, v2, v3]) (by rw [List.length_append, ivs_length, List.length_append]; simp only [List.length_cons]; omega) ?_ rfl h
  rw [hc]
  have : setAll (ivs (L ++ (x0 :: x1 :: x2 :: x3 :: R)) ++ zz) L.length #[iv v0, iv v1, iv v2, iv v3].toList = ivs (L ++ (v0 :: v1 :: v2 :: v3 :: R)) ++ zz := by
    show (((((ivs (L ++ (x0 :: x1 :: x2 :: x3 :: R)) ++ zz).set L.length (iv v0)).set (L.length + 1) (iv v1)).set (L.length + 1 + 1) (iv v2)).set (L.length + 1 + 1 + 1) (iv v3)) = _
    have sa : ∀ (M : List Int) (d : Nat) (v : Int), (L ++ M).set (L.length + d) v = L ++ M.set d v := fun M d v => by rw [List.set_append_right _ _ (by omega), Nat.add_sub_cancel_left]
    rw [show L.length + 1 + 1 + 1 = L.length + 3 from rfl, show L.length + 1 + 1 = L.length + 2 from rfl, show (ivs (L ++ (x0 :: x1 :: x2 :: x3 :: R)) ++ zz).set L.length (iv v0) = (ivs (L ++ (x0 :: x1 :: x2 :: x3 :: R)) ++ zz).set (L.length + 0) (iv v0) from rfl]
    rw [ivs_setz _ (by simp), sa, ivs_setz _ (by simp), sa, ivs_setz _ (by simp), sa, ivs_setz _ (by simp), sa]
    rfl
  rw [this]
  exact hu
end
end Go.Proofs.YtnbickholedckaaGreatDoor
