/- Split: what it answers; rules for pieces in memory. -/
import Derived.Test.YtnbickholedckaaMC65
import Derived.Test.YtnbickholedckaaMC50
namespace Go.Proofs.Ytnbickholedckaa
open Go.RowKit
/-- The two pieces of a cut. -/
def spA (ps : List Pc) (p i s : Nat) (z w : Int) : Pc := { (default : Pc) with sd := ptl (pcA ps p).sd i s z, an := tab s (hvF (pcA ps p).an i w) ++ [hvL (pcA ps p).an i s w] }
def spB (ps : List Pc) (p i j s t : Nat) (z w : Int) : Pc := { (default : Pc) with sd := ptl (pcA ps p).sd j t z, an := tab t (hvF (pcA ps p).an j ((pcA ps p).an.getD j 0 - hvL (pcA ps p).an i s w)) ++ [(pcA ps p).an.getD i 0 - w] }
def spP (ps : List Pc) (p i j : Nat) (z w : Int) : List Pc :=
  ps.set p (spA ps p i ((j + (pcA ps p).sd.length - i) % (pcA ps p).sd.length) z w) ++ [spB ps p i j ((j + (pcA ps p).sd.length - i) % (pcA ps p).sd.length) ((pcA ps p).sd.length - (j + (pcA ps p).sd.length - i) % (pcA ps p).sd.length) z w]
/-- The seams after a cut, the first so many. -/
def spT (sm : List Int) (p i j k s P : Nat) : Nat → List Int
  | 0 => []
  | t + 1 => spT sm p i j k s P t ++ [((mv1 (smA sm t).toNat (smI sm t).toNat p i k s P : Nat) : Int), ((mv2 (smA sm t).toNat (smI sm t).toNat p i j k s : Nat) : Int), ((mv1 (smB sm t).toNat (smJ sm t).toNat p i k s P : Nat) : Int), ((mv2 (smB sm t).toNat (smJ sm t).toNat p i j k s : Nat) : Int)]
theorem spT_len (sm : List Int) (p i j k s P : Nat) : ∀ t, (spT sm p i j k s P t).length = t * 4
  | 0 => rfl
  | t + 1 => by unfold spT; rw [List.length_append, spT_len sm p i j k s P t]; simp only [List.length_cons, List.length_nil]; omega
def spM (ps : List Pc) (sm : List Int) (m p i j : Nat) : List Int :=
  spT sm p i j (pcA ps p).sd.length ((j + (pcA ps p).sd.length - i) % (pcA ps p).sd.length) ps.length m ++ [(p : Int), (((j + (pcA ps p).sd.length - i) % (pcA ps p).sd.length : Nat) : Int), (ps.length : Int), (((pcA ps p).sd.length - (j + (pcA ps p).sd.length - i) % (pcA ps p).sd.length : Nat) : Int)]
/-- What is wrong with a cut. -/
def spE (ps : List Pc) (sm : List Int) (m : Nat) (e p i j z w : Int) : Int :=
  if vdC ps sm m e ≠ 0 then vdC ps sm m e
  else if ¬ (hsP ps.length (sdF ps) p i ∧ hsP ps.length (sdF ps) p j) then 5
  else if (j.toNat + (pcA ps p.toNat).sd.length - i.toNat) % (pcA ps p.toNat).sd.length < 2 ∨ (pcA ps p.toNat).sd.length < (j.toNat + (pcA ps p.toNat).sd.length - i.toNat) % (pcA ps p.toNat).sd.length + 2 ∨ ¬ (1 ≤ z ∧ z ≤ 200) ∨ ¬ (1 ≤ w ∧ w < (pcA ps p.toNat).an.getD i.toNat 0) then 1
  else if ¬ (1 ≤ hvL (pcA ps p.toNat).an i.toNat ((j.toNat + (pcA ps p.toNat).sd.length - i.toNat) % (pcA ps p.toNat).sd.length) w ∧ hvL (pcA ps p.toNat).an i.toNat ((j.toNat + (pcA ps p.toNat).sd.length - i.toNat) % (pcA ps p.toNat).sd.length) w ≤ 359) ∨ ¬ (1 ≤ (pcA ps p.toNat).an.getD j.toNat 0 - hvL (pcA ps p.toNat).an i.toNat ((j.toNat + (pcA ps p.toNat).sd.length - i.toNat) % (pcA ps p.toNat).sd.length) w ∧ (pcA ps p.toNat).an.getD j.toNat 0 - hvL (pcA ps p.toNat).an i.toNat ((j.toNat + (pcA ps p.toNat).sd.length - i.toNat) % (pcA ps p.toNat).sd.length) w ≤ 359) then 1
  else if ps.length = 8 then 4 else 0
theorem pcsv_mid (l1 l2 : List Rp) (r : Rp) : pcsv (rpP (l1 ++ r :: l2)) = pcsv (rpP l1) ++ (.slice r.p.oa r.p.sd.length r.p.ca :: .slice r.p.ob r.p.an.length r.p.cb :: pcsv (rpP l2)) := by
  unfold rpP
  rw [List.map_append, pcsv_app, List.map_cons]
  rfl
/-- A copy whose piece p is another one, with one piece more, and other seams. -/
theorem CpR.cut {ps : List Pc} {oP oS : Option Addr} {cP cS m' p : Nat} {e : Int} {l1 l2 : List Rp} {r a b : Rp} {sm' : List Int} {bo ko : HS} {xa xb : Pc} (hl : (l1 ++ r :: l2).length = ps.length) (hp : l1.length = p)
    (hr : ∀ q ∈ l1 ++ r :: l2, RpOk q) (he : ∀ i, i < ps.length → (pcA (rpP (l1 ++ r :: l2)) i).sd = (pcA ps i).sd ∧ (pcA (rpP (l1 ++ r :: l2)) i).an = (pcA ps i).an)
    (ha : RpOk a) (hb : RpOk b) (ea : a.p.sd = xa.sd ∧ a.p.an = xa.an) (eb : b.p.sd = xb.sd ∧ b.p.an = xb.an)
    (hbo : RowOk oP cP 2 (pcsv (rpP (l1 ++ a :: l2)) ++ [.slice b.p.oa b.p.sd.length b.p.ca, .slice b.p.ob b.p.an.length b.p.cb]) bo) (hko : RowOk oS cS 4 (ivs sm') ko) :
    CpR (ps.set p xa ++ [xb]) sm' m' e (.agg #[.slice oP (ps.length + 1) cP, .slice oS m' cS, iv e]) (ko ++ (bo ++ (b.k ++ (rpb l2 ++ (a.k ++ rpb l1))))) := by
  have hpl : p < ps.length := by rw [← hl, ← hp]; simp
  have hlen : (ps.set p xa ++ [xb]).length = ps.length + 1 := by simp
  have e1 : ∀ q : List Rp, ∀ x : Rp, pcsv (rpP (q ++ [x])) = pcsv (rpP q) ++ [.slice x.p.oa x.p.sd.length x.p.ca, .slice x.p.ob x.p.an.length x.p.cb] := fun q x => by
    unfold rpP; rw [List.map_append, pcsv_app]; rfl
  refine ⟨oP, cP, oS, cS, (l1 ++ a :: l2) ++ [b], bo, ko, by rw [hlen], by rw [e1]; exact hbo, fun q hq => ?_, ?_, fun i hi => ?_, hko, ?_⟩
  · rcases List.mem_append.1 hq with hq | hq
    · rcases List.mem_append.1 hq with hq | hq
      · exact hr q (List.mem_append_left _ hq)
      · rcases List.mem_cons.1 hq with rfl | hq
        · exact ha
        · exact hr q (List.mem_append_right _ (.tail _ hq))
    · rw [List.mem_singleton] at hq; subst hq; exact hb
  · rw [hlen, ← hl]; simp; omega
  · rw [hlen] at hi
    have hlr : (rpP (l1 ++ a :: l2)).length = ps.length := by rw [rpP, List.length_map, ← hl]; simp
    have e2 : rpP ((l1 ++ a :: l2) ++ [b]) = rpP (l1 ++ a :: l2) ++ [b.p] := by unfold rpP; rw [List.map_append]; rfl
    rw [e2]
    by_cases hin : i < ps.length
    · rw [pcA_lt (by omega), pcA_lt (by rw [List.length_set]; exact hin)]
      by_cases hip : i = p
      · subst hip
        rw [show pcA (ps.set i xa) i = xa by unfold pcA; rw [List.getD_eq_getElem?_getD, List.getElem?_set_self hin]; rfl]
        rw [← hp, rp_mid]
        exact ea
      · rw [show pcA (ps.set p xa) i = pcA ps i by unfold pcA; rw [List.getD_eq_getElem?_getD, List.getD_eq_getElem?_getD, List.getElem?_set_ne (fun h => hip h.symm)]]
        rw [rp_ne l1 l2 r a (by omega)]
        exact he i hin
    · obtain rfl : i = ps.length := by omega
      have q1 := pcA_eq (rpP (l1 ++ a :: l2)) b.p
      rw [hlr] at q1
      have q2 := pcA_eq (ps.set p xa) xb
      rw [List.length_set] at q2
      rw [q1, q2]
      exact eb
  · rw [rpb_snoc, rpb_split]
/-- Two sides of a piece, and how far apart they are. -/
structure CtX (k i j s : Nat) : Prop where
  sk : s < k
  ij : i = j ↔ s = 0
  i1 : ((i : Int) + 1) % (k : Int) = (j : Int) ↔ s = 1
  j1 : ((j : Int) + 1) % (k : Int) = (i : Int) ↔ s + 1 = k
theorem ctX {k i j : Nat} (hk : 3 ≤ k) (hi : i < k) (hj : j < k) : CtX k i j ((j + k - i) % k) := by
  have hs : (j + k - i) % k < k := Nat.mod_lt _ (by omega)
  have e : (j + k - i) % k = if i ≤ j then j - i else j + k - i := by
    split
    · rw [show j + k - i = (j - i) + k by omega, Nat.add_mod_right, Nat.mod_eq_of_lt (by omega)]
    · rw [Nat.mod_eq_of_lt (by omega)]
  have e1 : ∀ a : Nat, a < k → ((a : Int) + 1) % (k : Int) = if a + 1 = k then 0 else (a : Int) + 1 := fun a ha => by
    rw [show (a : Int) + 1 = ((a + 1 : Nat) : Int) by omega, ← Int.natCast_emod]
    split
    · rename_i h; rw [h, Nat.mod_self]; rfl
    · rw [Nat.mod_eq_of_lt (by omega)]
  refine ⟨hs, ?_, ?_, ?_⟩
  · rw [e]; split <;> omega
  · rw [e, e1 i hi]; split <;> split <;> omega
  · rw [e, e1 j hj]; split <;> split <;> omega
theorem seP {n : Nat} {sd : Nat → List Int} {sm : List Int} {e : Int} {k : Nat} (h : seE n sd sm e k = 0) : hsP n sd (smA sm k) (smI sm k) ∧ hsP n sd (smB sm k) (smJ sm k) := by
  by_cases hn : hsP n sd (smA sm k) (smI sm k) ∧ hsP n sd (smB sm k) (smJ sm k)
  · exact hn
  · rw [seE_5 hn] at h; exact absurd h (by decide)
theorem CpR.cutS {ps : List Pc} {oaN oaM oa5 oa6 oa7 oa8 : Option Addr} {cN cM c5 c6 c7 c8 m p i j s : Nat} {e z w : Int} {sm : List Int} {L1 L2 : List Rp} {r : Rp} {kN kM k5 k6 k7 k8 : HS} (hsE : s = (j + (pcA ps p).sd.length - i) % (pcA ps p).sd.length)
    (g4 : (L1 ++ r :: L2).length = ps.length) (hL1 : L1.length = p) (g3 : ∀ q ∈ L1 ++ r :: L2, RpOk q) (g5 : ∀ i, i < ps.length → (pcA (rpP (L1 ++ r :: L2)) i).sd = (pcA ps i).sd ∧ (pcA (rpP (L1 ++ r :: L2)) i).an = (pcA ps i).an)
    (hr5 : RowOk oa5 c5 1 (ivs (ptl (pcA ps p).sd i s z)) k5) (hr6 : RowOk oa6 c6 1 (ivs (tab s (hvF (pcA ps p).an i w) ++ [hvL (pcA ps p).an i s w])) k6) (hr7 : RowOk oa7 c7 1 (ivs (ptl (pcA ps p).sd j ((pcA ps p).sd.length - s) z)) k7)
    (hr8 : RowOk oa8 c8 1 (ivs (tab ((pcA ps p).sd.length - s) (hvF (pcA ps p).an j ((pcA ps p).an.getD j 0 - hvL (pcA ps p).an i s w)) ++ [(pcA ps p).an.getD i 0 - w])) k8)
    (hrN : RowOk oaN cN 2 ((pcsv (rpP L1) ++ (.slice oa5 (s + 1) c5 :: .slice oa6 (s + 1) c6 :: pcsv (rpP L2))) ++ [.slice oa7 ((pcA ps p).sd.length - s + 1) c7, .slice oa8 ((pcA ps p).sd.length - s + 1) c8]) kN)
    (hrM : RowOk oaM cM 4 (ivs (spT sm p i j (pcA ps p).sd.length s ps.length m) ++ [iv p, iv s, iv ps.length, iv ((pcA ps p).sd.length - s : Nat)]) kM) :
    CpR (spP ps p i j z w) (spM ps sm m p i j) (m + 1) e (.agg #[.slice oaN (ps.length + 1) cN, .slice oaM (m + 1) cM, iv e]) (kM ++ (kN ++ ((k8 ++ k7) ++ (rpb L2 ++ ((k6 ++ k5) ++ rpb L1))))) := by
  have l1 : ∀ (n : Nat) (F : Nat → Int) (x : Int), (tab n F ++ [x]).length = n + 1 := fun n F x => by rw [List.length_append, tab_length]; rfl
  have q := CpR.cut (m' := m + 1) (e := e) (sm' := spM ps sm m p i j) (xa := spA ps p i s z w) (xb := spB ps p i j s ((pcA ps p).sd.length - s) z w) g4 hL1 g3 g5
    (a := ⟨⟨oa5, c5, ptl (pcA ps p).sd i s z, oa6, c6, tab s (hvF (pcA ps p).an i w) ++ [hvL (pcA ps p).an i s w]⟩, k6 ++ k5⟩)
    (b := ⟨⟨oa7, c7, ptl (pcA ps p).sd j ((pcA ps p).sd.length - s) z, oa8, c8, tab ((pcA ps p).sd.length - s) (hvF (pcA ps p).an j ((pcA ps p).an.getD j 0 - hvL (pcA ps p).an i s w)) ++ [(pcA ps p).an.getD i 0 - w]⟩, k8 ++ k7⟩)
    (oP := oaN) (cP := cN) (bo := kN) (oS := oaM) (cS := cM) (ko := kM) ⟨k5, k6, hr5, hr6, rfl⟩ ⟨k7, k8, hr7, hr8, rfl⟩ ⟨rfl, rfl⟩ ⟨rfl, rfl⟩ (by
      rw [pcsv_mid]
      dsimp only
      rw [ptl_len, ptl_len, l1, l1]
      exact hrN) (by
      unfold spM
      rw [← hsE, show ∀ a b : List Int, ivs (a ++ b) = ivs a ++ ivs b from fun a b => by unfold ivs; rw [List.map_append]]
      exact hrM)
  unfold spP
  rw [← hsE]
  exact q
theorem o_bld4 {P : Program} {n : NN} {B : Nat} {w0 : Wd} {fr : FR} {hs : HS} {ty t : TypeId} {x y q p : Operand} {v u r s z0 z1 z2 z3 : Value} (hx : opv fr x = some v) (hy : opv fr y = some u) (hq : opv fr q = some r) (hp : opv fr p = some s) (h1 : v.cells = #[v]) (h2 : u.cells = #[u]) (h3 : r.cells = #[r]) (h4 : s.cells = #[s]) (hz : zc P t = some [z0, z1, z2, z3].toArray) (hpl : pl P t = some [(0, 1), (1, 1), (2, 1), (3, 1)]) :
    OpF P n B w0 (.build t #[(0, x), (1, y), (2, q), (3, p)]) ty fr hs (.agg #[v, u, r, s]) :=
  o_build (xs := [(0, x), (1, y), (2, q), (3, p)]) (vs := [(0, v), (1, u), (2, r), (3, s)]) (by simp [partv, hx, hy, hq, hp]) hz hpl (by simp [bldL, one_sz h1, one_sz h2, one_sz h3, one_sz h4, one_toList h1, one_toList h2, one_toList h3, one_toList h4, setAll])
section
variable {n : NN} {B : Nat} {w0 : Wd} {fr : FR} {hs hs' : HS} {ty : TypeId} {K : Act → World → Prop} {ops : Array Oper} {l : List Oper} {pos : String} {aft : Array Edge}
/-- A struct of two cells is put into a row of such. -/
theorem st41 {t : TypeId} {x y : Operand} {b o : Nat} {A C zz : List Value} {x0 y0 v1 v2 : Value} (ho : o = A.length) (h : Sat n B w0 (sl Try.prog ops K l) fr hs') (hf : Flat [v1, v2]) (hx : opv fr x = some (.pointer (some ⟨b, o, none⟩)) := by rfl) (hy : opv fr y = some (.agg #[v1, v2]) := by rfl) (hc : (Value.agg #[v1, v2]).cells = #[v1, v2] := by rfl) (ht : getT shT t = some (true, 2) := by rfl)
    (hu : Upd b ((A ++ (x0 :: y0 :: C)) ++ zz) ((A ++ (v1 :: v2 :: C)) ++ zz) hs hs' := by with_reducible first | exact uu0 | exact uu1 | exact uu2 | exact uu3 | exact uu4 | exact uu5 | exact uu6 | exact uu7 | exact uu8 | ((repeat (first | exact uu0 | apply Upd.tail | apply Upd.app)); done)) :
    Sat n B w0 (sl Try.prog ops K (⟨none, .store t x y, ty, pos, aft, none⟩ :: l)) fr hs := by
  subst ho
  refine s_store (cs := (A ++ (x0 :: y0 :: C)) ++ zz) (k := 2) (bb := true) hx hy (shTOf ht) (by rw [hc]; rfl) (by rw [hc]; exact hf) (by simp) ?_ rfl h
  rw [hc]
  have : setAll ((A ++ (x0 :: y0 :: C)) ++ zz) A.length #[v1, v2].toList = (A ++ (v1 :: v2 :: C)) ++ zz := by
    show ((((A ++ (x0 :: y0 :: C)) ++ zz).set A.length v1).set (A.length + 1) v2) = _
    rw [set_mid, set_mid1]
  rw [this]
  exact hu
/-- A struct of four numbers is put into a row of such. -/
theorem st56 {t : TypeId} {x y : Operand} {b o : Nat} {L R : List Int} {zz : List Value} {x0 x1 x2 x3 v0 v1 v2 v3 : Int} (ho : o = L.length) (h : Sat n B w0 (sl Try.prog ops K l) fr hs') (hx : opv fr x = some (.pointer (some ⟨b, o, none⟩)) := by rfl) (hy : opv fr y = some (.agg #[iv v0, iv v1, iv v2, iv v3]) := by rfl) (ht : getT shT t = some (true, 4) := by rfl)
    (hu : Upd b (ivs (L ++ (x0 :: x1 :: x2 :: x3 :: R)) ++ zz) (ivs (L ++ (v0 :: v1 :: v2 :: v3 :: R)) ++ zz) hs hs' := by with_reducible first | exact uu0 | exact uu1 | exact uu2 | exact uu3 | exact uu4 | exact uu5 | exact uu6 | exact uu7 | exact uu8 | ((repeat (first | exact uu0 | apply Upd.tail | apply Upd.app)); done)) :
    Sat n B w0 (sl Try.prog ops K (⟨none, .store t x y, ty, pos, aft, none⟩ :: l)) fr hs := by
  subst ho
  have hc : (Value.agg #[iv v0, iv v1, iv v2, iv v3]).cells = #[iv v0, iv v1, iv v2, iv v3] := by rfl
  refine s_store (cs := ivs (L ++ (x0 :: x1 :: x2 :: x3 :: R)) ++ zz) (k := 4) (bb := true) hx hy (shTOf ht) (by rw [hc]; rfl) (by rw [hc]; exact flat_iv [v0, v1, v2, v3]) (by rw [List.length_append, ivs_length, List.length_append]; simp only [List.length_cons]; omega) ?_ rfl h
  rw [hc]
  have : setAll (ivs (L ++ (x0 :: x1 :: x2 :: x3 :: R)) ++ zz) L.length #[iv v0, iv v1, iv v2, iv v3].toList = ivs (L ++ (v0 :: v1 :: v2 :: v3 :: R)) ++ zz := by
    show (((((ivs (L ++ (x0 :: x1 :: x2 :: x3 :: R)) ++ zz).set L.length (iv v0)).set (L.length + 1) (iv v1)).set (L.length + 1 + 1) (iv v2)).set (L.length + 1 + 1 + 1) (iv v3)) = _
    have sa : ∀ (M : List Int) (d : Nat) (v : Int), (L ++ M).set (L.length + d) v = L ++ M.set d v := fun M d v => by rw [List.set_append_right _ _ (by omega), Nat.add_sub_cancel_left]
    rw [show L.length + 1 + 1 + 1 = L.length + 3 from rfl, show L.length + 1 + 1 = L.length + 2 from rfl, show (ivs (L ++ (x0 :: x1 :: x2 :: x3 :: R)) ++ zz).set L.length (iv v0) = (ivs (L ++ (x0 :: x1 :: x2 :: x3 :: R)) ++ zz).set (L.length + 0) (iv v0) from rfl]
    rw [ivs_setz _ (by simp), sa, ivs_setz _ (by simp), sa, ivs_setz _ (by simp), sa, ivs_setz _ (by simp), sa]
    rfl
  rw [this]
  exact hu
end
end Go.Proofs.Ytnbickholedckaa
