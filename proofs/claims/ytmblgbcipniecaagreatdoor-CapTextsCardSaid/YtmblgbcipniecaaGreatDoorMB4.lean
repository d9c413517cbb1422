/- The sides of a cap numbered through; the seams as pairs of sides. Plain: no program. -/
import Derived.Test.YtmblgbcipniecaaGreatDoorMB1
import Derived.Test.YtmblgbcipniecaaGreatDoorMB2
import Derived.Test.YtmblgbcipniecaaGreatDoorMA2
namespace Go.Proofs.YtmblgbcipniecaaGreatDoor

/-- The first side of a piece. -/
def fsN (sd : Nat → List Int) : Nat → Nat
  | 0 => 0
  | p + 1 => fsN sd p + (sd p).length
theorem fsN_mono {sd : Nat → List Int} {p q : Nat} (h : p ≤ q) : fsN sd p ≤ fsN sd q := by
  induction h with
  | refl => exact Nat.le_refl _
  | step _ ih => simp only [fsN]; omega
/-- The piece of a side. -/
def pcG (sd : Nat → List Int) : Nat → Nat → Nat
  | 0, _ => 0
  | p + 1, x => if fsN sd p ≤ x then p else pcG sd p x
theorem pcG_spec {sd : Nat → List Int} : ∀ {P x : Nat}, x < fsN sd P → pcG sd P x < P ∧ fsN sd (pcG sd P x) ≤ x ∧ x < fsN sd (pcG sd P x + 1)
  | 0, x, h => by simp [fsN] at h
  | P + 1, x, h => by
    simp only [pcG]
    split
    · rename_i h1; exact ⟨by omega, h1, h⟩
    · rename_i h1
      obtain ⟨a, b, c⟩ := pcG_spec (sd := sd) (P := P) (x := x) (by omega)
      exact ⟨by omega, b, c⟩
theorem pcG_uniq {sd : Nat → List Int} {P x q : Nat} (h1 : fsN sd q ≤ x) (h2 : x < fsN sd (q + 1)) (hq : q < P) : pcG sd P x = q := by
  have hx : x < fsN sd P := Nat.lt_of_lt_of_le h2 (fsN_mono (by omega))
  obtain ⟨a, b, c⟩ := pcG_spec hx
  rcases Nat.lt_trichotomy (pcG sd P x) q with h | h | h
  · have := fsN_mono (sd := sd) (p := pcG sd P x + 1) (q := q) (by omega); omega
  · exact h
  · have := fsN_mono (sd := sd) (p := q + 1) (q := pcG sd P x) (by omega); omega
/-- The next side of the same piece, and the one before. -/
def nxN (sd : Nat → List Int) (P x : Nat) : Nat := if x + 1 = fsN sd (pcG sd P x + 1) then fsN sd (pcG sd P x) else x + 1
def pvN (sd : Nat → List Int) (P x : Nat) : Nat := if x = fsN sd (pcG sd P x) then fsN sd (pcG sd P x + 1) - 1 else x - 1
section
variable {sd : Nat → List Int} {P : Nat}
theorem nx_pc {x : Nat} (hx : x < fsN sd P) : pcG sd P (nxN sd P x) = pcG sd P x ∧ nxN sd P x < fsN sd P := by
  obtain ⟨a, b, c⟩ := pcG_spec hx
  have hm := fsN_mono (sd := sd) (p := pcG sd P x + 1) (q := P) (by omega)
  unfold nxN
  split
  · exact ⟨pcG_uniq (Nat.le_refl _) (by omega) a, by omega⟩
  · exact ⟨pcG_uniq (by omega) (by omega) a, by omega⟩
theorem pv_pc {x : Nat} (hx : x < fsN sd P) : pcG sd P (pvN sd P x) = pcG sd P x ∧ pvN sd P x < fsN sd P := by
  obtain ⟨a, b, c⟩ := pcG_spec hx
  have hm := fsN_mono (sd := sd) (p := pcG sd P x + 1) (q := P) (by omega)
  unfold pvN
  split
  · exact ⟨pcG_uniq (by omega) (by omega) a, by omega⟩
  · exact ⟨pcG_uniq (by omega) (by omega) a, by omega⟩
theorem cap_net (sd : Nat → List Int) (P : Nat) : NetN (fsN sd P) (nxN sd P) (pvN sd P) id where
  nl := fun i hi => (nx_pc hi).2
  pl := fun i hi => (pv_pc hi).2
  ml := fun i hi => hi
  np := fun i hi => by
    obtain ⟨a, b, c⟩ := pcG_spec hi
    unfold nxN
    rw [(pv_pc hi).1]
    unfold pvN
    split
    · rename_i h; rw [if_pos (by omega)]; exact h.symm
    · rw [if_neg (by omega)]; omega
  pn := fun i hi => by
    obtain ⟨a, b, c⟩ := pcG_spec hi
    unfold pvN
    rw [(nx_pc hi).1]
    unfold nxN
    split
    · rename_i h; rw [if_pos rfl]; omega
    · rw [if_neg (by omega)]; omega
  mm := fun i _ => rfl
theorem cyc_pc {x y : Nat} (hx : x < fsN sd P) (hy : y < fsN sd P) : rpE (orE (fsN sd P) (nxN sd P)) x = rpE (orE (fsN sd P) (nxN sd P)) y ↔ pcG sd P x = pcG sd P y := by
  constructor
  · exact fun h => rpE_congr (pcG sd P) (fun p hp => by
      obtain ⟨h1, h2⟩ := mem_orE.1 hp
      rw [h2, (nx_pc h1).1]) h
  · have key : ∀ r x, x < fsN sd P → x = fsN sd (pcG sd P x) + r → rpE (orE (fsN sd P) (nxN sd P)) x = rpE (orE (fsN sd P) (nxN sd P)) (fsN sd (pcG sd P x)) := by
      intro r
      induction r with
      | zero => intro x _ hr; rw [Nat.add_zero] at hr; exact congrArg _ hr
      | succ r ih =>
        intro x hx hr
        obtain ⟨a, b, c⟩ := pcG_spec hx
        have hp : pcG sd P (x - 1) = pcG sd P x := pcG_uniq (by omega) (by omega) a
        have h1 := ih (x - 1) (by omega) (by rw [hp]; omega)
        rw [hp] at h1
        rw [← h1]
        have h2 := orE_step (f := nxN sd P) (x := x - 1) (n := fsN sd P) (by omega)
        have h3 : nxN sd P (x - 1) = x := by unfold nxN; rw [hp, if_neg (by omega)]; omega
        rw [h3] at h2
        exact h2.symm
    intro h
    obtain ⟨_, b1, _⟩ := pcG_spec hx
    obtain ⟨_, b2, _⟩ := pcG_spec hy
    rw [key (x - fsN sd (pcG sd P x)) x hx (by omega), key (y - fsN sd (pcG sd P y)) y hy (by omega), h]
theorem cap_zero (hk : ∀ p, p < P → 1 ≤ (sd p).length) : HdN (fsN sd P) (nxN sd P) (pcG sd P) P [] 0 :=
  HdN.zero (fun x y hx hy => cyc_pc hx hy) (fun i hi => (pcG_spec hi).1) (fun p hp => by
    have h1 := hk p hp
    have h2 := fsN_mono (sd := sd) (p := p + 1) (q := P) (by omega)
    have h3 : fsN sd (p + 1) = fsN sd p + (sd p).length := rfl
    exact ⟨fsN sd p, by omega, pcG_uniq (Nat.le_refl _) (by omega) hp⟩)
/-- A side by its piece and its place. -/
def adS (sd : Nat → List Int) (a i : Int) : Nat := fsN sd a.toNat + i.toNat
theorem adS_lt {a i : Int} (h : hsP P sd a i) : adS sd a i < fsN sd P ∧ pcG sd P (adS sd a i) = a.toNat ∧ adS sd a i - fsN sd a.toNat = i.toNat := by
  obtain ⟨⟨a0, a1⟩, i0, i1⟩ := h
  have h3 : fsN sd (a.toNat + 1) = fsN sd a.toNat + (sd a.toNat).length := rfl
  have h2 := fsN_mono (sd := sd) (p := a.toNat + 1) (q := P) (by omega)
  unfold adS
  exact ⟨by omega, pcG_uniq (by omega) (by omega) (by omega), by omega⟩
theorem adS_inj {a i b j : Int} (h : hsP P sd a i) (h' : hsP P sd b j) (e : adS sd a i = adS sd b j) : a = b ∧ i = j := by
  obtain ⟨_, p1, q1⟩ := adS_lt h
  obtain ⟨_, p2, q2⟩ := adS_lt h'
  rw [e, p2] at p1
  rw [e, ← p1, q2] at q1
  obtain ⟨⟨a0, a1⟩, i0, i1⟩ := h
  obtain ⟨⟨b0, b1⟩, j0, j1⟩ := h'
  omega
/-- The seams as pairs of sides. -/
def smL (sd : Nat → List Int) (sm : List Int) (m : Nat) : List (Nat × Nat) := (List.range m).map fun t => (adS sd (smA sm t) (smI sm t), adS sd (smB sm t) (smJ sm t))
theorem smL_succ (sd : Nat → List Int) (sm : List Int) (m : Nat) : smL sd sm (m + 1) = smL sd sm m ++ [(adS sd (smA sm m) (smI sm m), adS sd (smB sm m) (smJ sm m))] := by simp [smL, List.range_succ]
theorem smL_len (sd : Nat → List Int) (sm : List Int) (m : Nat) : (smL sd sm m).length = m := by simp [smL]
theorem seE_z {n : Nat} {sd : Nat → List Int} {sm : List Int} {e : Int} {k : Nat} (h : seE n sd sm e k = 0) : (hsP n sd (smA sm k) (smI sm k) ∧ hsP n sd (smB sm k) (smJ sm k)) ∧ ¬ ((smA sm k = smB sm k ∧ smI sm k = smJ sm k) ∨ usD sm k (smA sm k) (smI sm k) ∨ usD sm k (smB sm k) (smJ sm k)) ∧
    (-e ≤ lnS sd (smA sm k) (smI sm k) - lnS sd (smB sm k) (smJ sm k) ∧ lnS sd (smA sm k) (smI sm k) - lnS sd (smB sm k) (smJ sm k) ≤ e) := by
  by_cases h1 : hsP n sd (smA sm k) (smI sm k) ∧ hsP n sd (smB sm k) (smJ sm k)
  · by_cases h2 : (smA sm k = smB sm k ∧ smI sm k = smJ sm k) ∨ usD sm k (smA sm k) (smI sm k) ∨ usD sm k (smB sm k) (smJ sm k)
    · rw [seE_7 h1 h2] at h; cases h
    · by_cases h3 : -e ≤ lnS sd (smA sm k) (smI sm k) - lnS sd (smB sm k) (smJ sm k) ∧ lnS sd (smA sm k) (smI sm k) - lnS sd (smB sm k) (smJ sm k) ≤ e
      · exact ⟨h1, h2, h3⟩
      · rw [seE_8 h1 h2 h3] at h; cases h
  · rw [seE_5 h1] at h; cases h
theorem mu_used {sm : List Int} : ∀ {m x : Nat}, muS (smL sd sm m) x ≠ x → ∃ t, t < m ∧ (x = adS sd (smA sm t) (smI sm t) ∨ x = adS sd (smB sm t) (smJ sm t))
  | 0, x, h => absurd rfl h
  | m + 1, x, h => by
    rw [smL_succ, muS_snoc] at h
    unfold updM at h
    by_cases h1 : x = adS sd (smA sm m) (smI sm m)
    · exact ⟨m, by omega, .inl h1⟩
    · by_cases h2 : x = adS sd (smB sm m) (smJ sm m)
      · exact ⟨m, by omega, .inr h2⟩
      · simp only [h1, h2, if_false] at h
        obtain ⟨t, ht, hh⟩ := mu_used h
        exact ⟨t, by omega, hh⟩
/-- Valid seams join free sides. -/
theorem smL_ok {sm : List Int} {e : Int} : ∀ {m : Nat}, (∀ t, t < m → seE P sd sm e t = 0) → OkS (fsN sd P) (smL sd sm m)
  | 0, _ => .nil
  | m + 1, h => by
    obtain ⟨⟨hA, hB⟩, hn, _⟩ := seE_z (h m (by omega))
    rw [smL_succ]
    have key : ∀ {a i : Int}, hsP P sd a i → ¬ usD sm m a i → muS (smL sd sm m) (adS sd a i) = adS sd a i := by
      intro a i hs hu
      by_cases hf : muS (smL sd sm m) (adS sd a i) = adS sd a i
      · exact hf
      · obtain ⟨t, ht, hh⟩ := mu_used hf
        obtain ⟨⟨tA, tB⟩, _⟩ := seE_z (h t (by omega))
        refine absurd (usD_iff.2 ⟨t, ht, ?_⟩) hu
        rcases hh with hh | hh
        · obtain ⟨e1, e2⟩ := adS_inj hs tA hh; exact .inl ⟨e1.symm, e2.symm⟩
        · obtain ⟨e1, e2⟩ := adS_inj hs tB hh; exact .inr ⟨e1.symm, e2.symm⟩
    refine .snoc (smL_ok fun t ht => h t (by omega)) (adS_lt hA).1 (adS_lt hB).1 (fun e => hn (.inl (adS_inj hA hB e))) (key hA fun hu => hn (.inr (.inl hu))) (key hB fun hu => hn (.inr (.inr hu)))
/-- The partners as numbers; -1 where a side is free. -/
def mtF (mu : Nat → Nat) (x : Nat) : Int := if mu x = x then -1 else (mu x : Int)
theorem mtF_step {S : List (Nat × Nat)} {a b x : Nat} (hne : a ≠ b) : mtF (muS (S ++ [(a, b)])) x = if x = b then (a : Int) else if x = a then (b : Int) else mtF (muS S) x := by
  unfold mtF
  rw [muS_snoc]
  unfold updM
  by_cases h1 : x = a
  · subst h1; simp [hne, Ne.symm hne]
  · by_cases h2 : x = b
    · subst h2; simp [h1, hne]
    · simp [h1, h2]
end
end Go.Proofs.YtmblgbcipniecaaGreatDoor

namespace Go.Proofs.YtmblgbcipniecaaGreatDoor
open Go.RowKit
section
variable {n : NN} {B : Nat} {w0 : Wd} {fr : FR} {hs hs' : HS} {ty : TypeId} {K : Act → World → Prop} {ops : Array Oper} {l : List Oper} {d : Nat} {pos : String} {aft : Array Edge} {v : Value} {f : Nat} {fl : List Nat} {S S' : HS}
/-- A cell of an own block is turned; the cells are written out anew. -/
theorem stC {t : TypeId} {x y : Operand} {b o : Nat} {cs cs' : List Value} (h : Sat n B w0 (sl Tryz.prog ops K l) fr hs') (hx : opv fr x = some (.pointer (some ⟨b, o, none⟩)) := by rfl) (hm : (b, cs) ∈ hs := by exact MMt) (hy : opv fr y = some v := by rfl) (hcs : cs.set o v = cs' := by (simp only [List.set_cons_zero, List.set_cons_succ]; rfl)) (hv : v.cells = #[v] := by rfl) (h1 : v.oneCell' = true := by rfl) (ht : getT shT t = some (false, 1) := by rfl)
    (hu : Upd b cs cs' hs hs' := by with_reducible first | exact uu0 | exact uu1 | exact uu2 | exact uu3 | exact uu4 | exact uu5 | exact uu6 | exact uu7 | exact uu8 | ((repeat (first | exact uu0 | apply Upd.tail | apply Upd.app)); done)) (hl : o < cs.length := by (simp only [List.length_cons, List.length_nil]; omega)) :
    Sat n B w0 (sl Tryz.prog ops K (⟨none, .store t x y, ty, pos, aft, none⟩ :: l)) fr hs := s_store1 hx hy hv h1 (shTOf ht) (by rw [hcs]; exact hu) hl h
theorem dtC {t : TypeId} {x y : Operand} {b o : Nat} {cs cs' : List Value} (h : Rk Tryz.prog n B w0 ops K fl l S' fr hs') (hfl : effF f = true := by rfl) (hx : opv fr x = some (.pointer (some ⟨b, o, none⟩)) := by rfl) (hm : (b, cs) ∈ hs := by exact MMt) (hy : opv fr y = some v := by rfl) (hcs : cs.set o v = cs' := by (simp only [List.set_cons_zero, List.set_cons_succ]; rfl)) (hv : v.cells = #[v] := by rfl) (h1 : v.oneCell' = true := by rfl) (ht : getT shT t = some (false, 1) := by rfl)
    (hu : Upd b cs cs' hs hs' := by with_reducible first | exact uu0 | exact uu1 | exact uu2 | exact uu3 | exact uu4 | exact uu5 | exact uu6 | exact uu7 | exact uu8 | ((repeat (first | exact uu0 | apply Upd.tail | apply Upd.app)); done)) (hl : o < cs.length := by (simp only [List.length_cons, List.length_nil]; omega)) (hS : Kp f S hs' S' := by with_reducible first | exact kp4 | exact kp3 (List.nil_sublist _) | exact kp3 SCt) :
    Rk Tryz.prog n B w0 ops K (f :: fl) (⟨none, .store t x y, ty, pos, aft, none⟩ :: l) S fr hs := k_store1 hfl hx hy hv h1 (shTOf ht) (by rw [hcs]; exact hu) hl hS h
/-- A number of an own row that has room is turned. -/
theorem dtZ {t : TypeId} {x y : Operand} {b o : Nat} {m : List Int} {z : List Value} {u : Int} (h : Rk Tryz.prog n B w0 ops K fl l S' fr hs') (hx : opv fr x = some (.pointer (some ⟨b, o, none⟩))) (hm : (b, ivs m ++ z) ∈ hs) (hl : o < m.length) (hfl : effF f = true := by rfl) (hy : opv fr y = some (iv u) := by rfl) (ht : getT shT t = some (false, 1) := by rfl)
    (hu : Upd b (ivs m ++ z) (ivs (m.set o u) ++ z) hs hs' := by with_reducible first | exact uu0 | exact uu1 | exact uu2 | exact uu3 | exact uu4 | exact uu5 | exact uu6 | exact uu7 | exact uu8 | ((repeat (first | exact uu0 | apply Upd.tail | apply Upd.app)); done)) (hS : Kp f S hs' S' := by with_reducible first | exact kp4 | exact kp3 (List.nil_sublist _) | exact kp3 SCt) :
    Rk Tryz.prog n B w0 ops K (f :: fl) (⟨none, .store t x y, ty, pos, aft, none⟩ :: l) S fr hs := by
  refine k_store1 hfl hx hy rfl rfl (shTOf ht) (cs := ivs m ++ z) ?_ (by rw [List.length_append, ivs_length]; omega) hS h
  rw [List.set_append_left _ _ (by rw [ivs_length]; omega), ivs_set]
  exact hu
theorem sat_take {K : Act → World → Prop} {blk rest : HS} (hT : Take blk hs rest) (h : Sat n B w0 K fr (blk ++ rest)) : Sat n B w0 K fr hs := Sat.perm hT h
end
theorem tab_snoc (F : Nat → Int) (i : Nat) : ivs (tab (i + 1) F) = ivs (tab i F) ++ [iv (F i)] := by
  simp [tab, ivs, List.range_succ]
theorem tab_cong {n : Nat} {F G : Nat → Int} (h : ∀ i, i < n → F i = G i) : ivs (tab n F) = ivs (tab n G) := by rw [tab_ext h]
/-- The numbered cap in memory. -/
structure Sw where
  b : Nat
  oP : Option Addr
  cP : Nat
  oS : Option Addr
  nS : Nat
  cS : Nat
  e : Int
  o1 : Option Addr
  c1 : Nat
  o2 : Option Addr
  c2 : Nat
  o3 : Option Addr
  c3 : Nat
def Sw.cells (s : Sw) (P N : Nat) : List Value := [.slice s.oP P s.cP, .slice s.oS s.nS s.cS, iv s.e, .slice s.o1 N s.c1, .slice s.o2 P s.c2, .slice s.o3 N s.c3]
def pcL (sd : Nat → List Int) (P : Nat) : List Int := tab (fsN sd P) fun x => (pcG sd P x : Int)
def fsL (sd : Nat → List Int) (P : Nat) : List Int := tab P fun p => (fsN sd p : Int)
def mtL (sd : Nat → List Int) (P : Nat) (mu : Nat → Nat) : List Int := tab (fsN sd P) (mtF mu)
structure SewAt (B : Nat) (w0 : Wd) (hs : HS) (s : Sw) (ps : List Pc) (mu : Nat → Nat) : Prop where
  me : (s.b, s.cells ps.length (fsN (sdF ps) ps.length)) ∈ hs
  pcs : Sv B w0 hs s.oP (pcsv ps)
  sds : ∀ i, i < ps.length → Sl B w0 hs (pcA ps i).oa (pcA ps i).sd
  ans : ∀ i, i < ps.length → Sl B w0 hs (pcA ps i).ob (pcA ps i).an
  pcl : Sl B w0 hs s.o1 (pcL (sdF ps) ps.length)
  fsl : Sl B w0 hs s.o2 (fsL (sdF ps) ps.length)
  mtl : Sl B w0 hs s.o3 (mtL (sdF ps) ps.length mu)
theorem SewAt.sub {B : Nat} {w0 : Wd} {hs hs' : HS} {s : Sw} {ps : List Pc} {mu : Nat → Nat} (h : SewAt B w0 hs s ps mu) (hsub : hs.Sublist hs') : SewAt B w0 hs' s ps mu :=
  ⟨hsub.subset h.me, h.pcs.sub hsub, fun i hi => (h.sds i hi).sub hsub, fun i hi => (h.ans i hi).sub hsub, h.pcl.sub hsub, h.fsl.sub hsub, h.mtl.sub hsub⟩
theorem SewAt.base {B : Nat} {a b : Wd} {hs : HS} {s : Sw} {ps : List Pc} {mu : Nat → Nat} (hle : a.le b) (h : SewAt B a hs s ps mu) : SewAt B b hs s ps mu :=
  ⟨h.me, h.pcs.base hle, fun i hi => (h.sds i hi).base hle, fun i hi => (h.ans i hi).base hle, h.pcl.base hle, h.fsl.base hle, h.mtl.base hle⟩
/-- What sew hands over: its rows. -/
structure SewR (s : Sw) (sd : Nat → List Int) (P : Nat) (mu : Nat → Nat) (k1 k2 k3 : HS) : Prop where
  r1 : RowOk s.o1 s.c1 1 (ivs (pcL sd P)) k1
  r2 : RowOk s.o2 s.c2 1 (ivs (fsL sd P)) k2
  r3 : RowOk s.o3 s.c3 1 (ivs (mtL sd P mu)) k3
structure SwI where
  i : Nat
  j : Nat
  o1 : Option Addr
  c1 : Nat
  k1 : HS
  o2 : Option Addr
  c2 : Nat
  k2 : HS
  o3 : Option Addr
  c3 : Nat
  k3 : HS
theorem fs_le6 {sd an : Nat → List Int} {n : Nat} (h : allOK n sd an) : ∀ {p : Nat}, p ≤ n → fsN sd p ≤ 6 * p
  | 0, _ => Nat.le_refl _
  | p + 1, hp => by
    have h1 := fs_le6 h (p := p) (by omega)
    have h2 := (h p (by omega)).1.2
    simp only [fsN]; omega
end Go.Proofs.YtmblgbcipniecaaGreatDoor
