/- The sides numbered through, in memory: sew. -/
import Derived.Test.YtnbickholedckaaMC11
import Derived.Test.YtnbickholedckaaMM11
namespace Go.Proofs.Ytnbickholedckaa
open Go.RowKit
section
variable {n : NN} {B : Nat} {w0 : Wd} {fr : FR} {hs hs' : HS} {ty : TypeId} {K : Act → World → Prop} {ops : Array Oper} {l : List Oper} {d : Nat} {pos : String} {aft : Array Edge} {v : Value} {f : Nat} {fl : List Nat} {S S' : HS}
/-- A cell of an own block is turned; the cells are written out anew. -/
theorem stC {t : TypeId} {x y : Operand} {b o : Nat} {cs cs' : List Value} (h : Sat n B w0 (sl Try.prog ops K l) fr hs') (hx : opv fr x = some (.pointer (some ⟨b, o, none⟩)) := by rfl) (hm : (b, cs) ∈ hs := by exact MMt) (hy : opv fr y = some v := by rfl) (hcs : cs.set o v = cs' := by (simp only [List.set_cons_zero, List.set_cons_succ]; rfl)) (hv : v.cells = #[v] := by rfl) (h1 : v.oneCell' = true := by rfl) (ht : getT shT t = some (false, 1) := by rfl)
    (hu : Upd b cs cs' hs hs' := by with_reducible first | exact uu0 | exact uu1 | exact uu2 | exact uu3 | exact uu4 | exact uu5 | exact uu6 | exact uu7 | exact uu8 | ((repeat (first | exact uu0 | apply Upd.tail | apply Upd.app)); done)) (hl : o < cs.length := by (simp only [List.length_cons, List.length_nil]; omega)) :
    Sat n B w0 (sl Try.prog ops K (⟨none, .store t x y, ty, pos, aft, none⟩ :: l)) fr hs := s_store1 hx hy hv h1 (shTOf ht) (by rw [hcs]; exact hu) hl h
theorem dtC {t : TypeId} {x y : Operand} {b o : Nat} {cs cs' : List Value} (h : Rk Try.prog n B w0 ops K fl l S' fr hs') (hfl : effF f = true := by rfl) (hx : opv fr x = some (.pointer (some ⟨b, o, none⟩)) := by rfl) (hm : (b, cs) ∈ hs := by exact MMt) (hy : opv fr y = some v := by rfl) (hcs : cs.set o v = cs' := by (simp only [List.set_cons_zero, List.set_cons_succ]; rfl)) (hv : v.cells = #[v] := by rfl) (h1 : v.oneCell' = true := by rfl) (ht : getT shT t = some (false, 1) := by rfl)
    (hu : Upd b cs cs' hs hs' := by with_reducible first | exact uu0 | exact uu1 | exact uu2 | exact uu3 | exact uu4 | exact uu5 | exact uu6 | exact uu7 | exact uu8 | ((repeat (first | exact uu0 | apply Upd.tail | apply Upd.app)); done)) (hl : o < cs.length := by (simp only [List.length_cons, List.length_nil]; omega)) (hS : Kp f S hs' S' := by with_reducible first | exact kp4 | exact kp3 (List.nil_sublist _) | exact kp3 SCt) :
    Rk Try.prog n B w0 ops K (f :: fl) (⟨none, .store t x y, ty, pos, aft, none⟩ :: l) S fr hs := k_store1 hfl hx hy hv h1 (shTOf ht) (by rw [hcs]; exact hu) hl hS h
/-- A number of an own row that has room is turned. -/
theorem dtZ {t : TypeId} {x y : Operand} {b o : Nat} {m : List Int} {z : List Value} {u : Int} (h : Rk Try.prog n B w0 ops K fl l S' fr hs') (hx : opv fr x = some (.pointer (some ⟨b, o, none⟩))) (hm : (b, ivs m ++ z) ∈ hs) (hl : o < m.length) (hfl : effF f = true := by rfl) (hy : opv fr y = some (iv u) := by rfl) (ht : getT shT t = some (false, 1) := by rfl)
    (hu : Upd b (ivs m ++ z) (ivs (m.set o u) ++ z) hs hs' := by with_reducible first | exact uu0 | exact uu1 | exact uu2 | exact uu3 | exact uu4 | exact uu5 | exact uu6 | exact uu7 | exact uu8 | ((repeat (first | exact uu0 | apply Upd.tail | apply Upd.app)); done)) (hS : Kp f S hs' S' := by with_reducible first | exact kp4 | exact kp3 (List.nil_sublist _) | exact kp3 SCt) :
    Rk Try.prog n B w0 ops K (f :: fl) (⟨none, .store t x y, ty, pos, aft, none⟩ :: l) S fr hs := by
  refine k_store1 hfl hx hy rfl rfl (shTOf ht) (cs := ivs m ++ z) ?_ (by rw [List.length_append, ivs_length]; omega) hS h
  rw [List.set_append_left _ _ (by rw [ivs_length]; omega), ivs_set]
  exact hu
theorem sat_take {K : Act → World → Prop} {blk rest : HS} (hT : Take blk hs rest) (h : Sat n B w0 K fr (blk ++ rest)) : Sat n B w0 K fr hs := Sat.perm hT h
end
theorem tab_snoc (F : Nat → Int) (i : Nat) : ivs (tab (i + 1) F) = ivs (tab i F) ++ [iv (F i)] := by
  simp [tab, ivs, List.range_succ]
theorem tab_cong {n : Nat} {F G : Nat → Int} (h : ∀ i, i < n → F i = G i) : ivs (tab n F) = ivs (tab n G) := by rw [tab_ext h]
/-- The numbered cap in memory. -/
structure Sw where
  b : Nat
  oP : Option Addr
  cP : Nat
  oS : Option Addr
  nS : Nat
  cS : Nat
  e : Int
  o1 : Option Addr
  c1 : Nat
  o2 : Option Addr
  c2 : Nat
  o3 : Option Addr
  c3 : Nat
def Sw.cells (s : Sw) (P N : Nat) : List Value := [.slice s.oP P s.cP, .slice s.oS s.nS s.cS, iv s.e, .slice s.o1 N s.c1, .slice s.o2 P s.c2, .slice s.o3 N s.c3]
def pcL (sd : Nat → List Int) (P : Nat) : List Int := tab (fsN sd P) fun x => (pcG sd P x : Int)
def fsL (sd : Nat → List Int) (P : Nat) : List Int := tab P fun p => (fsN sd p : Int)
def mtL (sd : Nat → List Int) (P : Nat) (mu : Nat → Nat) : List Int := tab (fsN sd P) (mtF mu)
structure SewAt (B : Nat) (w0 : Wd) (hs : HS) (s : Sw) (ps : List Pc) (mu : Nat → Nat) : Prop where
  me : (s.b, s.cells ps.length (fsN (sdF ps) ps.length)) ∈ hs
  pcs : Sv B w0 hs s.oP (pcsv ps)
  sds : ∀ i, i < ps.length → Sl B w0 hs (pcA ps i).oa (pcA ps i).sd
  ans : ∀ i, i < ps.length → Sl B w0 hs (pcA ps i).ob (pcA ps i).an
  pcl : Sl B w0 hs s.o1 (pcL (sdF ps) ps.length)
  fsl : Sl B w0 hs s.o2 (fsL (sdF ps) ps.length)
  mtl : Sl B w0 hs s.o3 (mtL (sdF ps) ps.length mu)
theorem SewAt.sub {B : Nat} {w0 : Wd} {hs hs' : HS} {s : Sw} {ps : List Pc} {mu : Nat → Nat} (h : SewAt B w0 hs s ps mu) (hsub : hs.Sublist hs') : SewAt B w0 hs' s ps mu :=
  ⟨hsub.subset h.me, h.pcs.sub hsub, fun i hi => (h.sds i hi).sub hsub, fun i hi => (h.ans i hi).sub hsub, h.pcl.sub hsub, h.fsl.sub hsub, h.mtl.sub hsub⟩
theorem SewAt.base {B : Nat} {a b : Wd} {hs : HS} {s : Sw} {ps : List Pc} {mu : Nat → Nat} (hle : a.le b) (h : SewAt B a hs s ps mu) : SewAt B b hs s ps mu :=
  ⟨h.me, h.pcs.base hle, fun i hi => (h.sds i hi).base hle, fun i hi => (h.ans i hi).base hle, h.pcl.base hle, h.fsl.base hle, h.mtl.base hle⟩
/-- What sew hands over: its rows. -/
structure SewR (s : Sw) (sd : Nat → List Int) (P : Nat) (mu : Nat → Nat) (k1 k2 k3 : HS) : Prop where
  r1 : RowOk s.o1 s.c1 1 (ivs (pcL sd P)) k1
  r2 : RowOk s.o2 s.c2 1 (ivs (fsL sd P)) k2
  r3 : RowOk s.o3 s.c3 1 (ivs (mtL sd P mu)) k3
structure SwI where
  i : Nat
  j : Nat
  o1 : Option Addr
  c1 : Nat
  k1 : HS
  o2 : Option Addr
  c2 : Nat
  k2 : HS
  o3 : Option Addr
  c3 : Nat
  k3 : HS
theorem fs_le6 {sd an : Nat → List Int} {n : Nat} (h : allOK n sd an) : ∀ {p : Nat}, p ≤ n → fsN sd p ≤ 6 * p
  | 0, _ => Nat.le_refl _
  | p + 1, hp => by
    have h1 := fs_le6 h (p := p) (by omega)
    have h2 := (h p (by omega)).1.2
    simp only [fsN]; omega
end Go.Proofs.Ytnbickholedckaa
