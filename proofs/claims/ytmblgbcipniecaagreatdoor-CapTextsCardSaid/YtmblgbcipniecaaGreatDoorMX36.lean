/- The text of a cap, and how the program writes it. -/
import Derived.Test.YtmblgbcipniecaaGreatDoorMX35
import Derived.Test.YtmblgbcipniecaaGreatDoorMB6
namespace Go.Proofs.YtmblgbcipniecaaGreatDoor
open Go.RowKit
def sEase : List UInt8 := [101, 97, 115, 101]
def sPiece : List UInt8 := [112, 105, 101, 99, 101]
def sSeam : List UInt8 := [115, 101, 97, 109]
/-- Two rows, one number of each after the other. -/
def zzT (sd an : List Int) : Nat → List Int
  | 0 => []
  | k + 1 => zzT sd an k ++ [sd.getD k 0, an.getD k 0]
theorem zzT_len (sd an : List Int) : ∀ k, (zzT sd an k).length = 2 * k
  | 0 => rfl
  | k + 1 => by rw [zzT, List.length_append, zzT_len sd an k]; simp; omega
/-- The first k pieces' lines; the first k seams'. -/
def pcsT (ps : List Pc) : Nat → List UInt8
  | 0 => []
  | k + 1 => pcsT ps k ++ lnT sPiece (zzT (pcA ps k).sd (pcA ps k).an (pcA ps k).sd.length)
def smsT (sm : List Int) : Nat → List UInt8
  | 0 => []
  | k + 1 => smsT sm k ++ lnT sSeam [smA sm k, smI sm k, smB sm k, smJ sm k]
def capT (ps : List Pc) (sm : List Int) (m : Nat) (e : Int) : List UInt8 := lnT sEase [e] ++ pcsT ps ps.length ++ smsT sm m
theorem itoa_le {x : Int} (h : 0 ≤ x ∧ x ≤ 1000000) : (Go.Lib.itoa x).length ≤ 7 := by
  obtain ⟨u, rfl⟩ : ∃ u : Nat, x = (u : Int) := ⟨x.toNat, by omega⟩
  rw [itoa_nat]
  exact dec_len 6 u (by omega)
theorem nmT_len {l : List Int} (h : ∀ x ∈ l, 0 ≤ x ∧ x ≤ 1000000) : (nmT l).length ≤ 8 * l.length := by
  induction l with
  | nil => simp [nmT]
  | cons x l ih =>
    have h1 := ih (fun y hy => h y (.tail _ hy))
    have h2 := itoa_le (h x (.head _))
    have e : nmT (x :: l) = (32 :: Go.Lib.itoa x) ++ nmT l := by unfold nmT; simp
    rw [e, List.length_append, List.length_cons, List.length_cons]
    omega
theorem lnT_len {w : List UInt8} {l : List Int} (h : ∀ x ∈ l, 0 ≤ x ∧ x ≤ 1000000) : (lnT w l).length ≤ w.length + 8 * l.length + 1 := by
  have := nmT_len h
  unfold lnT
  simp only [List.length_append, List.length_cons, List.length_nil]
  omega
theorem zzT_mem {sd an : List Int} {q : Int → Prop} : ∀ k, (∀ i, i < k → q (sd.getD i 0) ∧ q (an.getD i 0)) → ∀ x ∈ zzT sd an k, q x
  | 0, _, x, hx => by cases hx
  | k + 1, h, x, hx => by
    rw [zzT, List.mem_append] at hx
    rcases hx with hx | hx
    · exact zzT_mem k (fun i hi => h i (by omega)) x hx
    · have hk := h k (by omega)
      simp only [List.mem_cons, List.not_mem_nil, or_false] at hx
      rcases hx with rfl | rfl
      · exact hk.1
      · exact hk.2
/-- Numbers of a valid cap. -/
structure TxC (ps : List Pc) (sm : List Int) (m : Nat) (e : Int) : Prop where
  n8 : ps.length ≤ 8
  e0 : 0 ≤ e ∧ e ≤ 1000000
  sd6 : ∀ i, i < ps.length → (pcA ps i).sd.length ≤ 6 ∧ (pcA ps i).an.length = (pcA ps i).sd.length
  sdb : ∀ i, i < ps.length → ∀ j, j < (pcA ps i).sd.length → (0 ≤ (pcA ps i).sd.getD j 0 ∧ (pcA ps i).sd.getD j 0 ≤ 1000000) ∧ (0 ≤ (pcA ps i).an.getD j 0 ∧ (pcA ps i).an.getD j 0 ≤ 1000000)
  smb : ∀ k, k < m → (0 ≤ smA sm k ∧ smA sm k ≤ 1000000) ∧ (0 ≤ smI sm k ∧ smI sm k ≤ 1000000) ∧ (0 ≤ smB sm k ∧ smB sm k ≤ 1000000) ∧ (0 ≤ smJ sm k ∧ smJ sm k ≤ 1000000)
section
variable {ps : List Pc} {sm : List Int} {m : Nat} {e : Int}
theorem VdC.tx (V : VdC ps sm m e) : TxC ps sm m e := by
  refine ⟨V.n8, ⟨V.e0.1, by have := V.e0.2; omega⟩, fun i hi => ?_, fun i hi j hj => ?_, fun k hk => ?_⟩
  · have h := V.ok i hi
    exact ⟨h.1.2, h.2.1⟩
  · have h := (V.ok i hi).2.2.1 j hj
    unfold sdOK at h
    unfold sdF anF at h
    omega
  · have h := V.se k hk
    have h5 : hsP ps.length (sdF ps) (smA sm k) (smI sm k) ∧ hsP ps.length (sdF ps) (smB sm k) (smJ sm k) := by
      refine Classical.byContradiction fun hc => ?_
      unfold seE at h
      rw [if_pos hc] at h
      cases h
    have g : ∀ a : Int, 0 ≤ a ∧ a < (ps.length : Int) → (sdF ps a.toNat).length ≤ 6 := fun a ha => (V.ok a.toNat (by omega)).1.2
    obtain ⟨⟨h1, h2⟩, h3, h4⟩ := h5
    have g1 := g _ h1
    have g2 := g _ h3
    have n8 := V.n8
    exact ⟨by omega, by omega, by omega, by omega⟩
theorem pcsT_len (T : TxC ps sm m e) : ∀ k, k ≤ ps.length → (pcsT ps k).length ≤ 102 * k
  | 0, _ => Nat.zero_le _
  | k + 1, hk => by
    have h1 := pcsT_len T k (by omega)
    have h2 := T.sd6 k hk
    have h3 := lnT_len (w := sPiece) (zzT_mem (q := fun x => 0 ≤ x ∧ x ≤ 1000000) (sd := (pcA ps k).sd) (an := (pcA ps k).an) (pcA ps k).sd.length (fun j hj => T.sdb k hk j hj))
    rw [zzT_len, show sPiece.length = 5 from rfl] at h3
    rw [pcsT, List.length_append]
    omega
theorem smsT_len (T : TxC ps sm m e) : ∀ k, k ≤ m → (smsT sm k).length ≤ 37 * k
  | 0, _ => Nat.zero_le _
  | k + 1, hk => by
    have h1 := smsT_len T k (by omega)
    have h3 := lnT_len (w := sSeam) (l := [smA sm k, smI sm k, smB sm k, smJ sm k]) (fun x hx => by
      obtain ⟨a, b, c, d⟩ := T.smb k hk
      simp only [List.mem_cons, List.not_mem_nil, or_false] at hx
      rcases hx with rfl | rfl | rfl | rfl <;> assumption)
    rw [show sSeam.length = 4 from rfl, show [smA sm k, smI sm k, smB sm k, smJ sm k].length = 4 from rfl] at h3
    rw [smsT, List.length_append]
    omega
theorem easeT_len (T : TxC ps sm m e) : (lnT sEase [e]).length ≤ 13 := by
  have h3 := lnT_len (w := sEase) (l := [e]) (fun x hx => by rw [List.mem_singleton.1 hx]; exact T.e0)
  rw [show sEase.length = 4 from rfl, show [e].length = 1 from rfl] at h3
  omega
end
end Go.Proofs.YtmblgbcipniecaaGreatDoor
