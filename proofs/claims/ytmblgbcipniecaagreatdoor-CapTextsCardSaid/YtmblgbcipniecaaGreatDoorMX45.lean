/- Parse of the reference. -/
import Derived.Test.YtmblgbcipniecaaGreatDoorMX44
namespace Go.Proofs.YtmblgbcipniecaaGreatDoor
open Go.RowKit
section
variable {P : Program} {n : NN} {B : Nat} {w0 : Wd} {fr : FR} {hs S : HS} {ty : TypeId} {K : Act → World → Prop} {ops : Array Oper} {l : List Oper} {d : Nat} {fl : List Nat} {pos : String} {aft : Array Edge}
/-- A call in a drawn region that takes blocks and leaves others. -/
theorem k_callX {g : Nat} {xs : List Operand} {vs : List Value} {ts : Array TypeId} {R : Value → HS → Prop} {X rest : HS} (hT : Take X hs rest) (hf : isGo P g = true) (hv : argv fr xs = some vs) (hc : ∀ F, Fn P g vs.toArray B w0 (X ++ (F ++ rest)) (fun u h => ∃ blk, R u blk ∧ h = blk ++ (F ++ rest))) (hn : d < n.n)
    (h : ∀ u blk, R u blk → Rk P n B w0 ops K fl l (blk ++ rest) ((d, u) :: fr) (blk ++ rest)) :
    Rk P n B w0 ops K (4 :: fl) (⟨some d, .call { callee := .value (.func g), args := xs.toArray, argTypes := ts }, ty, pos, aft, none⟩ :: l) S fr hs := by
  refine k_eff (R := fun u h => ∃ blk, R u blk ∧ h = blk ++ rest) rfl rfl (fun a ha F w hw => ?_) ?_
  · rw [run_call hf ha hv (some d) w]
    have hp : (F ++ hs).Perm (X ++ (F ++ rest)) := by
      refine (List.Perm.append_left F hT).trans ?_
      rw [← List.append_assoc, ← List.append_assoc]
      exact List.perm_append_comm.append_right rest
    refine (fn_el (hc F) w (hw.perm hp)).mono ?_
    rintro e w' ⟨u, h', rfl, ⟨blk, hR, rfl⟩, hw'⟩
    refine ⟨u, rfl, blk ++ rest, ⟨blk, hR, rfl⟩, hw'.perm ?_⟩
    rw [← List.append_assoc, ← List.append_assoc]
    exact List.perm_append_comm.append_right rest
  · rintro a ha v h' ⟨blk, hR, rfl⟩
    have hk := h v blk hR
    unfold Rk at hk
    exact ⟨_, kp4, hk _ (ha.put hn _)⟩
end
/-- A cap that is being read, in a block of memory. -/
def RdB (d : Rd) (n : Nat) (oP : Option Addr) (cP : Nat) (oS : Option Addr) (cS : Nat) (blk : HS) : Prop := ∃ rs bo ko, RdM d rs oP cP bo oS cS ko ∧ n = rs.length ∧ blk = ko ++ (bo ++ rpb rs)
theorem RdB.zero : RdB rd0 0 none 0 none 0 [] := ⟨[], [], [], ⟨rfl, fun r h => (by cases h), RowOk.nil, RowOk.nil, rfl⟩, rfl, rfl⟩
def RdA (d : Rd) (v : Value) (blk : HS) : Prop := ∃ n oP cP oS cS, RdB d n oP cP oS cS blk ∧ v = rdV d n oP cP oS cS
theorem x_take {d : Rd} {n : Nat} {oP : Option Addr} {cP : Nat} {oS : Option Addr} {cS : Nat} {blk : HS} (M : RdB d n oP cP oS cS blk) (hn : n ≤ 10000) (hS : d.S.length ≤ 100000) (l : List UInt8) (hl : l.length ≤ 10000) (B : Nat) (w0 : Wd) (hs : HS) :
    Fn Tryz.prog 20 #[rdV d n oP cP oS cS, sv l] B w0 (blk ++ hs) (fun v h => ∃ blk', RdA (rdR nrF d l) v blk' ∧ h = blk' ++ hs) := by
  obtain ⟨rs, bo, ko, h1, rfl, rfl⟩ := M
  have h := r_take d rs oP cP bo oS cS ko h1 hn hS l hl B w0 hs
  rw [List.append_assoc, List.append_assoc]
  refine h.mono fun v h' => ?_
  rintro ⟨rs', oP', cP', bo', oS', cS', ko', hM, rfl, rfl⟩
  exact ⟨ko' ++ (bo' ++ rpb rs'), ⟨rs'.length, oP', cP', oS', cS', ⟨rs', bo', ko', hM, rfl, rfl⟩, rfl⟩, by rw [List.append_assoc, List.append_assoc]⟩
theorem sgR_n (d : Rd) (w : List UInt8) (L : List Int) : (sgR3 (sgR2 (sgR1 d w L) w L) w L).P.length ≤ d.P.length + 1 ∧ (sgR3 (sgR2 (sgR1 d w L) w L) w L).S.length ≤ d.S.length + 4 := by
  have h1 : (sgR1 d w L).P = d.P ∧ (sgR1 d w L).S = d.S := by unfold sgR1; split <;> exact ⟨rfl, rfl⟩
  have h2 : (sgR2 (sgR1 d w L) w L).P.length ≤ d.P.length + 1 ∧ (sgR2 (sgR1 d w L) w L).S = d.S := by
    unfold sgR2
    split
    · refine ⟨?_, h1.2⟩
      show (_ ++ [_]).length ≤ _
      rw [List.length_append, h1.1]; exact Nat.le_refl _
    · exact ⟨by rw [h1.1]; omega, h1.2⟩
  unfold sgR3
  split
  · rename_i h4
    refine ⟨h2.1, ?_⟩
    show ((sgR2 (sgR1 d w L) w L).S ++ L).length ≤ _
    rw [List.length_append, h2.2, h4.2]
    exact Nat.le_refl _
  · exact ⟨h2.1, by rw [h2.2]; omega⟩
theorem rdR_n (Nr : List UInt8 → Int) (d : Rd) (l : List UInt8) : (rdR Nr d l).P.length ≤ d.P.length + 1 ∧ (rdR Nr d l).S.length ≤ d.S.length + 4 := by
  unfold rdR
  split
  · exact ⟨by omega, by omega⟩
  · exact sgR_n d _ _
theorem RdB.len {d : Rd} {n : Nat} {oP : Option Addr} {cP : Nat} {oS : Option Addr} {cS : Nat} {blk : HS} (M : RdB d n oP cP oS cS blk) : n = d.P.length := by
  obtain ⟨rs, bo, ko, h1, rfl, _⟩ := M
  rw [← h1.P]
  unfold rpP
  simp
end Go.Proofs.YtmblgbcipniecaaGreatDoor
