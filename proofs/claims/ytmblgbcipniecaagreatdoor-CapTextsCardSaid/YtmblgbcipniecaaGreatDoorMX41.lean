/- What a cap's text says, plain. -/
import Derived.Test.YtmblgbcipniecaaGreatDoorMX36
import Derived.Test.YtmblgbcipniecaaGreatDoorMX6
namespace Go.Proofs.YtmblgbcipniecaaGreatDoor
open Go.RowKit
theorem itoa_num {x : Int} (h : 0 ≤ x ∧ x ≤ 1000000) : (∀ c ∈ Go.Lib.itoa x, 48 ≤ c.toNat ∧ c.toNat ≤ 57) ∧ Go.Lib.atoiAll (Go.Lib.itoa x) = .ok x := by
  obtain ⟨u, rfl⟩ : ∃ u : Nat, x = (u : Int) := ⟨x.toNat, by omega⟩
  rw [itoa_nat]
  exact ⟨dec_dig u, atoi_dec (by omega)⟩
theorem itoa_no {x : Int} (h : 0 ≤ x ∧ x ≤ 1000000) (c : UInt8) (hc : c.toNat < 48) : c ∉ Go.Lib.itoa x := fun hm => by
  have := (itoa_num h).1 c hm
  omega
def NumOk (l : List Int) : Prop := ∀ x ∈ l, 0 ≤ x ∧ x ≤ 1000000
theorem nmT_cons (x : Int) (l : List Int) : nmT (x :: l) = 32 :: (Go.Lib.itoa x ++ nmT l) := by unfold nmT; simp
theorem nmT_no {l : List Int} (h : NumOk l) (c : UInt8) (hc : c.toNat < 48) (h32 : c ≠ 32) : c ∉ nmT l := by
  induction l with
  | nil => simp [nmT]
  | cons x l ih =>
    rw [nmT_cons]
    intro hm
    rcases List.mem_cons.1 hm with e | hm
    · exact h32 e
    · rcases List.mem_append.1 hm with hm | hm
      · exact itoa_no (h x (.head _)) c hc hm
      · exact ih (fun y hy => h y (.tail _ hy)) hm
/-- The words of a line. -/
theorem wds_line : ∀ {l : List Int} {w : List UInt8}, NumOk l → (32 : UInt8) ∉ w → wds 32 (w ++ nmT l) = w :: l.map Go.Lib.itoa
  | [], w, _, hw => by rw [show nmT [] = [] from rfl, List.append_nil, wds_no hw]; rfl
  | x :: l, w, h, hw => by
    have ih := wds_line (l := l) (w := Go.Lib.itoa x) (fun y hy => h y (.tail _ hy)) (itoa_no (h x (.head _)) 32 (by decide))
    rw [nmT_cons, wds_app _ hw, ih]
    rfl
/-- What was read so far. -/
structure Rd where
  P : List (List Int × List Int)
  S : List Int
  E : Int
def evT (L : List Int) : Nat → List Int
  | 0 => []
  | k + 1 => evT L k ++ [L.getD (2 * k) 0]
def odT (L : List Int) : Nat → List Int
  | 0 => []
  | k + 1 => odT L k ++ [L.getD (2 * k + 1) 0]
/-- The program's way. -/
def npP : List (List UInt8) → List Int → Option (List Int)
  | [], L => some L
  | w :: ws, L => match Go.Lib.atoiAll w with
    | .ok x => npP ws (L ++ [x])
    | _ => none
def sgP (r : Rd) (w : List UInt8) (L : List Int) : Rd :=
  if w = sEase ∧ L.length = 1 then { r with E := L.getD 0 0 }
  else if w = sPiece ∧ L.length % 2 = 0 then { r with P := r.P ++ [(evT L (L.length / 2), odT L (L.length / 2))] }
  else if w = sSeam ∧ L.length = 4 then { r with S := r.S ++ L } else r
def rdP (r : Rd) (line : List UInt8) : Rd := match wds 32 line with
  | [] => r
  | w :: ws => match npP ws [] with
    | none => r
    | some L => sgP r w L
/-- The reference's way. -/
def sgR1 (r : Rd) (w : List UInt8) (L : List Int) : Rd := if w = sEase ∧ L.length = 1 then { r with E := L.getD 0 0 } else r
def sgR2 (r : Rd) (w : List UInt8) (L : List Int) : Rd := if w = sPiece then { r with P := r.P ++ [(evT L (L.length / 2), odT L (L.length / 2))] } else r
def sgR3 (r : Rd) (w : List UInt8) (L : List Int) : Rd := if w = sSeam ∧ L.length = 4 then { r with S := r.S ++ L } else r
def rdR (Nr : List UInt8 → Int) (r : Rd) (line : List UInt8) : Rd := match wds 32 line with
  | [] => r
  | w :: ws => sgR3 (sgR2 (sgR1 r w (ws.map Nr)) w (ws.map Nr)) w (ws.map Nr)
theorem npP_num {l : List Int} (h : NumOk l) : ∀ L, npP (l.map Go.Lib.itoa) L = some (L ++ l) := by
  induction l with
  | nil => intro L; simp [npP]
  | cons x l ih =>
    intro L
    rw [List.map_cons, npP, (itoa_num (h x (.head _))).2]
    dsimp only
    rw [ih (fun y hy => h y (.tail _ hy)), List.append_assoc]
    rfl
theorem nr_num {Nr : List UInt8 → Int} (hN : ∀ x : Int, 0 ≤ x ∧ x ≤ 1000000 → Nr (Go.Lib.itoa x) = x) {l : List Int} (h : NumOk l) : (l.map Go.Lib.itoa).map Nr = l := by
  rw [List.map_map]
  refine (List.map_congr_left fun x hx => ?_).trans (List.map_id _)
  exact hN x (h x hx)
theorem rdP_line {r : Rd} {l : List Int} {w : List UInt8} (h : NumOk l) (hw : (32 : UInt8) ∉ w) : rdP r (w ++ nmT l) = sgP r w l := by
  unfold rdP
  rw [wds_line h hw]
  dsimp only
  rw [npP_num h]
  rfl
theorem rdR_line {Nr : List UInt8 → Int} (hN : ∀ x : Int, 0 ≤ x ∧ x ≤ 1000000 → Nr (Go.Lib.itoa x) = x) {r : Rd} {l : List Int} {w : List UInt8} (h : NumOk l) (hw : (32 : UInt8) ∉ w) : rdR Nr r (w ++ nmT l) = sgR3 (sgR2 (sgR1 r w l) w l) w l := by
  unfold rdR
  rw [wds_line h hw]
  dsimp only
  rw [nr_num hN h]
end Go.Proofs.YtmblgbcipniecaaGreatDoor
