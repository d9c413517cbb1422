/- Parse of the program. -/
import Derived.Test.YtmblgbcipniecaaGreatDoorMX50
namespace Go.Proofs.YtmblgbcipniecaaGreatDoor
open Go.RowKit
theorem x_read {d : Rd} {n : Nat} {oP : Option Addr} {cP : Nat} {oS : Option Addr} {cS : Nat} {blk : HS} (M : RdB d n oP cP oS cS blk) (hn : n ≤ 10000) (hS : d.S.length ≤ 100000) (l : List UInt8) (hl : l.length ≤ 10000) (b4 : Nat) (B : Nat) (w0 : Wd) (hT : TxW B w0) (hs : HS) :
    Fn Tryz.prog 18 #[.pointer (some ⟨b4, 0, none⟩), sv l] B w0 (blk ++ ((b4, [.slice oP n cP, .slice oS (d.S.length / 4) cS, iv d.E]) :: hs))
      (fun v h => v = .tuple #[] ∧ ∃ n' oP' cP' oS' cS' blk', RdB (rdP d l) n' oP' cP' oS' cS' blk' ∧ h = blk' ++ ((b4, [.slice oP' n' cP', .slice oS' ((rdP d l).S.length / 4) cS', iv (rdP d l).E]) :: hs)) := by
  obtain ⟨rs, bo, ko, h1, rfl, rfl⟩ := M
  have h := k_read d rs oP cP bo oS cS ko h1 hn hS l hl b4 B w0 hT hs
  rw [List.append_assoc, List.append_assoc]
  refine h.mono fun v h' => ?_
  rintro ⟨rfl, rs', oP', cP', bo', oS', cS', ko', hM, rfl⟩
  exact ⟨rfl, rs'.length, oP', cP', oS', cS', ko' ++ (bo' ++ rpb rs'), ⟨rs', bo', ko', hM, rfl, rfl⟩, by rw [List.append_assoc, List.append_assoc]⟩
end Go.Proofs.YtmblgbcipniecaaGreatDoor
