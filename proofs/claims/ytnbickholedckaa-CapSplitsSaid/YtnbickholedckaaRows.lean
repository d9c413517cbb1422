/-
  No cell of these rows narrows 'for every input' (looked for: loops, veiled, ifaces, maps, wideKeys, modest, calm, conditions, laid).
  DERIVED. THE GIVEN ROWS OF THIS SEAT. 12 by the template 'for every input the law returns true; each argument reads behind the call as it read before'; 0 by the template 'total and deterministic' (their statements: YtnbickholedckaaTotals.lean).
  GIVEN WITH THE SEED: the statements are not yours to turn. If you find one false, say at which input.
  Laid BY PROGRAM, IN A SANDBOX (cutbox-rows.mjs): the forced cells as the released guide's own fill.sh prints them over the translation 477154f86baae91b… (all of the seat's roots in one cut). By AI agents, Wed Nov 11 2026. No macro, syntax, notation, axiom, sorry.
-/
import Derived.Test.YtnbickholedckaaChecked
import GoSem.Claim
import GoSem.ClaimJoined
import GoSem.ClaimMapViews
import Derived.JoinedTies
import Derived.KernelRfl
namespace Go.Proofs.Ytnbickholedckaa
/- THE CELL 'sum', in the pinned program and in every row, IS THE sha256 OF THE DUMP (.gsa) THAT YtnbickholedckaaProg.lean LOADS. Nothing in Lean hashes anything: it is a label: what it is worth is what the hold of that sum in a sandbox is worth. -/
noncomputable def Try.pinned : Pinned := { name := "ytnbickholedckaa", sum := "477154f86baae91bbd3b9854ab3af9cc9dc4b6626d902830f0a8c3c926d722e7", checked := Try.checked }
namespace Rows
def none {H : Type} : Left H := { results := [], args := [] }

/-- 'wigmakerlaw02.CapValidates': WHATEVER THE INPUT: true; the input reads as it did. -/
def capValidatesSpec : ChangeSpec := { name := "capValidates", fn := fun _ => fun
  | [d] => { results := [.lit (.bool true)], args := [d] }
  | _ => none }
def capValidatesRow : OpenClaim := { program := "ytnbickholedckaa", sum := "477154f86baae91bbd3b9854ab3af9cc9dc4b6626d902830f0a8c3c926d722e7", func := "wigmaker/wigmakerlaw02.CapValidates", spec := "capValidates", unfollowed := true, recurses := true, plainKeys := false, apart := false }
def CapValidatesSaid : Prop := capValidatesRow.holds Try.pinned (OpenSpec.ofChange capValidatesSpec)

/-- ITS FALSE NEIGHBOUR: 'it returns false'. Refute it at one input. -/
def capValidatesWrong : ChangeSpec := { name := "capValidates", fn := fun _ => fun
  | [d] => { results := [.lit (.bool false)], args := [d] }
  | _ => none }
def CapValidatesWrongFalsely : Prop := capValidatesRow.holds Try.pinned (OpenSpec.ofChange capValidatesWrong)

/-- 'wigmakerlaw02.CapPoints': WHATEVER THE INPUT: true; the input reads as it did. -/
def capPointsSpec : ChangeSpec := { name := "capPoints", fn := fun _ => fun
  | [d] => { results := [.lit (.bool true)], args := [d] }
  | _ => none }
def capPointsRow : OpenClaim := { program := "ytnbickholedckaa", sum := "477154f86baae91bbd3b9854ab3af9cc9dc4b6626d902830f0a8c3c926d722e7", func := "wigmaker/wigmakerlaw02.CapPoints", spec := "capPoints", unfollowed := true, recurses := true, plainKeys := false, apart := false }
def CapPointsSaid : Prop := capPointsRow.holds Try.pinned (OpenSpec.ofChange capPointsSpec)

/-- ITS FALSE NEIGHBOUR: 'it returns false'. Refute it at one input. -/
def capPointsWrong : ChangeSpec := { name := "capPoints", fn := fun _ => fun
  | [d] => { results := [.lit (.bool false)], args := [d] }
  | _ => none }
def CapPointsWrongFalsely : Prop := capPointsRow.holds Try.pinned (OpenSpec.ofChange capPointsWrong)

/-- 'wigmakerlaw02.CapCorners': WHATEVER THE INPUT: true; the input reads as it did. -/
def capCornersSpec : ChangeSpec := { name := "capCorners", fn := fun _ => fun
  | [d] => { results := [.lit (.bool true)], args := [d] }
  | _ => none }
def capCornersRow : OpenClaim := { program := "ytnbickholedckaa", sum := "477154f86baae91bbd3b9854ab3af9cc9dc4b6626d902830f0a8c3c926d722e7", func := "wigmaker/wigmakerlaw02.CapCorners", spec := "capCorners", unfollowed := true, recurses := true, plainKeys := false, apart := false }
def CapCornersSaid : Prop := capCornersRow.holds Try.pinned (OpenSpec.ofChange capCornersSpec)

/-- ITS FALSE NEIGHBOUR: 'it returns false'. Refute it at one input. -/
def capCornersWrong : ChangeSpec := { name := "capCorners", fn := fun _ => fun
  | [d] => { results := [.lit (.bool false)], args := [d] }
  | _ => none }
def CapCornersWrongFalsely : Prop := capCornersRow.holds Try.pinned (OpenSpec.ofChange capCornersWrong)

/-- 'wigmakerlaw02.CapLoops': WHATEVER THE INPUT: true; the input reads as it did. -/
def capLoopsSpec : ChangeSpec := { name := "capLoops", fn := fun _ => fun
  | [d] => { results := [.lit (.bool true)], args := [d] }
  | _ => none }
def capLoopsRow : OpenClaim := { program := "ytnbickholedckaa", sum := "477154f86baae91bbd3b9854ab3af9cc9dc4b6626d902830f0a8c3c926d722e7", func := "wigmaker/wigmakerlaw02.CapLoops", spec := "capLoops", unfollowed := true, recurses := true, plainKeys := false, apart := false }
def CapLoopsSaid : Prop := capLoopsRow.holds Try.pinned (OpenSpec.ofChange capLoopsSpec)

/-- ITS FALSE NEIGHBOUR: 'it returns false'. Refute it at one input. -/
def capLoopsWrong : ChangeSpec := { name := "capLoops", fn := fun _ => fun
  | [d] => { results := [.lit (.bool false)], args := [d] }
  | _ => none }
def CapLoopsWrongFalsely : Prop := capLoopsRow.holds Try.pinned (OpenSpec.ofChange capLoopsWrong)

/-- 'wigmakerlaw02.CapHeads': WHATEVER THE INPUT: true; the input reads as it did. -/
def capHeadsSpec : ChangeSpec := { name := "capHeads", fn := fun _ => fun
  | [d1, d2] => { results := [.lit (.bool true)], args := [d1, d2] }
  | _ => none }
def capHeadsRow : OpenClaim := { program := "ytnbickholedckaa", sum := "477154f86baae91bbd3b9854ab3af9cc9dc4b6626d902830f0a8c3c926d722e7", func := "wigmaker/wigmakerlaw02.CapHeads", spec := "capHeads", unfollowed := true, recurses := true, plainKeys := false, apart := false }
def CapHeadsSaid : Prop := capHeadsRow.holds Try.pinned (OpenSpec.ofChange capHeadsSpec)

/-- ITS FALSE NEIGHBOUR: 'it returns false'. Refute it at one input. -/
def capHeadsWrong : ChangeSpec := { name := "capHeads", fn := fun _ => fun
  | [d1, d2] => { results := [.lit (.bool false)], args := [d1, d2] }
  | _ => none }
def CapHeadsWrongFalsely : Prop := capHeadsRow.holds Try.pinned (OpenSpec.ofChange capHeadsWrong)

/-- 'wigmakerlaw02.CapSews': WHATEVER THE INPUT: true; the input reads as it did. -/
def capSewsSpec : ChangeSpec := { name := "capSews", fn := fun _ => fun
  | [d1, d2, d3] => { results := [.lit (.bool true)], args := [d1, d2, d3] }
  | _ => none }
def capSewsRow : OpenClaim := { program := "ytnbickholedckaa", sum := "477154f86baae91bbd3b9854ab3af9cc9dc4b6626d902830f0a8c3c926d722e7", func := "wigmaker/wigmakerlaw02.CapSews", spec := "capSews", unfollowed := true, recurses := true, plainKeys := false, apart := false }
def CapSewsSaid : Prop := capSewsRow.holds Try.pinned (OpenSpec.ofChange capSewsSpec)

/-- ITS FALSE NEIGHBOUR: 'it returns false'. Refute it at one input. -/
def capSewsWrong : ChangeSpec := { name := "capSews", fn := fun _ => fun
  | [d1, d2, d3] => { results := [.lit (.bool false)], args := [d1, d2, d3] }
  | _ => none }
def CapSewsWrongFalsely : Prop := capSewsRow.holds Try.pinned (OpenSpec.ofChange capSewsWrong)

/-- 'wigmakerlaw02.CapMisses': WHATEVER THE INPUT: true; the input reads as it did. -/
def capMissesSpec : ChangeSpec := { name := "capMisses", fn := fun _ => fun
  | [d] => { results := [.lit (.bool true)], args := [d] }
  | _ => none }
def capMissesRow : OpenClaim := { program := "ytnbickholedckaa", sum := "477154f86baae91bbd3b9854ab3af9cc9dc4b6626d902830f0a8c3c926d722e7", func := "wigmaker/wigmakerlaw02.CapMisses", spec := "capMisses", unfollowed := true, recurses := true, plainKeys := false, apart := false }
def CapMissesSaid : Prop := capMissesRow.holds Try.pinned (OpenSpec.ofChange capMissesSpec)

/-- ITS FALSE NEIGHBOUR: 'it returns false'. Refute it at one input. -/
def capMissesWrong : ChangeSpec := { name := "capMisses", fn := fun _ => fun
  | [d] => { results := [.lit (.bool false)], args := [d] }
  | _ => none }
def CapMissesWrongFalsely : Prop := capMissesRow.holds Try.pinned (OpenSpec.ofChange capMissesWrong)

/-- 'wigmakerlaw02.CapSplits': WHATEVER THE INPUT: true; the input reads as it did. -/
def capSplitsSpec : ChangeSpec := { name := "capSplits", fn := fun _ => fun
  | [d1, d2] => { results := [.lit (.bool true)], args := [d1, d2] }
  | _ => none }
def capSplitsRow : OpenClaim := { program := "ytnbickholedckaa", sum := "477154f86baae91bbd3b9854ab3af9cc9dc4b6626d902830f0a8c3c926d722e7", func := "wigmaker/wigmakerlaw02.CapSplits", spec := "capSplits", unfollowed := true, recurses := true, plainKeys := false, apart := false }
def CapSplitsSaid : Prop := capSplitsRow.holds Try.pinned (OpenSpec.ofChange capSplitsSpec)

/-- ITS FALSE NEIGHBOUR: 'it returns false'. Refute it at one input. -/
def capSplitsWrong : ChangeSpec := { name := "capSplits", fn := fun _ => fun
  | [d1, d2] => { results := [.lit (.bool false)], args := [d1, d2] }
  | _ => none }
def CapSplitsWrongFalsely : Prop := capSplitsRow.holds Try.pinned (OpenSpec.ofChange capSplitsWrong)

/-- 'wigmakerlaw02.CapSewsBack': WHATEVER THE INPUT: true; the input reads as it did. -/
def capSewsBackSpec : ChangeSpec := { name := "capSewsBack", fn := fun _ => fun
  | [d1, d2] => { results := [.lit (.bool true)], args := [d1, d2] }
  | _ => none }
def capSewsBackRow : OpenClaim := { program := "ytnbickholedckaa", sum := "477154f86baae91bbd3b9854ab3af9cc9dc4b6626d902830f0a8c3c926d722e7", func := "wigmaker/wigmakerlaw02.CapSewsBack", spec := "capSewsBack", unfollowed := true, recurses := true, plainKeys := false, apart := false }
def CapSewsBackSaid : Prop := capSewsBackRow.holds Try.pinned (OpenSpec.ofChange capSewsBackSpec)

/-- ITS FALSE NEIGHBOUR: 'it returns false'. Refute it at one input. -/
def capSewsBackWrong : ChangeSpec := { name := "capSewsBack", fn := fun _ => fun
  | [d1, d2] => { results := [.lit (.bool false)], args := [d1, d2] }
  | _ => none }
def CapSewsBackWrongFalsely : Prop := capSewsBackRow.holds Try.pinned (OpenSpec.ofChange capSewsBackWrong)

/-- 'wigmakerlaw02.CapWears': WHATEVER THE INPUT: true; the input reads as it did. -/
def capWearsSpec : ChangeSpec := { name := "capWears", fn := fun _ => fun
  | [d1, d2] => { results := [.lit (.bool true)], args := [d1, d2] }
  | _ => none }
def capWearsRow : OpenClaim := { program := "ytnbickholedckaa", sum := "477154f86baae91bbd3b9854ab3af9cc9dc4b6626d902830f0a8c3c926d722e7", func := "wigmaker/wigmakerlaw02.CapWears", spec := "capWears", unfollowed := true, recurses := true, plainKeys := false, apart := false }
def CapWearsSaid : Prop := capWearsRow.holds Try.pinned (OpenSpec.ofChange capWearsSpec)

/-- ITS FALSE NEIGHBOUR: 'it returns false'. Refute it at one input. -/
def capWearsWrong : ChangeSpec := { name := "capWears", fn := fun _ => fun
  | [d1, d2] => { results := [.lit (.bool false)], args := [d1, d2] }
  | _ => none }
def CapWearsWrongFalsely : Prop := capWearsRow.holds Try.pinned (OpenSpec.ofChange capWearsWrong)

/-- 'wigmakerlaw02.CapDarts': WHATEVER THE INPUT: true; the input reads as it did. -/
def capDartsSpec : ChangeSpec := { name := "capDarts", fn := fun _ => fun
  | [d1, d2, d3] => { results := [.lit (.bool true)], args := [d1, d2, d3] }
  | _ => none }
def capDartsRow : OpenClaim := { program := "ytnbickholedckaa", sum := "477154f86baae91bbd3b9854ab3af9cc9dc4b6626d902830f0a8c3c926d722e7", func := "wigmaker/wigmakerlaw02.CapDarts", spec := "capDarts", unfollowed := true, recurses := true, plainKeys := false, apart := false }
def CapDartsSaid : Prop := capDartsRow.holds Try.pinned (OpenSpec.ofChange capDartsSpec)

/-- ITS FALSE NEIGHBOUR: 'it returns false'. Refute it at one input. -/
def capDartsWrong : ChangeSpec := { name := "capDarts", fn := fun _ => fun
  | [d1, d2, d3] => { results := [.lit (.bool false)], args := [d1, d2, d3] }
  | _ => none }
def CapDartsWrongFalsely : Prop := capDartsRow.holds Try.pinned (OpenSpec.ofChange capDartsWrong)

/-- 'wigmakerlaw02.CapSplitKeeps': WHATEVER THE INPUT: true; the input reads as it did. -/
def capSplitKeepsSpec : ChangeSpec := { name := "capSplitKeeps", fn := fun _ => fun
  | [d1, d2] => { results := [.lit (.bool true)], args := [d1, d2] }
  | _ => none }
def capSplitKeepsRow : OpenClaim := { program := "ytnbickholedckaa", sum := "477154f86baae91bbd3b9854ab3af9cc9dc4b6626d902830f0a8c3c926d722e7", func := "wigmaker/wigmakerlaw02.CapSplitKeeps", spec := "capSplitKeeps", unfollowed := true, recurses := true, plainKeys := false, apart := false }
def CapSplitKeepsSaid : Prop := capSplitKeepsRow.holds Try.pinned (OpenSpec.ofChange capSplitKeepsSpec)

/-- ITS FALSE NEIGHBOUR: 'it returns false'. Refute it at one input. -/
def capSplitKeepsWrong : ChangeSpec := { name := "capSplitKeeps", fn := fun _ => fun
  | [d1, d2] => { results := [.lit (.bool false)], args := [d1, d2] }
  | _ => none }
def CapSplitKeepsWrongFalsely : Prop := capSplitKeepsRow.holds Try.pinned (OpenSpec.ofChange capSplitKeepsWrong)

/- THE SECOND FORM. 'bulk': how many values and letters a reading holds, each counted each time it is reached (what is shared counts as often as it is met; a slice's spare places count too). A statement '..UptoSaid' is the law's where the arguments, and the package variables that the reading takes, are together of bulk at most 1048576: NARROWER than '..Said'. Prove '..Said' where nothing that the law and all that it calls make is longer than what came in: it says more and counts as full. Else prove '..UptoSaid'. A law counts once. -/
mutual
def uptoBulk {H : Type} : DataW H → Nat
  | .lit (.string bytes) => bytes.length + 1
  | .lit _ => 1
  | .nil => 1
  | .ptr d => uptoBulk d + 1
  | .slice elems spare => uptoBulkAll elems + uptoBulkAll spare + 1
  | .agg parts => uptoBulkAll parts + 1
  | .iface _ d => uptoBulk d + 1
  | .map entries => uptoBulkEntries entries + 1
  | .held _ => 1
def uptoBulkAll {H : Type} : List (DataW H) → Nat
  | [] => 0
  | d :: r => uptoBulk d + uptoBulkAll r
def uptoBulkEntries {H : Type} : List (Lit × DataW H) → Nat
  | [] => 0
  | x :: r => uptoBulkEntry x + uptoBulkEntries r
def uptoBulkEntry {H : Type} : Lit × DataW H → Nat
  | (.string bytes, d) => bytes.length + uptoBulk d + 1
  | (_, d) => uptoBulk d + 1
 end
def uptoSmall : (H : Type) → List (DataW H) → Bool := fun _ ds => decide (uptoBulkAll ds ≤ 1048576)
def OpenSpec.upto (s : _root_.Go.ChangeSpec) : _root_.Go.OpenSpec := { _root_.Go.OpenSpec.ofChange s with cond := some uptoSmall }

/-- 'wigmakerlaw02.CapValidates', WHERE WHAT IT READS IS OF BULK AT MOST 1048576: true; the input reads as it did. -/
def capValidatesUptoRow : OpenClaim := { program := "ytnbickholedckaa", sum := "477154f86baae91bbd3b9854ab3af9cc9dc4b6626d902830f0a8c3c926d722e7", func := "wigmaker/wigmakerlaw02.CapValidates", spec := "capValidates", unfollowed := true, recurses := true, plainKeys := false, apart := false, narrowed := true }
def CapValidatesUptoSaid : Prop := capValidatesUptoRow.holds Try.pinned (OpenSpec.upto capValidatesSpec)

/-- 'wigmakerlaw02.CapPoints', WHERE WHAT IT READS IS OF BULK AT MOST 1048576: true; the input reads as it did. -/
def capPointsUptoRow : OpenClaim := { program := "ytnbickholedckaa", sum := "477154f86baae91bbd3b9854ab3af9cc9dc4b6626d902830f0a8c3c926d722e7", func := "wigmaker/wigmakerlaw02.CapPoints", spec := "capPoints", unfollowed := true, recurses := true, plainKeys := false, apart := false, narrowed := true }
def CapPointsUptoSaid : Prop := capPointsUptoRow.holds Try.pinned (OpenSpec.upto capPointsSpec)

/-- 'wigmakerlaw02.CapCorners', WHERE WHAT IT READS IS OF BULK AT MOST 1048576: true; the input reads as it did. -/
def capCornersUptoRow : OpenClaim := { program := "ytnbickholedckaa", sum := "477154f86baae91bbd3b9854ab3af9cc9dc4b6626d902830f0a8c3c926d722e7", func := "wigmaker/wigmakerlaw02.CapCorners", spec := "capCorners", unfollowed := true, recurses := true, plainKeys := false, apart := false, narrowed := true }
def CapCornersUptoSaid : Prop := capCornersUptoRow.holds Try.pinned (OpenSpec.upto capCornersSpec)

/-- 'wigmakerlaw02.CapLoops', WHERE WHAT IT READS IS OF BULK AT MOST 1048576: true; the input reads as it did. -/
def capLoopsUptoRow : OpenClaim := { program := "ytnbickholedckaa", sum := "477154f86baae91bbd3b9854ab3af9cc9dc4b6626d902830f0a8c3c926d722e7", func := "wigmaker/wigmakerlaw02.CapLoops", spec := "capLoops", unfollowed := true, recurses := true, plainKeys := false, apart := false, narrowed := true }
def CapLoopsUptoSaid : Prop := capLoopsUptoRow.holds Try.pinned (OpenSpec.upto capLoopsSpec)

/-- 'wigmakerlaw02.CapHeads', WHERE WHAT IT READS IS OF BULK AT MOST 1048576: true; the input reads as it did. -/
def capHeadsUptoRow : OpenClaim := { program := "ytnbickholedckaa", sum := "477154f86baae91bbd3b9854ab3af9cc9dc4b6626d902830f0a8c3c926d722e7", func := "wigmaker/wigmakerlaw02.CapHeads", spec := "capHeads", unfollowed := true, recurses := true, plainKeys := false, apart := false, narrowed := true }
def CapHeadsUptoSaid : Prop := capHeadsUptoRow.holds Try.pinned (OpenSpec.upto capHeadsSpec)

/-- 'wigmakerlaw02.CapSews', WHERE WHAT IT READS IS OF BULK AT MOST 1048576: true; the input reads as it did. -/
def capSewsUptoRow : OpenClaim := { program := "ytnbickholedckaa", sum := "477154f86baae91bbd3b9854ab3af9cc9dc4b6626d902830f0a8c3c926d722e7", func := "wigmaker/wigmakerlaw02.CapSews", spec := "capSews", unfollowed := true, recurses := true, plainKeys := false, apart := false, narrowed := true }
def CapSewsUptoSaid : Prop := capSewsUptoRow.holds Try.pinned (OpenSpec.upto capSewsSpec)

/-- 'wigmakerlaw02.CapMisses', WHERE WHAT IT READS IS OF BULK AT MOST 1048576: true; the input reads as it did. -/
def capMissesUptoRow : OpenClaim := { program := "ytnbickholedckaa", sum := "477154f86baae91bbd3b9854ab3af9cc9dc4b6626d902830f0a8c3c926d722e7", func := "wigmaker/wigmakerlaw02.CapMisses", spec := "capMisses", unfollowed := true, recurses := true, plainKeys := false, apart := false, narrowed := true }
def CapMissesUptoSaid : Prop := capMissesUptoRow.holds Try.pinned (OpenSpec.upto capMissesSpec)

/-- 'wigmakerlaw02.CapSplits', WHERE WHAT IT READS IS OF BULK AT MOST 1048576: true; the input reads as it did. -/
def capSplitsUptoRow : OpenClaim := { program := "ytnbickholedckaa", sum := "477154f86baae91bbd3b9854ab3af9cc9dc4b6626d902830f0a8c3c926d722e7", func := "wigmaker/wigmakerlaw02.CapSplits", spec := "capSplits", unfollowed := true, recurses := true, plainKeys := false, apart := false, narrowed := true }
def CapSplitsUptoSaid : Prop := capSplitsUptoRow.holds Try.pinned (OpenSpec.upto capSplitsSpec)

/-- 'wigmakerlaw02.CapSewsBack', WHERE WHAT IT READS IS OF BULK AT MOST 1048576: true; the input reads as it did. -/
def capSewsBackUptoRow : OpenClaim := { program := "ytnbickholedckaa", sum := "477154f86baae91bbd3b9854ab3af9cc9dc4b6626d902830f0a8c3c926d722e7", func := "wigmaker/wigmakerlaw02.CapSewsBack", spec := "capSewsBack", unfollowed := true, recurses := true, plainKeys := false, apart := false, narrowed := true }
def CapSewsBackUptoSaid : Prop := capSewsBackUptoRow.holds Try.pinned (OpenSpec.upto capSewsBackSpec)

/-- 'wigmakerlaw02.CapWears', WHERE WHAT IT READS IS OF BULK AT MOST 1048576: true; the input reads as it did. -/
def capWearsUptoRow : OpenClaim := { program := "ytnbickholedckaa", sum := "477154f86baae91bbd3b9854ab3af9cc9dc4b6626d902830f0a8c3c926d722e7", func := "wigmaker/wigmakerlaw02.CapWears", spec := "capWears", unfollowed := true, recurses := true, plainKeys := false, apart := false, narrowed := true }
def CapWearsUptoSaid : Prop := capWearsUptoRow.holds Try.pinned (OpenSpec.upto capWearsSpec)

/-- 'wigmakerlaw02.CapDarts', WHERE WHAT IT READS IS OF BULK AT MOST 1048576: true; the input reads as it did. -/
def capDartsUptoRow : OpenClaim := { program := "ytnbickholedckaa", sum := "477154f86baae91bbd3b9854ab3af9cc9dc4b6626d902830f0a8c3c926d722e7", func := "wigmaker/wigmakerlaw02.CapDarts", spec := "capDarts", unfollowed := true, recurses := true, plainKeys := false, apart := false, narrowed := true }
def CapDartsUptoSaid : Prop := capDartsUptoRow.holds Try.pinned (OpenSpec.upto capDartsSpec)

/-- 'wigmakerlaw02.CapSplitKeeps', WHERE WHAT IT READS IS OF BULK AT MOST 1048576: true; the input reads as it did. -/
def capSplitKeepsUptoRow : OpenClaim := { program := "ytnbickholedckaa", sum := "477154f86baae91bbd3b9854ab3af9cc9dc4b6626d902830f0a8c3c926d722e7", func := "wigmaker/wigmakerlaw02.CapSplitKeeps", spec := "capSplitKeeps", unfollowed := true, recurses := true, plainKeys := false, apart := false, narrowed := true }
def CapSplitKeepsUptoSaid : Prop := capSplitKeepsUptoRow.holds Try.pinned (OpenSpec.upto capSplitKeepsSpec)

end Rows
end Go.Proofs.Ytnbickholedckaa
