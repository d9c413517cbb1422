/-
  No cell of these rows narrows 'for every input' (looked for: loops, veiled, ifaces, maps, wideKeys, modest, calm, conditions, laid).
  DERIVED. THE GIVEN ROWS OF THIS SEAT. 16 by the template 'for every input the law returns true; each argument reads behind the call as it read before'; 0 by the template 'total and deterministic' (their statements: YtgcjddlcgpjlcaaTotals.lean).
  GIVEN WITH THE SEED: the statements are not yours to turn. If you find one false, say at which input.
  Laid BY PROGRAM, IN A SANDBOX (cutbox-rows.mjs): the forced cells as the released guide's own fill.sh prints them over the translation baef0abba3ed4735… (all of the seat's roots in one cut). By AI agents, Wed Nov 11 2026. No macro, syntax, notation, axiom, sorry.
-/
import Derived.Test.YtgcjddlcgpjlcaaChecked
import GoSem.Claim
import GoSem.ClaimJoined
import GoSem.ClaimMapViews
import Derived.JoinedTies
import Derived.KernelRfl
namespace Go.Proofs.Ytgcjddlcgpjlcaa
/- THE CELL 'sum', in the pinned program and in every row, IS THE sha256 OF THE DUMP (.gsa) THAT YtgcjddlcgpjlcaaProg.lean LOADS. Nothing in Lean hashes anything: it is a label: what it is worth is what the hold of that sum in a sandbox is worth. -/
noncomputable def Try.pinned : Pinned := { name := "ytgcjddlcgpjlcaa", sum := "baef0abba3ed47353868429384d8fd592561afb29ac14c8ffe928afd65ba41be", checked := Try.checked }
namespace Rows
def none {H : Type} : Left H := { results := [], args := [] }

/-- 'wigmakerlaw07.PlotFewer': WHATEVER THE INPUT: true; the input reads as it did. -/
def plotFewerSpec : ChangeSpec := { name := "plotFewer", fn := fun _ => fun
  | [d1, d2] => { results := [.lit (.bool true)], args := [d1, d2] }
  | _ => none }
def plotFewerRow : OpenClaim := { program := "ytgcjddlcgpjlcaa", sum := "baef0abba3ed47353868429384d8fd592561afb29ac14c8ffe928afd65ba41be", func := "wigmaker/wigmakerlaw07.PlotFewer", spec := "plotFewer", unfollowed := true, recurses := true, plainKeys := false, apart := false }
def PlotFewerSaid : Prop := plotFewerRow.holds Try.pinned (OpenSpec.ofChange plotFewerSpec)

/-- ITS FALSE NEIGHBOUR: 'it returns false'. Refute it at one input. -/
def plotFewerWrong : ChangeSpec := { name := "plotFewer", fn := fun _ => fun
  | [d1, d2] => { results := [.lit (.bool false)], args := [d1, d2] }
  | _ => none }
def PlotFewerWrongFalsely : Prop := plotFewerRow.holds Try.pinned (OpenSpec.ofChange plotFewerWrong)

/-- 'wigmakerlaw07.PlotLeast': WHATEVER THE INPUT: true; the input reads as it did. -/
def plotLeastSpec : ChangeSpec := { name := "plotLeast", fn := fun _ => fun
  | [d] => { results := [.lit (.bool true)], args := [d] }
  | _ => none }
def plotLeastRow : OpenClaim := { program := "ytgcjddlcgpjlcaa", sum := "baef0abba3ed47353868429384d8fd592561afb29ac14c8ffe928afd65ba41be", func := "wigmaker/wigmakerlaw07.PlotLeast", spec := "plotLeast", unfollowed := true, recurses := true, plainKeys := false, apart := false }
def PlotLeastSaid : Prop := plotLeastRow.holds Try.pinned (OpenSpec.ofChange plotLeastSpec)

/-- ITS FALSE NEIGHBOUR: 'it returns false'. Refute it at one input. -/
def plotLeastWrong : ChangeSpec := { name := "plotLeast", fn := fun _ => fun
  | [d] => { results := [.lit (.bool false)], args := [d] }
  | _ => none }
def PlotLeastWrongFalsely : Prop := plotLeastRow.holds Try.pinned (OpenSpec.ofChange plotLeastWrong)

/-- 'wigmakerlaw07.PlotPlays': WHATEVER THE INPUT: true; the input reads as it did. -/
def plotPlaysSpec : ChangeSpec := { name := "plotPlays", fn := fun _ => fun
  | [d1, d2, d3] => { results := [.lit (.bool true)], args := [d1, d2, d3] }
  | _ => none }
def plotPlaysRow : OpenClaim := { program := "ytgcjddlcgpjlcaa", sum := "baef0abba3ed47353868429384d8fd592561afb29ac14c8ffe928afd65ba41be", func := "wigmaker/wigmakerlaw07.PlotPlays", spec := "plotPlays", unfollowed := true, recurses := true, plainKeys := false, apart := false }
def PlotPlaysSaid : Prop := plotPlaysRow.holds Try.pinned (OpenSpec.ofChange plotPlaysSpec)

/-- ITS FALSE NEIGHBOUR: 'it returns false'. Refute it at one input. -/
def plotPlaysWrong : ChangeSpec := { name := "plotPlays", fn := fun _ => fun
  | [d1, d2, d3] => { results := [.lit (.bool false)], args := [d1, d2, d3] }
  | _ => none }
def PlotPlaysWrongFalsely : Prop := plotPlaysRow.holds Try.pinned (OpenSpec.ofChange plotPlaysWrong)

/-- 'wigmakerlaw07.PlotProofs': WHATEVER THE INPUT: true; the input reads as it did. -/
def plotProofsSpec : ChangeSpec := { name := "plotProofs", fn := fun _ => fun
  | [d1, d2] => { results := [.lit (.bool true)], args := [d1, d2] }
  | _ => none }
def plotProofsRow : OpenClaim := { program := "ytgcjddlcgpjlcaa", sum := "baef0abba3ed47353868429384d8fd592561afb29ac14c8ffe928afd65ba41be", func := "wigmaker/wigmakerlaw07.PlotProofs", spec := "plotProofs", unfollowed := true, recurses := true, plainKeys := false, apart := false }
def PlotProofsSaid : Prop := plotProofsRow.holds Try.pinned (OpenSpec.ofChange plotProofsSpec)

/-- ITS FALSE NEIGHBOUR: 'it returns false'. Refute it at one input. -/
def plotProofsWrong : ChangeSpec := { name := "plotProofs", fn := fun _ => fun
  | [d1, d2] => { results := [.lit (.bool false)], args := [d1, d2] }
  | _ => none }
def PlotProofsWrongFalsely : Prop := plotProofsRow.holds Try.pinned (OpenSpec.ofChange plotProofsWrong)

/-- 'wigmakerlaw07.PlotQuick': WHATEVER THE INPUT: true; the input reads as it did. -/
def plotQuickSpec : ChangeSpec := { name := "plotQuick", fn := fun _ => fun
  | [d1, d2] => { results := [.lit (.bool true)], args := [d1, d2] }
  | _ => none }
def plotQuickRow : OpenClaim := { program := "ytgcjddlcgpjlcaa", sum := "baef0abba3ed47353868429384d8fd592561afb29ac14c8ffe928afd65ba41be", func := "wigmaker/wigmakerlaw07.PlotQuick", spec := "plotQuick", unfollowed := true, recurses := true, plainKeys := false, apart := false }
def PlotQuickSaid : Prop := plotQuickRow.holds Try.pinned (OpenSpec.ofChange plotQuickSpec)

/-- ITS FALSE NEIGHBOUR: 'it returns false'. Refute it at one input. -/
def plotQuickWrong : ChangeSpec := { name := "plotQuick", fn := fun _ => fun
  | [d1, d2] => { results := [.lit (.bool false)], args := [d1, d2] }
  | _ => none }
def PlotQuickWrongFalsely : Prop := plotQuickRow.holds Try.pinned (OpenSpec.ofChange plotQuickWrong)

/-- 'wigmakerlaw07.PlotMoments': WHATEVER THE INPUT: true; the input reads as it did. -/
def plotMomentsSpec : ChangeSpec := { name := "plotMoments", fn := fun _ => fun
  | [d] => { results := [.lit (.bool true)], args := [d] }
  | _ => none }
def plotMomentsRow : OpenClaim := { program := "ytgcjddlcgpjlcaa", sum := "baef0abba3ed47353868429384d8fd592561afb29ac14c8ffe928afd65ba41be", func := "wigmaker/wigmakerlaw07.PlotMoments", spec := "plotMoments", unfollowed := true, recurses := true, plainKeys := false, apart := false }
def PlotMomentsSaid : Prop := plotMomentsRow.holds Try.pinned (OpenSpec.ofChange plotMomentsSpec)

/-- ITS FALSE NEIGHBOUR: 'it returns false'. Refute it at one input. -/
def plotMomentsWrong : ChangeSpec := { name := "plotMoments", fn := fun _ => fun
  | [d] => { results := [.lit (.bool false)], args := [d] }
  | _ => none }
def PlotMomentsWrongFalsely : Prop := plotMomentsRow.holds Try.pinned (OpenSpec.ofChange plotMomentsWrong)

/-- 'wigmakerlaw07.PlotCrowds': WHATEVER THE INPUT: true; the input reads as it did. -/
def plotCrowdsSpec : ChangeSpec := { name := "plotCrowds", fn := fun _ => fun
  | [d1, d2] => { results := [.lit (.bool true)], args := [d1, d2] }
  | _ => none }
def plotCrowdsRow : OpenClaim := { program := "ytgcjddlcgpjlcaa", sum := "baef0abba3ed47353868429384d8fd592561afb29ac14c8ffe928afd65ba41be", func := "wigmaker/wigmakerlaw07.PlotCrowds", spec := "plotCrowds", unfollowed := true, recurses := true, plainKeys := false, apart := false }
def PlotCrowdsSaid : Prop := plotCrowdsRow.holds Try.pinned (OpenSpec.ofChange plotCrowdsSpec)

/-- ITS FALSE NEIGHBOUR: 'it returns false'. Refute it at one input. -/
def plotCrowdsWrong : ChangeSpec := { name := "plotCrowds", fn := fun _ => fun
  | [d1, d2] => { results := [.lit (.bool false)], args := [d1, d2] }
  | _ => none }
def PlotCrowdsWrongFalsely : Prop := plotCrowdsRow.holds Try.pinned (OpenSpec.ofChange plotCrowdsWrong)

/-- 'wigmakerlaw07.PlotNeeds': WHATEVER THE INPUT: true; the input reads as it did. -/
def plotNeedsSpec : ChangeSpec := { name := "plotNeeds", fn := fun _ => fun
  | [d1, d2] => { results := [.lit (.bool true)], args := [d1, d2] }
  | _ => none }
def plotNeedsRow : OpenClaim := { program := "ytgcjddlcgpjlcaa", sum := "baef0abba3ed47353868429384d8fd592561afb29ac14c8ffe928afd65ba41be", func := "wigmaker/wigmakerlaw07.PlotNeeds", spec := "plotNeeds", unfollowed := true, recurses := true, plainKeys := false, apart := false }
def PlotNeedsSaid : Prop := plotNeedsRow.holds Try.pinned (OpenSpec.ofChange plotNeedsSpec)

/-- ITS FALSE NEIGHBOUR: 'it returns false'. Refute it at one input. -/
def plotNeedsWrong : ChangeSpec := { name := "plotNeeds", fn := fun _ => fun
  | [d1, d2] => { results := [.lit (.bool false)], args := [d1, d2] }
  | _ => none }
def PlotNeedsWrongFalsely : Prop := plotNeedsRow.holds Try.pinned (OpenSpec.ofChange plotNeedsWrong)

/-- 'wigmakerlaw07.PlotDelays': WHATEVER THE INPUT: true; the input reads as it did. -/
def plotDelaysSpec : ChangeSpec := { name := "plotDelays", fn := fun _ => fun
  | [d1, d2, d3] => { results := [.lit (.bool true)], args := [d1, d2, d3] }
  | _ => none }
def plotDelaysRow : OpenClaim := { program := "ytgcjddlcgpjlcaa", sum := "baef0abba3ed47353868429384d8fd592561afb29ac14c8ffe928afd65ba41be", func := "wigmaker/wigmakerlaw07.PlotDelays", spec := "plotDelays", unfollowed := true, recurses := true, plainKeys := false, apart := false }
def PlotDelaysSaid : Prop := plotDelaysRow.holds Try.pinned (OpenSpec.ofChange plotDelaysSpec)

/-- ITS FALSE NEIGHBOUR: 'it returns false'. Refute it at one input. -/
def plotDelaysWrong : ChangeSpec := { name := "plotDelays", fn := fun _ => fun
  | [d1, d2, d3] => { results := [.lit (.bool false)], args := [d1, d2, d3] }
  | _ => none }
def PlotDelaysWrongFalsely : Prop := plotDelaysRow.holds Try.pinned (OpenSpec.ofChange plotDelaysWrong)

/-- 'wigmakerlaw07.PlotChecks': WHATEVER THE INPUT: true; the input reads as it did. -/
def plotChecksSpec : ChangeSpec := { name := "plotChecks", fn := fun _ => fun
  | [d1, d2] => { results := [.lit (.bool true)], args := [d1, d2] }
  | _ => none }
def plotChecksRow : OpenClaim := { program := "ytgcjddlcgpjlcaa", sum := "baef0abba3ed47353868429384d8fd592561afb29ac14c8ffe928afd65ba41be", func := "wigmaker/wigmakerlaw07.PlotChecks", spec := "plotChecks", unfollowed := true, recurses := true, plainKeys := false, apart := false }
def PlotChecksSaid : Prop := plotChecksRow.holds Try.pinned (OpenSpec.ofChange plotChecksSpec)

/-- ITS FALSE NEIGHBOUR: 'it returns false'. Refute it at one input. -/
def plotChecksWrong : ChangeSpec := { name := "plotChecks", fn := fun _ => fun
  | [d1, d2] => { results := [.lit (.bool false)], args := [d1, d2] }
  | _ => none }
def PlotChecksWrongFalsely : Prop := plotChecksRow.holds Try.pinned (OpenSpec.ofChange plotChecksWrong)

/-- 'wigmakerlaw07.PlotJobs': WHATEVER THE INPUT: true; the input reads as it did. -/
def plotJobsSpec : ChangeSpec := { name := "plotJobs", fn := fun _ => fun
  | [d1, d2] => { results := [.lit (.bool true)], args := [d1, d2] }
  | _ => none }
def plotJobsRow : OpenClaim := { program := "ytgcjddlcgpjlcaa", sum := "baef0abba3ed47353868429384d8fd592561afb29ac14c8ffe928afd65ba41be", func := "wigmaker/wigmakerlaw07.PlotJobs", spec := "plotJobs", unfollowed := true, recurses := true, plainKeys := false, apart := false }
def PlotJobsSaid : Prop := plotJobsRow.holds Try.pinned (OpenSpec.ofChange plotJobsSpec)

/-- ITS FALSE NEIGHBOUR: 'it returns false'. Refute it at one input. -/
def plotJobsWrong : ChangeSpec := { name := "plotJobs", fn := fun _ => fun
  | [d1, d2] => { results := [.lit (.bool false)], args := [d1, d2] }
  | _ => none }
def PlotJobsWrongFalsely : Prop := plotJobsRow.holds Try.pinned (OpenSpec.ofChange plotJobsWrong)

/-- 'wigmakerlaw07.PlotPlans': WHATEVER THE INPUT: true; the input reads as it did. -/
def plotPlansSpec : ChangeSpec := { name := "plotPlans", fn := fun _ => fun
  | [d] => { results := [.lit (.bool true)], args := [d] }
  | _ => none }
def plotPlansRow : OpenClaim := { program := "ytgcjddlcgpjlcaa", sum := "baef0abba3ed47353868429384d8fd592561afb29ac14c8ffe928afd65ba41be", func := "wigmaker/wigmakerlaw07.PlotPlans", spec := "plotPlans", unfollowed := true, recurses := true, plainKeys := false, apart := false }
def PlotPlansSaid : Prop := plotPlansRow.holds Try.pinned (OpenSpec.ofChange plotPlansSpec)

/-- ITS FALSE NEIGHBOUR: 'it returns false'. Refute it at one input. -/
def plotPlansWrong : ChangeSpec := { name := "plotPlans", fn := fun _ => fun
  | [d] => { results := [.lit (.bool false)], args := [d] }
  | _ => none }
def PlotPlansWrongFalsely : Prop := plotPlansRow.holds Try.pinned (OpenSpec.ofChange plotPlansWrong)

/-- 'wigmakerlaw07.PlotLonger': WHATEVER THE INPUT: true; the input reads as it did. -/
def plotLongerSpec : ChangeSpec := { name := "plotLonger", fn := fun _ => fun
  | [d1, d2, d3] => { results := [.lit (.bool true)], args := [d1, d2, d3] }
  | _ => none }
def plotLongerRow : OpenClaim := { program := "ytgcjddlcgpjlcaa", sum := "baef0abba3ed47353868429384d8fd592561afb29ac14c8ffe928afd65ba41be", func := "wigmaker/wigmakerlaw07.PlotLonger", spec := "plotLonger", unfollowed := true, recurses := true, plainKeys := false, apart := false }
def PlotLongerSaid : Prop := plotLongerRow.holds Try.pinned (OpenSpec.ofChange plotLongerSpec)

/-- ITS FALSE NEIGHBOUR: 'it returns false'. Refute it at one input. -/
def plotLongerWrong : ChangeSpec := { name := "plotLonger", fn := fun _ => fun
  | [d1, d2, d3] => { results := [.lit (.bool false)], args := [d1, d2, d3] }
  | _ => none }
def PlotLongerWrongFalsely : Prop := plotLongerRow.holds Try.pinned (OpenSpec.ofChange plotLongerWrong)

/-- 'wigmakerlaw07.PlotExcludes': WHATEVER THE INPUT: true; the input reads as it did. -/
def plotExcludesSpec : ChangeSpec := { name := "plotExcludes", fn := fun _ => fun
  | [d1, d2, d3] => { results := [.lit (.bool true)], args := [d1, d2, d3] }
  | _ => none }
def plotExcludesRow : OpenClaim := { program := "ytgcjddlcgpjlcaa", sum := "baef0abba3ed47353868429384d8fd592561afb29ac14c8ffe928afd65ba41be", func := "wigmaker/wigmakerlaw07.PlotExcludes", spec := "plotExcludes", unfollowed := true, recurses := true, plainKeys := false, apart := false }
def PlotExcludesSaid : Prop := plotExcludesRow.holds Try.pinned (OpenSpec.ofChange plotExcludesSpec)

/-- ITS FALSE NEIGHBOUR: 'it returns false'. Refute it at one input. -/
def plotExcludesWrong : ChangeSpec := { name := "plotExcludes", fn := fun _ => fun
  | [d1, d2, d3] => { results := [.lit (.bool false)], args := [d1, d2, d3] }
  | _ => none }
def PlotExcludesWrongFalsely : Prop := plotExcludesRow.holds Try.pinned (OpenSpec.ofChange plotExcludesWrong)

/-- 'wigmakertop.TopPlans': WHATEVER THE INPUT: true; the input reads as it did. -/
def topPlansSpec : ChangeSpec := { name := "topPlans", fn := fun _ => fun
  | [d1, d2, d3] => { results := [.lit (.bool true)], args := [d1, d2, d3] }
  | _ => none }
def topPlansRow : OpenClaim := { program := "ytgcjddlcgpjlcaa", sum := "baef0abba3ed47353868429384d8fd592561afb29ac14c8ffe928afd65ba41be", func := "wigmaker/wigmakertop.TopPlans", spec := "topPlans", unfollowed := true, recurses := true, plainKeys := false, apart := false }
def TopPlansSaid : Prop := topPlansRow.holds Try.pinned (OpenSpec.ofChange topPlansSpec)

/-- ITS FALSE NEIGHBOUR: 'it returns false'. Refute it at one input. -/
def topPlansWrong : ChangeSpec := { name := "topPlans", fn := fun _ => fun
  | [d1, d2, d3] => { results := [.lit (.bool false)], args := [d1, d2, d3] }
  | _ => none }
def TopPlansWrongFalsely : Prop := topPlansRow.holds Try.pinned (OpenSpec.ofChange topPlansWrong)

/-- 'wigmakertop.TopWigs': WHATEVER THE INPUT: true; the input reads as it did. -/
def topWigsSpec : ChangeSpec := { name := "topWigs", fn := fun _ => fun
  | [d1, d2, d3] => { results := [.lit (.bool true)], args := [d1, d2, d3] }
  | _ => none }
def topWigsRow : OpenClaim := { program := "ytgcjddlcgpjlcaa", sum := "baef0abba3ed47353868429384d8fd592561afb29ac14c8ffe928afd65ba41be", func := "wigmaker/wigmakertop.TopWigs", spec := "topWigs", unfollowed := true, recurses := true, plainKeys := false, apart := false }
def TopWigsSaid : Prop := topWigsRow.holds Try.pinned (OpenSpec.ofChange topWigsSpec)

/-- ITS FALSE NEIGHBOUR: 'it returns false'. Refute it at one input. -/
def topWigsWrong : ChangeSpec := { name := "topWigs", fn := fun _ => fun
  | [d1, d2, d3] => { results := [.lit (.bool false)], args := [d1, d2, d3] }
  | _ => none }
def TopWigsWrongFalsely : Prop := topWigsRow.holds Try.pinned (OpenSpec.ofChange topWigsWrong)

/- THE SECOND FORM. 'bulk': how many values and letters a reading holds, each counted each time it is reached (what is shared counts as often as it is met; a slice's spare places count too). A statement '..UptoSaid' is the law's where the arguments, and the package variables that the reading takes, are together of bulk at most 1048576: NARROWER than '..Said'. Prove '..Said' where nothing that the law and all that it calls make is longer than what came in: it says more and counts as full. Else prove '..UptoSaid'. A law counts once. -/
mutual
def uptoBulk {H : Type} : DataW H → Nat
  | .lit (.string bytes) => bytes.length + 1
  | .lit _ => 1
  | .nil => 1
  | .ptr d => uptoBulk d + 1
  | .slice elems spare => uptoBulkAll elems + uptoBulkAll spare + 1
  | .agg parts => uptoBulkAll parts + 1
  | .iface _ d => uptoBulk d + 1
  | .map entries => uptoBulkEntries entries + 1
  | .held _ => 1
def uptoBulkAll {H : Type} : List (DataW H) → Nat
  | [] => 0
  | d :: r => uptoBulk d + uptoBulkAll r
def uptoBulkEntries {H : Type} : List (Lit × DataW H) → Nat
  | [] => 0
  | x :: r => uptoBulkEntry x + uptoBulkEntries r
def uptoBulkEntry {H : Type} : Lit × DataW H → Nat
  | (.string bytes, d) => bytes.length + uptoBulk d + 1
  | (_, d) => uptoBulk d + 1
 end
def uptoSmall : (H : Type) → List (DataW H) → Bool := fun _ ds => decide (uptoBulkAll ds ≤ 1048576)
def OpenSpec.upto (s : _root_.Go.ChangeSpec) : _root_.Go.OpenSpec := { _root_.Go.OpenSpec.ofChange s with cond := some uptoSmall }

/-- 'wigmakerlaw07.PlotFewer', WHERE WHAT IT READS IS OF BULK AT MOST 1048576: true; the input reads as it did. -/
def plotFewerUptoRow : OpenClaim := { program := "ytgcjddlcgpjlcaa", sum := "baef0abba3ed47353868429384d8fd592561afb29ac14c8ffe928afd65ba41be", func := "wigmaker/wigmakerlaw07.PlotFewer", spec := "plotFewer", unfollowed := true, recurses := true, plainKeys := false, apart := false, narrowed := true }
def PlotFewerUptoSaid : Prop := plotFewerUptoRow.holds Try.pinned (OpenSpec.upto plotFewerSpec)

/-- 'wigmakerlaw07.PlotLeast', WHERE WHAT IT READS IS OF BULK AT MOST 1048576: true; the input reads as it did. -/
def plotLeastUptoRow : OpenClaim := { program := "ytgcjddlcgpjlcaa", sum := "baef0abba3ed47353868429384d8fd592561afb29ac14c8ffe928afd65ba41be", func := "wigmaker/wigmakerlaw07.PlotLeast", spec := "plotLeast", unfollowed := true, recurses := true, plainKeys := false, apart := false, narrowed := true }
def PlotLeastUptoSaid : Prop := plotLeastUptoRow.holds Try.pinned (OpenSpec.upto plotLeastSpec)

/-- 'wigmakerlaw07.PlotPlays', WHERE WHAT IT READS IS OF BULK AT MOST 1048576: true; the input reads as it did. -/
def plotPlaysUptoRow : OpenClaim := { program := "ytgcjddlcgpjlcaa", sum := "baef0abba3ed47353868429384d8fd592561afb29ac14c8ffe928afd65ba41be", func := "wigmaker/wigmakerlaw07.PlotPlays", spec := "plotPlays", unfollowed := true, recurses := true, plainKeys := false, apart := false, narrowed := true }
def PlotPlaysUptoSaid : Prop := plotPlaysUptoRow.holds Try.pinned (OpenSpec.upto plotPlaysSpec)

/-- 'wigmakerlaw07.PlotProofs', WHERE WHAT IT READS IS OF BULK AT MOST 1048576: true; the input reads as it did. -/
def plotProofsUptoRow : OpenClaim := { program := "ytgcjddlcgpjlcaa", sum := "baef0abba3ed47353868429384d8fd592561afb29ac14c8ffe928afd65ba41be", func := "wigmaker/wigmakerlaw07.PlotProofs", spec := "plotProofs", unfollowed := true, recurses := true, plainKeys := false, apart := false, narrowed := true }
def PlotProofsUptoSaid : Prop := plotProofsUptoRow.holds Try.pinned (OpenSpec.upto plotProofsSpec)

/-- 'wigmakerlaw07.PlotQuick', WHERE WHAT IT READS IS OF BULK AT MOST 1048576: true; the input reads as it did. -/
def plotQuickUptoRow : OpenClaim := { program := "ytgcjddlcgpjlcaa", sum := "baef0abba3ed47353868429384d8fd592561afb29ac14c8ffe928afd65ba41be", func := "wigmaker/wigmakerlaw07.PlotQuick", spec := "plotQuick", unfollowed := true, recurses := true, plainKeys := false, apart := false, narrowed := true }
def PlotQuickUptoSaid : Prop := plotQuickUptoRow.holds Try.pinned (OpenSpec.upto plotQuickSpec)

/-- 'wigmakerlaw07.PlotMoments', WHERE WHAT IT READS IS OF BULK AT MOST 1048576: true; the input reads as it did. -/
def plotMomentsUptoRow : OpenClaim := { program := "ytgcjddlcgpjlcaa", sum := "baef0abba3ed47353868429384d8fd592561afb29ac14c8ffe928afd65ba41be", func := "wigmaker/wigmakerlaw07.PlotMoments", spec := "plotMoments", unfollowed := true, recurses := true, plainKeys := false, apart := false, narrowed := true }
def PlotMomentsUptoSaid : Prop := plotMomentsUptoRow.holds Try.pinned (OpenSpec.upto plotMomentsSpec)

/-- 'wigmakerlaw07.PlotCrowds', WHERE WHAT IT READS IS OF BULK AT MOST 1048576: true; the input reads as it did. -/
def plotCrowdsUptoRow : OpenClaim := { program := "ytgcjddlcgpjlcaa", sum := "baef0abba3ed47353868429384d8fd592561afb29ac14c8ffe928afd65ba41be", func := "wigmaker/wigmakerlaw07.PlotCrowds", spec := "plotCrowds", unfollowed := true, recurses := true, plainKeys := false, apart := false, narrowed := true }
def PlotCrowdsUptoSaid : Prop := plotCrowdsUptoRow.holds Try.pinned (OpenSpec.upto plotCrowdsSpec)

/-- 'wigmakerlaw07.PlotNeeds', WHERE WHAT IT READS IS OF BULK AT MOST 1048576: true; the input reads as it did. -/
def plotNeedsUptoRow : OpenClaim := { program := "ytgcjddlcgpjlcaa", sum := "baef0abba3ed47353868429384d8fd592561afb29ac14c8ffe928afd65ba41be", func := "wigmaker/wigmakerlaw07.PlotNeeds", spec := "plotNeeds", unfollowed := true, recurses := true, plainKeys := false, apart := false, narrowed := true }
def PlotNeedsUptoSaid : Prop := plotNeedsUptoRow.holds Try.pinned (OpenSpec.upto plotNeedsSpec)

/-- 'wigmakerlaw07.PlotDelays', WHERE WHAT IT READS IS OF BULK AT MOST 1048576: true; the input reads as it did. -/
def plotDelaysUptoRow : OpenClaim := { program := "ytgcjddlcgpjlcaa", sum := "baef0abba3ed47353868429384d8fd592561afb29ac14c8ffe928afd65ba41be", func := "wigmaker/wigmakerlaw07.PlotDelays", spec := "plotDelays", unfollowed := true, recurses := true, plainKeys := false, apart := false, narrowed := true }
def PlotDelaysUptoSaid : Prop := plotDelaysUptoRow.holds Try.pinned (OpenSpec.upto plotDelaysSpec)

/-- 'wigmakerlaw07.PlotChecks', WHERE WHAT IT READS IS OF BULK AT MOST 1048576: true; the input reads as it did. -/
def plotChecksUptoRow : OpenClaim := { program := "ytgcjddlcgpjlcaa", sum := "baef0abba3ed47353868429384d8fd592561afb29ac14c8ffe928afd65ba41be", func := "wigmaker/wigmakerlaw07.PlotChecks", spec := "plotChecks", unfollowed := true, recurses := true, plainKeys := false, apart := false, narrowed := true }
def PlotChecksUptoSaid : Prop := plotChecksUptoRow.holds Try.pinned (OpenSpec.upto plotChecksSpec)

/-- 'wigmakerlaw07.PlotJobs', WHERE WHAT IT READS IS OF BULK AT MOST 1048576: true; the input reads as it did. -/
def plotJobsUptoRow : OpenClaim := { program := "ytgcjddlcgpjlcaa", sum := "baef0abba3ed47353868429384d8fd592561afb29ac14c8ffe928afd65ba41be", func := "wigmaker/wigmakerlaw07.PlotJobs", spec := "plotJobs", unfollowed := true, recurses := true, plainKeys := false, apart := false, narrowed := true }
def PlotJobsUptoSaid : Prop := plotJobsUptoRow.holds Try.pinned (OpenSpec.upto plotJobsSpec)

/-- 'wigmakerlaw07.PlotPlans', WHERE WHAT IT READS IS OF BULK AT MOST 1048576: true; the input reads as it did. -/
def plotPlansUptoRow : OpenClaim := { program := "ytgcjddlcgpjlcaa", sum := "baef0abba3ed47353868429384d8fd592561afb29ac14c8ffe928afd65ba41be", func := "wigmaker/wigmakerlaw07.PlotPlans", spec := "plotPlans", unfollowed := true, recurses := true, plainKeys := false, apart := false, narrowed := true }
def PlotPlansUptoSaid : Prop := plotPlansUptoRow.holds Try.pinned (OpenSpec.upto plotPlansSpec)

/-- 'wigmakerlaw07.PlotLonger', WHERE WHAT IT READS IS OF BULK AT MOST 1048576: true; the input reads as it did. -/
def plotLongerUptoRow : OpenClaim := { program := "ytgcjddlcgpjlcaa", sum := "baef0abba3ed47353868429384d8fd592561afb29ac14c8ffe928afd65ba41be", func := "wigmaker/wigmakerlaw07.PlotLonger", spec := "plotLonger", unfollowed := true, recurses := true, plainKeys := false, apart := false, narrowed := true }
def PlotLongerUptoSaid : Prop := plotLongerUptoRow.holds Try.pinned (OpenSpec.upto plotLongerSpec)

/-- 'wigmakerlaw07.PlotExcludes', WHERE WHAT IT READS IS OF BULK AT MOST 1048576: true; the input reads as it did. -/
def plotExcludesUptoRow : OpenClaim := { program := "ytgcjddlcgpjlcaa", sum := "baef0abba3ed47353868429384d8fd592561afb29ac14c8ffe928afd65ba41be", func := "wigmaker/wigmakerlaw07.PlotExcludes", spec := "plotExcludes", unfollowed := true, recurses := true, plainKeys := false, apart := false, narrowed := true }
def PlotExcludesUptoSaid : Prop := plotExcludesUptoRow.holds Try.pinned (OpenSpec.upto plotExcludesSpec)

/-- 'wigmakertop.TopPlans', WHERE WHAT IT READS IS OF BULK AT MOST 1048576: true; the input reads as it did. -/
def topPlansUptoRow : OpenClaim := { program := "ytgcjddlcgpjlcaa", sum := "baef0abba3ed47353868429384d8fd592561afb29ac14c8ffe928afd65ba41be", func := "wigmaker/wigmakertop.TopPlans", spec := "topPlans", unfollowed := true, recurses := true, plainKeys := false, apart := false, narrowed := true }
def TopPlansUptoSaid : Prop := topPlansUptoRow.holds Try.pinned (OpenSpec.upto topPlansSpec)

/-- 'wigmakertop.TopWigs', WHERE WHAT IT READS IS OF BULK AT MOST 1048576: true; the input reads as it did. -/
def topWigsUptoRow : OpenClaim := { program := "ytgcjddlcgpjlcaa", sum := "baef0abba3ed47353868429384d8fd592561afb29ac14c8ffe928afd65ba41be", func := "wigmaker/wigmakertop.TopWigs", spec := "topWigs", unfollowed := true, recurses := true, plainKeys := false, apart := false, narrowed := true }
def TopWigsUptoSaid : Prop := topWigsUptoRow.holds Try.pinned (OpenSpec.upto topWigsSpec)

end Rows
end Go.Proofs.Ytgcjddlcgpjlcaa
