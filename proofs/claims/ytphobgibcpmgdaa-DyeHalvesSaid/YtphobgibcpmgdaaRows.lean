/-
  No cell of these rows narrows 'for every input' (looked for: loops, veiled, ifaces, maps, wideKeys, modest, calm, conditions, laid).
  DERIVED. THE GIVEN ROWS OF THIS SEAT. 15 by the template 'for every input the law returns true; each argument reads behind the call as it read before'; 0 by the template 'total and deterministic' (their statements: YtphobgibcpmgdaaTotals.lean).
  GIVEN WITH THE SEED: the statements are not yours to turn. If you find one false, say at which input.
  Laid BY PROGRAM, IN A SANDBOX (cutbox-rows.mjs): the forced cells as the released guide's own fill.sh prints them over the translation 07d16617e9ccce11… (all of the seat's roots in one cut). By AI agents, Wed Nov 11 2026. No macro, syntax, notation, axiom, sorry.
-/
import Derived.Test.YtphobgibcpmgdaaChecked
import GoSem.Claim
import GoSem.ClaimJoined
import GoSem.ClaimMapViews
import Derived.JoinedTies
import Derived.KernelRfl
namespace Go.Proofs.Ytphobgibcpmgdaa
/- THE CELL 'sum', in the pinned program and in every row, IS THE sha256 OF THE DUMP (.gsa) THAT YtphobgibcpmgdaaProg.lean LOADS. Nothing in Lean hashes anything: it is a label: what it is worth is what the hold of that sum in a sandbox is worth. -/
noncomputable def Try.pinned : Pinned := { name := "ytphobgibcpmgdaa", sum := "07d16617e9ccce112d46a5e309a4237a1f31fbc5c54122dedafc0fa75226d108", checked := Try.checked }
namespace Rows
def none {H : Type} : Left H := { results := [], args := [] }

/-- 'wigmakerlaw05.DyeShades': WHATEVER THE INPUT: true; the input reads as it did. -/
def dyeShadesSpec : ChangeSpec := { name := "dyeShades", fn := fun _ => fun
  | [d1, d2] => { results := [.lit (.bool true)], args := [d1, d2] }
  | _ => none }
def dyeShadesRow : OpenClaim := { program := "ytphobgibcpmgdaa", sum := "07d16617e9ccce112d46a5e309a4237a1f31fbc5c54122dedafc0fa75226d108", func := "wigmaker/wigmakerlaw05.DyeShades", spec := "dyeShades", unfollowed := true, recurses := true, plainKeys := false, apart := false }
def DyeShadesSaid : Prop := dyeShadesRow.holds Try.pinned (OpenSpec.ofChange dyeShadesSpec)

/-- ITS FALSE NEIGHBOUR: 'it returns false'. Refute it at one input. -/
def dyeShadesWrong : ChangeSpec := { name := "dyeShades", fn := fun _ => fun
  | [d1, d2] => { results := [.lit (.bool false)], args := [d1, d2] }
  | _ => none }
def DyeShadesWrongFalsely : Prop := dyeShadesRow.holds Try.pinned (OpenSpec.ofChange dyeShadesWrong)

/-- 'wigmakerlaw05.DyeBaths': WHATEVER THE INPUT: true; the input reads as it did. -/
def dyeBathsSpec : ChangeSpec := { name := "dyeBaths", fn := fun _ => fun
  | [d1, d2] => { results := [.lit (.bool true)], args := [d1, d2] }
  | _ => none }
def dyeBathsRow : OpenClaim := { program := "ytphobgibcpmgdaa", sum := "07d16617e9ccce112d46a5e309a4237a1f31fbc5c54122dedafc0fa75226d108", func := "wigmaker/wigmakerlaw05.DyeBaths", spec := "dyeBaths", unfollowed := true, recurses := true, plainKeys := false, apart := false }
def DyeBathsSaid : Prop := dyeBathsRow.holds Try.pinned (OpenSpec.ofChange dyeBathsSpec)

/-- ITS FALSE NEIGHBOUR: 'it returns false'. Refute it at one input. -/
def dyeBathsWrong : ChangeSpec := { name := "dyeBaths", fn := fun _ => fun
  | [d1, d2] => { results := [.lit (.bool false)], args := [d1, d2] }
  | _ => none }
def DyeBathsWrongFalsely : Prop := dyeBathsRow.holds Try.pinned (OpenSpec.ofChange dyeBathsWrong)

/-- 'wigmakerlaw05.DyeReaches': WHATEVER THE INPUT: true; the input reads as it did. -/
def dyeReachesSpec : ChangeSpec := { name := "dyeReaches", fn := fun _ => fun
  | [d1, d2, d3] => { results := [.lit (.bool true)], args := [d1, d2, d3] }
  | _ => none }
def dyeReachesRow : OpenClaim := { program := "ytphobgibcpmgdaa", sum := "07d16617e9ccce112d46a5e309a4237a1f31fbc5c54122dedafc0fa75226d108", func := "wigmaker/wigmakerlaw05.DyeReaches", spec := "dyeReaches", unfollowed := true, recurses := true, plainKeys := false, apart := false }
def DyeReachesSaid : Prop := dyeReachesRow.holds Try.pinned (OpenSpec.ofChange dyeReachesSpec)

/-- ITS FALSE NEIGHBOUR: 'it returns false'. Refute it at one input. -/
def dyeReachesWrong : ChangeSpec := { name := "dyeReaches", fn := fun _ => fun
  | [d1, d2, d3] => { results := [.lit (.bool false)], args := [d1, d2, d3] }
  | _ => none }
def DyeReachesWrongFalsely : Prop := dyeReachesRow.holds Try.pinned (OpenSpec.ofChange dyeReachesWrong)

/-- 'wigmakerlaw05.DyeNears': WHATEVER THE INPUT: true; the input reads as it did. -/
def dyeNearsSpec : ChangeSpec := { name := "dyeNears", fn := fun _ => fun
  | [d] => { results := [.lit (.bool true)], args := [d] }
  | _ => none }
def dyeNearsRow : OpenClaim := { program := "ytphobgibcpmgdaa", sum := "07d16617e9ccce112d46a5e309a4237a1f31fbc5c54122dedafc0fa75226d108", func := "wigmaker/wigmakerlaw05.DyeNears", spec := "dyeNears", unfollowed := true, recurses := true, plainKeys := false, apart := false }
def DyeNearsSaid : Prop := dyeNearsRow.holds Try.pinned (OpenSpec.ofChange dyeNearsSpec)

/-- ITS FALSE NEIGHBOUR: 'it returns false'. Refute it at one input. -/
def dyeNearsWrong : ChangeSpec := { name := "dyeNears", fn := fun _ => fun
  | [d] => { results := [.lit (.bool false)], args := [d] }
  | _ => none }
def DyeNearsWrongFalsely : Prop := dyeNearsRow.holds Try.pinned (OpenSpec.ofChange dyeNearsWrong)

/-- 'wigmakerlaw05.DyeServes': WHATEVER THE INPUT: true; the input reads as it did. -/
def dyeServesSpec : ChangeSpec := { name := "dyeServes", fn := fun _ => fun
  | [d] => { results := [.lit (.bool true)], args := [d] }
  | _ => none }
def dyeServesRow : OpenClaim := { program := "ytphobgibcpmgdaa", sum := "07d16617e9ccce112d46a5e309a4237a1f31fbc5c54122dedafc0fa75226d108", func := "wigmaker/wigmakerlaw05.DyeServes", spec := "dyeServes", unfollowed := true, recurses := true, plainKeys := false, apart := false }
def DyeServesSaid : Prop := dyeServesRow.holds Try.pinned (OpenSpec.ofChange dyeServesSpec)

/-- ITS FALSE NEIGHBOUR: 'it returns false'. Refute it at one input. -/
def dyeServesWrong : ChangeSpec := { name := "dyeServes", fn := fun _ => fun
  | [d] => { results := [.lit (.bool false)], args := [d] }
  | _ => none }
def DyeServesWrongFalsely : Prop := dyeServesRow.holds Try.pinned (OpenSpec.ofChange dyeServesWrong)

/-- 'wigmakerlaw05.DyeMore': WHATEVER THE INPUT: true; the input reads as it did. -/
def dyeMoreSpec : ChangeSpec := { name := "dyeMore", fn := fun _ => fun
  | [d1, d2] => { results := [.lit (.bool true)], args := [d1, d2] }
  | _ => none }
def dyeMoreRow : OpenClaim := { program := "ytphobgibcpmgdaa", sum := "07d16617e9ccce112d46a5e309a4237a1f31fbc5c54122dedafc0fa75226d108", func := "wigmaker/wigmakerlaw05.DyeMore", spec := "dyeMore", unfollowed := true, recurses := true, plainKeys := false, apart := false }
def DyeMoreSaid : Prop := dyeMoreRow.holds Try.pinned (OpenSpec.ofChange dyeMoreSpec)

/-- ITS FALSE NEIGHBOUR: 'it returns false'. Refute it at one input. -/
def dyeMoreWrong : ChangeSpec := { name := "dyeMore", fn := fun _ => fun
  | [d1, d2] => { results := [.lit (.bool false)], args := [d1, d2] }
  | _ => none }
def DyeMoreWrongFalsely : Prop := dyeMoreRow.holds Try.pinned (OpenSpec.ofChange dyeMoreWrong)

/-- 'wigmakerlaw05.DyeDiffers': WHATEVER THE INPUT: true; the input reads as it did. -/
def dyeDiffersSpec : ChangeSpec := { name := "dyeDiffers", fn := fun _ => fun
  | [d1, d2, d3] => { results := [.lit (.bool true)], args := [d1, d2, d3] }
  | _ => none }
def dyeDiffersRow : OpenClaim := { program := "ytphobgibcpmgdaa", sum := "07d16617e9ccce112d46a5e309a4237a1f31fbc5c54122dedafc0fa75226d108", func := "wigmaker/wigmakerlaw05.DyeDiffers", spec := "dyeDiffers", unfollowed := true, recurses := true, plainKeys := false, apart := false }
def DyeDiffersSaid : Prop := dyeDiffersRow.holds Try.pinned (OpenSpec.ofChange dyeDiffersSpec)

/-- ITS FALSE NEIGHBOUR: 'it returns false'. Refute it at one input. -/
def dyeDiffersWrong : ChangeSpec := { name := "dyeDiffers", fn := fun _ => fun
  | [d1, d2, d3] => { results := [.lit (.bool false)], args := [d1, d2, d3] }
  | _ => none }
def DyeDiffersWrongFalsely : Prop := dyeDiffersRow.holds Try.pinned (OpenSpec.ofChange dyeDiffersWrong)

/-- 'wigmakerlaw05.DyeChecks': WHATEVER THE INPUT: true; the input reads as it did. -/
def dyeChecksSpec : ChangeSpec := { name := "dyeChecks", fn := fun _ => fun
  | [d1, d2] => { results := [.lit (.bool true)], args := [d1, d2] }
  | _ => none }
def dyeChecksRow : OpenClaim := { program := "ytphobgibcpmgdaa", sum := "07d16617e9ccce112d46a5e309a4237a1f31fbc5c54122dedafc0fa75226d108", func := "wigmaker/wigmakerlaw05.DyeChecks", spec := "dyeChecks", unfollowed := true, recurses := true, plainKeys := false, apart := false }
def DyeChecksSaid : Prop := dyeChecksRow.holds Try.pinned (OpenSpec.ofChange dyeChecksSpec)

/-- ITS FALSE NEIGHBOUR: 'it returns false'. Refute it at one input. -/
def dyeChecksWrong : ChangeSpec := { name := "dyeChecks", fn := fun _ => fun
  | [d1, d2] => { results := [.lit (.bool false)], args := [d1, d2] }
  | _ => none }
def DyeChecksWrongFalsely : Prop := dyeChecksRow.holds Try.pinned (OpenSpec.ofChange dyeChecksWrong)

/-- 'wigmakerlaw05.DyeBounds': WHATEVER THE INPUT: true; the input reads as it did. -/
def dyeBoundsSpec : ChangeSpec := { name := "dyeBounds", fn := fun _ => fun
  | [d1, d2] => { results := [.lit (.bool true)], args := [d1, d2] }
  | _ => none }
def dyeBoundsRow : OpenClaim := { program := "ytphobgibcpmgdaa", sum := "07d16617e9ccce112d46a5e309a4237a1f31fbc5c54122dedafc0fa75226d108", func := "wigmaker/wigmakerlaw05.DyeBounds", spec := "dyeBounds", unfollowed := true, recurses := true, plainKeys := false, apart := false }
def DyeBoundsSaid : Prop := dyeBoundsRow.holds Try.pinned (OpenSpec.ofChange dyeBoundsSpec)

/-- ITS FALSE NEIGHBOUR: 'it returns false'. Refute it at one input. -/
def dyeBoundsWrong : ChangeSpec := { name := "dyeBounds", fn := fun _ => fun
  | [d1, d2] => { results := [.lit (.bool false)], args := [d1, d2] }
  | _ => none }
def DyeBoundsWrongFalsely : Prop := dyeBoundsRow.holds Try.pinned (OpenSpec.ofChange dyeBoundsWrong)

/-- 'wigmakerlaw05.DyeMatches': WHATEVER THE INPUT: true; the input reads as it did. -/
def dyeMatchesSpec : ChangeSpec := { name := "dyeMatches", fn := fun _ => fun
  | [d1, d2, d3] => { results := [.lit (.bool true)], args := [d1, d2, d3] }
  | _ => none }
def dyeMatchesRow : OpenClaim := { program := "ytphobgibcpmgdaa", sum := "07d16617e9ccce112d46a5e309a4237a1f31fbc5c54122dedafc0fa75226d108", func := "wigmaker/wigmakerlaw05.DyeMatches", spec := "dyeMatches", unfollowed := true, recurses := true, plainKeys := false, apart := false }
def DyeMatchesSaid : Prop := dyeMatchesRow.holds Try.pinned (OpenSpec.ofChange dyeMatchesSpec)

/-- ITS FALSE NEIGHBOUR: 'it returns false'. Refute it at one input. -/
def dyeMatchesWrong : ChangeSpec := { name := "dyeMatches", fn := fun _ => fun
  | [d1, d2, d3] => { results := [.lit (.bool false)], args := [d1, d2, d3] }
  | _ => none }
def DyeMatchesWrongFalsely : Prop := dyeMatchesRow.holds Try.pinned (OpenSpec.ofChange dyeMatchesWrong)

/-- 'wigmakertop.TopServed': WHATEVER THE INPUT: true; the input reads as it did. -/
def topServedSpec : ChangeSpec := { name := "topServed", fn := fun _ => fun
  | [d1, d2, d3] => { results := [.lit (.bool true)], args := [d1, d2, d3] }
  | _ => none }
def topServedRow : OpenClaim := { program := "ytphobgibcpmgdaa", sum := "07d16617e9ccce112d46a5e309a4237a1f31fbc5c54122dedafc0fa75226d108", func := "wigmaker/wigmakertop.TopServed", spec := "topServed", unfollowed := true, recurses := true, plainKeys := false, apart := false }
def TopServedSaid : Prop := topServedRow.holds Try.pinned (OpenSpec.ofChange topServedSpec)

/-- ITS FALSE NEIGHBOUR: 'it returns false'. Refute it at one input. -/
def topServedWrong : ChangeSpec := { name := "topServed", fn := fun _ => fun
  | [d1, d2, d3] => { results := [.lit (.bool false)], args := [d1, d2, d3] }
  | _ => none }
def TopServedWrongFalsely : Prop := topServedRow.holds Try.pinned (OpenSpec.ofChange topServedWrong)

/-- 'wigmakerlaw05.DyeBlends': WHATEVER THE INPUT: true; the input reads as it did. -/
def dyeBlendsSpec : ChangeSpec := { name := "dyeBlends", fn := fun _ => fun
  | [d] => { results := [.lit (.bool true)], args := [d] }
  | _ => none }
def dyeBlendsRow : OpenClaim := { program := "ytphobgibcpmgdaa", sum := "07d16617e9ccce112d46a5e309a4237a1f31fbc5c54122dedafc0fa75226d108", func := "wigmaker/wigmakerlaw05.DyeBlends", spec := "dyeBlends", unfollowed := true, recurses := true, plainKeys := false, apart := false }
def DyeBlendsSaid : Prop := dyeBlendsRow.holds Try.pinned (OpenSpec.ofChange dyeBlendsSpec)

/-- ITS FALSE NEIGHBOUR: 'it returns false'. Refute it at one input. -/
def dyeBlendsWrong : ChangeSpec := { name := "dyeBlends", fn := fun _ => fun
  | [d] => { results := [.lit (.bool false)], args := [d] }
  | _ => none }
def DyeBlendsWrongFalsely : Prop := dyeBlendsRow.holds Try.pinned (OpenSpec.ofChange dyeBlendsWrong)

/-- 'wigmakerlaw05.DyeMixes': WHATEVER THE INPUT: true; the input reads as it did. -/
def dyeMixesSpec : ChangeSpec := { name := "dyeMixes", fn := fun _ => fun
  | [d] => { results := [.lit (.bool true)], args := [d] }
  | _ => none }
def dyeMixesRow : OpenClaim := { program := "ytphobgibcpmgdaa", sum := "07d16617e9ccce112d46a5e309a4237a1f31fbc5c54122dedafc0fa75226d108", func := "wigmaker/wigmakerlaw05.DyeMixes", spec := "dyeMixes", unfollowed := true, recurses := true, plainKeys := false, apart := false }
def DyeMixesSaid : Prop := dyeMixesRow.holds Try.pinned (OpenSpec.ofChange dyeMixesSpec)

/-- ITS FALSE NEIGHBOUR: 'it returns false'. Refute it at one input. -/
def dyeMixesWrong : ChangeSpec := { name := "dyeMixes", fn := fun _ => fun
  | [d] => { results := [.lit (.bool false)], args := [d] }
  | _ => none }
def DyeMixesWrongFalsely : Prop := dyeMixesRow.holds Try.pinned (OpenSpec.ofChange dyeMixesWrong)

/-- 'wigmakerlaw05.DyeAparts': WHATEVER THE INPUT: true; the input reads as it did. -/
def dyeApartsSpec : ChangeSpec := { name := "dyeAparts", fn := fun _ => fun
  | [d1, d2] => { results := [.lit (.bool true)], args := [d1, d2] }
  | _ => none }
def dyeApartsRow : OpenClaim := { program := "ytphobgibcpmgdaa", sum := "07d16617e9ccce112d46a5e309a4237a1f31fbc5c54122dedafc0fa75226d108", func := "wigmaker/wigmakerlaw05.DyeAparts", spec := "dyeAparts", unfollowed := true, recurses := true, plainKeys := false, apart := false }
def DyeApartsSaid : Prop := dyeApartsRow.holds Try.pinned (OpenSpec.ofChange dyeApartsSpec)

/-- ITS FALSE NEIGHBOUR: 'it returns false'. Refute it at one input. -/
def dyeApartsWrong : ChangeSpec := { name := "dyeAparts", fn := fun _ => fun
  | [d1, d2] => { results := [.lit (.bool false)], args := [d1, d2] }
  | _ => none }
def DyeApartsWrongFalsely : Prop := dyeApartsRow.holds Try.pinned (OpenSpec.ofChange dyeApartsWrong)

/-- 'wigmakerlaw05.DyeHalves': WHATEVER THE INPUT: true; the input reads as it did. -/
def dyeHalvesSpec : ChangeSpec := { name := "dyeHalves", fn := fun _ => fun
  | [d1, d2] => { results := [.lit (.bool true)], args := [d1, d2] }
  | _ => none }
def dyeHalvesRow : OpenClaim := { program := "ytphobgibcpmgdaa", sum := "07d16617e9ccce112d46a5e309a4237a1f31fbc5c54122dedafc0fa75226d108", func := "wigmaker/wigmakerlaw05.DyeHalves", spec := "dyeHalves", unfollowed := true, recurses := true, plainKeys := false, apart := false }
def DyeHalvesSaid : Prop := dyeHalvesRow.holds Try.pinned (OpenSpec.ofChange dyeHalvesSpec)

/-- ITS FALSE NEIGHBOUR: 'it returns false'. Refute it at one input. -/
def dyeHalvesWrong : ChangeSpec := { name := "dyeHalves", fn := fun _ => fun
  | [d1, d2] => { results := [.lit (.bool false)], args := [d1, d2] }
  | _ => none }
def DyeHalvesWrongFalsely : Prop := dyeHalvesRow.holds Try.pinned (OpenSpec.ofChange dyeHalvesWrong)

/- THE SECOND FORM. 'bulk': how many values and letters a reading holds, each counted each time it is reached (what is shared counts as often as it is met; a slice's spare places count too). A statement '..UptoSaid' is the law's where the arguments, and the package variables that the reading takes, are together of bulk at most 1048576: NARROWER than '..Said'. Prove '..Said' where nothing that the law and all that it calls make is longer than what came in: it says more and counts as full. Else prove '..UptoSaid'. A law counts once. -/
mutual
def uptoBulk {H : Type} : DataW H → Nat
  | .lit (.string bytes) => bytes.length + 1
  | .lit _ => 1
  | .nil => 1
  | .ptr d => uptoBulk d + 1
  | .slice elems spare => uptoBulkAll elems + uptoBulkAll spare + 1
  | .agg parts => uptoBulkAll parts + 1
  | .iface _ d => uptoBulk d + 1
  | .map entries => uptoBulkEntries entries + 1
  | .held _ => 1
def uptoBulkAll {H : Type} : List (DataW H) → Nat
  | [] => 0
  | d :: r => uptoBulk d + uptoBulkAll r
def uptoBulkEntries {H : Type} : List (Lit × DataW H) → Nat
  | [] => 0
  | x :: r => uptoBulkEntry x + uptoBulkEntries r
def uptoBulkEntry {H : Type} : Lit × DataW H → Nat
  | (.string bytes, d) => bytes.length + uptoBulk d + 1
  | (_, d) => uptoBulk d + 1
 end
def uptoSmall : (H : Type) → List (DataW H) → Bool := fun _ ds => decide (uptoBulkAll ds ≤ 1048576)
def OpenSpec.upto (s : _root_.Go.ChangeSpec) : _root_.Go.OpenSpec := { _root_.Go.OpenSpec.ofChange s with cond := some uptoSmall }

/-- 'wigmakerlaw05.DyeShades', WHERE WHAT IT READS IS OF BULK AT MOST 1048576: true; the input reads as it did. -/
def dyeShadesUptoRow : OpenClaim := { program := "ytphobgibcpmgdaa", sum := "07d16617e9ccce112d46a5e309a4237a1f31fbc5c54122dedafc0fa75226d108", func := "wigmaker/wigmakerlaw05.DyeShades", spec := "dyeShades", unfollowed := true, recurses := true, plainKeys := false, apart := false, narrowed := true }
def DyeShadesUptoSaid : Prop := dyeShadesUptoRow.holds Try.pinned (OpenSpec.upto dyeShadesSpec)

/-- 'wigmakerlaw05.DyeBaths', WHERE WHAT IT READS IS OF BULK AT MOST 1048576: true; the input reads as it did. -/
def dyeBathsUptoRow : OpenClaim := { program := "ytphobgibcpmgdaa", sum := "07d16617e9ccce112d46a5e309a4237a1f31fbc5c54122dedafc0fa75226d108", func := "wigmaker/wigmakerlaw05.DyeBaths", spec := "dyeBaths", unfollowed := true, recurses := true, plainKeys := false, apart := false, narrowed := true }
def DyeBathsUptoSaid : Prop := dyeBathsUptoRow.holds Try.pinned (OpenSpec.upto dyeBathsSpec)

/-- 'wigmakerlaw05.DyeReaches', WHERE WHAT IT READS IS OF BULK AT MOST 1048576: true; the input reads as it did. -/
def dyeReachesUptoRow : OpenClaim := { program := "ytphobgibcpmgdaa", sum := "07d16617e9ccce112d46a5e309a4237a1f31fbc5c54122dedafc0fa75226d108", func := "wigmaker/wigmakerlaw05.DyeReaches", spec := "dyeReaches", unfollowed := true, recurses := true, plainKeys := false, apart := false, narrowed := true }
def DyeReachesUptoSaid : Prop := dyeReachesUptoRow.holds Try.pinned (OpenSpec.upto dyeReachesSpec)

/-- 'wigmakerlaw05.DyeNears', WHERE WHAT IT READS IS OF BULK AT MOST 1048576: true; the input reads as it did. -/
def dyeNearsUptoRow : OpenClaim := { program := "ytphobgibcpmgdaa", sum := "07d16617e9ccce112d46a5e309a4237a1f31fbc5c54122dedafc0fa75226d108", func := "wigmaker/wigmakerlaw05.DyeNears", spec := "dyeNears", unfollowed := true, recurses := true, plainKeys := false, apart := false, narrowed := true }
def DyeNearsUptoSaid : Prop := dyeNearsUptoRow.holds Try.pinned (OpenSpec.upto dyeNearsSpec)

/-- 'wigmakerlaw05.DyeServes', WHERE WHAT IT READS IS OF BULK AT MOST 1048576: true; the input reads as it did. -/
def dyeServesUptoRow : OpenClaim := { program := "ytphobgibcpmgdaa", sum := "07d16617e9ccce112d46a5e309a4237a1f31fbc5c54122dedafc0fa75226d108", func := "wigmaker/wigmakerlaw05.DyeServes", spec := "dyeServes", unfollowed := true, recurses := true, plainKeys := false, apart := false, narrowed := true }
def DyeServesUptoSaid : Prop := dyeServesUptoRow.holds Try.pinned (OpenSpec.upto dyeServesSpec)

/-- 'wigmakerlaw05.DyeMore', WHERE WHAT IT READS IS OF BULK AT MOST 1048576: true; the input reads as it did. -/
def dyeMoreUptoRow : OpenClaim := { program := "ytphobgibcpmgdaa", sum := "07d16617e9ccce112d46a5e309a4237a1f31fbc5c54122dedafc0fa75226d108", func := "wigmaker/wigmakerlaw05.DyeMore", spec := "dyeMore", unfollowed := true, recurses := true, plainKeys := false, apart := false, narrowed := true }
def DyeMoreUptoSaid : Prop := dyeMoreUptoRow.holds Try.pinned (OpenSpec.upto dyeMoreSpec)

/-- 'wigmakerlaw05.DyeDiffers', WHERE WHAT IT READS IS OF BULK AT MOST 1048576: true; the input reads as it did. -/
def dyeDiffersUptoRow : OpenClaim := { program := "ytphobgibcpmgdaa", sum := "07d16617e9ccce112d46a5e309a4237a1f31fbc5c54122dedafc0fa75226d108", func := "wigmaker/wigmakerlaw05.DyeDiffers", spec := "dyeDiffers", unfollowed := true, recurses := true, plainKeys := false, apart := false, narrowed := true }
def DyeDiffersUptoSaid : Prop := dyeDiffersUptoRow.holds Try.pinned (OpenSpec.upto dyeDiffersSpec)

/-- 'wigmakerlaw05.DyeChecks', WHERE WHAT IT READS IS OF BULK AT MOST 1048576: true; the input reads as it did. -/
def dyeChecksUptoRow : OpenClaim := { program := "ytphobgibcpmgdaa", sum := "07d16617e9ccce112d46a5e309a4237a1f31fbc5c54122dedafc0fa75226d108", func := "wigmaker/wigmakerlaw05.DyeChecks", spec := "dyeChecks", unfollowed := true, recurses := true, plainKeys := false, apart := false, narrowed := true }
def DyeChecksUptoSaid : Prop := dyeChecksUptoRow.holds Try.pinned (OpenSpec.upto dyeChecksSpec)

/-- 'wigmakerlaw05.DyeBounds', WHERE WHAT IT READS IS OF BULK AT MOST 1048576: true; the input reads as it did. -/
def dyeBoundsUptoRow : OpenClaim := { program := "ytphobgibcpmgdaa", sum := "07d16617e9ccce112d46a5e309a4237a1f31fbc5c54122dedafc0fa75226d108", func := "wigmaker/wigmakerlaw05.DyeBounds", spec := "dyeBounds", unfollowed := true, recurses := true, plainKeys := false, apart := false, narrowed := true }
def DyeBoundsUptoSaid : Prop := dyeBoundsUptoRow.holds Try.pinned (OpenSpec.upto dyeBoundsSpec)

/-- 'wigmakerlaw05.DyeMatches', WHERE WHAT IT READS IS OF BULK AT MOST 1048576: true; the input reads as it did. -/
def dyeMatchesUptoRow : OpenClaim := { program := "ytphobgibcpmgdaa", sum := "07d16617e9ccce112d46a5e309a4237a1f31fbc5c54122dedafc0fa75226d108", func := "wigmaker/wigmakerlaw05.DyeMatches", spec := "dyeMatches", unfollowed := true, recurses := true, plainKeys := false, apart := false, narrowed := true }
def DyeMatchesUptoSaid : Prop := dyeMatchesUptoRow.holds Try.pinned (OpenSpec.upto dyeMatchesSpec)

/-- 'wigmakertop.TopServed', WHERE WHAT IT READS IS OF BULK AT MOST 1048576: true; the input reads as it did. -/
def topServedUptoRow : OpenClaim := { program := "ytphobgibcpmgdaa", sum := "07d16617e9ccce112d46a5e309a4237a1f31fbc5c54122dedafc0fa75226d108", func := "wigmaker/wigmakertop.TopServed", spec := "topServed", unfollowed := true, recurses := true, plainKeys := false, apart := false, narrowed := true }
def TopServedUptoSaid : Prop := topServedUptoRow.holds Try.pinned (OpenSpec.upto topServedSpec)

/-- 'wigmakerlaw05.DyeBlends', WHERE WHAT IT READS IS OF BULK AT MOST 1048576: true; the input reads as it did. -/
def dyeBlendsUptoRow : OpenClaim := { program := "ytphobgibcpmgdaa", sum := "07d16617e9ccce112d46a5e309a4237a1f31fbc5c54122dedafc0fa75226d108", func := "wigmaker/wigmakerlaw05.DyeBlends", spec := "dyeBlends", unfollowed := true, recurses := true, plainKeys := false, apart := false, narrowed := true }
def DyeBlendsUptoSaid : Prop := dyeBlendsUptoRow.holds Try.pinned (OpenSpec.upto dyeBlendsSpec)

/-- 'wigmakerlaw05.DyeMixes', WHERE WHAT IT READS IS OF BULK AT MOST 1048576: true; the input reads as it did. -/
def dyeMixesUptoRow : OpenClaim := { program := "ytphobgibcpmgdaa", sum := "07d16617e9ccce112d46a5e309a4237a1f31fbc5c54122dedafc0fa75226d108", func := "wigmaker/wigmakerlaw05.DyeMixes", spec := "dyeMixes", unfollowed := true, recurses := true, plainKeys := false, apart := false, narrowed := true }
def DyeMixesUptoSaid : Prop := dyeMixesUptoRow.holds Try.pinned (OpenSpec.upto dyeMixesSpec)

/-- 'wigmakerlaw05.DyeAparts', WHERE WHAT IT READS IS OF BULK AT MOST 1048576: true; the input reads as it did. -/
def dyeApartsUptoRow : OpenClaim := { program := "ytphobgibcpmgdaa", sum := "07d16617e9ccce112d46a5e309a4237a1f31fbc5c54122dedafc0fa75226d108", func := "wigmaker/wigmakerlaw05.DyeAparts", spec := "dyeAparts", unfollowed := true, recurses := true, plainKeys := false, apart := false, narrowed := true }
def DyeApartsUptoSaid : Prop := dyeApartsUptoRow.holds Try.pinned (OpenSpec.upto dyeApartsSpec)

/-- 'wigmakerlaw05.DyeHalves', WHERE WHAT IT READS IS OF BULK AT MOST 1048576: true; the input reads as it did. -/
def dyeHalvesUptoRow : OpenClaim := { program := "ytphobgibcpmgdaa", sum := "07d16617e9ccce112d46a5e309a4237a1f31fbc5c54122dedafc0fa75226d108", func := "wigmaker/wigmakerlaw05.DyeHalves", spec := "dyeHalves", unfollowed := true, recurses := true, plainKeys := false, apart := false, narrowed := true }
def DyeHalvesUptoSaid : Prop := dyeHalvesUptoRow.holds Try.pinned (OpenSpec.upto dyeHalvesSpec)

end Rows
end Go.Proofs.Ytphobgibcpmgdaa
