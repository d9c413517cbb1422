/-
  No cell of these rows narrows 'for every input' (looked for: loops, veiled, ifaces, maps, wideKeys, modest, calm, conditions, laid).
  DERIVED. THE GIVEN ROWS OF THIS SEAT. 14 by the template 'for every input the law returns true; each argument reads behind the call as it read before'; 0 by the template 'total and deterministic' (their statements: YtiopaodiaokfdaaTotals.lean).
  GIVEN WITH THE SEED: the statements are not yours to turn. If you find one false, say at which input.
  Laid BY PROGRAM, IN A SANDBOX (cutbox-rows.mjs): the forced cells as the released guide's own fill.sh prints them over the translation 4824b380466dcf2c… (all of the seat's roots in one cut). By AI agents, Wed Nov 11 2026. No macro, syntax, notation, axiom, sorry.
-/
import Derived.Test.YtiopaodiaokfdaaChecked
import GoSem.Claim
import GoSem.ClaimJoined
import GoSem.ClaimMapViews
import Derived.JoinedTies
import Derived.KernelRfl
namespace Go.Proofs.Ytiopaodiaokfdaa
/- THE CELL 'sum', in the pinned program and in every row, IS THE sha256 OF THE DUMP (.gsa) THAT YtiopaodiaokfdaaProg.lean LOADS. Nothing in Lean hashes anything: it is a label: what it is worth is what the hold of that sum in a sandbox is worth. -/
noncomputable def Try.pinned : Pinned := { name := "ytiopaodiaokfdaa", sum := "4824b380466dcf2cca7a53f776d22c9bdee17d4b91cae680ae439eee8f3267d8", checked := Try.checked }
namespace Rows
def none {H : Type} : Left H := { results := [], args := [] }

/-- 'wigmakerlaw01.HairCounts': WHATEVER THE INPUT: true; the input reads as it did. -/
def hairCountsSpec : ChangeSpec := { name := "hairCounts", fn := fun _ => fun
  | [d1, d2] => { results := [.lit (.bool true)], args := [d1, d2] }
  | _ => none }
def hairCountsRow : OpenClaim := { program := "ytiopaodiaokfdaa", sum := "4824b380466dcf2cca7a53f776d22c9bdee17d4b91cae680ae439eee8f3267d8", func := "wigmaker/wigmakerlaw01.HairCounts", spec := "hairCounts", apart := false }
def HairCountsSaid : Prop := hairCountsRow.holds Try.pinned (OpenSpec.ofChange hairCountsSpec)

/-- ITS FALSE NEIGHBOUR: 'it returns false'. Refute it at one input. -/
def hairCountsWrong : ChangeSpec := { name := "hairCounts", fn := fun _ => fun
  | [d1, d2] => { results := [.lit (.bool false)], args := [d1, d2] }
  | _ => none }
def HairCountsWrongFalsely : Prop := hairCountsRow.holds Try.pinned (OpenSpec.ofChange hairCountsWrong)

/-- 'wigmakerlaw01.HairWeighs': WHATEVER THE INPUT: true; the input reads as it did. -/
def hairWeighsSpec : ChangeSpec := { name := "hairWeighs", fn := fun _ => fun
  | [d1, d2] => { results := [.lit (.bool true)], args := [d1, d2] }
  | _ => none }
def hairWeighsRow : OpenClaim := { program := "ytiopaodiaokfdaa", sum := "4824b380466dcf2cca7a53f776d22c9bdee17d4b91cae680ae439eee8f3267d8", func := "wigmaker/wigmakerlaw01.HairWeighs", spec := "hairWeighs", apart := false }
def HairWeighsSaid : Prop := hairWeighsRow.holds Try.pinned (OpenSpec.ofChange hairWeighsSpec)

/-- ITS FALSE NEIGHBOUR: 'it returns false'. Refute it at one input. -/
def hairWeighsWrong : ChangeSpec := { name := "hairWeighs", fn := fun _ => fun
  | [d1, d2] => { results := [.lit (.bool false)], args := [d1, d2] }
  | _ => none }
def HairWeighsWrongFalsely : Prop := hairWeighsRow.holds Try.pinned (OpenSpec.ofChange hairWeighsWrong)

/-- 'wigmakerlaw01.HairValidates': WHATEVER THE INPUT: true; the input reads as it did. -/
def hairValidatesSpec : ChangeSpec := { name := "hairValidates", fn := fun _ => fun
  | [d] => { results := [.lit (.bool true)], args := [d] }
  | _ => none }
def hairValidatesRow : OpenClaim := { program := "ytiopaodiaokfdaa", sum := "4824b380466dcf2cca7a53f776d22c9bdee17d4b91cae680ae439eee8f3267d8", func := "wigmaker/wigmakerlaw01.HairValidates", spec := "hairValidates", apart := false }
def HairValidatesSaid : Prop := hairValidatesRow.holds Try.pinned (OpenSpec.ofChange hairValidatesSpec)

/-- ITS FALSE NEIGHBOUR: 'it returns false'. Refute it at one input. -/
def hairValidatesWrong : ChangeSpec := { name := "hairValidates", fn := fun _ => fun
  | [d] => { results := [.lit (.bool false)], args := [d] }
  | _ => none }
def HairValidatesWrongFalsely : Prop := hairValidatesRow.holds Try.pinned (OpenSpec.ofChange hairValidatesWrong)

/-- 'wigmakerlaw01.HairShares': WHATEVER THE INPUT: true; the input reads as it did. -/
def hairSharesSpec : ChangeSpec := { name := "hairShares", fn := fun _ => fun
  | [d1, d2] => { results := [.lit (.bool true)], args := [d1, d2] }
  | _ => none }
def hairSharesRow : OpenClaim := { program := "ytiopaodiaokfdaa", sum := "4824b380466dcf2cca7a53f776d22c9bdee17d4b91cae680ae439eee8f3267d8", func := "wigmaker/wigmakerlaw01.HairShares", spec := "hairShares", unfollowed := true, recurses := true, apart := false }
def HairSharesSaid : Prop := hairSharesRow.holds Try.pinned (OpenSpec.ofChange hairSharesSpec)

/-- ITS FALSE NEIGHBOUR: 'it returns false'. Refute it at one input. -/
def hairSharesWrong : ChangeSpec := { name := "hairShares", fn := fun _ => fun
  | [d1, d2] => { results := [.lit (.bool false)], args := [d1, d2] }
  | _ => none }
def HairSharesWrongFalsely : Prop := hairSharesRow.holds Try.pinned (OpenSpec.ofChange hairSharesWrong)

/-- 'wigmakerlaw01.HairMixes': WHATEVER THE INPUT: true; the input reads as it did. -/
def hairMixesSpec : ChangeSpec := { name := "hairMixes", fn := fun _ => fun
  | [d1, d2] => { results := [.lit (.bool true)], args := [d1, d2] }
  | _ => none }
def hairMixesRow : OpenClaim := { program := "ytiopaodiaokfdaa", sum := "4824b380466dcf2cca7a53f776d22c9bdee17d4b91cae680ae439eee8f3267d8", func := "wigmaker/wigmakerlaw01.HairMixes", spec := "hairMixes", apart := false }
def HairMixesSaid : Prop := hairMixesRow.holds Try.pinned (OpenSpec.ofChange hairMixesSpec)

/-- ITS FALSE NEIGHBOUR: 'it returns false'. Refute it at one input. -/
def hairMixesWrong : ChangeSpec := { name := "hairMixes", fn := fun _ => fun
  | [d1, d2] => { results := [.lit (.bool false)], args := [d1, d2] }
  | _ => none }
def HairMixesWrongFalsely : Prop := hairMixesRow.holds Try.pinned (OpenSpec.ofChange hairMixesWrong)

/-- 'wigmakerlaw01.HairSnaps': WHATEVER THE INPUT: true; the input reads as it did. -/
def hairSnapsSpec : ChangeSpec := { name := "hairSnaps", fn := fun _ => fun
  | [d1, d2] => { results := [.lit (.bool true)], args := [d1, d2] }
  | _ => none }
def hairSnapsRow : OpenClaim := { program := "ytiopaodiaokfdaa", sum := "4824b380466dcf2cca7a53f776d22c9bdee17d4b91cae680ae439eee8f3267d8", func := "wigmaker/wigmakerlaw01.HairSnaps", spec := "hairSnaps", apart := false }
def HairSnapsSaid : Prop := hairSnapsRow.holds Try.pinned (OpenSpec.ofChange hairSnapsSpec)

/-- ITS FALSE NEIGHBOUR: 'it returns false'. Refute it at one input. -/
def hairSnapsWrong : ChangeSpec := { name := "hairSnaps", fn := fun _ => fun
  | [d1, d2] => { results := [.lit (.bool false)], args := [d1, d2] }
  | _ => none }
def HairSnapsWrongFalsely : Prop := hairSnapsRow.holds Try.pinned (OpenSpec.ofChange hairSnapsWrong)

/-- 'wigmakerlaw01.HairCompares': WHATEVER THE INPUT: true; the input reads as it did. -/
def hairComparesSpec : ChangeSpec := { name := "hairCompares", fn := fun _ => fun
  | [d1, d2] => { results := [.lit (.bool true)], args := [d1, d2] }
  | _ => none }
def hairComparesRow : OpenClaim := { program := "ytiopaodiaokfdaa", sum := "4824b380466dcf2cca7a53f776d22c9bdee17d4b91cae680ae439eee8f3267d8", func := "wigmaker/wigmakerlaw01.HairCompares", spec := "hairCompares", unfollowed := true, recurses := true, apart := false }
def HairComparesSaid : Prop := hairComparesRow.holds Try.pinned (OpenSpec.ofChange hairComparesSpec)

/-- ITS FALSE NEIGHBOUR: 'it returns false'. Refute it at one input. -/
def hairComparesWrong : ChangeSpec := { name := "hairCompares", fn := fun _ => fun
  | [d1, d2] => { results := [.lit (.bool false)], args := [d1, d2] }
  | _ => none }
def HairComparesWrongFalsely : Prop := hairComparesRow.holds Try.pinned (OpenSpec.ofChange hairComparesWrong)

/-- 'wigmakerlaw01.HairDraws': WHATEVER THE INPUT: true; the input reads as it did. -/
def hairDrawsSpec : ChangeSpec := { name := "hairDraws", fn := fun _ => fun
  | [d1, d2] => { results := [.lit (.bool true)], args := [d1, d2] }
  | _ => none }
def hairDrawsRow : OpenClaim := { program := "ytiopaodiaokfdaa", sum := "4824b380466dcf2cca7a53f776d22c9bdee17d4b91cae680ae439eee8f3267d8", func := "wigmaker/wigmakerlaw01.HairDraws", spec := "hairDraws", apart := false }
def HairDrawsSaid : Prop := hairDrawsRow.holds Try.pinned (OpenSpec.ofChange hairDrawsSpec)

/-- ITS FALSE NEIGHBOUR: 'it returns false'. Refute it at one input. -/
def hairDrawsWrong : ChangeSpec := { name := "hairDraws", fn := fun _ => fun
  | [d1, d2] => { results := [.lit (.bool false)], args := [d1, d2] }
  | _ => none }
def HairDrawsWrongFalsely : Prop := hairDrawsRow.holds Try.pinned (OpenSpec.ofChange hairDrawsWrong)

/-- 'wigmakerlaw01.HairHandfuls': WHATEVER THE INPUT: true; the input reads as it did. -/
def hairHandfulsSpec : ChangeSpec := { name := "hairHandfuls", fn := fun _ => fun
  | [d1, d2] => { results := [.lit (.bool true)], args := [d1, d2] }
  | _ => none }
def hairHandfulsRow : OpenClaim := { program := "ytiopaodiaokfdaa", sum := "4824b380466dcf2cca7a53f776d22c9bdee17d4b91cae680ae439eee8f3267d8", func := "wigmaker/wigmakerlaw01.HairHandfuls", spec := "hairHandfuls", apart := false }
def HairHandfulsSaid : Prop := hairHandfulsRow.holds Try.pinned (OpenSpec.ofChange hairHandfulsSpec)

/-- ITS FALSE NEIGHBOUR: 'it returns false'. Refute it at one input. -/
def hairHandfulsWrong : ChangeSpec := { name := "hairHandfuls", fn := fun _ => fun
  | [d1, d2] => { results := [.lit (.bool false)], args := [d1, d2] }
  | _ => none }
def HairHandfulsWrongFalsely : Prop := hairHandfulsRow.holds Try.pinned (OpenSpec.ofChange hairHandfulsWrong)

/-- 'wigmakerlaw01.HairCuts': WHATEVER THE INPUT: true; the input reads as it did. -/
def hairCutsSpec : ChangeSpec := { name := "hairCuts", fn := fun _ => fun
  | [d1, d2] => { results := [.lit (.bool true)], args := [d1, d2] }
  | _ => none }
def hairCutsRow : OpenClaim := { program := "ytiopaodiaokfdaa", sum := "4824b380466dcf2cca7a53f776d22c9bdee17d4b91cae680ae439eee8f3267d8", func := "wigmaker/wigmakerlaw01.HairCuts", spec := "hairCuts", apart := false }
def HairCutsSaid : Prop := hairCutsRow.holds Try.pinned (OpenSpec.ofChange hairCutsSpec)

/-- ITS FALSE NEIGHBOUR: 'it returns false'. Refute it at one input. -/
def hairCutsWrong : ChangeSpec := { name := "hairCuts", fn := fun _ => fun
  | [d1, d2] => { results := [.lit (.bool false)], args := [d1, d2] }
  | _ => none }
def HairCutsWrongFalsely : Prop := hairCutsRow.holds Try.pinned (OpenSpec.ofChange hairCutsWrong)

/-- 'wigmakerlaw01.HairHackles': WHATEVER THE INPUT: true; the input reads as it did. -/
def hairHacklesSpec : ChangeSpec := { name := "hairHackles", fn := fun _ => fun
  | [d1, d2] => { results := [.lit (.bool true)], args := [d1, d2] }
  | _ => none }
def hairHacklesRow : OpenClaim := { program := "ytiopaodiaokfdaa", sum := "4824b380466dcf2cca7a53f776d22c9bdee17d4b91cae680ae439eee8f3267d8", func := "wigmaker/wigmakerlaw01.HairHackles", spec := "hairHackles", apart := false }
def HairHacklesSaid : Prop := hairHacklesRow.holds Try.pinned (OpenSpec.ofChange hairHacklesSpec)

/-- ITS FALSE NEIGHBOUR: 'it returns false'. Refute it at one input. -/
def hairHacklesWrong : ChangeSpec := { name := "hairHackles", fn := fun _ => fun
  | [d1, d2] => { results := [.lit (.bool false)], args := [d1, d2] }
  | _ => none }
def HairHacklesWrongFalsely : Prop := hairHacklesRow.holds Try.pinned (OpenSpec.ofChange hairHacklesWrong)

/-- 'wigmakerlaw01.HairDrawsLongest': WHATEVER THE INPUT: true; the input reads as it did. -/
def hairDrawsLongestSpec : ChangeSpec := { name := "hairDrawsLongest", fn := fun _ => fun
  | [d1, d2, d3] => { results := [.lit (.bool true)], args := [d1, d2, d3] }
  | _ => none }
def hairDrawsLongestRow : OpenClaim := { program := "ytiopaodiaokfdaa", sum := "4824b380466dcf2cca7a53f776d22c9bdee17d4b91cae680ae439eee8f3267d8", func := "wigmaker/wigmakerlaw01.HairDrawsLongest", spec := "hairDrawsLongest", apart := false }
def HairDrawsLongestSaid : Prop := hairDrawsLongestRow.holds Try.pinned (OpenSpec.ofChange hairDrawsLongestSpec)

/-- ITS FALSE NEIGHBOUR: 'it returns false'. Refute it at one input. -/
def hairDrawsLongestWrong : ChangeSpec := { name := "hairDrawsLongest", fn := fun _ => fun
  | [d1, d2, d3] => { results := [.lit (.bool false)], args := [d1, d2, d3] }
  | _ => none }
def HairDrawsLongestWrongFalsely : Prop := hairDrawsLongestRow.holds Try.pinned (OpenSpec.ofChange hairDrawsLongestWrong)

/-- 'wigmakerlaw01.HairHandfulsFall': WHATEVER THE INPUT: true; the input reads as it did. -/
def hairHandfulsFallSpec : ChangeSpec := { name := "hairHandfulsFall", fn := fun _ => fun
  | [d1, d2] => { results := [.lit (.bool true)], args := [d1, d2] }
  | _ => none }
def hairHandfulsFallRow : OpenClaim := { program := "ytiopaodiaokfdaa", sum := "4824b380466dcf2cca7a53f776d22c9bdee17d4b91cae680ae439eee8f3267d8", func := "wigmaker/wigmakerlaw01.HairHandfulsFall", spec := "hairHandfulsFall", unfollowed := true, recurses := true, apart := false }
def HairHandfulsFallSaid : Prop := hairHandfulsFallRow.holds Try.pinned (OpenSpec.ofChange hairHandfulsFallSpec)

/-- ITS FALSE NEIGHBOUR: 'it returns false'. Refute it at one input. -/
def hairHandfulsFallWrong : ChangeSpec := { name := "hairHandfulsFall", fn := fun _ => fun
  | [d1, d2] => { results := [.lit (.bool false)], args := [d1, d2] }
  | _ => none }
def HairHandfulsFallWrongFalsely : Prop := hairHandfulsFallRow.holds Try.pinned (OpenSpec.ofChange hairHandfulsFallWrong)

/-- 'wigmakertop.TopHairs': WHATEVER THE INPUT: true; the input reads as it did. -/
def topHairsSpec : ChangeSpec := { name := "topHairs", fn := fun _ => fun
  | [d1, d2, d3] => { results := [.lit (.bool true)], args := [d1, d2, d3] }
  | _ => none }
def topHairsRow : OpenClaim := { program := "ytiopaodiaokfdaa", sum := "4824b380466dcf2cca7a53f776d22c9bdee17d4b91cae680ae439eee8f3267d8", func := "wigmaker/wigmakertop.TopHairs", spec := "topHairs", apart := false }
def TopHairsSaid : Prop := topHairsRow.holds Try.pinned (OpenSpec.ofChange topHairsSpec)

/-- ITS FALSE NEIGHBOUR: 'it returns false'. Refute it at one input. -/
def topHairsWrong : ChangeSpec := { name := "topHairs", fn := fun _ => fun
  | [d1, d2, d3] => { results := [.lit (.bool false)], args := [d1, d2, d3] }
  | _ => none }
def TopHairsWrongFalsely : Prop := topHairsRow.holds Try.pinned (OpenSpec.ofChange topHairsWrong)

/- THE SECOND FORM. 'bulk': how many values and letters a reading holds, each counted each time it is reached (what is shared counts as often as it is met; a slice's spare places count too). A statement '..UptoSaid' is the law's where the arguments, and the package variables that the reading takes, are together of bulk at most 1048576: NARROWER than '..Said'. Prove '..Said' where nothing that the law and all that it calls make is longer than what came in: it says more and counts as full. Else prove '..UptoSaid'. A law counts once. -/
mutual
def uptoBulk {H : Type} : DataW H → Nat
  | .lit (.string bytes) => bytes.length + 1
  | .lit _ => 1
  | .nil => 1
  | .ptr d => uptoBulk d + 1
  | .slice elems spare => uptoBulkAll elems + uptoBulkAll spare + 1
  | .agg parts => uptoBulkAll parts + 1
  | .iface _ d => uptoBulk d + 1
  | .map entries => uptoBulkEntries entries + 1
  | .held _ => 1
def uptoBulkAll {H : Type} : List (DataW H) → Nat
  | [] => 0
  | d :: r => uptoBulk d + uptoBulkAll r
def uptoBulkEntries {H : Type} : List (Lit × DataW H) → Nat
  | [] => 0
  | x :: r => uptoBulkEntry x + uptoBulkEntries r
def uptoBulkEntry {H : Type} : Lit × DataW H → Nat
  | (.string bytes, d) => bytes.length + uptoBulk d + 1
  | (_, d) => uptoBulk d + 1
 end
def uptoSmall : (H : Type) → List (DataW H) → Bool := fun _ ds => decide (uptoBulkAll ds ≤ 1048576)
def OpenSpec.upto (s : _root_.Go.ChangeSpec) : _root_.Go.OpenSpec := { _root_.Go.OpenSpec.ofChange s with cond := some uptoSmall }

/-- 'wigmakerlaw01.HairCounts', WHERE WHAT IT READS IS OF BULK AT MOST 1048576: true; the input reads as it did. -/
def hairCountsUptoRow : OpenClaim := { program := "ytiopaodiaokfdaa", sum := "4824b380466dcf2cca7a53f776d22c9bdee17d4b91cae680ae439eee8f3267d8", func := "wigmaker/wigmakerlaw01.HairCounts", spec := "hairCounts", apart := false, narrowed := true }
def HairCountsUptoSaid : Prop := hairCountsUptoRow.holds Try.pinned (OpenSpec.upto hairCountsSpec)

/-- 'wigmakerlaw01.HairWeighs', WHERE WHAT IT READS IS OF BULK AT MOST 1048576: true; the input reads as it did. -/
def hairWeighsUptoRow : OpenClaim := { program := "ytiopaodiaokfdaa", sum := "4824b380466dcf2cca7a53f776d22c9bdee17d4b91cae680ae439eee8f3267d8", func := "wigmaker/wigmakerlaw01.HairWeighs", spec := "hairWeighs", apart := false, narrowed := true }
def HairWeighsUptoSaid : Prop := hairWeighsUptoRow.holds Try.pinned (OpenSpec.upto hairWeighsSpec)

/-- 'wigmakerlaw01.HairValidates', WHERE WHAT IT READS IS OF BULK AT MOST 1048576: true; the input reads as it did. -/
def hairValidatesUptoRow : OpenClaim := { program := "ytiopaodiaokfdaa", sum := "4824b380466dcf2cca7a53f776d22c9bdee17d4b91cae680ae439eee8f3267d8", func := "wigmaker/wigmakerlaw01.HairValidates", spec := "hairValidates", apart := false, narrowed := true }
def HairValidatesUptoSaid : Prop := hairValidatesUptoRow.holds Try.pinned (OpenSpec.upto hairValidatesSpec)

/-- 'wigmakerlaw01.HairShares', WHERE WHAT IT READS IS OF BULK AT MOST 1048576: true; the input reads as it did. -/
def hairSharesUptoRow : OpenClaim := { program := "ytiopaodiaokfdaa", sum := "4824b380466dcf2cca7a53f776d22c9bdee17d4b91cae680ae439eee8f3267d8", func := "wigmaker/wigmakerlaw01.HairShares", spec := "hairShares", unfollowed := true, recurses := true, apart := false, narrowed := true }
def HairSharesUptoSaid : Prop := hairSharesUptoRow.holds Try.pinned (OpenSpec.upto hairSharesSpec)

/-- 'wigmakerlaw01.HairMixes', WHERE WHAT IT READS IS OF BULK AT MOST 1048576: true; the input reads as it did. -/
def hairMixesUptoRow : OpenClaim := { program := "ytiopaodiaokfdaa", sum := "4824b380466dcf2cca7a53f776d22c9bdee17d4b91cae680ae439eee8f3267d8", func := "wigmaker/wigmakerlaw01.HairMixes", spec := "hairMixes", apart := false, narrowed := true }
def HairMixesUptoSaid : Prop := hairMixesUptoRow.holds Try.pinned (OpenSpec.upto hairMixesSpec)

/-- 'wigmakerlaw01.HairSnaps', WHERE WHAT IT READS IS OF BULK AT MOST 1048576: true; the input reads as it did. -/
def hairSnapsUptoRow : OpenClaim := { program := "ytiopaodiaokfdaa", sum := "4824b380466dcf2cca7a53f776d22c9bdee17d4b91cae680ae439eee8f3267d8", func := "wigmaker/wigmakerlaw01.HairSnaps", spec := "hairSnaps", apart := false, narrowed := true }
def HairSnapsUptoSaid : Prop := hairSnapsUptoRow.holds Try.pinned (OpenSpec.upto hairSnapsSpec)

/-- 'wigmakerlaw01.HairCompares', WHERE WHAT IT READS IS OF BULK AT MOST 1048576: true; the input reads as it did. -/
def hairComparesUptoRow : OpenClaim := { program := "ytiopaodiaokfdaa", sum := "4824b380466dcf2cca7a53f776d22c9bdee17d4b91cae680ae439eee8f3267d8", func := "wigmaker/wigmakerlaw01.HairCompares", spec := "hairCompares", unfollowed := true, recurses := true, apart := false, narrowed := true }
def HairComparesUptoSaid : Prop := hairComparesUptoRow.holds Try.pinned (OpenSpec.upto hairComparesSpec)

/-- 'wigmakerlaw01.HairDraws', WHERE WHAT IT READS IS OF BULK AT MOST 1048576: true; the input reads as it did. -/
def hairDrawsUptoRow : OpenClaim := { program := "ytiopaodiaokfdaa", sum := "4824b380466dcf2cca7a53f776d22c9bdee17d4b91cae680ae439eee8f3267d8", func := "wigmaker/wigmakerlaw01.HairDraws", spec := "hairDraws", apart := false, narrowed := true }
def HairDrawsUptoSaid : Prop := hairDrawsUptoRow.holds Try.pinned (OpenSpec.upto hairDrawsSpec)

/-- 'wigmakerlaw01.HairHandfuls', WHERE WHAT IT READS IS OF BULK AT MOST 1048576: true; the input reads as it did. -/
def hairHandfulsUptoRow : OpenClaim := { program := "ytiopaodiaokfdaa", sum := "4824b380466dcf2cca7a53f776d22c9bdee17d4b91cae680ae439eee8f3267d8", func := "wigmaker/wigmakerlaw01.HairHandfuls", spec := "hairHandfuls", apart := false, narrowed := true }
def HairHandfulsUptoSaid : Prop := hairHandfulsUptoRow.holds Try.pinned (OpenSpec.upto hairHandfulsSpec)

/-- 'wigmakerlaw01.HairCuts', WHERE WHAT IT READS IS OF BULK AT MOST 1048576: true; the input reads as it did. -/
def hairCutsUptoRow : OpenClaim := { program := "ytiopaodiaokfdaa", sum := "4824b380466dcf2cca7a53f776d22c9bdee17d4b91cae680ae439eee8f3267d8", func := "wigmaker/wigmakerlaw01.HairCuts", spec := "hairCuts", apart := false, narrowed := true }
def HairCutsUptoSaid : Prop := hairCutsUptoRow.holds Try.pinned (OpenSpec.upto hairCutsSpec)

/-- 'wigmakerlaw01.HairHackles', WHERE WHAT IT READS IS OF BULK AT MOST 1048576: true; the input reads as it did. -/
def hairHacklesUptoRow : OpenClaim := { program := "ytiopaodiaokfdaa", sum := "4824b380466dcf2cca7a53f776d22c9bdee17d4b91cae680ae439eee8f3267d8", func := "wigmaker/wigmakerlaw01.HairHackles", spec := "hairHackles", apart := false, narrowed := true }
def HairHacklesUptoSaid : Prop := hairHacklesUptoRow.holds Try.pinned (OpenSpec.upto hairHacklesSpec)

/-- 'wigmakerlaw01.HairDrawsLongest', WHERE WHAT IT READS IS OF BULK AT MOST 1048576: true; the input reads as it did. -/
def hairDrawsLongestUptoRow : OpenClaim := { program := "ytiopaodiaokfdaa", sum := "4824b380466dcf2cca7a53f776d22c9bdee17d4b91cae680ae439eee8f3267d8", func := "wigmaker/wigmakerlaw01.HairDrawsLongest", spec := "hairDrawsLongest", apart := false, narrowed := true }
def HairDrawsLongestUptoSaid : Prop := hairDrawsLongestUptoRow.holds Try.pinned (OpenSpec.upto hairDrawsLongestSpec)

/-- 'wigmakerlaw01.HairHandfulsFall', WHERE WHAT IT READS IS OF BULK AT MOST 1048576: true; the input reads as it did. -/
def hairHandfulsFallUptoRow : OpenClaim := { program := "ytiopaodiaokfdaa", sum := "4824b380466dcf2cca7a53f776d22c9bdee17d4b91cae680ae439eee8f3267d8", func := "wigmaker/wigmakerlaw01.HairHandfulsFall", spec := "hairHandfulsFall", unfollowed := true, recurses := true, apart := false, narrowed := true }
def HairHandfulsFallUptoSaid : Prop := hairHandfulsFallUptoRow.holds Try.pinned (OpenSpec.upto hairHandfulsFallSpec)

/-- 'wigmakertop.TopHairs', WHERE WHAT IT READS IS OF BULK AT MOST 1048576: true; the input reads as it did. -/
def topHairsUptoRow : OpenClaim := { program := "ytiopaodiaokfdaa", sum := "4824b380466dcf2cca7a53f776d22c9bdee17d4b91cae680ae439eee8f3267d8", func := "wigmaker/wigmakertop.TopHairs", spec := "topHairs", apart := false, narrowed := true }
def TopHairsUptoSaid : Prop := topHairsUptoRow.holds Try.pinned (OpenSpec.upto topHairsSpec)

end Rows
end Go.Proofs.Ytiopaodiaokfdaa
