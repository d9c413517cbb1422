/-
  No cell of these rows narrows 'for every input' (looked for: loops, veiled, ifaces, maps, wideKeys, modest, calm, conditions, laid).
  DERIVED. THE GIVEN ROWS OF THIS SEAT. 16 by the template 'for every input the law returns true; each argument reads behind the call as it read before'; 0 by the template 'total and deterministic' (their statements: YtlijcnocahplbaaTotals.lean).
  GIVEN WITH THE SEED: the statements are not yours to turn. If you find one false, say at which input.
  Laid BY PROGRAM, IN A SANDBOX (cutbox-rows.mjs): the forced cells as the released guide's own fill.sh prints them over the translation a7a22251e1bc0fc3… (all of the seat's roots in one cut). By AI agents, Wed Nov 11 2026. No macro, syntax, notation, axiom, sorry.
-/
import Derived.Test.YtlijcnocahplbaaChecked
import GoSem.Claim
import GoSem.ClaimJoined
import GoSem.ClaimMapViews
import Derived.JoinedTies
import Derived.KernelRfl
namespace Go.Proofs.Ytlijcnocahplbaa
/- THE CELL 'sum', in the pinned program and in every row, IS THE sha256 OF THE DUMP (.gsa) THAT YtlijcnocahplbaaProg.lean LOADS. Nothing in Lean hashes anything: it is a label: what it is worth is what the hold of that sum in a sandbox is worth. -/
noncomputable def Try.pinned : Pinned := { name := "ytlijcnocahplbaa", sum := "a7a22251e1bc0fc39a465f31379545c650a0e106c5ad61fe22084bade784bf54", checked := Try.checked }
namespace Rows
def none {H : Type} : Left H := { results := [], args := [] }

/-- 'wigmakerlaw04.KnotRows': WHATEVER THE INPUT: true; the input reads as it did. -/
def knotRowsSpec : ChangeSpec := { name := "knotRows", fn := fun _ => fun
  | [d] => { results := [.lit (.bool true)], args := [d] }
  | _ => none }
def knotRowsRow : OpenClaim := { program := "ytlijcnocahplbaa", sum := "a7a22251e1bc0fc39a465f31379545c650a0e106c5ad61fe22084bade784bf54", func := "wigmaker/wigmakerlaw04.KnotRows", spec := "knotRows", apart := false }
def KnotRowsSaid : Prop := knotRowsRow.holds Try.pinned (OpenSpec.ofChange knotRowsSpec)

/-- ITS FALSE NEIGHBOUR: 'it returns false'. Refute it at one input. -/
def knotRowsWrong : ChangeSpec := { name := "knotRows", fn := fun _ => fun
  | [d] => { results := [.lit (.bool false)], args := [d] }
  | _ => none }
def KnotRowsWrongFalsely : Prop := knotRowsRow.holds Try.pinned (OpenSpec.ofChange knotRowsWrong)

/-- 'wigmakerlaw04.KnotIsSpread': WHATEVER THE INPUT: true; the input reads as it did. -/
def knotIsSpreadSpec : ChangeSpec := { name := "knotIsSpread", fn := fun _ => fun
  | [d1, d2] => { results := [.lit (.bool true)], args := [d1, d2] }
  | _ => none }
def knotIsSpreadRow : OpenClaim := { program := "ytlijcnocahplbaa", sum := "a7a22251e1bc0fc39a465f31379545c650a0e106c5ad61fe22084bade784bf54", func := "wigmaker/wigmakerlaw04.KnotIsSpread", spec := "knotIsSpread", apart := false }
def KnotIsSpreadSaid : Prop := knotIsSpreadRow.holds Try.pinned (OpenSpec.ofChange knotIsSpreadSpec)

/-- ITS FALSE NEIGHBOUR: 'it returns false'. Refute it at one input. -/
def knotIsSpreadWrong : ChangeSpec := { name := "knotIsSpread", fn := fun _ => fun
  | [d1, d2] => { results := [.lit (.bool false)], args := [d1, d2] }
  | _ => none }
def KnotIsSpreadWrongFalsely : Prop := knotIsSpreadRow.holds Try.pinned (OpenSpec.ofChange knotIsSpreadWrong)

/-- 'wigmakerlaw04.KnotDensities': WHATEVER THE INPUT: true; the input reads as it did. -/
def knotDensitiesSpec : ChangeSpec := { name := "knotDensities", fn := fun _ => fun
  | [d] => { results := [.lit (.bool true)], args := [d] }
  | _ => none }
def knotDensitiesRow : OpenClaim := { program := "ytlijcnocahplbaa", sum := "a7a22251e1bc0fc39a465f31379545c650a0e106c5ad61fe22084bade784bf54", func := "wigmaker/wigmakerlaw04.KnotDensities", spec := "knotDensities", apart := false }
def KnotDensitiesSaid : Prop := knotDensitiesRow.holds Try.pinned (OpenSpec.ofChange knotDensitiesSpec)

/-- ITS FALSE NEIGHBOUR: 'it returns false'. Refute it at one input. -/
def knotDensitiesWrong : ChangeSpec := { name := "knotDensities", fn := fun _ => fun
  | [d] => { results := [.lit (.bool false)], args := [d] }
  | _ => none }
def KnotDensitiesWrongFalsely : Prop := knotDensitiesRow.holds Try.pinned (OpenSpec.ofChange knotDensitiesWrong)

/-- 'wigmakerlaw04.KnotStretches': WHATEVER THE INPUT: true; the input reads as it did. -/
def knotStretchesSpec : ChangeSpec := { name := "knotStretches", fn := fun _ => fun
  | [d] => { results := [.lit (.bool true)], args := [d] }
  | _ => none }
def knotStretchesRow : OpenClaim := { program := "ytlijcnocahplbaa", sum := "a7a22251e1bc0fc39a465f31379545c650a0e106c5ad61fe22084bade784bf54", func := "wigmaker/wigmakerlaw04.KnotStretches", spec := "knotStretches", apart := false }
def KnotStretchesSaid : Prop := knotStretchesRow.holds Try.pinned (OpenSpec.ofChange knotStretchesSpec)

/-- ITS FALSE NEIGHBOUR: 'it returns false'. Refute it at one input. -/
def knotStretchesWrong : ChangeSpec := { name := "knotStretches", fn := fun _ => fun
  | [d] => { results := [.lit (.bool false)], args := [d] }
  | _ => none }
def KnotStretchesWrongFalsely : Prop := knotStretchesRow.holds Try.pinned (OpenSpec.ofChange knotStretchesWrong)

/-- 'wigmakerlaw04.KnotJoins': WHATEVER THE INPUT: true; the input reads as it did. -/
def knotJoinsSpec : ChangeSpec := { name := "knotJoins", fn := fun _ => fun
  | [d1, d2] => { results := [.lit (.bool true)], args := [d1, d2] }
  | _ => none }
def knotJoinsRow : OpenClaim := { program := "ytlijcnocahplbaa", sum := "a7a22251e1bc0fc39a465f31379545c650a0e106c5ad61fe22084bade784bf54", func := "wigmaker/wigmakerlaw04.KnotJoins", spec := "knotJoins", apart := false }
def KnotJoinsSaid : Prop := knotJoinsRow.holds Try.pinned (OpenSpec.ofChange knotJoinsSpec)

/-- ITS FALSE NEIGHBOUR: 'it returns false'. Refute it at one input. -/
def knotJoinsWrong : ChangeSpec := { name := "knotJoins", fn := fun _ => fun
  | [d1, d2] => { results := [.lit (.bool false)], args := [d1, d2] }
  | _ => none }
def KnotJoinsWrongFalsely : Prop := knotJoinsRow.holds Try.pinned (OpenSpec.ofChange knotJoinsWrong)

/-- 'wigmakerlaw04.KnotRuns': WHATEVER THE INPUT: true; the input reads as it did. -/
def knotRunsSpec : ChangeSpec := { name := "knotRuns", fn := fun _ => fun
  | [d] => { results := [.lit (.bool true)], args := [d] }
  | _ => none }
def knotRunsRow : OpenClaim := { program := "ytlijcnocahplbaa", sum := "a7a22251e1bc0fc39a465f31379545c650a0e106c5ad61fe22084bade784bf54", func := "wigmaker/wigmakerlaw04.KnotRuns", spec := "knotRuns", apart := false }
def KnotRunsSaid : Prop := knotRunsRow.holds Try.pinned (OpenSpec.ofChange knotRunsSpec)

/-- ITS FALSE NEIGHBOUR: 'it returns false'. Refute it at one input. -/
def knotRunsWrong : ChangeSpec := { name := "knotRuns", fn := fun _ => fun
  | [d] => { results := [.lit (.bool false)], args := [d] }
  | _ => none }
def KnotRunsWrongFalsely : Prop := knotRunsRow.holds Try.pinned (OpenSpec.ofChange knotRunsWrong)

/-- 'wigmakerlaw04.KnotFades': WHATEVER THE INPUT: true; the input reads as it did. -/
def knotFadesSpec : ChangeSpec := { name := "knotFades", fn := fun _ => fun
  | [d1, d2, d3] => { results := [.lit (.bool true)], args := [d1, d2, d3] }
  | _ => none }
def knotFadesRow : OpenClaim := { program := "ytlijcnocahplbaa", sum := "a7a22251e1bc0fc39a465f31379545c650a0e106c5ad61fe22084bade784bf54", func := "wigmaker/wigmakerlaw04.KnotFades", spec := "knotFades", apart := false }
def KnotFadesSaid : Prop := knotFadesRow.holds Try.pinned (OpenSpec.ofChange knotFadesSpec)

/-- ITS FALSE NEIGHBOUR: 'it returns false'. Refute it at one input. -/
def knotFadesWrong : ChangeSpec := { name := "knotFades", fn := fun _ => fun
  | [d1, d2, d3] => { results := [.lit (.bool false)], args := [d1, d2, d3] }
  | _ => none }
def KnotFadesWrongFalsely : Prop := knotFadesRow.holds Try.pinned (OpenSpec.ofChange knotFadesWrong)

/-- 'wigmakerlaw04.KnotSpreads': WHATEVER THE INPUT: true; the input reads as it did. -/
def knotSpreadsSpec : ChangeSpec := { name := "knotSpreads", fn := fun _ => fun
  | [d1, d2] => { results := [.lit (.bool true)], args := [d1, d2] }
  | _ => none }
def knotSpreadsRow : OpenClaim := { program := "ytlijcnocahplbaa", sum := "a7a22251e1bc0fc39a465f31379545c650a0e106c5ad61fe22084bade784bf54", func := "wigmaker/wigmakerlaw04.KnotSpreads", spec := "knotSpreads", apart := false }
def KnotSpreadsSaid : Prop := knotSpreadsRow.holds Try.pinned (OpenSpec.ofChange knotSpreadsSpec)

/-- ITS FALSE NEIGHBOUR: 'it returns false'. Refute it at one input. -/
def knotSpreadsWrong : ChangeSpec := { name := "knotSpreads", fn := fun _ => fun
  | [d1, d2] => { results := [.lit (.bool false)], args := [d1, d2] }
  | _ => none }
def KnotSpreadsWrongFalsely : Prop := knotSpreadsRow.holds Try.pinned (OpenSpec.ofChange knotSpreadsWrong)

/-- 'wigmakerlaw04.KnotQuotas': WHATEVER THE INPUT: true; the input reads as it did. -/
def knotQuotasSpec : ChangeSpec := { name := "knotQuotas", fn := fun _ => fun
  | [d1, d2] => { results := [.lit (.bool true)], args := [d1, d2] }
  | _ => none }
def knotQuotasRow : OpenClaim := { program := "ytlijcnocahplbaa", sum := "a7a22251e1bc0fc39a465f31379545c650a0e106c5ad61fe22084bade784bf54", func := "wigmaker/wigmakerlaw04.KnotQuotas", spec := "knotQuotas", apart := false }
def KnotQuotasSaid : Prop := knotQuotasRow.holds Try.pinned (OpenSpec.ofChange knotQuotasSpec)

/-- ITS FALSE NEIGHBOUR: 'it returns false'. Refute it at one input. -/
def knotQuotasWrong : ChangeSpec := { name := "knotQuotas", fn := fun _ => fun
  | [d1, d2] => { results := [.lit (.bool false)], args := [d1, d2] }
  | _ => none }
def KnotQuotasWrongFalsely : Prop := knotQuotasRow.holds Try.pinned (OpenSpec.ofChange knotQuotasWrong)

/-- 'wigmakerlaw04.KnotZones': WHATEVER THE INPUT: true; the input reads as it did. -/
def knotZonesSpec : ChangeSpec := { name := "knotZones", fn := fun _ => fun
  | [d] => { results := [.lit (.bool true)], args := [d] }
  | _ => none }
def knotZonesRow : OpenClaim := { program := "ytlijcnocahplbaa", sum := "a7a22251e1bc0fc39a465f31379545c650a0e106c5ad61fe22084bade784bf54", func := "wigmaker/wigmakerlaw04.KnotZones", spec := "knotZones", apart := false }
def KnotZonesSaid : Prop := knotZonesRow.holds Try.pinned (OpenSpec.ofChange knotZonesSpec)

/-- ITS FALSE NEIGHBOUR: 'it returns false'. Refute it at one input. -/
def knotZonesWrong : ChangeSpec := { name := "knotZones", fn := fun _ => fun
  | [d] => { results := [.lit (.bool false)], args := [d] }
  | _ => none }
def KnotZonesWrongFalsely : Prop := knotZonesRow.holds Try.pinned (OpenSpec.ofChange knotZonesWrong)

/-- 'wigmakerlaw04.KnotDensest': WHATEVER THE INPUT: true; the input reads as it did. -/
def knotDensestSpec : ChangeSpec := { name := "knotDensest", fn := fun _ => fun
  | [d1, d2] => { results := [.lit (.bool true)], args := [d1, d2] }
  | _ => none }
def knotDensestRow : OpenClaim := { program := "ytlijcnocahplbaa", sum := "a7a22251e1bc0fc39a465f31379545c650a0e106c5ad61fe22084bade784bf54", func := "wigmaker/wigmakerlaw04.KnotDensest", spec := "knotDensest", apart := false }
def KnotDensestSaid : Prop := knotDensestRow.holds Try.pinned (OpenSpec.ofChange knotDensestSpec)

/-- ITS FALSE NEIGHBOUR: 'it returns false'. Refute it at one input. -/
def knotDensestWrong : ChangeSpec := { name := "knotDensest", fn := fun _ => fun
  | [d1, d2] => { results := [.lit (.bool false)], args := [d1, d2] }
  | _ => none }
def KnotDensestWrongFalsely : Prop := knotDensestRow.holds Try.pinned (OpenSpec.ofChange knotDensestWrong)

/-- 'wigmakerlaw04.KnotBalances': WHATEVER THE INPUT: true; the input reads as it did. -/
def knotBalancesSpec : ChangeSpec := { name := "knotBalances", fn := fun _ => fun
  | [d] => { results := [.lit (.bool true)], args := [d] }
  | _ => none }
def knotBalancesRow : OpenClaim := { program := "ytlijcnocahplbaa", sum := "a7a22251e1bc0fc39a465f31379545c650a0e106c5ad61fe22084bade784bf54", func := "wigmaker/wigmakerlaw04.KnotBalances", spec := "knotBalances", apart := false }
def KnotBalancesSaid : Prop := knotBalancesRow.holds Try.pinned (OpenSpec.ofChange knotBalancesSpec)

/-- ITS FALSE NEIGHBOUR: 'it returns false'. Refute it at one input. -/
def knotBalancesWrong : ChangeSpec := { name := "knotBalances", fn := fun _ => fun
  | [d] => { results := [.lit (.bool false)], args := [d] }
  | _ => none }
def KnotBalancesWrongFalsely : Prop := knotBalancesRow.holds Try.pinned (OpenSpec.ofChange knotBalancesWrong)

/-- 'wigmakerlaw04.KnotBalanced': WHATEVER THE INPUT: true; the input reads as it did. -/
def knotBalancedSpec : ChangeSpec := { name := "knotBalanced", fn := fun _ => fun
  | [d] => { results := [.lit (.bool true)], args := [d] }
  | _ => none }
def knotBalancedRow : OpenClaim := { program := "ytlijcnocahplbaa", sum := "a7a22251e1bc0fc39a465f31379545c650a0e106c5ad61fe22084bade784bf54", func := "wigmaker/wigmakerlaw04.KnotBalanced", spec := "knotBalanced", apart := false }
def KnotBalancedSaid : Prop := knotBalancedRow.holds Try.pinned (OpenSpec.ofChange knotBalancedSpec)

/-- ITS FALSE NEIGHBOUR: 'it returns false'. Refute it at one input. -/
def knotBalancedWrong : ChangeSpec := { name := "knotBalanced", fn := fun _ => fun
  | [d] => { results := [.lit (.bool false)], args := [d] }
  | _ => none }
def KnotBalancedWrongFalsely : Prop := knotBalancedRow.holds Try.pinned (OpenSpec.ofChange knotBalancedWrong)

/-- 'wigmakerlaw04.KnotWorks': WHATEVER THE INPUT: true; the input reads as it did. -/
def knotWorksSpec : ChangeSpec := { name := "knotWorks", fn := fun _ => fun
  | [d1, d2, d3] => { results := [.lit (.bool true)], args := [d1, d2, d3] }
  | _ => none }
def knotWorksRow : OpenClaim := { program := "ytlijcnocahplbaa", sum := "a7a22251e1bc0fc39a465f31379545c650a0e106c5ad61fe22084bade784bf54", func := "wigmaker/wigmakerlaw04.KnotWorks", spec := "knotWorks", apart := false }
def KnotWorksSaid : Prop := knotWorksRow.holds Try.pinned (OpenSpec.ofChange knotWorksSpec)

/-- ITS FALSE NEIGHBOUR: 'it returns false'. Refute it at one input. -/
def knotWorksWrong : ChangeSpec := { name := "knotWorks", fn := fun _ => fun
  | [d1, d2, d3] => { results := [.lit (.bool false)], args := [d1, d2, d3] }
  | _ => none }
def KnotWorksWrongFalsely : Prop := knotWorksRow.holds Try.pinned (OpenSpec.ofChange knotWorksWrong)

/-- 'wigmakerlaw04.KnotSupplies': WHATEVER THE INPUT: true; the input reads as it did. -/
def knotSuppliesSpec : ChangeSpec := { name := "knotSupplies", fn := fun _ => fun
  | [d1, d2, d3] => { results := [.lit (.bool true)], args := [d1, d2, d3] }
  | _ => none }
def knotSuppliesRow : OpenClaim := { program := "ytlijcnocahplbaa", sum := "a7a22251e1bc0fc39a465f31379545c650a0e106c5ad61fe22084bade784bf54", func := "wigmaker/wigmakerlaw04.KnotSupplies", spec := "knotSupplies", apart := false }
def KnotSuppliesSaid : Prop := knotSuppliesRow.holds Try.pinned (OpenSpec.ofChange knotSuppliesSpec)

/-- ITS FALSE NEIGHBOUR: 'it returns false'. Refute it at one input. -/
def knotSuppliesWrong : ChangeSpec := { name := "knotSupplies", fn := fun _ => fun
  | [d1, d2, d3] => { results := [.lit (.bool false)], args := [d1, d2, d3] }
  | _ => none }
def KnotSuppliesWrongFalsely : Prop := knotSuppliesRow.holds Try.pinned (OpenSpec.ofChange knotSuppliesWrong)

/-- 'wigmakertop.TopEven': WHATEVER THE INPUT: true; the input reads as it did. -/
def topEvenSpec : ChangeSpec := { name := "topEven", fn := fun _ => fun
  | [d1, d2, d3] => { results := [.lit (.bool true)], args := [d1, d2, d3] }
  | _ => none }
def topEvenRow : OpenClaim := { program := "ytlijcnocahplbaa", sum := "a7a22251e1bc0fc39a465f31379545c650a0e106c5ad61fe22084bade784bf54", func := "wigmaker/wigmakertop.TopEven", spec := "topEven", apart := false }
def TopEvenSaid : Prop := topEvenRow.holds Try.pinned (OpenSpec.ofChange topEvenSpec)

/-- ITS FALSE NEIGHBOUR: 'it returns false'. Refute it at one input. -/
def topEvenWrong : ChangeSpec := { name := "topEven", fn := fun _ => fun
  | [d1, d2, d3] => { results := [.lit (.bool false)], args := [d1, d2, d3] }
  | _ => none }
def TopEvenWrongFalsely : Prop := topEvenRow.holds Try.pinned (OpenSpec.ofChange topEvenWrong)

/- THE SECOND FORM. 'bulk': how many values and letters a reading holds, each counted each time it is reached (what is shared counts as often as it is met; a slice's spare places count too). A statement '..UptoSaid' is the law's where the arguments, and the package variables that the reading takes, are together of bulk at most 1048576: NARROWER than '..Said'. Prove '..Said' where nothing that the law and all that it calls make is longer than what came in: it says more and counts as full. Else prove '..UptoSaid'. A law counts once. -/
mutual
def uptoBulk {H : Type} : DataW H → Nat
  | .lit (.string bytes) => bytes.length + 1
  | .lit _ => 1
  | .nil => 1
  | .ptr d => uptoBulk d + 1
  | .slice elems spare => uptoBulkAll elems + uptoBulkAll spare + 1
  | .agg parts => uptoBulkAll parts + 1
  | .iface _ d => uptoBulk d + 1
  | .map entries => uptoBulkEntries entries + 1
  | .held _ => 1
def uptoBulkAll {H : Type} : List (DataW H) → Nat
  | [] => 0
  | d :: r => uptoBulk d + uptoBulkAll r
def uptoBulkEntries {H : Type} : List (Lit × DataW H) → Nat
  | [] => 0
  | x :: r => uptoBulkEntry x + uptoBulkEntries r
def uptoBulkEntry {H : Type} : Lit × DataW H → Nat
  | (.string bytes, d) => bytes.length + uptoBulk d + 1
  | (_, d) => uptoBulk d + 1
 end
def uptoSmall : (H : Type) → List (DataW H) → Bool := fun _ ds => decide (uptoBulkAll ds ≤ 1048576)
def OpenSpec.upto (s : _root_.Go.ChangeSpec) : _root_.Go.OpenSpec := { _root_.Go.OpenSpec.ofChange s with cond := some uptoSmall }

/-- 'wigmakerlaw04.KnotRows', WHERE WHAT IT READS IS OF BULK AT MOST 1048576: true; the input reads as it did. -/
def knotRowsUptoRow : OpenClaim := { program := "ytlijcnocahplbaa", sum := "a7a22251e1bc0fc39a465f31379545c650a0e106c5ad61fe22084bade784bf54", func := "wigmaker/wigmakerlaw04.KnotRows", spec := "knotRows", apart := false, narrowed := true }
def KnotRowsUptoSaid : Prop := knotRowsUptoRow.holds Try.pinned (OpenSpec.upto knotRowsSpec)

/-- 'wigmakerlaw04.KnotIsSpread', WHERE WHAT IT READS IS OF BULK AT MOST 1048576: true; the input reads as it did. -/
def knotIsSpreadUptoRow : OpenClaim := { program := "ytlijcnocahplbaa", sum := "a7a22251e1bc0fc39a465f31379545c650a0e106c5ad61fe22084bade784bf54", func := "wigmaker/wigmakerlaw04.KnotIsSpread", spec := "knotIsSpread", apart := false, narrowed := true }
def KnotIsSpreadUptoSaid : Prop := knotIsSpreadUptoRow.holds Try.pinned (OpenSpec.upto knotIsSpreadSpec)

/-- 'wigmakerlaw04.KnotDensities', WHERE WHAT IT READS IS OF BULK AT MOST 1048576: true; the input reads as it did. -/
def knotDensitiesUptoRow : OpenClaim := { program := "ytlijcnocahplbaa", sum := "a7a22251e1bc0fc39a465f31379545c650a0e106c5ad61fe22084bade784bf54", func := "wigmaker/wigmakerlaw04.KnotDensities", spec := "knotDensities", apart := false, narrowed := true }
def KnotDensitiesUptoSaid : Prop := knotDensitiesUptoRow.holds Try.pinned (OpenSpec.upto knotDensitiesSpec)

/-- 'wigmakerlaw04.KnotStretches', WHERE WHAT IT READS IS OF BULK AT MOST 1048576: true; the input reads as it did. -/
def knotStretchesUptoRow : OpenClaim := { program := "ytlijcnocahplbaa", sum := "a7a22251e1bc0fc39a465f31379545c650a0e106c5ad61fe22084bade784bf54", func := "wigmaker/wigmakerlaw04.KnotStretches", spec := "knotStretches", apart := false, narrowed := true }
def KnotStretchesUptoSaid : Prop := knotStretchesUptoRow.holds Try.pinned (OpenSpec.upto knotStretchesSpec)

/-- 'wigmakerlaw04.KnotJoins', WHERE WHAT IT READS IS OF BULK AT MOST 1048576: true; the input reads as it did. -/
def knotJoinsUptoRow : OpenClaim := { program := "ytlijcnocahplbaa", sum := "a7a22251e1bc0fc39a465f31379545c650a0e106c5ad61fe22084bade784bf54", func := "wigmaker/wigmakerlaw04.KnotJoins", spec := "knotJoins", apart := false, narrowed := true }
def KnotJoinsUptoSaid : Prop := knotJoinsUptoRow.holds Try.pinned (OpenSpec.upto knotJoinsSpec)

/-- 'wigmakerlaw04.KnotRuns', WHERE WHAT IT READS IS OF BULK AT MOST 1048576: true; the input reads as it did. -/
def knotRunsUptoRow : OpenClaim := { program := "ytlijcnocahplbaa", sum := "a7a22251e1bc0fc39a465f31379545c650a0e106c5ad61fe22084bade784bf54", func := "wigmaker/wigmakerlaw04.KnotRuns", spec := "knotRuns", apart := false, narrowed := true }
def KnotRunsUptoSaid : Prop := knotRunsUptoRow.holds Try.pinned (OpenSpec.upto knotRunsSpec)

/-- 'wigmakerlaw04.KnotFades', WHERE WHAT IT READS IS OF BULK AT MOST 1048576: true; the input reads as it did. -/
def knotFadesUptoRow : OpenClaim := { program := "ytlijcnocahplbaa", sum := "a7a22251e1bc0fc39a465f31379545c650a0e106c5ad61fe22084bade784bf54", func := "wigmaker/wigmakerlaw04.KnotFades", spec := "knotFades", apart := false, narrowed := true }
def KnotFadesUptoSaid : Prop := knotFadesUptoRow.holds Try.pinned (OpenSpec.upto knotFadesSpec)

/-- 'wigmakerlaw04.KnotSpreads', WHERE WHAT IT READS IS OF BULK AT MOST 1048576: true; the input reads as it did. -/
def knotSpreadsUptoRow : OpenClaim := { program := "ytlijcnocahplbaa", sum := "a7a22251e1bc0fc39a465f31379545c650a0e106c5ad61fe22084bade784bf54", func := "wigmaker/wigmakerlaw04.KnotSpreads", spec := "knotSpreads", apart := false, narrowed := true }
def KnotSpreadsUptoSaid : Prop := knotSpreadsUptoRow.holds Try.pinned (OpenSpec.upto knotSpreadsSpec)

/-- 'wigmakerlaw04.KnotQuotas', WHERE WHAT IT READS IS OF BULK AT MOST 1048576: true; the input reads as it did. -/
def knotQuotasUptoRow : OpenClaim := { program := "ytlijcnocahplbaa", sum := "a7a22251e1bc0fc39a465f31379545c650a0e106c5ad61fe22084bade784bf54", func := "wigmaker/wigmakerlaw04.KnotQuotas", spec := "knotQuotas", apart := false, narrowed := true }
def KnotQuotasUptoSaid : Prop := knotQuotasUptoRow.holds Try.pinned (OpenSpec.upto knotQuotasSpec)

/-- 'wigmakerlaw04.KnotZones', WHERE WHAT IT READS IS OF BULK AT MOST 1048576: true; the input reads as it did. -/
def knotZonesUptoRow : OpenClaim := { program := "ytlijcnocahplbaa", sum := "a7a22251e1bc0fc39a465f31379545c650a0e106c5ad61fe22084bade784bf54", func := "wigmaker/wigmakerlaw04.KnotZones", spec := "knotZones", apart := false, narrowed := true }
def KnotZonesUptoSaid : Prop := knotZonesUptoRow.holds Try.pinned (OpenSpec.upto knotZonesSpec)

/-- 'wigmakerlaw04.KnotDensest', WHERE WHAT IT READS IS OF BULK AT MOST 1048576: true; the input reads as it did. -/
def knotDensestUptoRow : OpenClaim := { program := "ytlijcnocahplbaa", sum := "a7a22251e1bc0fc39a465f31379545c650a0e106c5ad61fe22084bade784bf54", func := "wigmaker/wigmakerlaw04.KnotDensest", spec := "knotDensest", apart := false, narrowed := true }
def KnotDensestUptoSaid : Prop := knotDensestUptoRow.holds Try.pinned (OpenSpec.upto knotDensestSpec)

/-- 'wigmakerlaw04.KnotBalances', WHERE WHAT IT READS IS OF BULK AT MOST 1048576: true; the input reads as it did. -/
def knotBalancesUptoRow : OpenClaim := { program := "ytlijcnocahplbaa", sum := "a7a22251e1bc0fc39a465f31379545c650a0e106c5ad61fe22084bade784bf54", func := "wigmaker/wigmakerlaw04.KnotBalances", spec := "knotBalances", apart := false, narrowed := true }
def KnotBalancesUptoSaid : Prop := knotBalancesUptoRow.holds Try.pinned (OpenSpec.upto knotBalancesSpec)

/-- 'wigmakerlaw04.KnotBalanced', WHERE WHAT IT READS IS OF BULK AT MOST 1048576: true; the input reads as it did. -/
def knotBalancedUptoRow : OpenClaim := { program := "ytlijcnocahplbaa", sum := "a7a22251e1bc0fc39a465f31379545c650a0e106c5ad61fe22084bade784bf54", func := "wigmaker/wigmakerlaw04.KnotBalanced", spec := "knotBalanced", apart := false, narrowed := true }
def KnotBalancedUptoSaid : Prop := knotBalancedUptoRow.holds Try.pinned (OpenSpec.upto knotBalancedSpec)

/-- 'wigmakerlaw04.KnotWorks', WHERE WHAT IT READS IS OF BULK AT MOST 1048576: true; the input reads as it did. -/
def knotWorksUptoRow : OpenClaim := { program := "ytlijcnocahplbaa", sum := "a7a22251e1bc0fc39a465f31379545c650a0e106c5ad61fe22084bade784bf54", func := "wigmaker/wigmakerlaw04.KnotWorks", spec := "knotWorks", apart := false, narrowed := true }
def KnotWorksUptoSaid : Prop := knotWorksUptoRow.holds Try.pinned (OpenSpec.upto knotWorksSpec)

/-- 'wigmakerlaw04.KnotSupplies', WHERE WHAT IT READS IS OF BULK AT MOST 1048576: true; the input reads as it did. -/
def knotSuppliesUptoRow : OpenClaim := { program := "ytlijcnocahplbaa", sum := "a7a22251e1bc0fc39a465f31379545c650a0e106c5ad61fe22084bade784bf54", func := "wigmaker/wigmakerlaw04.KnotSupplies", spec := "knotSupplies", apart := false, narrowed := true }
def KnotSuppliesUptoSaid : Prop := knotSuppliesUptoRow.holds Try.pinned (OpenSpec.upto knotSuppliesSpec)

/-- 'wigmakertop.TopEven', WHERE WHAT IT READS IS OF BULK AT MOST 1048576: true; the input reads as it did. -/
def topEvenUptoRow : OpenClaim := { program := "ytlijcnocahplbaa", sum := "a7a22251e1bc0fc39a465f31379545c650a0e106c5ad61fe22084bade784bf54", func := "wigmaker/wigmakertop.TopEven", spec := "topEven", apart := false, narrowed := true }
def TopEvenUptoSaid : Prop := topEvenUptoRow.holds Try.pinned (OpenSpec.upto topEvenSpec)

end Rows
end Go.Proofs.Ytlijcnocahplbaa
