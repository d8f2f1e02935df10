/-
  No cell of these rows narrows 'for every input' (looked for: loops, veiled, ifaces, maps, wideKeys, modest, calm, conditions, laid).
  DERIVED. THE GIVEN ROWS OF THIS SEAT. 6 by the template 'for every input the law returns true; each argument reads behind the call as it read before'; 0 by the template 'total and deterministic' (their statements: YtolhpahjgddjkaaTotals.lean).
  GIVEN WITH THE SEED: the statements are not yours to turn. If you find one false, say at which input.
  Laid BY PROGRAM, IN A SANDBOX (cutbox-rows.mjs): the forced cells as the released guide's own fill.sh prints them over the translation 5bfe440856164669… (all of the seat's roots in one cut). By AI agents, Wed Nov 11 2026. No macro, syntax, notation, axiom, sorry.
-/
import Derived.Test.YtolhpahjgddjkaaChecked
import GoSem.Claim
import GoSem.ClaimJoined
import GoSem.ClaimMapViews
import Derived.JoinedTies
import Derived.KernelRfl
namespace Go.Proofs.Ytolhpahjgddjkaa
/- THE CELL 'sum', in the pinned program and in every row, IS THE sha256 OF THE DUMP (.gsa) THAT YtolhpahjgddjkaaProg.lean LOADS. Nothing in Lean hashes anything: it is a label: what it is worth is what the hold of that sum in a sandbox is worth. -/
noncomputable def Try.pinned : Pinned := { name := "ytolhpahjgddjkaa", sum := "5bfe440856164669328161e83d4e32182058305212bb05e941574780db675c84", checked := Try.checked }
namespace Rows
def none {H : Type} : Left H := { results := [], args := [] }

/-- 'knapsacklaw20.TablePlaces': WHATEVER THE INPUT: true; the input reads as it did. -/
def tablePlacesSpec : ChangeSpec := { name := "tablePlaces", fn := fun _ => fun
  | [d] => { results := [.lit (.bool true)], args := [d] }
  | _ => none }
def tablePlacesRow : OpenClaim := { program := "ytolhpahjgddjkaa", sum := "5bfe440856164669328161e83d4e32182058305212bb05e941574780db675c84", func := "knapsack/knapsacklaw20.TablePlaces", spec := "tablePlaces", unfollowed := true, recurses := true, apart := false }
def TablePlacesSaid : Prop := tablePlacesRow.holds Try.pinned (OpenSpec.ofChange tablePlacesSpec)

/-- ITS FALSE NEIGHBOUR: 'it returns false'. Refute it at one input. -/
def tablePlacesWrong : ChangeSpec := { name := "tablePlaces", fn := fun _ => fun
  | [d] => { results := [.lit (.bool false)], args := [d] }
  | _ => none }
def TablePlacesWrongFalsely : Prop := tablePlacesRow.holds Try.pinned (OpenSpec.ofChange tablePlacesWrong)

/-- 'knapsacklaw20.TableDivide': WHATEVER THE INPUT: true; the input reads as it did. -/
def tableDivideSpec : ChangeSpec := { name := "tableDivide", fn := fun _ => fun
  | [d1, d2] => { results := [.lit (.bool true)], args := [d1, d2] }
  | _ => none }
def tableDivideRow : OpenClaim := { program := "ytolhpahjgddjkaa", sum := "5bfe440856164669328161e83d4e32182058305212bb05e941574780db675c84", func := "knapsack/knapsacklaw20.TableDivide", spec := "tableDivide", unfollowed := true, recurses := true, apart := false }
def TableDivideSaid : Prop := tableDivideRow.holds Try.pinned (OpenSpec.ofChange tableDivideSpec)

/-- ITS FALSE NEIGHBOUR: 'it returns false'. Refute it at one input. -/
def tableDivideWrong : ChangeSpec := { name := "tableDivide", fn := fun _ => fun
  | [d1, d2] => { results := [.lit (.bool false)], args := [d1, d2] }
  | _ => none }
def TableDivideWrongFalsely : Prop := tableDivideRow.holds Try.pinned (OpenSpec.ofChange tableDivideWrong)

/-- 'knapsacklaw20.TableHeights': WHATEVER THE INPUT: true; the input reads as it did. -/
def tableHeightsSpec : ChangeSpec := { name := "tableHeights", fn := fun _ => fun
  | [d1, d2, d3] => { results := [.lit (.bool true)], args := [d1, d2, d3] }
  | _ => none }
def tableHeightsRow : OpenClaim := { program := "ytolhpahjgddjkaa", sum := "5bfe440856164669328161e83d4e32182058305212bb05e941574780db675c84", func := "knapsack/knapsacklaw20.TableHeights", spec := "tableHeights", unfollowed := true, recurses := true, apart := false }
def TableHeightsSaid : Prop := tableHeightsRow.holds Try.pinned (OpenSpec.ofChange tableHeightsSpec)

/-- ITS FALSE NEIGHBOUR: 'it returns false'. Refute it at one input. -/
def tableHeightsWrong : ChangeSpec := { name := "tableHeights", fn := fun _ => fun
  | [d1, d2, d3] => { results := [.lit (.bool false)], args := [d1, d2, d3] }
  | _ => none }
def TableHeightsWrongFalsely : Prop := tableHeightsRow.holds Try.pinned (OpenSpec.ofChange tableHeightsWrong)

/-- 'knapsacklaw20.TableDemands': WHATEVER THE INPUT: true; the input reads as it did. -/
def tableDemandsSpec : ChangeSpec := { name := "tableDemands", fn := fun _ => fun
  | [d1, d2, d3] => { results := [.lit (.bool true)], args := [d1, d2, d3] }
  | _ => none }
def tableDemandsRow : OpenClaim := { program := "ytolhpahjgddjkaa", sum := "5bfe440856164669328161e83d4e32182058305212bb05e941574780db675c84", func := "knapsack/knapsacklaw20.TableDemands", spec := "tableDemands", unfollowed := true, recurses := true, apart := false }
def TableDemandsSaid : Prop := tableDemandsRow.holds Try.pinned (OpenSpec.ofChange tableDemandsSpec)

/-- ITS FALSE NEIGHBOUR: 'it returns false'. Refute it at one input. -/
def tableDemandsWrong : ChangeSpec := { name := "tableDemands", fn := fun _ => fun
  | [d1, d2, d3] => { results := [.lit (.bool false)], args := [d1, d2, d3] }
  | _ => none }
def TableDemandsWrongFalsely : Prop := tableDemandsRow.holds Try.pinned (OpenSpec.ofChange tableDemandsWrong)

/-- 'knapsacklaw20.TableCells': WHATEVER THE INPUT: true; the input reads as it did. -/
def tableCellsSpec : ChangeSpec := { name := "tableCells", fn := fun _ => fun
  | [d1, d2] => { results := [.lit (.bool true)], args := [d1, d2] }
  | _ => none }
def tableCellsRow : OpenClaim := { program := "ytolhpahjgddjkaa", sum := "5bfe440856164669328161e83d4e32182058305212bb05e941574780db675c84", func := "knapsack/knapsacklaw20.TableCells", spec := "tableCells", unfollowed := true, recurses := true, apart := false }
def TableCellsSaid : Prop := tableCellsRow.holds Try.pinned (OpenSpec.ofChange tableCellsSpec)

/-- ITS FALSE NEIGHBOUR: 'it returns false'. Refute it at one input. -/
def tableCellsWrong : ChangeSpec := { name := "tableCells", fn := fun _ => fun
  | [d1, d2] => { results := [.lit (.bool false)], args := [d1, d2] }
  | _ => none }
def TableCellsWrongFalsely : Prop := tableCellsRow.holds Try.pinned (OpenSpec.ofChange tableCellsWrong)

/-- 'knapsacklaw20.TableOthers': WHATEVER THE INPUT: true; the input reads as it did. -/
def tableOthersSpec : ChangeSpec := { name := "tableOthers", fn := fun _ => fun
  | [d1, d2, d3] => { results := [.lit (.bool true)], args := [d1, d2, d3] }
  | _ => none }
def tableOthersRow : OpenClaim := { program := "ytolhpahjgddjkaa", sum := "5bfe440856164669328161e83d4e32182058305212bb05e941574780db675c84", func := "knapsack/knapsacklaw20.TableOthers", spec := "tableOthers", unfollowed := true, recurses := true, apart := false }
def TableOthersSaid : Prop := tableOthersRow.holds Try.pinned (OpenSpec.ofChange tableOthersSpec)

/-- ITS FALSE NEIGHBOUR: 'it returns false'. Refute it at one input. -/
def tableOthersWrong : ChangeSpec := { name := "tableOthers", fn := fun _ => fun
  | [d1, d2, d3] => { results := [.lit (.bool false)], args := [d1, d2, d3] }
  | _ => none }
def TableOthersWrongFalsely : Prop := tableOthersRow.holds Try.pinned (OpenSpec.ofChange tableOthersWrong)

/- THE SECOND FORM. 'bulk': how many values and letters a reading holds, each counted each time it is reached (what is shared counts as often as it is met; a slice's spare places count too). A statement '..UptoSaid' is the law's where the arguments, and the package variables that the reading takes, are together of bulk at most 1048576: NARROWER than '..Said'. Prove '..Said' where nothing that the law and all that it calls make is longer than what came in: it says more and counts as full. Else prove '..UptoSaid'. A law counts once. -/
mutual
def uptoBulk {H : Type} : DataW H → Nat
  | .lit (.string bytes) => bytes.length + 1
  | .lit _ => 1
  | .nil => 1
  | .ptr d => uptoBulk d + 1
  | .slice elems spare => uptoBulkAll elems + uptoBulkAll spare + 1
  | .agg parts => uptoBulkAll parts + 1
  | .iface _ d => uptoBulk d + 1
  | .map entries => uptoBulkEntries entries + 1
  | .held _ => 1
def uptoBulkAll {H : Type} : List (DataW H) → Nat
  | [] => 0
  | d :: r => uptoBulk d + uptoBulkAll r
def uptoBulkEntries {H : Type} : List (Lit × DataW H) → Nat
  | [] => 0
  | x :: r => uptoBulkEntry x + uptoBulkEntries r
def uptoBulkEntry {H : Type} : Lit × DataW H → Nat
  | (.string bytes, d) => bytes.length + uptoBulk d + 1
  | (_, d) => uptoBulk d + 1
 end
def uptoSmall : (H : Type) → List (DataW H) → Bool := fun _ ds => decide (uptoBulkAll ds ≤ 1048576)
def OpenSpec.upto (s : _root_.Go.ChangeSpec) : _root_.Go.OpenSpec := { _root_.Go.OpenSpec.ofChange s with cond := some uptoSmall }

/-- 'knapsacklaw20.TablePlaces', WHERE WHAT IT READS IS OF BULK AT MOST 1048576: true; the input reads as it did. -/
def tablePlacesUptoRow : OpenClaim := { program := "ytolhpahjgddjkaa", sum := "5bfe440856164669328161e83d4e32182058305212bb05e941574780db675c84", func := "knapsack/knapsacklaw20.TablePlaces", spec := "tablePlaces", unfollowed := true, recurses := true, apart := false, narrowed := true }
def TablePlacesUptoSaid : Prop := tablePlacesUptoRow.holds Try.pinned (OpenSpec.upto tablePlacesSpec)

/-- 'knapsacklaw20.TableDivide', WHERE WHAT IT READS IS OF BULK AT MOST 1048576: true; the input reads as it did. -/
def tableDivideUptoRow : OpenClaim := { program := "ytolhpahjgddjkaa", sum := "5bfe440856164669328161e83d4e32182058305212bb05e941574780db675c84", func := "knapsack/knapsacklaw20.TableDivide", spec := "tableDivide", unfollowed := true, recurses := true, apart := false, narrowed := true }
def TableDivideUptoSaid : Prop := tableDivideUptoRow.holds Try.pinned (OpenSpec.upto tableDivideSpec)

/-- 'knapsacklaw20.TableHeights', WHERE WHAT IT READS IS OF BULK AT MOST 1048576: true; the input reads as it did. -/
def tableHeightsUptoRow : OpenClaim := { program := "ytolhpahjgddjkaa", sum := "5bfe440856164669328161e83d4e32182058305212bb05e941574780db675c84", func := "knapsack/knapsacklaw20.TableHeights", spec := "tableHeights", unfollowed := true, recurses := true, apart := false, narrowed := true }
def TableHeightsUptoSaid : Prop := tableHeightsUptoRow.holds Try.pinned (OpenSpec.upto tableHeightsSpec)

/-- 'knapsacklaw20.TableDemands', WHERE WHAT IT READS IS OF BULK AT MOST 1048576: true; the input reads as it did. -/
def tableDemandsUptoRow : OpenClaim := { program := "ytolhpahjgddjkaa", sum := "5bfe440856164669328161e83d4e32182058305212bb05e941574780db675c84", func := "knapsack/knapsacklaw20.TableDemands", spec := "tableDemands", unfollowed := true, recurses := true, apart := false, narrowed := true }
def TableDemandsUptoSaid : Prop := tableDemandsUptoRow.holds Try.pinned (OpenSpec.upto tableDemandsSpec)

/-- 'knapsacklaw20.TableCells', WHERE WHAT IT READS IS OF BULK AT MOST 1048576: true; the input reads as it did. -/
def tableCellsUptoRow : OpenClaim := { program := "ytolhpahjgddjkaa", sum := "5bfe440856164669328161e83d4e32182058305212bb05e941574780db675c84", func := "knapsack/knapsacklaw20.TableCells", spec := "tableCells", unfollowed := true, recurses := true, apart := false, narrowed := true }
def TableCellsUptoSaid : Prop := tableCellsUptoRow.holds Try.pinned (OpenSpec.upto tableCellsSpec)

/-- 'knapsacklaw20.TableOthers', WHERE WHAT IT READS IS OF BULK AT MOST 1048576: true; the input reads as it did. -/
def tableOthersUptoRow : OpenClaim := { program := "ytolhpahjgddjkaa", sum := "5bfe440856164669328161e83d4e32182058305212bb05e941574780db675c84", func := "knapsack/knapsacklaw20.TableOthers", spec := "tableOthers", unfollowed := true, recurses := true, apart := false, narrowed := true }
def TableOthersUptoSaid : Prop := tableOthersUptoRow.holds Try.pinned (OpenSpec.upto tableOthersSpec)

end Rows
end Go.Proofs.Ytolhpahjgddjkaa
