/-
  No cell of these rows narrows 'for every input' (looked for: loops, veiled, ifaces, maps, wideKeys, modest, calm, conditions, laid).
  DERIVED. THE GIVEN ROWS OF THIS SEAT. 7 by the template 'for every input the law returns true; each argument reads behind the call as it read before'; 0 by the template 'total and deterministic' (their statements: YtocgkfoifehcbaaGreatTotals.lean).
  GIVEN WITH THE SEED: the statements are not yours to turn. If you find one false, say at which input.
  Laid BY PROGRAM, IN A SANDBOX (cutbox-rows.mjs): the forced cells as the released guide's own fill.sh prints them over the translation b6bdfab9783abd49… (all of the seat's roots in one cut). By AI agents, Wed Nov 11 2026. No macro, syntax, notation, axiom, sorry.
-/
import Derived.Test.YtocgkfoifehcbaaGreatChecked
import GoSem.Claim
import GoSem.ClaimJoined
import GoSem.ClaimMapViews
import Derived.JoinedTies
import Derived.KernelRfl
namespace Go.Proofs.YtocgkfoifehcbaaGreat
/- THE CELL 'sum', in the pinned program and in every row, IS THE sha256 OF THE DUMP (.gsa) THAT YtocgkfoifehcbaaGreatProg.lean LOADS. Nothing in Lean hashes anything: it is a label: what it is worth is what the hold of that sum in a sandbox is worth. -/
noncomputable def Tryz.pinned : Pinned := { name := "ytocgkfoifehcbaagreat", sum := "b6bdfab9783abd49003523a38806fbbca0764cc3403843d50012cfb67fe84132", checked := Tryz.checked }
namespace Rows
def none {H : Type} : Left H := { results := [], args := [] }

/-- 'knapsacklaw22.RelayoutTwice': WHATEVER THE INPUT: true; the input reads as it did. -/
def relayoutTwiceSpec : ChangeSpec := { name := "relayoutTwice", fn := fun _ => fun
  | [d1, d2, d3] => { results := [.lit (.bool true)], args := [d1, d2, d3] }
  | _ => none }
def relayoutTwiceRow : OpenClaim := { program := "ytocgkfoifehcbaagreat", sum := "b6bdfab9783abd49003523a38806fbbca0764cc3403843d50012cfb67fe84132", func := "knapsack/knapsacklaw22.RelayoutTwice", spec := "relayoutTwice", inPlace := ["internal/abi.NoEscape"], unfollowed := true, recurses := true, apart := false }
def RelayoutTwiceSaid : Prop := relayoutTwiceRow.holds Tryz.pinned (OpenSpec.ofChange relayoutTwiceSpec)

/-- ITS FALSE NEIGHBOUR: 'it returns false'. Refute it at one input. -/
def relayoutTwiceWrong : ChangeSpec := { name := "relayoutTwice", fn := fun _ => fun
  | [d1, d2, d3] => { results := [.lit (.bool false)], args := [d1, d2, d3] }
  | _ => none }
def RelayoutTwiceWrongFalsely : Prop := relayoutTwiceRow.holds Tryz.pinned (OpenSpec.ofChange relayoutTwiceWrong)

/-- 'knapsacklaw22.RelayoutFresh': WHATEVER THE INPUT: true; the input reads as it did. -/
def relayoutFreshSpec : ChangeSpec := { name := "relayoutFresh", fn := fun _ => fun
  | [d1, d2, d3] => { results := [.lit (.bool true)], args := [d1, d2, d3] }
  | _ => none }
def relayoutFreshRow : OpenClaim := { program := "ytocgkfoifehcbaagreat", sum := "b6bdfab9783abd49003523a38806fbbca0764cc3403843d50012cfb67fe84132", func := "knapsack/knapsacklaw22.RelayoutFresh", spec := "relayoutFresh", inPlace := ["internal/abi.NoEscape"], unfollowed := true, recurses := true, apart := false }
def RelayoutFreshSaid : Prop := relayoutFreshRow.holds Tryz.pinned (OpenSpec.ofChange relayoutFreshSpec)

/-- ITS FALSE NEIGHBOUR: 'it returns false'. Refute it at one input. -/
def relayoutFreshWrong : ChangeSpec := { name := "relayoutFresh", fn := fun _ => fun
  | [d1, d2, d3] => { results := [.lit (.bool false)], args := [d1, d2, d3] }
  | _ => none }
def RelayoutFreshWrongFalsely : Prop := relayoutFreshRow.holds Tryz.pinned (OpenSpec.ofChange relayoutFreshWrong)

/-- 'knapsacklaw22.RelayoutFinds': WHATEVER THE INPUT: true; the input reads as it did. -/
def relayoutFindsSpec : ChangeSpec := { name := "relayoutFinds", fn := fun _ => fun
  | [d1, d2, d3] => { results := [.lit (.bool true)], args := [d1, d2, d3] }
  | _ => none }
def relayoutFindsRow : OpenClaim := { program := "ytocgkfoifehcbaagreat", sum := "b6bdfab9783abd49003523a38806fbbca0764cc3403843d50012cfb67fe84132", func := "knapsack/knapsacklaw22.RelayoutFinds", spec := "relayoutFinds", inPlace := ["internal/abi.NoEscape"], unfollowed := true, recurses := true, apart := false }
def RelayoutFindsSaid : Prop := relayoutFindsRow.holds Tryz.pinned (OpenSpec.ofChange relayoutFindsSpec)

/-- ITS FALSE NEIGHBOUR: 'it returns false'. Refute it at one input. -/
def relayoutFindsWrong : ChangeSpec := { name := "relayoutFinds", fn := fun _ => fun
  | [d1, d2, d3] => { results := [.lit (.bool false)], args := [d1, d2, d3] }
  | _ => none }
def RelayoutFindsWrongFalsely : Prop := relayoutFindsRow.holds Tryz.pinned (OpenSpec.ofChange relayoutFindsWrong)

/-- 'knapsacklaw22.RelayoutEquals': WHATEVER THE INPUT: true; the input reads as it did. -/
def relayoutEqualsSpec : ChangeSpec := { name := "relayoutEquals", fn := fun _ => fun
  | [d1, d2, d3] => { results := [.lit (.bool true)], args := [d1, d2, d3] }
  | _ => none }
def relayoutEqualsRow : OpenClaim := { program := "ytocgkfoifehcbaagreat", sum := "b6bdfab9783abd49003523a38806fbbca0764cc3403843d50012cfb67fe84132", func := "knapsack/knapsacklaw22.RelayoutEquals", spec := "relayoutEquals", inPlace := ["internal/abi.NoEscape"], unfollowed := true, recurses := true, apart := false }
def RelayoutEqualsSaid : Prop := relayoutEqualsRow.holds Tryz.pinned (OpenSpec.ofChange relayoutEqualsSpec)

/-- ITS FALSE NEIGHBOUR: 'it returns false'. Refute it at one input. -/
def relayoutEqualsWrong : ChangeSpec := { name := "relayoutEquals", fn := fun _ => fun
  | [d1, d2, d3] => { results := [.lit (.bool false)], args := [d1, d2, d3] }
  | _ => none }
def RelayoutEqualsWrongFalsely : Prop := relayoutEqualsRow.holds Tryz.pinned (OpenSpec.ofChange relayoutEqualsWrong)

/-- 'knapsacklaw22.RelayoutChanged': WHATEVER THE INPUT: true; the input reads as it did. -/
def relayoutChangedSpec : ChangeSpec := { name := "relayoutChanged", fn := fun _ => fun
  | [d1, d2] => { results := [.lit (.bool true)], args := [d1, d2] }
  | _ => none }
def relayoutChangedRow : OpenClaim := { program := "ytocgkfoifehcbaagreat", sum := "b6bdfab9783abd49003523a38806fbbca0764cc3403843d50012cfb67fe84132", func := "knapsack/knapsacklaw22.RelayoutChanged", spec := "relayoutChanged", inPlace := ["internal/abi.NoEscape"], unfollowed := true, recurses := true, apart := false }
def RelayoutChangedSaid : Prop := relayoutChangedRow.holds Tryz.pinned (OpenSpec.ofChange relayoutChangedSpec)

/-- ITS FALSE NEIGHBOUR: 'it returns false'. Refute it at one input. -/
def relayoutChangedWrong : ChangeSpec := { name := "relayoutChanged", fn := fun _ => fun
  | [d1, d2] => { results := [.lit (.bool false)], args := [d1, d2] }
  | _ => none }
def RelayoutChangedWrongFalsely : Prop := relayoutChangedRow.holds Tryz.pinned (OpenSpec.ofChange relayoutChangedWrong)

/-- 'knapsacklaw22.RelayoutDrops': WHATEVER THE INPUT: true; the input reads as it did. -/
def relayoutDropsSpec : ChangeSpec := { name := "relayoutDrops", fn := fun _ => fun
  | [d1, d2, d3] => { results := [.lit (.bool true)], args := [d1, d2, d3] }
  | _ => none }
def relayoutDropsRow : OpenClaim := { program := "ytocgkfoifehcbaagreat", sum := "b6bdfab9783abd49003523a38806fbbca0764cc3403843d50012cfb67fe84132", func := "knapsack/knapsacklaw22.RelayoutDrops", spec := "relayoutDrops", inPlace := ["internal/abi.NoEscape"], unfollowed := true, recurses := true, apart := false }
def RelayoutDropsSaid : Prop := relayoutDropsRow.holds Tryz.pinned (OpenSpec.ofChange relayoutDropsSpec)

/-- ITS FALSE NEIGHBOUR: 'it returns false'. Refute it at one input. -/
def relayoutDropsWrong : ChangeSpec := { name := "relayoutDrops", fn := fun _ => fun
  | [d1, d2, d3] => { results := [.lit (.bool false)], args := [d1, d2, d3] }
  | _ => none }
def RelayoutDropsWrongFalsely : Prop := relayoutDropsRow.holds Tryz.pinned (OpenSpec.ofChange relayoutDropsWrong)

/-- 'knapsacklaw22.RelayoutPlaces': WHATEVER THE INPUT: true; the input reads as it did. -/
def relayoutPlacesSpec : ChangeSpec := { name := "relayoutPlaces", fn := fun _ => fun
  | [d1, d2, d3] => { results := [.lit (.bool true)], args := [d1, d2, d3] }
  | _ => none }
def relayoutPlacesRow : OpenClaim := { program := "ytocgkfoifehcbaagreat", sum := "b6bdfab9783abd49003523a38806fbbca0764cc3403843d50012cfb67fe84132", func := "knapsack/knapsacklaw22.RelayoutPlaces", spec := "relayoutPlaces", inPlace := ["internal/abi.NoEscape"], unfollowed := true, recurses := true, apart := false }
def RelayoutPlacesSaid : Prop := relayoutPlacesRow.holds Tryz.pinned (OpenSpec.ofChange relayoutPlacesSpec)

/-- ITS FALSE NEIGHBOUR: 'it returns false'. Refute it at one input. -/
def relayoutPlacesWrong : ChangeSpec := { name := "relayoutPlaces", fn := fun _ => fun
  | [d1, d2, d3] => { results := [.lit (.bool false)], args := [d1, d2, d3] }
  | _ => none }
def RelayoutPlacesWrongFalsely : Prop := relayoutPlacesRow.holds Tryz.pinned (OpenSpec.ofChange relayoutPlacesWrong)

/- THE SECOND FORM. 'bulk': how many values and letters a reading holds, each counted each time it is reached (what is shared counts as often as it is met; a slice's spare places count too). A statement '..UptoSaid' is the law's where the arguments, and the package variables that the reading takes, are together of bulk at most 1048576: NARROWER than '..Said'. Prove '..Said' where nothing that the law and all that it calls make is longer than what came in: it says more and counts as full. Else prove '..UptoSaid'. A law counts once. -/
mutual
def uptoBulk {H : Type} : DataW H → Nat
  | .lit (.string bytes) => bytes.length + 1
  | .lit _ => 1
  | .nil => 1
  | .ptr d => uptoBulk d + 1
  | .slice elems spare => uptoBulkAll elems + uptoBulkAll spare + 1
  | .agg parts => uptoBulkAll parts + 1
  | .iface _ d => uptoBulk d + 1
  | .map entries => uptoBulkEntries entries + 1
  | .held _ => 1
def uptoBulkAll {H : Type} : List (DataW H) → Nat
  | [] => 0
  | d :: r => uptoBulk d + uptoBulkAll r
def uptoBulkEntries {H : Type} : List (Lit × DataW H) → Nat
  | [] => 0
  | x :: r => uptoBulkEntry x + uptoBulkEntries r
def uptoBulkEntry {H : Type} : Lit × DataW H → Nat
  | (.string bytes, d) => bytes.length + uptoBulk d + 1
  | (_, d) => uptoBulk d + 1
 end
def uptoSmall : (H : Type) → List (DataW H) → Bool := fun _ ds => decide (uptoBulkAll ds ≤ 1048576)
def OpenSpec.upto (s : _root_.Go.ChangeSpec) : _root_.Go.OpenSpec := { _root_.Go.OpenSpec.ofChange s with cond := some uptoSmall }

/-- 'knapsacklaw22.RelayoutTwice', WHERE WHAT IT READS IS OF BULK AT MOST 1048576: true; the input reads as it did. -/
def relayoutTwiceUptoRow : OpenClaim := { program := "ytocgkfoifehcbaagreat", sum := "b6bdfab9783abd49003523a38806fbbca0764cc3403843d50012cfb67fe84132", func := "knapsack/knapsacklaw22.RelayoutTwice", spec := "relayoutTwice", inPlace := ["internal/abi.NoEscape"], unfollowed := true, recurses := true, apart := false, narrowed := true }
def RelayoutTwiceUptoSaid : Prop := relayoutTwiceUptoRow.holds Tryz.pinned (OpenSpec.upto relayoutTwiceSpec)

/-- 'knapsacklaw22.RelayoutFresh', WHERE WHAT IT READS IS OF BULK AT MOST 1048576: true; the input reads as it did. -/
def relayoutFreshUptoRow : OpenClaim := { program := "ytocgkfoifehcbaagreat", sum := "b6bdfab9783abd49003523a38806fbbca0764cc3403843d50012cfb67fe84132", func := "knapsack/knapsacklaw22.RelayoutFresh", spec := "relayoutFresh", inPlace := ["internal/abi.NoEscape"], unfollowed := true, recurses := true, apart := false, narrowed := true }
def RelayoutFreshUptoSaid : Prop := relayoutFreshUptoRow.holds Tryz.pinned (OpenSpec.upto relayoutFreshSpec)

/-- 'knapsacklaw22.RelayoutFinds', WHERE WHAT IT READS IS OF BULK AT MOST 1048576: true; the input reads as it did. -/
def relayoutFindsUptoRow : OpenClaim := { program := "ytocgkfoifehcbaagreat", sum := "b6bdfab9783abd49003523a38806fbbca0764cc3403843d50012cfb67fe84132", func := "knapsack/knapsacklaw22.RelayoutFinds", spec := "relayoutFinds", inPlace := ["internal/abi.NoEscape"], unfollowed := true, recurses := true, apart := false, narrowed := true }
def RelayoutFindsUptoSaid : Prop := relayoutFindsUptoRow.holds Tryz.pinned (OpenSpec.upto relayoutFindsSpec)

/-- 'knapsacklaw22.RelayoutEquals', WHERE WHAT IT READS IS OF BULK AT MOST 1048576: true; the input reads as it did. -/
def relayoutEqualsUptoRow : OpenClaim := { program := "ytocgkfoifehcbaagreat", sum := "b6bdfab9783abd49003523a38806fbbca0764cc3403843d50012cfb67fe84132", func := "knapsack/knapsacklaw22.RelayoutEquals", spec := "relayoutEquals", inPlace := ["internal/abi.NoEscape"], unfollowed := true, recurses := true, apart := false, narrowed := true }
def RelayoutEqualsUptoSaid : Prop := relayoutEqualsUptoRow.holds Tryz.pinned (OpenSpec.upto relayoutEqualsSpec)

/-- 'knapsacklaw22.RelayoutChanged', WHERE WHAT IT READS IS OF BULK AT MOST 1048576: true; the input reads as it did. -/
def relayoutChangedUptoRow : OpenClaim := { program := "ytocgkfoifehcbaagreat", sum := "b6bdfab9783abd49003523a38806fbbca0764cc3403843d50012cfb67fe84132", func := "knapsack/knapsacklaw22.RelayoutChanged", spec := "relayoutChanged", inPlace := ["internal/abi.NoEscape"], unfollowed := true, recurses := true, apart := false, narrowed := true }
def RelayoutChangedUptoSaid : Prop := relayoutChangedUptoRow.holds Tryz.pinned (OpenSpec.upto relayoutChangedSpec)

/-- 'knapsacklaw22.RelayoutDrops', WHERE WHAT IT READS IS OF BULK AT MOST 1048576: true; the input reads as it did. -/
def relayoutDropsUptoRow : OpenClaim := { program := "ytocgkfoifehcbaagreat", sum := "b6bdfab9783abd49003523a38806fbbca0764cc3403843d50012cfb67fe84132", func := "knapsack/knapsacklaw22.RelayoutDrops", spec := "relayoutDrops", inPlace := ["internal/abi.NoEscape"], unfollowed := true, recurses := true, apart := false, narrowed := true }
def RelayoutDropsUptoSaid : Prop := relayoutDropsUptoRow.holds Tryz.pinned (OpenSpec.upto relayoutDropsSpec)

/-- 'knapsacklaw22.RelayoutPlaces', WHERE WHAT IT READS IS OF BULK AT MOST 1048576: true; the input reads as it did. -/
def relayoutPlacesUptoRow : OpenClaim := { program := "ytocgkfoifehcbaagreat", sum := "b6bdfab9783abd49003523a38806fbbca0764cc3403843d50012cfb67fe84132", func := "knapsack/knapsacklaw22.RelayoutPlaces", spec := "relayoutPlaces", inPlace := ["internal/abi.NoEscape"], unfollowed := true, recurses := true, apart := false, narrowed := true }
def RelayoutPlacesUptoSaid : Prop := relayoutPlacesUptoRow.holds Tryz.pinned (OpenSpec.upto relayoutPlacesSpec)

end Rows
end Go.Proofs.YtocgkfoifehcbaaGreat
