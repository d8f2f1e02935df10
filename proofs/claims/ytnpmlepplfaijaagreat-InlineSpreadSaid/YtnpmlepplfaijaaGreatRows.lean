/-
  No cell of these rows narrows 'for every input' (looked for: loops, veiled, ifaces, maps, wideKeys, modest, calm, conditions, laid).
  DERIVED. THE GIVEN ROWS OF THIS SEAT. 3 by the template 'for every input the law returns true; each argument reads behind the call as it read before'; 0 by the template 'total and deterministic' (their statements: YtnpmlepplfaijaaGreatTotals.lean).
  GIVEN WITH THE SEED: the statements are not yours to turn. If you find one false, say at which input.
  Laid BY PROGRAM, IN A SANDBOX (cutbox-rows.mjs): the forced cells as the released guide's own fill.sh prints them over the translation 71d9c29560c4afdb… (all of the seat's roots in one cut). By AI agents, Wed Nov 11 2026. No macro, syntax, notation, axiom, sorry.
-/
import Derived.Test.YtnpmlepplfaijaaGreatChecked
import GoSem.Claim
import GoSem.ClaimJoined
import GoSem.ClaimMapViews
import Derived.JoinedTies
import Derived.KernelRfl
namespace Go.Proofs.YtnpmlepplfaijaaGreat
/- THE CELL 'sum', in the pinned program and in every row, IS THE sha256 OF THE DUMP (.gsa) THAT YtnpmlepplfaijaaGreatProg.lean LOADS. Nothing in Lean hashes anything: it is a label: what it is worth is what the hold of that sum in a sandbox is worth. -/
noncomputable def Tryz.pinned : Pinned := { name := "ytnpmlepplfaijaagreat", sum := "71d9c29560c4afdbf5145dc9d2718d243455ae03027a490b4d61cbc457b66b2c", checked := Tryz.checked }
namespace Rows
def none {H : Type} : Left H := { results := [], args := [] }

/-- 'knapsacklaw18.InlineRuns': WHATEVER THE INPUT: true; the input reads as it did. -/
def inlineRunsSpec : ChangeSpec := { name := "inlineRuns", fn := fun _ => fun
  | [d1, d2] => { results := [.lit (.bool true)], args := [d1, d2] }
  | _ => none }
def inlineRunsRow : OpenClaim := { program := "ytnpmlepplfaijaagreat", sum := "71d9c29560c4afdbf5145dc9d2718d243455ae03027a490b4d61cbc457b66b2c", func := "knapsack/knapsacklaw18.InlineRuns", spec := "inlineRuns", inPlace := ["internal/abi.NoEscape"], unfollowed := true, recurses := true, apart := false }
def InlineRunsSaid : Prop := inlineRunsRow.holds Tryz.pinned (OpenSpec.ofChange inlineRunsSpec)

/-- ITS FALSE NEIGHBOUR: 'it returns false'. Refute it at one input. -/
def inlineRunsWrong : ChangeSpec := { name := "inlineRuns", fn := fun _ => fun
  | [d1, d2] => { results := [.lit (.bool false)], args := [d1, d2] }
  | _ => none }
def InlineRunsWrongFalsely : Prop := inlineRunsRow.holds Tryz.pinned (OpenSpec.ofChange inlineRunsWrong)

/-- 'knapsacklaw18.InlineLines': WHATEVER THE INPUT: true; the input reads as it did. -/
def inlineLinesSpec : ChangeSpec := { name := "inlineLines", fn := fun _ => fun
  | [d1, d2] => { results := [.lit (.bool true)], args := [d1, d2] }
  | _ => none }
def inlineLinesRow : OpenClaim := { program := "ytnpmlepplfaijaagreat", sum := "71d9c29560c4afdbf5145dc9d2718d243455ae03027a490b4d61cbc457b66b2c", func := "knapsack/knapsacklaw18.InlineLines", spec := "inlineLines", inPlace := ["internal/abi.NoEscape"], unfollowed := true, recurses := true, apart := false }
def InlineLinesSaid : Prop := inlineLinesRow.holds Tryz.pinned (OpenSpec.ofChange inlineLinesSpec)

/-- ITS FALSE NEIGHBOUR: 'it returns false'. Refute it at one input. -/
def inlineLinesWrong : ChangeSpec := { name := "inlineLines", fn := fun _ => fun
  | [d1, d2] => { results := [.lit (.bool false)], args := [d1, d2] }
  | _ => none }
def InlineLinesWrongFalsely : Prop := inlineLinesRow.holds Tryz.pinned (OpenSpec.ofChange inlineLinesWrong)

/-- 'knapsacklaw18.InlineSpread': WHATEVER THE INPUT: true; the input reads as it did. -/
def inlineSpreadSpec : ChangeSpec := { name := "inlineSpread", fn := fun _ => fun
  | [d1, d2] => { results := [.lit (.bool true)], args := [d1, d2] }
  | _ => none }
def inlineSpreadRow : OpenClaim := { program := "ytnpmlepplfaijaagreat", sum := "71d9c29560c4afdbf5145dc9d2718d243455ae03027a490b4d61cbc457b66b2c", func := "knapsack/knapsacklaw18.InlineSpread", spec := "inlineSpread", inPlace := ["internal/abi.NoEscape"], unfollowed := true, recurses := true, apart := false }
def InlineSpreadSaid : Prop := inlineSpreadRow.holds Tryz.pinned (OpenSpec.ofChange inlineSpreadSpec)

/-- ITS FALSE NEIGHBOUR: 'it returns false'. Refute it at one input. -/
def inlineSpreadWrong : ChangeSpec := { name := "inlineSpread", fn := fun _ => fun
  | [d1, d2] => { results := [.lit (.bool false)], args := [d1, d2] }
  | _ => none }
def InlineSpreadWrongFalsely : Prop := inlineSpreadRow.holds Tryz.pinned (OpenSpec.ofChange inlineSpreadWrong)

/- THE SECOND FORM. 'bulk': how many values and letters a reading holds, each counted each time it is reached (what is shared counts as often as it is met; a slice's spare places count too). A statement '..UptoSaid' is the law's where the arguments, and the package variables that the reading takes, are together of bulk at most 1048576: NARROWER than '..Said'. Prove '..Said' where nothing that the law and all that it calls make is longer than what came in: it says more and counts as full. Else prove '..UptoSaid'. A law counts once. -/
mutual
def uptoBulk {H : Type} : DataW H → Nat
  | .lit (.string bytes) => bytes.length + 1
  | .lit _ => 1
  | .nil => 1
  | .ptr d => uptoBulk d + 1
  | .slice elems spare => uptoBulkAll elems + uptoBulkAll spare + 1
  | .agg parts => uptoBulkAll parts + 1
  | .iface _ d => uptoBulk d + 1
  | .map entries => uptoBulkEntries entries + 1
  | .held _ => 1
def uptoBulkAll {H : Type} : List (DataW H) → Nat
  | [] => 0
  | d :: r => uptoBulk d + uptoBulkAll r
def uptoBulkEntries {H : Type} : List (Lit × DataW H) → Nat
  | [] => 0
  | x :: r => uptoBulkEntry x + uptoBulkEntries r
def uptoBulkEntry {H : Type} : Lit × DataW H → Nat
  | (.string bytes, d) => bytes.length + uptoBulk d + 1
  | (_, d) => uptoBulk d + 1
 end
def uptoSmall : (H : Type) → List (DataW H) → Bool := fun _ ds => decide (uptoBulkAll ds ≤ 1048576)
def OpenSpec.upto (s : _root_.Go.ChangeSpec) : _root_.Go.OpenSpec := { _root_.Go.OpenSpec.ofChange s with cond := some uptoSmall }

/-- 'knapsacklaw18.InlineRuns', WHERE WHAT IT READS IS OF BULK AT MOST 1048576: true; the input reads as it did. -/
def inlineRunsUptoRow : OpenClaim := { program := "ytnpmlepplfaijaagreat", sum := "71d9c29560c4afdbf5145dc9d2718d243455ae03027a490b4d61cbc457b66b2c", func := "knapsack/knapsacklaw18.InlineRuns", spec := "inlineRuns", inPlace := ["internal/abi.NoEscape"], unfollowed := true, recurses := true, apart := false, narrowed := true }
def InlineRunsUptoSaid : Prop := inlineRunsUptoRow.holds Tryz.pinned (OpenSpec.upto inlineRunsSpec)

/-- 'knapsacklaw18.InlineLines', WHERE WHAT IT READS IS OF BULK AT MOST 1048576: true; the input reads as it did. -/
def inlineLinesUptoRow : OpenClaim := { program := "ytnpmlepplfaijaagreat", sum := "71d9c29560c4afdbf5145dc9d2718d243455ae03027a490b4d61cbc457b66b2c", func := "knapsack/knapsacklaw18.InlineLines", spec := "inlineLines", inPlace := ["internal/abi.NoEscape"], unfollowed := true, recurses := true, apart := false, narrowed := true }
def InlineLinesUptoSaid : Prop := inlineLinesUptoRow.holds Tryz.pinned (OpenSpec.upto inlineLinesSpec)

/-- 'knapsacklaw18.InlineSpread', WHERE WHAT IT READS IS OF BULK AT MOST 1048576: true; the input reads as it did. -/
def inlineSpreadUptoRow : OpenClaim := { program := "ytnpmlepplfaijaagreat", sum := "71d9c29560c4afdbf5145dc9d2718d243455ae03027a490b4d61cbc457b66b2c", func := "knapsack/knapsacklaw18.InlineSpread", spec := "inlineSpread", inPlace := ["internal/abi.NoEscape"], unfollowed := true, recurses := true, apart := false, narrowed := true }
def InlineSpreadUptoSaid : Prop := inlineSpreadUptoRow.holds Tryz.pinned (OpenSpec.upto inlineSpreadSpec)

end Rows
end Go.Proofs.YtnpmlepplfaijaaGreat
