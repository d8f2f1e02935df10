/-
  NARROWER THAN 'FOR EVERY INPUT', by the rows' own cells (each row's printed sentence says how): BlockStack: loops · BlockOrder: loops.
  DERIVED. THE GIVEN ROWS OF THIS SEAT. 10 by the template 'for every input the law returns true; each argument reads behind the call as it read before'; 0 by the template 'total and deterministic' (their statements: YtkciiamllegclaaTotals.lean).
  GIVEN WITH THE SEED: the statements are not yours to turn. If you find one false, say at which input.
  Laid BY PROGRAM, IN A SANDBOX (cutbox-rows.mjs): the forced cells as the released guide's own fill.sh prints them over the translation 5d92f950591cb79c… (all of the seat's roots in one cut). By AI agents, Wed Nov 11 2026. No macro, syntax, notation, axiom, sorry.
-/
import Derived.Test.YtkciiamllegclaaChecked
import GoSem.Claim
import GoSem.ClaimJoined
import GoSem.ClaimMapViews
import Derived.JoinedTies
import Derived.KernelRfl
namespace Go.Proofs.Ytkciiamllegclaa
/- THE CELL 'sum', in the pinned program and in every row, IS THE sha256 OF THE DUMP (.gsa) THAT YtkciiamllegclaaProg.lean LOADS. Nothing in Lean hashes anything: it is a label: what it is worth is what the hold of that sum in a sandbox is worth. -/
noncomputable def Try.pinned : Pinned := { name := "ytkciiamllegclaa", sum := "5d92f950591cb79ccd6a9a66e6ec0ace53fae1a7545153ceff1517ef61334689", checked := Try.checked }
namespace Rows
def none {H : Type} : Left H := { results := [], args := [] }

/-- 'knapsacklaw17.BlockMargins': WHATEVER THE INPUT: true; the input reads as it did. -/
def blockMarginsSpec : ChangeSpec := { name := "blockMargins", fn := fun _ => fun
  | [d1, d2] => { results := [.lit (.bool true)], args := [d1, d2] }
  | _ => none }
def blockMarginsRow : OpenClaim := { program := "ytkciiamllegclaa", sum := "5d92f950591cb79ccd6a9a66e6ec0ace53fae1a7545153ceff1517ef61334689", func := "knapsack/knapsacklaw17.BlockMargins", spec := "blockMargins", apart := false }
def BlockMarginsSaid : Prop := blockMarginsRow.holds Try.pinned (OpenSpec.ofChange blockMarginsSpec)

/-- ITS FALSE NEIGHBOUR: 'it returns false'. Refute it at one input. -/
def blockMarginsWrong : ChangeSpec := { name := "blockMargins", fn := fun _ => fun
  | [d1, d2] => { results := [.lit (.bool false)], args := [d1, d2] }
  | _ => none }
def BlockMarginsWrongFalsely : Prop := blockMarginsRow.holds Try.pinned (OpenSpec.ofChange blockMarginsWrong)

/-- 'knapsacklaw17.BlockSizes': WHATEVER THE INPUT: true; the input reads as it did. -/
def blockSizesSpec : ChangeSpec := { name := "blockSizes", fn := fun _ => fun
  | [d1, d2, d3] => { results := [.lit (.bool true)], args := [d1, d2, d3] }
  | _ => none }
def blockSizesRow : OpenClaim := { program := "ytkciiamllegclaa", sum := "5d92f950591cb79ccd6a9a66e6ec0ace53fae1a7545153ceff1517ef61334689", func := "knapsack/knapsacklaw17.BlockSizes", spec := "blockSizes", apart := false }
def BlockSizesSaid : Prop := blockSizesRow.holds Try.pinned (OpenSpec.ofChange blockSizesSpec)

/-- ITS FALSE NEIGHBOUR: 'it returns false'. Refute it at one input. -/
def blockSizesWrong : ChangeSpec := { name := "blockSizes", fn := fun _ => fun
  | [d1, d2, d3] => { results := [.lit (.bool false)], args := [d1, d2, d3] }
  | _ => none }
def BlockSizesWrongFalsely : Prop := blockSizesRow.holds Try.pinned (OpenSpec.ofChange blockSizesWrong)

/-- 'knapsacklaw17.BlockFills': WHATEVER THE INPUT: true; the input reads as it did. -/
def blockFillsSpec : ChangeSpec := { name := "blockFills", fn := fun _ => fun
  | [d1, d2] => { results := [.lit (.bool true)], args := [d1, d2] }
  | _ => none }
def blockFillsRow : OpenClaim := { program := "ytkciiamllegclaa", sum := "5d92f950591cb79ccd6a9a66e6ec0ace53fae1a7545153ceff1517ef61334689", func := "knapsack/knapsacklaw17.BlockFills", spec := "blockFills", apart := false }
def BlockFillsSaid : Prop := blockFillsRow.holds Try.pinned (OpenSpec.ofChange blockFillsSpec)

/-- ITS FALSE NEIGHBOUR: 'it returns false'. Refute it at one input. -/
def blockFillsWrong : ChangeSpec := { name := "blockFills", fn := fun _ => fun
  | [d1, d2] => { results := [.lit (.bool false)], args := [d1, d2] }
  | _ => none }
def BlockFillsWrongFalsely : Prop := blockFillsRow.holds Try.pinned (OpenSpec.ofChange blockFillsWrong)

/-- 'knapsacklaw17.BlockStack': WHATEVER THE INPUT: true; the input reads as it did. -/
def blockStackSpec : ChangeSpec := { name := "blockStack", fn := fun _ => fun
  | [d] => { results := [.lit (.bool true)], args := [d] }
  | _ => none }
def blockStackRow : OpenClaim := { program := "ytkciiamllegclaa", sum := "5d92f950591cb79ccd6a9a66e6ec0ace53fae1a7545153ceff1517ef61334689", func := "knapsack/knapsacklaw17.BlockStack", spec := "blockStack", recurses := true, loops := true, apart := false }
def BlockStackSaid : Prop := blockStackRow.holds Try.pinned (OpenSpec.ofChange blockStackSpec)

/-- ITS FALSE NEIGHBOUR: 'it returns false'. Refute it at one input. -/
def blockStackWrong : ChangeSpec := { name := "blockStack", fn := fun _ => fun
  | [d] => { results := [.lit (.bool false)], args := [d] }
  | _ => none }
def BlockStackWrongFalsely : Prop := blockStackRow.holds Try.pinned (OpenSpec.ofChange blockStackWrong)

/-- 'knapsacklaw17.BlockOrder': WHATEVER THE INPUT: true; the input reads as it did. -/
def blockOrderSpec : ChangeSpec := { name := "blockOrder", fn := fun _ => fun
  | [d] => { results := [.lit (.bool true)], args := [d] }
  | _ => none }
def blockOrderRow : OpenClaim := { program := "ytkciiamllegclaa", sum := "5d92f950591cb79ccd6a9a66e6ec0ace53fae1a7545153ceff1517ef61334689", func := "knapsack/knapsacklaw17.BlockOrder", spec := "blockOrder", loops := true, apart := false }
def BlockOrderSaid : Prop := blockOrderRow.holds Try.pinned (OpenSpec.ofChange blockOrderSpec)

/-- ITS FALSE NEIGHBOUR: 'it returns false'. Refute it at one input. -/
def blockOrderWrong : ChangeSpec := { name := "blockOrder", fn := fun _ => fun
  | [d] => { results := [.lit (.bool false)], args := [d] }
  | _ => none }
def BlockOrderWrongFalsely : Prop := blockOrderRow.holds Try.pinned (OpenSpec.ofChange blockOrderWrong)

/-- 'knapsacklaw17.BlockMoved': WHATEVER THE INPUT: true; the input reads as it did. -/
def blockMovedSpec : ChangeSpec := { name := "blockMoved", fn := fun _ => fun
  | [d1, d2, d3] => { results := [.lit (.bool true)], args := [d1, d2, d3] }
  | _ => none }
def blockMovedRow : OpenClaim := { program := "ytkciiamllegclaa", sum := "5d92f950591cb79ccd6a9a66e6ec0ace53fae1a7545153ceff1517ef61334689", func := "knapsack/knapsacklaw17.BlockMoved", spec := "blockMoved", unfollowed := true, recurses := true, apart := false }
def BlockMovedSaid : Prop := blockMovedRow.holds Try.pinned (OpenSpec.ofChange blockMovedSpec)

/-- ITS FALSE NEIGHBOUR: 'it returns false'. Refute it at one input. -/
def blockMovedWrong : ChangeSpec := { name := "blockMoved", fn := fun _ => fun
  | [d1, d2, d3] => { results := [.lit (.bool false)], args := [d1, d2, d3] }
  | _ => none }
def BlockMovedWrongFalsely : Prop := blockMovedRow.holds Try.pinned (OpenSpec.ofChange blockMovedWrong)

/-- 'knapsacklaw17.BlockLayouts': WHATEVER THE INPUT: true; the input reads as it did. -/
def blockLayoutsSpec : ChangeSpec := { name := "blockLayouts", fn := fun _ => fun
  | [d1, d2] => { results := [.lit (.bool true)], args := [d1, d2] }
  | _ => none }
def blockLayoutsRow : OpenClaim := { program := "ytkciiamllegclaa", sum := "5d92f950591cb79ccd6a9a66e6ec0ace53fae1a7545153ceff1517ef61334689", func := "knapsack/knapsacklaw17.BlockLayouts", spec := "blockLayouts", unfollowed := true, recurses := true, apart := false }
def BlockLayoutsSaid : Prop := blockLayoutsRow.holds Try.pinned (OpenSpec.ofChange blockLayoutsSpec)

/-- ITS FALSE NEIGHBOUR: 'it returns false'. Refute it at one input. -/
def blockLayoutsWrong : ChangeSpec := { name := "blockLayouts", fn := fun _ => fun
  | [d1, d2] => { results := [.lit (.bool false)], args := [d1, d2] }
  | _ => none }
def BlockLayoutsWrongFalsely : Prop := blockLayoutsRow.holds Try.pinned (OpenSpec.ofChange blockLayoutsWrong)

/-- 'knapsacklaw17.BlockWraps': WHATEVER THE INPUT: true; the input reads as it did. -/
def blockWrapsSpec : ChangeSpec := { name := "blockWraps", fn := fun _ => fun
  | [d1, d2, d3] => { results := [.lit (.bool true)], args := [d1, d2, d3] }
  | _ => none }
def blockWrapsRow : OpenClaim := { program := "ytkciiamllegclaa", sum := "5d92f950591cb79ccd6a9a66e6ec0ace53fae1a7545153ceff1517ef61334689", func := "knapsack/knapsacklaw17.BlockWraps", spec := "blockWraps", unfollowed := true, recurses := true, apart := false }
def BlockWrapsSaid : Prop := blockWrapsRow.holds Try.pinned (OpenSpec.ofChange blockWrapsSpec)

/-- ITS FALSE NEIGHBOUR: 'it returns false'. Refute it at one input. -/
def blockWrapsWrong : ChangeSpec := { name := "blockWraps", fn := fun _ => fun
  | [d1, d2, d3] => { results := [.lit (.bool false)], args := [d1, d2, d3] }
  | _ => none }
def BlockWrapsWrongFalsely : Prop := blockWrapsRow.holds Try.pinned (OpenSpec.ofChange blockWrapsWrong)

/-- 'knapsacklaw17.BlockWithin': WHATEVER THE INPUT: true; the input reads as it did. -/
def blockWithinSpec : ChangeSpec := { name := "blockWithin", fn := fun _ => fun
  | [d1, d2, d3] => { results := [.lit (.bool true)], args := [d1, d2, d3] }
  | _ => none }
def blockWithinRow : OpenClaim := { program := "ytkciiamllegclaa", sum := "5d92f950591cb79ccd6a9a66e6ec0ace53fae1a7545153ceff1517ef61334689", func := "knapsack/knapsacklaw17.BlockWithin", spec := "blockWithin", unfollowed := true, recurses := true, apart := false }
def BlockWithinSaid : Prop := blockWithinRow.holds Try.pinned (OpenSpec.ofChange blockWithinSpec)

/-- ITS FALSE NEIGHBOUR: 'it returns false'. Refute it at one input. -/
def blockWithinWrong : ChangeSpec := { name := "blockWithin", fn := fun _ => fun
  | [d1, d2, d3] => { results := [.lit (.bool false)], args := [d1, d2, d3] }
  | _ => none }
def BlockWithinWrongFalsely : Prop := blockWithinRow.holds Try.pinned (OpenSpec.ofChange blockWithinWrong)

/-- 'knapsacklaw17.BlockWidths': WHATEVER THE INPUT: true; the input reads as it did. -/
def blockWidthsSpec : ChangeSpec := { name := "blockWidths", fn := fun _ => fun
  | [d1, d2] => { results := [.lit (.bool true)], args := [d1, d2] }
  | _ => none }
def blockWidthsRow : OpenClaim := { program := "ytkciiamllegclaa", sum := "5d92f950591cb79ccd6a9a66e6ec0ace53fae1a7545153ceff1517ef61334689", func := "knapsack/knapsacklaw17.BlockWidths", spec := "blockWidths", unfollowed := true, recurses := true, apart := false }
def BlockWidthsSaid : Prop := blockWidthsRow.holds Try.pinned (OpenSpec.ofChange blockWidthsSpec)

/-- ITS FALSE NEIGHBOUR: 'it returns false'. Refute it at one input. -/
def blockWidthsWrong : ChangeSpec := { name := "blockWidths", fn := fun _ => fun
  | [d1, d2] => { results := [.lit (.bool false)], args := [d1, d2] }
  | _ => none }
def BlockWidthsWrongFalsely : Prop := blockWidthsRow.holds Try.pinned (OpenSpec.ofChange blockWidthsWrong)

/- THE SECOND FORM. 'bulk': how many values and letters a reading holds, each counted each time it is reached (what is shared counts as often as it is met; a slice's spare places count too). A statement '..UptoSaid' is the law's where the arguments, and the package variables that the reading takes, are together of bulk at most 1048576: NARROWER than '..Said'. Prove '..Said' where nothing that the law and all that it calls make is longer than what came in: it says more and counts as full. Else prove '..UptoSaid'. A law counts once. -/
mutual
def uptoBulk {H : Type} : DataW H → Nat
  | .lit (.string bytes) => bytes.length + 1
  | .lit _ => 1
  | .nil => 1
  | .ptr d => uptoBulk d + 1
  | .slice elems spare => uptoBulkAll elems + uptoBulkAll spare + 1
  | .agg parts => uptoBulkAll parts + 1
  | .iface _ d => uptoBulk d + 1
  | .map entries => uptoBulkEntries entries + 1
  | .held _ => 1
def uptoBulkAll {H : Type} : List (DataW H) → Nat
  | [] => 0
  | d :: r => uptoBulk d + uptoBulkAll r
def uptoBulkEntries {H : Type} : List (Lit × DataW H) → Nat
  | [] => 0
  | x :: r => uptoBulkEntry x + uptoBulkEntries r
def uptoBulkEntry {H : Type} : Lit × DataW H → Nat
  | (.string bytes, d) => bytes.length + uptoBulk d + 1
  | (_, d) => uptoBulk d + 1
 end
def uptoSmall : (H : Type) → List (DataW H) → Bool := fun _ ds => decide (uptoBulkAll ds ≤ 1048576)
def OpenSpec.upto (s : _root_.Go.ChangeSpec) : _root_.Go.OpenSpec := { _root_.Go.OpenSpec.ofChange s with cond := some uptoSmall }

/-- 'knapsacklaw17.BlockMargins', WHERE WHAT IT READS IS OF BULK AT MOST 1048576: true; the input reads as it did. -/
def blockMarginsUptoRow : OpenClaim := { program := "ytkciiamllegclaa", sum := "5d92f950591cb79ccd6a9a66e6ec0ace53fae1a7545153ceff1517ef61334689", func := "knapsack/knapsacklaw17.BlockMargins", spec := "blockMargins", apart := false, narrowed := true }
def BlockMarginsUptoSaid : Prop := blockMarginsUptoRow.holds Try.pinned (OpenSpec.upto blockMarginsSpec)

/-- 'knapsacklaw17.BlockSizes', WHERE WHAT IT READS IS OF BULK AT MOST 1048576: true; the input reads as it did. -/
def blockSizesUptoRow : OpenClaim := { program := "ytkciiamllegclaa", sum := "5d92f950591cb79ccd6a9a66e6ec0ace53fae1a7545153ceff1517ef61334689", func := "knapsack/knapsacklaw17.BlockSizes", spec := "blockSizes", apart := false, narrowed := true }
def BlockSizesUptoSaid : Prop := blockSizesUptoRow.holds Try.pinned (OpenSpec.upto blockSizesSpec)

/-- 'knapsacklaw17.BlockFills', WHERE WHAT IT READS IS OF BULK AT MOST 1048576: true; the input reads as it did. -/
def blockFillsUptoRow : OpenClaim := { program := "ytkciiamllegclaa", sum := "5d92f950591cb79ccd6a9a66e6ec0ace53fae1a7545153ceff1517ef61334689", func := "knapsack/knapsacklaw17.BlockFills", spec := "blockFills", apart := false, narrowed := true }
def BlockFillsUptoSaid : Prop := blockFillsUptoRow.holds Try.pinned (OpenSpec.upto blockFillsSpec)

/-- 'knapsacklaw17.BlockStack', WHERE WHAT IT READS IS OF BULK AT MOST 1048576: true; the input reads as it did. -/
def blockStackUptoRow : OpenClaim := { program := "ytkciiamllegclaa", sum := "5d92f950591cb79ccd6a9a66e6ec0ace53fae1a7545153ceff1517ef61334689", func := "knapsack/knapsacklaw17.BlockStack", spec := "blockStack", recurses := true, loops := true, apart := false, narrowed := true }
def BlockStackUptoSaid : Prop := blockStackUptoRow.holds Try.pinned (OpenSpec.upto blockStackSpec)

/-- 'knapsacklaw17.BlockOrder', WHERE WHAT IT READS IS OF BULK AT MOST 1048576: true; the input reads as it did. -/
def blockOrderUptoRow : OpenClaim := { program := "ytkciiamllegclaa", sum := "5d92f950591cb79ccd6a9a66e6ec0ace53fae1a7545153ceff1517ef61334689", func := "knapsack/knapsacklaw17.BlockOrder", spec := "blockOrder", loops := true, apart := false, narrowed := true }
def BlockOrderUptoSaid : Prop := blockOrderUptoRow.holds Try.pinned (OpenSpec.upto blockOrderSpec)

/-- 'knapsacklaw17.BlockMoved', WHERE WHAT IT READS IS OF BULK AT MOST 1048576: true; the input reads as it did. -/
def blockMovedUptoRow : OpenClaim := { program := "ytkciiamllegclaa", sum := "5d92f950591cb79ccd6a9a66e6ec0ace53fae1a7545153ceff1517ef61334689", func := "knapsack/knapsacklaw17.BlockMoved", spec := "blockMoved", unfollowed := true, recurses := true, apart := false, narrowed := true }
def BlockMovedUptoSaid : Prop := blockMovedUptoRow.holds Try.pinned (OpenSpec.upto blockMovedSpec)

/-- 'knapsacklaw17.BlockLayouts', WHERE WHAT IT READS IS OF BULK AT MOST 1048576: true; the input reads as it did. -/
def blockLayoutsUptoRow : OpenClaim := { program := "ytkciiamllegclaa", sum := "5d92f950591cb79ccd6a9a66e6ec0ace53fae1a7545153ceff1517ef61334689", func := "knapsack/knapsacklaw17.BlockLayouts", spec := "blockLayouts", unfollowed := true, recurses := true, apart := false, narrowed := true }
def BlockLayoutsUptoSaid : Prop := blockLayoutsUptoRow.holds Try.pinned (OpenSpec.upto blockLayoutsSpec)

/-- 'knapsacklaw17.BlockWraps', WHERE WHAT IT READS IS OF BULK AT MOST 1048576: true; the input reads as it did. -/
def blockWrapsUptoRow : OpenClaim := { program := "ytkciiamllegclaa", sum := "5d92f950591cb79ccd6a9a66e6ec0ace53fae1a7545153ceff1517ef61334689", func := "knapsack/knapsacklaw17.BlockWraps", spec := "blockWraps", unfollowed := true, recurses := true, apart := false, narrowed := true }
def BlockWrapsUptoSaid : Prop := blockWrapsUptoRow.holds Try.pinned (OpenSpec.upto blockWrapsSpec)

/-- 'knapsacklaw17.BlockWithin', WHERE WHAT IT READS IS OF BULK AT MOST 1048576: true; the input reads as it did. -/
def blockWithinUptoRow : OpenClaim := { program := "ytkciiamllegclaa", sum := "5d92f950591cb79ccd6a9a66e6ec0ace53fae1a7545153ceff1517ef61334689", func := "knapsack/knapsacklaw17.BlockWithin", spec := "blockWithin", unfollowed := true, recurses := true, apart := false, narrowed := true }
def BlockWithinUptoSaid : Prop := blockWithinUptoRow.holds Try.pinned (OpenSpec.upto blockWithinSpec)

/-- 'knapsacklaw17.BlockWidths', WHERE WHAT IT READS IS OF BULK AT MOST 1048576: true; the input reads as it did. -/
def blockWidthsUptoRow : OpenClaim := { program := "ytkciiamllegclaa", sum := "5d92f950591cb79ccd6a9a66e6ec0ace53fae1a7545153ceff1517ef61334689", func := "knapsack/knapsacklaw17.BlockWidths", spec := "blockWidths", unfollowed := true, recurses := true, apart := false, narrowed := true }
def BlockWidthsUptoSaid : Prop := blockWidthsUptoRow.holds Try.pinned (OpenSpec.upto blockWidthsSpec)

end Rows
end Go.Proofs.Ytkciiamllegclaa
