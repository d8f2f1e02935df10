/-
  No cell of these rows narrows 'for every input' (looked for: loops, veiled, ifaces, maps, wideKeys, modest, calm, conditions, laid).
  DERIVED. THE GIVEN ROWS OF THIS SEAT. 9 by the template 'for every input the law returns true; each argument reads behind the call as it read before'; 0 by the template 'total and deterministic' (their statements: YtlpndemhnpajiaaTotals.lean).
  GIVEN WITH THE SEED: the statements are not yours to turn. If you find one false, say at which input.
  Laid BY PROGRAM, IN A SANDBOX (cutbox-rows.mjs): the forced cells as the released guide's own fill.sh prints them over the translation 3effdc80d9bcf7a2… (all of the seat's roots in one cut). By AI agents, Wed Nov 11 2026. No macro, syntax, notation, axiom, sorry.
-/
import Derived.Test.YtlpndemhnpajiaaChecked
import GoSem.Claim
import GoSem.ClaimJoined
import GoSem.ClaimMapViews
import Derived.JoinedTies
import Derived.KernelRfl
namespace Go.Proofs.Ytlpndemhnpajiaa
/- THE CELL 'sum', in the pinned program and in every row, IS THE sha256 OF THE DUMP (.gsa) THAT YtlpndemhnpajiaaProg.lean LOADS. Nothing in Lean hashes anything: it is a label: what it is worth is what the hold of that sum in a sandbox is worth. -/
noncomputable def Try.pinned : Pinned := { name := "ytlpndemhnpajiaa", sum := "3effdc80d9bcf7a2ceaf6a2a27014781d1262fe302c72b6a7151b31f950ea9b8", checked := Try.checked }
namespace Rows
def none {H : Type} : Left H := { results := [], args := [] }

/-- 'knapsacklaw19.FlexShare': WHATEVER THE INPUT: true; the input reads as it did. -/
def flexShareSpec : ChangeSpec := { name := "flexShare", fn := fun _ => fun
  | [d1, d2] => { results := [.lit (.bool true)], args := [d1, d2] }
  | _ => none }
def flexShareRow : OpenClaim := { program := "ytlpndemhnpajiaa", sum := "3effdc80d9bcf7a2ceaf6a2a27014781d1262fe302c72b6a7151b31f950ea9b8", func := "knapsack/knapsacklaw19.FlexShare", spec := "flexShare", unfollowed := true, recurses := true, apart := false }
def FlexShareSaid : Prop := flexShareRow.holds Try.pinned (OpenSpec.ofChange flexShareSpec)

/-- ITS FALSE NEIGHBOUR: 'it returns false'. Refute it at one input. -/
def flexShareWrong : ChangeSpec := { name := "flexShare", fn := fun _ => fun
  | [d1, d2] => { results := [.lit (.bool false)], args := [d1, d2] }
  | _ => none }
def FlexShareWrongFalsely : Prop := flexShareRow.holds Try.pinned (OpenSpec.ofChange flexShareWrong)

/-- 'knapsacklaw19.FlexParts': WHATEVER THE INPUT: true; the input reads as it did. -/
def flexPartsSpec : ChangeSpec := { name := "flexParts", fn := fun _ => fun
  | [d1, d2] => { results := [.lit (.bool true)], args := [d1, d2] }
  | _ => none }
def flexPartsRow : OpenClaim := { program := "ytlpndemhnpajiaa", sum := "3effdc80d9bcf7a2ceaf6a2a27014781d1262fe302c72b6a7151b31f950ea9b8", func := "knapsack/knapsacklaw19.FlexParts", spec := "flexParts", unfollowed := true, recurses := true, apart := false }
def FlexPartsSaid : Prop := flexPartsRow.holds Try.pinned (OpenSpec.ofChange flexPartsSpec)

/-- ITS FALSE NEIGHBOUR: 'it returns false'. Refute it at one input. -/
def flexPartsWrong : ChangeSpec := { name := "flexParts", fn := fun _ => fun
  | [d1, d2] => { results := [.lit (.bool false)], args := [d1, d2] }
  | _ => none }
def FlexPartsWrongFalsely : Prop := flexPartsRow.holds Try.pinned (OpenSpec.ofChange flexPartsWrong)

/-- 'knapsacklaw19.FlexResolve': WHATEVER THE INPUT: true; the input reads as it did. -/
def flexResolveSpec : ChangeSpec := { name := "flexResolve", fn := fun _ => fun
  | [d1, d2] => { results := [.lit (.bool true)], args := [d1, d2] }
  | _ => none }
def flexResolveRow : OpenClaim := { program := "ytlpndemhnpajiaa", sum := "3effdc80d9bcf7a2ceaf6a2a27014781d1262fe302c72b6a7151b31f950ea9b8", func := "knapsack/knapsacklaw19.FlexResolve", spec := "flexResolve", unfollowed := true, recurses := true, apart := false }
def FlexResolveSaid : Prop := flexResolveRow.holds Try.pinned (OpenSpec.ofChange flexResolveSpec)

/-- ITS FALSE NEIGHBOUR: 'it returns false'. Refute it at one input. -/
def flexResolveWrong : ChangeSpec := { name := "flexResolve", fn := fun _ => fun
  | [d1, d2] => { results := [.lit (.bool false)], args := [d1, d2] }
  | _ => none }
def FlexResolveWrongFalsely : Prop := flexResolveRow.holds Try.pinned (OpenSpec.ofChange flexResolveWrong)

/-- 'knapsacklaw19.FlexFills': WHATEVER THE INPUT: true; the input reads as it did. -/
def flexFillsSpec : ChangeSpec := { name := "flexFills", fn := fun _ => fun
  | [d1, d2, d3] => { results := [.lit (.bool true)], args := [d1, d2, d3] }
  | _ => none }
def flexFillsRow : OpenClaim := { program := "ytlpndemhnpajiaa", sum := "3effdc80d9bcf7a2ceaf6a2a27014781d1262fe302c72b6a7151b31f950ea9b8", func := "knapsack/knapsacklaw19.FlexFills", spec := "flexFills", unfollowed := true, recurses := true, apart := false }
def FlexFillsSaid : Prop := flexFillsRow.holds Try.pinned (OpenSpec.ofChange flexFillsSpec)

/-- ITS FALSE NEIGHBOUR: 'it returns false'. Refute it at one input. -/
def flexFillsWrong : ChangeSpec := { name := "flexFills", fn := fun _ => fun
  | [d1, d2, d3] => { results := [.lit (.bool false)], args := [d1, d2, d3] }
  | _ => none }
def FlexFillsWrongFalsely : Prop := flexFillsRow.holds Try.pinned (OpenSpec.ofChange flexFillsWrong)

/-- 'knapsacklaw19.FlexLimits': WHATEVER THE INPUT: true; the input reads as it did. -/
def flexLimitsSpec : ChangeSpec := { name := "flexLimits", fn := fun _ => fun
  | [d1, d2] => { results := [.lit (.bool true)], args := [d1, d2] }
  | _ => none }
def flexLimitsRow : OpenClaim := { program := "ytlpndemhnpajiaa", sum := "3effdc80d9bcf7a2ceaf6a2a27014781d1262fe302c72b6a7151b31f950ea9b8", func := "knapsack/knapsacklaw19.FlexLimits", spec := "flexLimits", unfollowed := true, recurses := true, apart := false }
def FlexLimitsSaid : Prop := flexLimitsRow.holds Try.pinned (OpenSpec.ofChange flexLimitsSpec)

/-- ITS FALSE NEIGHBOUR: 'it returns false'. Refute it at one input. -/
def flexLimitsWrong : ChangeSpec := { name := "flexLimits", fn := fun _ => fun
  | [d1, d2] => { results := [.lit (.bool false)], args := [d1, d2] }
  | _ => none }
def FlexLimitsWrongFalsely : Prop := flexLimitsRow.holds Try.pinned (OpenSpec.ofChange flexLimitsWrong)

/-- 'knapsacklaw19.FlexWrap': WHATEVER THE INPUT: true; the input reads as it did. -/
def flexWrapSpec : ChangeSpec := { name := "flexWrap", fn := fun _ => fun
  | [d1, d2] => { results := [.lit (.bool true)], args := [d1, d2] }
  | _ => none }
def flexWrapRow : OpenClaim := { program := "ytlpndemhnpajiaa", sum := "3effdc80d9bcf7a2ceaf6a2a27014781d1262fe302c72b6a7151b31f950ea9b8", func := "knapsack/knapsacklaw19.FlexWrap", spec := "flexWrap", unfollowed := true, recurses := true, apart := false }
def FlexWrapSaid : Prop := flexWrapRow.holds Try.pinned (OpenSpec.ofChange flexWrapSpec)

/-- ITS FALSE NEIGHBOUR: 'it returns false'. Refute it at one input. -/
def flexWrapWrong : ChangeSpec := { name := "flexWrap", fn := fun _ => fun
  | [d1, d2] => { results := [.lit (.bool false)], args := [d1, d2] }
  | _ => none }
def FlexWrapWrongFalsely : Prop := flexWrapRow.holds Try.pinned (OpenSpec.ofChange flexWrapWrong)

/-- 'knapsacklaw19.FlexOrder': WHATEVER THE INPUT: true; the input reads as it did. -/
def flexOrderSpec : ChangeSpec := { name := "flexOrder", fn := fun _ => fun
  | [d] => { results := [.lit (.bool true)], args := [d] }
  | _ => none }
def flexOrderRow : OpenClaim := { program := "ytlpndemhnpajiaa", sum := "3effdc80d9bcf7a2ceaf6a2a27014781d1262fe302c72b6a7151b31f950ea9b8", func := "knapsack/knapsacklaw19.FlexOrder", spec := "flexOrder", unfollowed := true, recurses := true, apart := false }
def FlexOrderSaid : Prop := flexOrderRow.holds Try.pinned (OpenSpec.ofChange flexOrderSpec)

/-- ITS FALSE NEIGHBOUR: 'it returns false'. Refute it at one input. -/
def flexOrderWrong : ChangeSpec := { name := "flexOrder", fn := fun _ => fun
  | [d] => { results := [.lit (.bool false)], args := [d] }
  | _ => none }
def FlexOrderWrongFalsely : Prop := flexOrderRow.holds Try.pinned (OpenSpec.ofChange flexOrderWrong)

/-- 'knapsacklaw19.FlexWidths': WHATEVER THE INPUT: true; the input reads as it did. -/
def flexWidthsSpec : ChangeSpec := { name := "flexWidths", fn := fun _ => fun
  | [d] => { results := [.lit (.bool true)], args := [d] }
  | _ => none }
def flexWidthsRow : OpenClaim := { program := "ytlpndemhnpajiaa", sum := "3effdc80d9bcf7a2ceaf6a2a27014781d1262fe302c72b6a7151b31f950ea9b8", func := "knapsack/knapsacklaw19.FlexWidths", spec := "flexWidths", unfollowed := true, recurses := true, apart := false }
def FlexWidthsSaid : Prop := flexWidthsRow.holds Try.pinned (OpenSpec.ofChange flexWidthsSpec)

/-- ITS FALSE NEIGHBOUR: 'it returns false'. Refute it at one input. -/
def flexWidthsWrong : ChangeSpec := { name := "flexWidths", fn := fun _ => fun
  | [d] => { results := [.lit (.bool false)], args := [d] }
  | _ => none }
def FlexWidthsWrongFalsely : Prop := flexWidthsRow.holds Try.pinned (OpenSpec.ofChange flexWidthsWrong)

/-- 'knapsacklaw19.FlexLayouts': WHATEVER THE INPUT: true; the input reads as it did. -/
def flexLayoutsSpec : ChangeSpec := { name := "flexLayouts", fn := fun _ => fun
  | [d1, d2] => { results := [.lit (.bool true)], args := [d1, d2] }
  | _ => none }
def flexLayoutsRow : OpenClaim := { program := "ytlpndemhnpajiaa", sum := "3effdc80d9bcf7a2ceaf6a2a27014781d1262fe302c72b6a7151b31f950ea9b8", func := "knapsack/knapsacklaw19.FlexLayouts", spec := "flexLayouts", unfollowed := true, recurses := true, apart := false }
def FlexLayoutsSaid : Prop := flexLayoutsRow.holds Try.pinned (OpenSpec.ofChange flexLayoutsSpec)

/-- ITS FALSE NEIGHBOUR: 'it returns false'. Refute it at one input. -/
def flexLayoutsWrong : ChangeSpec := { name := "flexLayouts", fn := fun _ => fun
  | [d1, d2] => { results := [.lit (.bool false)], args := [d1, d2] }
  | _ => none }
def FlexLayoutsWrongFalsely : Prop := flexLayoutsRow.holds Try.pinned (OpenSpec.ofChange flexLayoutsWrong)

/- THE SECOND FORM. 'bulk': how many values and letters a reading holds, each counted each time it is reached (what is shared counts as often as it is met; a slice's spare places count too). A statement '..UptoSaid' is the law's where the arguments, and the package variables that the reading takes, are together of bulk at most 1048576: NARROWER than '..Said'. Prove '..Said' where nothing that the law and all that it calls make is longer than what came in: it says more and counts as full. Else prove '..UptoSaid'. A law counts once. -/
mutual
def uptoBulk {H : Type} : DataW H → Nat
  | .lit (.string bytes) => bytes.length + 1
  | .lit _ => 1
  | .nil => 1
  | .ptr d => uptoBulk d + 1
  | .slice elems spare => uptoBulkAll elems + uptoBulkAll spare + 1
  | .agg parts => uptoBulkAll parts + 1
  | .iface _ d => uptoBulk d + 1
  | .map entries => uptoBulkEntries entries + 1
  | .held _ => 1
def uptoBulkAll {H : Type} : List (DataW H) → Nat
  | [] => 0
  | d :: r => uptoBulk d + uptoBulkAll r
def uptoBulkEntries {H : Type} : List (Lit × DataW H) → Nat
  | [] => 0
  | x :: r => uptoBulkEntry x + uptoBulkEntries r
def uptoBulkEntry {H : Type} : Lit × DataW H → Nat
  | (.string bytes, d) => bytes.length + uptoBulk d + 1
  | (_, d) => uptoBulk d + 1
 end
def uptoSmall : (H : Type) → List (DataW H) → Bool := fun _ ds => decide (uptoBulkAll ds ≤ 1048576)
def OpenSpec.upto (s : _root_.Go.ChangeSpec) : _root_.Go.OpenSpec := { _root_.Go.OpenSpec.ofChange s with cond := some uptoSmall }

/-- 'knapsacklaw19.FlexShare', WHERE WHAT IT READS IS OF BULK AT MOST 1048576: true; the input reads as it did. -/
def flexShareUptoRow : OpenClaim := { program := "ytlpndemhnpajiaa", sum := "3effdc80d9bcf7a2ceaf6a2a27014781d1262fe302c72b6a7151b31f950ea9b8", func := "knapsack/knapsacklaw19.FlexShare", spec := "flexShare", unfollowed := true, recurses := true, apart := false, narrowed := true }
def FlexShareUptoSaid : Prop := flexShareUptoRow.holds Try.pinned (OpenSpec.upto flexShareSpec)

/-- 'knapsacklaw19.FlexParts', WHERE WHAT IT READS IS OF BULK AT MOST 1048576: true; the input reads as it did. -/
def flexPartsUptoRow : OpenClaim := { program := "ytlpndemhnpajiaa", sum := "3effdc80d9bcf7a2ceaf6a2a27014781d1262fe302c72b6a7151b31f950ea9b8", func := "knapsack/knapsacklaw19.FlexParts", spec := "flexParts", unfollowed := true, recurses := true, apart := false, narrowed := true }
def FlexPartsUptoSaid : Prop := flexPartsUptoRow.holds Try.pinned (OpenSpec.upto flexPartsSpec)

/-- 'knapsacklaw19.FlexResolve', WHERE WHAT IT READS IS OF BULK AT MOST 1048576: true; the input reads as it did. -/
def flexResolveUptoRow : OpenClaim := { program := "ytlpndemhnpajiaa", sum := "3effdc80d9bcf7a2ceaf6a2a27014781d1262fe302c72b6a7151b31f950ea9b8", func := "knapsack/knapsacklaw19.FlexResolve", spec := "flexResolve", unfollowed := true, recurses := true, apart := false, narrowed := true }
def FlexResolveUptoSaid : Prop := flexResolveUptoRow.holds Try.pinned (OpenSpec.upto flexResolveSpec)

/-- 'knapsacklaw19.FlexFills', WHERE WHAT IT READS IS OF BULK AT MOST 1048576: true; the input reads as it did. -/
def flexFillsUptoRow : OpenClaim := { program := "ytlpndemhnpajiaa", sum := "3effdc80d9bcf7a2ceaf6a2a27014781d1262fe302c72b6a7151b31f950ea9b8", func := "knapsack/knapsacklaw19.FlexFills", spec := "flexFills", unfollowed := true, recurses := true, apart := false, narrowed := true }
def FlexFillsUptoSaid : Prop := flexFillsUptoRow.holds Try.pinned (OpenSpec.upto flexFillsSpec)

/-- 'knapsacklaw19.FlexLimits', WHERE WHAT IT READS IS OF BULK AT MOST 1048576: true; the input reads as it did. -/
def flexLimitsUptoRow : OpenClaim := { program := "ytlpndemhnpajiaa", sum := "3effdc80d9bcf7a2ceaf6a2a27014781d1262fe302c72b6a7151b31f950ea9b8", func := "knapsack/knapsacklaw19.FlexLimits", spec := "flexLimits", unfollowed := true, recurses := true, apart := false, narrowed := true }
def FlexLimitsUptoSaid : Prop := flexLimitsUptoRow.holds Try.pinned (OpenSpec.upto flexLimitsSpec)

/-- 'knapsacklaw19.FlexWrap', WHERE WHAT IT READS IS OF BULK AT MOST 1048576: true; the input reads as it did. -/
def flexWrapUptoRow : OpenClaim := { program := "ytlpndemhnpajiaa", sum := "3effdc80d9bcf7a2ceaf6a2a27014781d1262fe302c72b6a7151b31f950ea9b8", func := "knapsack/knapsacklaw19.FlexWrap", spec := "flexWrap", unfollowed := true, recurses := true, apart := false, narrowed := true }
def FlexWrapUptoSaid : Prop := flexWrapUptoRow.holds Try.pinned (OpenSpec.upto flexWrapSpec)

/-- 'knapsacklaw19.FlexOrder', WHERE WHAT IT READS IS OF BULK AT MOST 1048576: true; the input reads as it did. -/
def flexOrderUptoRow : OpenClaim := { program := "ytlpndemhnpajiaa", sum := "3effdc80d9bcf7a2ceaf6a2a27014781d1262fe302c72b6a7151b31f950ea9b8", func := "knapsack/knapsacklaw19.FlexOrder", spec := "flexOrder", unfollowed := true, recurses := true, apart := false, narrowed := true }
def FlexOrderUptoSaid : Prop := flexOrderUptoRow.holds Try.pinned (OpenSpec.upto flexOrderSpec)

/-- 'knapsacklaw19.FlexWidths', WHERE WHAT IT READS IS OF BULK AT MOST 1048576: true; the input reads as it did. -/
def flexWidthsUptoRow : OpenClaim := { program := "ytlpndemhnpajiaa", sum := "3effdc80d9bcf7a2ceaf6a2a27014781d1262fe302c72b6a7151b31f950ea9b8", func := "knapsack/knapsacklaw19.FlexWidths", spec := "flexWidths", unfollowed := true, recurses := true, apart := false, narrowed := true }
def FlexWidthsUptoSaid : Prop := flexWidthsUptoRow.holds Try.pinned (OpenSpec.upto flexWidthsSpec)

/-- 'knapsacklaw19.FlexLayouts', WHERE WHAT IT READS IS OF BULK AT MOST 1048576: true; the input reads as it did. -/
def flexLayoutsUptoRow : OpenClaim := { program := "ytlpndemhnpajiaa", sum := "3effdc80d9bcf7a2ceaf6a2a27014781d1262fe302c72b6a7151b31f950ea9b8", func := "knapsack/knapsacklaw19.FlexLayouts", spec := "flexLayouts", unfollowed := true, recurses := true, apart := false, narrowed := true }
def FlexLayoutsUptoSaid : Prop := flexLayoutsUptoRow.holds Try.pinned (OpenSpec.upto flexLayoutsSpec)

end Rows
end Go.Proofs.Ytlpndemhnpajiaa
