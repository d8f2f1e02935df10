/-
  NARROWER THAN 'FOR EVERY INPUT', by the rows' own cells (each row's printed sentence says how): InlineBreak: loops.
  DERIVED. THE GIVEN ROWS OF THIS SEAT. 4 by the template 'for every input the law returns true; each argument reads behind the call as it read before'; 0 by the template 'total and deterministic' (their statements: YtnpmlepplfaijaaTotals.lean).
  GIVEN WITH THE SEED: the statements are not yours to turn. If you find one false, say at which input.
  Laid BY PROGRAM, IN A SANDBOX (cutbox-rows.mjs): the forced cells as the released guide's own fill.sh prints them over the translation cdab1f4f1166b64d… (all of the seat's roots in one cut). By AI agents, Wed Nov 11 2026. No macro, syntax, notation, axiom, sorry.
-/
import Derived.Test.YtnpmlepplfaijaaChecked
import GoSem.Claim
import GoSem.ClaimJoined
import GoSem.ClaimMapViews
import Derived.JoinedTies
import Derived.KernelRfl
namespace Go.Proofs.Ytnpmlepplfaijaa
/- THE CELL 'sum', in the pinned program and in every row, IS THE sha256 OF THE DUMP (.gsa) THAT YtnpmlepplfaijaaProg.lean LOADS. Nothing in Lean hashes anything: it is a label: what it is worth is what the hold of that sum in a sandbox is worth. -/
noncomputable def Try.pinned : Pinned := { name := "ytnpmlepplfaijaa", sum := "cdab1f4f1166b64d53f7554857ff10b4deaad237b31c94a97707fa402321311f", checked := Try.checked }
namespace Rows
def none {H : Type} : Left H := { results := [], args := [] }

/-- 'knapsacklaw18.InlineStyles': WHATEVER THE INPUT: true; the input reads as it did. -/
def inlineStylesSpec : ChangeSpec := { name := "inlineStyles", fn := fun _ => fun
  | [d1, d2, d3] => { results := [.lit (.bool true)], args := [d1, d2, d3] }
  | _ => none }
def inlineStylesRow : OpenClaim := { program := "ytnpmlepplfaijaa", sum := "cdab1f4f1166b64d53f7554857ff10b4deaad237b31c94a97707fa402321311f", func := "knapsack/knapsacklaw18.InlineStyles", spec := "inlineStyles", inPlace := ["internal/abi.NoEscape"], unfollowed := true, recurses := true, apart := false }
def InlineStylesSaid : Prop := inlineStylesRow.holds Try.pinned (OpenSpec.ofChange inlineStylesSpec)

/-- ITS FALSE NEIGHBOUR: 'it returns false'. Refute it at one input. -/
def inlineStylesWrong : ChangeSpec := { name := "inlineStyles", fn := fun _ => fun
  | [d1, d2, d3] => { results := [.lit (.bool false)], args := [d1, d2, d3] }
  | _ => none }
def InlineStylesWrongFalsely : Prop := inlineStylesRow.holds Try.pinned (OpenSpec.ofChange inlineStylesWrong)

/-- 'knapsacklaw18.InlineBreak': WHATEVER THE INPUT: true; the input reads as it did. -/
def inlineBreakSpec : ChangeSpec := { name := "inlineBreak", fn := fun _ => fun
  | [d1, d2] => { results := [.lit (.bool true)], args := [d1, d2] }
  | _ => none }
def inlineBreakRow : OpenClaim := { program := "ytnpmlepplfaijaa", sum := "cdab1f4f1166b64d53f7554857ff10b4deaad237b31c94a97707fa402321311f", func := "knapsack/knapsacklaw18.InlineBreak", spec := "inlineBreak", inPlace := ["internal/abi.NoEscape"], unfollowed := true, recurses := true, loops := true, apart := false }
def InlineBreakSaid : Prop := inlineBreakRow.holds Try.pinned (OpenSpec.ofChange inlineBreakSpec)

/-- ITS FALSE NEIGHBOUR: 'it returns false'. Refute it at one input. -/
def inlineBreakWrong : ChangeSpec := { name := "inlineBreak", fn := fun _ => fun
  | [d1, d2] => { results := [.lit (.bool false)], args := [d1, d2] }
  | _ => none }
def InlineBreakWrongFalsely : Prop := inlineBreakRow.holds Try.pinned (OpenSpec.ofChange inlineBreakWrong)

/-- 'knapsacklaw18.InlineText': WHATEVER THE INPUT: true; the input reads as it did. -/
def inlineTextSpec : ChangeSpec := { name := "inlineText", fn := fun _ => fun
  | [d1, d2] => { results := [.lit (.bool true)], args := [d1, d2] }
  | _ => none }
def inlineTextRow : OpenClaim := { program := "ytnpmlepplfaijaa", sum := "cdab1f4f1166b64d53f7554857ff10b4deaad237b31c94a97707fa402321311f", func := "knapsack/knapsacklaw18.InlineText", spec := "inlineText", inPlace := ["internal/abi.NoEscape"], unfollowed := true, recurses := true, apart := false }
def InlineTextSaid : Prop := inlineTextRow.holds Try.pinned (OpenSpec.ofChange inlineTextSpec)

/-- ITS FALSE NEIGHBOUR: 'it returns false'. Refute it at one input. -/
def inlineTextWrong : ChangeSpec := { name := "inlineText", fn := fun _ => fun
  | [d1, d2] => { results := [.lit (.bool false)], args := [d1, d2] }
  | _ => none }
def InlineTextWrongFalsely : Prop := inlineTextRow.holds Try.pinned (OpenSpec.ofChange inlineTextWrong)

/-- 'knapsacklaw18.InlineFits': WHATEVER THE INPUT: true; the input reads as it did. -/
def inlineFitsSpec : ChangeSpec := { name := "inlineFits", fn := fun _ => fun
  | [d1, d2] => { results := [.lit (.bool true)], args := [d1, d2] }
  | _ => none }
def inlineFitsRow : OpenClaim := { program := "ytnpmlepplfaijaa", sum := "cdab1f4f1166b64d53f7554857ff10b4deaad237b31c94a97707fa402321311f", func := "knapsack/knapsacklaw18.InlineFits", spec := "inlineFits", inPlace := ["internal/abi.NoEscape"], unfollowed := true, recurses := true, apart := false }
def InlineFitsSaid : Prop := inlineFitsRow.holds Try.pinned (OpenSpec.ofChange inlineFitsSpec)

/-- ITS FALSE NEIGHBOUR: 'it returns false'. Refute it at one input. -/
def inlineFitsWrong : ChangeSpec := { name := "inlineFits", fn := fun _ => fun
  | [d1, d2] => { results := [.lit (.bool false)], args := [d1, d2] }
  | _ => none }
def InlineFitsWrongFalsely : Prop := inlineFitsRow.holds Try.pinned (OpenSpec.ofChange inlineFitsWrong)

/- THE SECOND FORM. 'bulk': how many values and letters a reading holds, each counted each time it is reached (what is shared counts as often as it is met; a slice's spare places count too). A statement '..UptoSaid' is the law's where the arguments, and the package variables that the reading takes, are together of bulk at most 1048576: NARROWER than '..Said'. Prove '..Said' where nothing that the law and all that it calls make is longer than what came in: it says more and counts as full. Else prove '..UptoSaid'. A law counts once. -/
mutual
def uptoBulk {H : Type} : DataW H → Nat
  | .lit (.string bytes) => bytes.length + 1
  | .lit _ => 1
  | .nil => 1
  | .ptr d => uptoBulk d + 1
  | .slice elems spare => uptoBulkAll elems + uptoBulkAll spare + 1
  | .agg parts => uptoBulkAll parts + 1
  | .iface _ d => uptoBulk d + 1
  | .map entries => uptoBulkEntries entries + 1
  | .held _ => 1
def uptoBulkAll {H : Type} : List (DataW H) → Nat
  | [] => 0
  | d :: r => uptoBulk d + uptoBulkAll r
def uptoBulkEntries {H : Type} : List (Lit × DataW H) → Nat
  | [] => 0
  | x :: r => uptoBulkEntry x + uptoBulkEntries r
def uptoBulkEntry {H : Type} : Lit × DataW H → Nat
  | (.string bytes, d) => bytes.length + uptoBulk d + 1
  | (_, d) => uptoBulk d + 1
 end
def uptoSmall : (H : Type) → List (DataW H) → Bool := fun _ ds => decide (uptoBulkAll ds ≤ 1048576)
def OpenSpec.upto (s : _root_.Go.ChangeSpec) : _root_.Go.OpenSpec := { _root_.Go.OpenSpec.ofChange s with cond := some uptoSmall }

/-- 'knapsacklaw18.InlineStyles', WHERE WHAT IT READS IS OF BULK AT MOST 1048576: true; the input reads as it did. -/
def inlineStylesUptoRow : OpenClaim := { program := "ytnpmlepplfaijaa", sum := "cdab1f4f1166b64d53f7554857ff10b4deaad237b31c94a97707fa402321311f", func := "knapsack/knapsacklaw18.InlineStyles", spec := "inlineStyles", inPlace := ["internal/abi.NoEscape"], unfollowed := true, recurses := true, apart := false, narrowed := true }
def InlineStylesUptoSaid : Prop := inlineStylesUptoRow.holds Try.pinned (OpenSpec.upto inlineStylesSpec)

/-- 'knapsacklaw18.InlineBreak', WHERE WHAT IT READS IS OF BULK AT MOST 1048576: true; the input reads as it did. -/
def inlineBreakUptoRow : OpenClaim := { program := "ytnpmlepplfaijaa", sum := "cdab1f4f1166b64d53f7554857ff10b4deaad237b31c94a97707fa402321311f", func := "knapsack/knapsacklaw18.InlineBreak", spec := "inlineBreak", inPlace := ["internal/abi.NoEscape"], unfollowed := true, recurses := true, loops := true, apart := false, narrowed := true }
def InlineBreakUptoSaid : Prop := inlineBreakUptoRow.holds Try.pinned (OpenSpec.upto inlineBreakSpec)

/-- 'knapsacklaw18.InlineText', WHERE WHAT IT READS IS OF BULK AT MOST 1048576: true; the input reads as it did. -/
def inlineTextUptoRow : OpenClaim := { program := "ytnpmlepplfaijaa", sum := "cdab1f4f1166b64d53f7554857ff10b4deaad237b31c94a97707fa402321311f", func := "knapsack/knapsacklaw18.InlineText", spec := "inlineText", inPlace := ["internal/abi.NoEscape"], unfollowed := true, recurses := true, apart := false, narrowed := true }
def InlineTextUptoSaid : Prop := inlineTextUptoRow.holds Try.pinned (OpenSpec.upto inlineTextSpec)

/-- 'knapsacklaw18.InlineFits', WHERE WHAT IT READS IS OF BULK AT MOST 1048576: true; the input reads as it did. -/
def inlineFitsUptoRow : OpenClaim := { program := "ytnpmlepplfaijaa", sum := "cdab1f4f1166b64d53f7554857ff10b4deaad237b31c94a97707fa402321311f", func := "knapsack/knapsacklaw18.InlineFits", spec := "inlineFits", inPlace := ["internal/abi.NoEscape"], unfollowed := true, recurses := true, apart := false, narrowed := true }
def InlineFitsUptoSaid : Prop := inlineFitsUptoRow.holds Try.pinned (OpenSpec.upto inlineFitsSpec)

end Rows
end Go.Proofs.Ytnpmlepplfaijaa
