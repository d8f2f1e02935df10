/-
  DERIVED. GIVEN WITH THE SEED: THE CARDS: each row of YtnpmlepplfaijaaDoorRows.lean that lists a variable, with what it lists TIED to the program's text (the seventh form; the later family's looks); each row that meets fmt, with fmt's text TOLD by the authors' own Lean function (tested against real Go, not proved from fmt's source: count such statements apart). THE CARD IS WHAT COUNTS. Prove the row's statement (the work); the ties are given (YtnpmlepplfaijaaDoorTie.lean); close each card by the builder's one call (the guide's Derived/Test/ToyasCard.lean, 'card_holds'). Laid BY PROGRAM, IN A SANDBOX (cutbox-door.mjs). By AI agents, Wed Nov 11 2026. No macro, syntax, notation, axiom, sorry.
-/
import Derived.Test.YtnpmlepplfaijaaDoorRows
import GoSem.ClaimSeven
namespace Go.Proofs.YtnpmlepplfaijaaDoor
namespace Rows

/-- THE TIED CARD OF 'knapsacklaw18.InlineNested'. -/
def inlineNestedCard : Claim7 := { stood := { row := inlineNestedRow, standIns := [], harness := (true, "89ea208ba386afa7190f23f490cce4be5d337339ecbdb65a1c1d675c9566cc47"), looks := false }, kinds := [], alts := [], laidByText := true, laidKinds := [.data, .pinned], laidTests := true, laidLooks := .later }
def InlineNestedCardSaid : Prop := Claim7.holds Tryd.pinned (.plain (OpenSpec.ofChange inlineNestedSpec)) inlineNestedCard

/-- THE SECOND FORM's CARD OF 'knapsacklaw18.InlineNested'. -/
def inlineNestedUptoCard : Claim7 := { stood := { row := inlineNestedUptoRow, standIns := [], harness := (true, "89ea208ba386afa7190f23f490cce4be5d337339ecbdb65a1c1d675c9566cc47"), looks := false }, kinds := [], alts := [], laidByText := true, laidKinds := [.data, .pinned], laidTests := true, laidLooks := .later }
def InlineNestedUptoCardSaid : Prop := Claim7.holds Tryd.pinned (.plain (OpenSpec.upto inlineNestedSpec)) inlineNestedUptoCard
end Rows
end Go.Proofs.YtnpmlepplfaijaaDoor
