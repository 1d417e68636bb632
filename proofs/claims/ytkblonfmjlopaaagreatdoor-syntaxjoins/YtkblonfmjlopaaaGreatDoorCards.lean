/-
  DERIVED. GIVEN WITH THE SEED: THE CARDS: each row of YtkblonfmjlopaaaGreatDoorRows.lean that lists a variable, with what it lists TIED to the program's text (the seventh form; the later family's looks); each row that meets fmt, with fmt's text TOLD by the authors' own Lean function (tested against real Go, not proved from fmt's source: count such statements apart). THE CARD IS WHAT COUNTS. Prove the row's statement (the work); the ties are given (YtkblonfmjlopaaaGreatDoorTie.lean); close each card by the builder's one call (the guide's Derived/Test/ToyasCard.lean, 'card_holds'). Laid BY PROGRAM, IN A SANDBOX (cutbox-door.mjs). By AI agents, Wed Nov 11 2026. No macro, syntax, notation, axiom, sorry.
-/
import Derived.Test.YtkblonfmjlopaaaGreatDoorRows
import GoSem.ClaimSeven
namespace Go.Proofs.YtkblonfmjlopaaaGreatDoor
namespace Rows

/-- THE TIED CARD OF 'smithylaw04.SyntaxJoins'. -/
def syntaxJoinsCard : Claim7 := { stood := { row := syntaxJoinsRow, standIns := [], harness := (true, "13a4ba413e355957ed9815e8420132e0def9b19f295197f8b28d3edc3e7d1680"), looks := true }, kinds := [], alts := [], laidByText := true, laidKinds := [.data, .data, .widerDeep, .widerDeep, .data, .data, .data, .data, .data, .data, .sentinel, .sentinel, .listed, .data, .pinned, .pinned, .pinned], laidTests := true, laidLooks := .later }
def SyntaxJoinsCardSaid : Prop := Claim7.holds Tryz.pinned (.plain (OpenSpec.ofChange syntaxJoinsSpec)) syntaxJoinsCard

/-- THE TIED CARD OF 'smithylaw04.SyntaxDepth'. -/
def syntaxDepthCard : Claim7 := { stood := { row := syntaxDepthRow, standIns := [], harness := (true, "13a4ba413e355957ed9815e8420132e0def9b19f295197f8b28d3edc3e7d1680"), looks := true }, kinds := [], alts := [], laidByText := true, laidKinds := [.data, .data, .widerDeep, .widerDeep, .data, .data, .data, .data, .data, .data, .sentinel, .sentinel, .listed, .data, .pinned, .pinned, .pinned], laidTests := true, laidLooks := .later }
def SyntaxDepthCardSaid : Prop := Claim7.holds Tryz.pinned (.plain (OpenSpec.ofChange syntaxDepthSpec)) syntaxDepthCard

/-- THE SECOND FORM's CARD OF 'smithylaw04.SyntaxJoins'. -/
def syntaxJoinsUptoCard : Claim7 := { stood := { row := syntaxJoinsUptoRow, standIns := [], harness := (true, "13a4ba413e355957ed9815e8420132e0def9b19f295197f8b28d3edc3e7d1680"), looks := true }, kinds := [], alts := [], laidByText := true, laidKinds := [.data, .data, .widerDeep, .widerDeep, .data, .data, .data, .data, .data, .data, .sentinel, .sentinel, .listed, .data, .pinned, .pinned, .pinned], laidTests := true, laidLooks := .later }
def SyntaxJoinsUptoCardSaid : Prop := Claim7.holds Tryz.pinned (.plain (OpenSpec.upto syntaxJoinsSpec)) syntaxJoinsUptoCard

/-- THE SECOND FORM's CARD OF 'smithylaw04.SyntaxDepth'. -/
def syntaxDepthUptoCard : Claim7 := { stood := { row := syntaxDepthUptoRow, standIns := [], harness := (true, "13a4ba413e355957ed9815e8420132e0def9b19f295197f8b28d3edc3e7d1680"), looks := true }, kinds := [], alts := [], laidByText := true, laidKinds := [.data, .data, .widerDeep, .widerDeep, .data, .data, .data, .data, .data, .data, .sentinel, .sentinel, .listed, .data, .pinned, .pinned, .pinned], laidTests := true, laidLooks := .later }
def SyntaxDepthUptoCardSaid : Prop := Claim7.holds Tryz.pinned (.plain (OpenSpec.upto syntaxDepthSpec)) syntaxDepthUptoCard
end Rows
end Go.Proofs.YtkblonfmjlopaaaGreatDoor
