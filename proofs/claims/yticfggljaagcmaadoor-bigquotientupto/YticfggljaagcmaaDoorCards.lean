/-
  DERIVED. GIVEN WITH THE SEED: THE CARDS: each row of YticfggljaagcmaaDoorRows.lean that lists a variable, with what it lists TIED to the program's text (the seventh form; the later family's looks); each row that meets fmt, with fmt's text TOLD by the authors' own Lean function (tested against real Go, not proved from fmt's source: count such statements apart). THE CARD IS WHAT COUNTS. Prove the row's statement (the work); the ties are given (YticfggljaagcmaaDoorTie.lean); close each card by the builder's one call (the guide's Derived/Test/ToyasCard.lean, 'card_holds'). Laid BY PROGRAM, IN A SANDBOX (cutbox-door.mjs). By AI agents, Wed Nov 11 2026. No macro, syntax, notation, axiom, sorry.
-/
import Derived.Test.YticfggljaagcmaaDoorRows
import GoSem.ClaimSeven
namespace Go.Proofs.YticfggljaagcmaaDoor
namespace Rows

/-- THE TIED CARD OF 'smithylaw01.BigDivides'. -/
def bigDividesCard : Claim7 := { stood := { row := bigDividesRow, standIns := [], harness := (true, "5098d6ead77dd0073936c571029a35c90f1dd032ec11c714f588b6a6c69a5278"), looks := false }, kinds := [], alts := [], laidByText := true, laidKinds := [.data, .pinned], laidTests := true, laidLooks := .later }
def BigDividesCardSaid : Prop := Claim7.holds Tryd.pinned (.plain (OpenSpec.ofChange bigDividesSpec)) bigDividesCard

/-- THE TIED CARD OF 'smithylaw01.BigTexts'. -/
def bigTextsCard : Claim7 := { stood := { row := bigTextsRow, standIns := [], harness := (true, "5098d6ead77dd0073936c571029a35c90f1dd032ec11c714f588b6a6c69a5278"), looks := false }, kinds := [], alts := [], laidByText := true, laidKinds := [.data, .pinned], laidTests := true, laidLooks := .later }
def BigTextsCardSaid : Prop := Claim7.holds Tryd.pinned (.plain (OpenSpec.ofChange bigTextsSpec)) bigTextsCard

/-- THE TIED CARD OF 'smithylaw01.BigMemory'. -/
def bigMemoryCard : Claim7 := { stood := { row := bigMemoryRow, standIns := [], harness := (true, "5098d6ead77dd0073936c571029a35c90f1dd032ec11c714f588b6a6c69a5278"), looks := false }, kinds := [], alts := [], laidByText := true, laidKinds := [.data, .pinned], laidTests := true, laidLooks := .later }
def BigMemoryCardSaid : Prop := Claim7.holds Tryd.pinned (.plain (OpenSpec.ofChange bigMemorySpec)) bigMemoryCard

/-- THE TIED CARD OF 'smithylaw01.BigRing'. -/
def bigRingCard : Claim7 := { stood := { row := bigRingRow, standIns := [], harness := (true, "5098d6ead77dd0073936c571029a35c90f1dd032ec11c714f588b6a6c69a5278"), looks := false }, kinds := [], alts := [], laidByText := true, laidKinds := [.data, .pinned], laidTests := true, laidLooks := .later }
def BigRingCardSaid : Prop := Claim7.holds Tryd.pinned (.plain (OpenSpec.ofChange bigRingSpec)) bigRingCard

/-- THE TIED CARD OF 'smithylaw01.BigReckons'. -/
def bigReckonsCard : Claim7 := { stood := { row := bigReckonsRow, standIns := [], harness := (true, "5098d6ead77dd0073936c571029a35c90f1dd032ec11c714f588b6a6c69a5278"), looks := false }, kinds := [], alts := [], laidByText := true, laidKinds := [.data, .pinned], laidTests := true, laidLooks := .later }
def BigReckonsCardSaid : Prop := Claim7.holds Tryd.pinned (.plain (OpenSpec.ofChange bigReckonsSpec)) bigReckonsCard

/-- THE TIED CARD OF 'smithylaw01.BigQuotient'. -/
def bigQuotientCard : Claim7 := { stood := { row := bigQuotientRow, standIns := [], harness := (true, "5098d6ead77dd0073936c571029a35c90f1dd032ec11c714f588b6a6c69a5278"), looks := false }, kinds := [], alts := [], laidByText := true, laidKinds := [.data, .pinned], laidTests := true, laidLooks := .later }
def BigQuotientCardSaid : Prop := Claim7.holds Tryd.pinned (.plain (OpenSpec.ofChange bigQuotientSpec)) bigQuotientCard

/-- THE TIED CARD OF 'smithylaw01.BigStands'. -/
def bigStandsCard : Claim7 := { stood := { row := bigStandsRow, standIns := [], harness := (true, "5098d6ead77dd0073936c571029a35c90f1dd032ec11c714f588b6a6c69a5278"), looks := false }, kinds := [], alts := [], laidByText := true, laidKinds := [.data, .pinned], laidTests := true, laidLooks := .later }
def BigStandsCardSaid : Prop := Claim7.holds Tryd.pinned (.plain (OpenSpec.ofChange bigStandsSpec)) bigStandsCard

/-- THE SECOND FORM's CARD OF 'smithylaw01.BigDivides'. -/
def bigDividesUptoCard : Claim7 := { stood := { row := bigDividesUptoRow, standIns := [], harness := (true, "5098d6ead77dd0073936c571029a35c90f1dd032ec11c714f588b6a6c69a5278"), looks := false }, kinds := [], alts := [], laidByText := true, laidKinds := [.data, .pinned], laidTests := true, laidLooks := .later }
def BigDividesUptoCardSaid : Prop := Claim7.holds Tryd.pinned (.plain (OpenSpec.upto bigDividesSpec)) bigDividesUptoCard

/-- THE SECOND FORM's CARD OF 'smithylaw01.BigTexts'. -/
def bigTextsUptoCard : Claim7 := { stood := { row := bigTextsUptoRow, standIns := [], harness := (true, "5098d6ead77dd0073936c571029a35c90f1dd032ec11c714f588b6a6c69a5278"), looks := false }, kinds := [], alts := [], laidByText := true, laidKinds := [.data, .pinned], laidTests := true, laidLooks := .later }
def BigTextsUptoCardSaid : Prop := Claim7.holds Tryd.pinned (.plain (OpenSpec.upto bigTextsSpec)) bigTextsUptoCard

/-- THE SECOND FORM's CARD OF 'smithylaw01.BigMemory'. -/
def bigMemoryUptoCard : Claim7 := { stood := { row := bigMemoryUptoRow, standIns := [], harness := (true, "5098d6ead77dd0073936c571029a35c90f1dd032ec11c714f588b6a6c69a5278"), looks := false }, kinds := [], alts := [], laidByText := true, laidKinds := [.data, .pinned], laidTests := true, laidLooks := .later }
def BigMemoryUptoCardSaid : Prop := Claim7.holds Tryd.pinned (.plain (OpenSpec.upto bigMemorySpec)) bigMemoryUptoCard

/-- THE SECOND FORM's CARD OF 'smithylaw01.BigRing'. -/
def bigRingUptoCard : Claim7 := { stood := { row := bigRingUptoRow, standIns := [], harness := (true, "5098d6ead77dd0073936c571029a35c90f1dd032ec11c714f588b6a6c69a5278"), looks := false }, kinds := [], alts := [], laidByText := true, laidKinds := [.data, .pinned], laidTests := true, laidLooks := .later }
def BigRingUptoCardSaid : Prop := Claim7.holds Tryd.pinned (.plain (OpenSpec.upto bigRingSpec)) bigRingUptoCard

/-- THE SECOND FORM's CARD OF 'smithylaw01.BigReckons'. -/
def bigReckonsUptoCard : Claim7 := { stood := { row := bigReckonsUptoRow, standIns := [], harness := (true, "5098d6ead77dd0073936c571029a35c90f1dd032ec11c714f588b6a6c69a5278"), looks := false }, kinds := [], alts := [], laidByText := true, laidKinds := [.data, .pinned], laidTests := true, laidLooks := .later }
def BigReckonsUptoCardSaid : Prop := Claim7.holds Tryd.pinned (.plain (OpenSpec.upto bigReckonsSpec)) bigReckonsUptoCard

/-- THE SECOND FORM's CARD OF 'smithylaw01.BigQuotient'. -/
def bigQuotientUptoCard : Claim7 := { stood := { row := bigQuotientUptoRow, standIns := [], harness := (true, "5098d6ead77dd0073936c571029a35c90f1dd032ec11c714f588b6a6c69a5278"), looks := false }, kinds := [], alts := [], laidByText := true, laidKinds := [.data, .pinned], laidTests := true, laidLooks := .later }
def BigQuotientUptoCardSaid : Prop := Claim7.holds Tryd.pinned (.plain (OpenSpec.upto bigQuotientSpec)) bigQuotientUptoCard

/-- THE SECOND FORM's CARD OF 'smithylaw01.BigStands'. -/
def bigStandsUptoCard : Claim7 := { stood := { row := bigStandsUptoRow, standIns := [], harness := (true, "5098d6ead77dd0073936c571029a35c90f1dd032ec11c714f588b6a6c69a5278"), looks := false }, kinds := [], alts := [], laidByText := true, laidKinds := [.data, .pinned], laidTests := true, laidLooks := .later }
def BigStandsUptoCardSaid : Prop := Claim7.holds Tryd.pinned (.plain (OpenSpec.upto bigStandsSpec)) bigStandsUptoCard
end Rows
end Go.Proofs.YticfggljaagcmaaDoor
