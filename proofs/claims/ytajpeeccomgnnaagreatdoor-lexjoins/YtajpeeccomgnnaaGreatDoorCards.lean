/-
  DERIVED. GIVEN WITH THE SEED: THE CARDS: each row of YtajpeeccomgnnaaGreatDoorRows.lean that lists a variable, with what it lists TIED to the program's text (the seventh form; the later family's looks); each row that meets fmt, with fmt's text TOLD by the authors' own Lean function (tested against real Go, not proved from fmt's source: count such statements apart). THE CARD IS WHAT COUNTS. Prove the row's statement (the work); the ties are given (YtajpeeccomgnnaaGreatDoorTie.lean); close each card by the builder's one call (the guide's Derived/Test/ToyasCard.lean, 'card_holds'). Laid BY PROGRAM, IN A SANDBOX (cutbox-door.mjs). By AI agents, Wed Nov 11 2026. No macro, syntax, notation, axiom, sorry.
-/
import Derived.Test.YtajpeeccomgnnaaGreatDoorRows
import GoSem.ClaimSeven
namespace Go.Proofs.YtajpeeccomgnnaaGreatDoor
namespace Rows

/-- THE TIED CARD OF 'smithylaw03.LexTokens'. -/
def lexTokensCard : Claim7 := { stood := { row := lexTokensRow, standIns := [], harness := (true, "b1f997c40ab793e63b0855cbca63dd6b95e41ae422d6a76af02dcb921d8820de"), looks := true }, kinds := [], alts := [], laidByText := true, laidKinds := [.data, .data, .widerDeep, .widerDeep, .data, .data, .data, .data, .data, .data, .sentinel, .sentinel, .pinned, .pinned, .pinned], laidTests := true, laidLooks := .later }
def LexTokensCardSaid : Prop := Claim7.holds Tryz.pinned (.plain (OpenSpec.ofChange lexTokensSpec)) lexTokensCard

/-- THE TIED CARD OF 'smithylaw03.LexReserved'. -/
def lexReservedCard : Claim7 := { stood := { row := lexReservedRow, standIns := [], harness := (true, "b1f997c40ab793e63b0855cbca63dd6b95e41ae422d6a76af02dcb921d8820de"), looks := true }, kinds := [], alts := [], laidByText := true, laidKinds := [.data, .data, .widerDeep, .widerDeep, .data, .data, .data, .data, .data, .data, .sentinel, .sentinel, .pinned, .pinned, .pinned], laidTests := true, laidLooks := .later }
def LexReservedCardSaid : Prop := Claim7.holds Tryz.pinned (.plain (OpenSpec.ofChange lexReservedSpec)) lexReservedCard

/-- THE TIED CARD OF 'smithylaw03.LexSpread'. -/
def lexSpreadCard : Claim7 := { stood := { row := lexSpreadRow, standIns := [], harness := (true, "b1f997c40ab793e63b0855cbca63dd6b95e41ae422d6a76af02dcb921d8820de"), looks := true }, kinds := [], alts := [], laidByText := true, laidKinds := [.data, .data, .widerDeep, .widerDeep, .data, .data, .data, .data, .data, .data, .sentinel, .sentinel, .pinned, .pinned, .pinned], laidTests := true, laidLooks := .later }
def LexSpreadCardSaid : Prop := Claim7.holds Tryz.pinned (.plain (OpenSpec.ofChange lexSpreadSpec)) lexSpreadCard

/-- THE TIED CARD OF 'smithylaw03.LexJoins'. -/
def lexJoinsCard : Claim7 := { stood := { row := lexJoinsRow, standIns := [], harness := (true, "b1f997c40ab793e63b0855cbca63dd6b95e41ae422d6a76af02dcb921d8820de"), looks := true }, kinds := [], alts := [], laidByText := true, laidKinds := [.data, .data, .widerDeep, .widerDeep, .data, .data, .data, .data, .data, .data, .sentinel, .sentinel, .pinned, .pinned, .pinned], laidTests := true, laidLooks := .later }
def LexJoinsCardSaid : Prop := Claim7.holds Tryz.pinned (.plain (OpenSpec.ofChange lexJoinsSpec)) lexJoinsCard

/-- THE SECOND FORM's CARD OF 'smithylaw03.LexTokens'. -/
def lexTokensUptoCard : Claim7 := { stood := { row := lexTokensUptoRow, standIns := [], harness := (true, "b1f997c40ab793e63b0855cbca63dd6b95e41ae422d6a76af02dcb921d8820de"), looks := true }, kinds := [], alts := [], laidByText := true, laidKinds := [.data, .data, .widerDeep, .widerDeep, .data, .data, .data, .data, .data, .data, .sentinel, .sentinel, .pinned, .pinned, .pinned], laidTests := true, laidLooks := .later }
def LexTokensUptoCardSaid : Prop := Claim7.holds Tryz.pinned (.plain (OpenSpec.upto lexTokensSpec)) lexTokensUptoCard

/-- THE SECOND FORM's CARD OF 'smithylaw03.LexReserved'. -/
def lexReservedUptoCard : Claim7 := { stood := { row := lexReservedUptoRow, standIns := [], harness := (true, "b1f997c40ab793e63b0855cbca63dd6b95e41ae422d6a76af02dcb921d8820de"), looks := true }, kinds := [], alts := [], laidByText := true, laidKinds := [.data, .data, .widerDeep, .widerDeep, .data, .data, .data, .data, .data, .data, .sentinel, .sentinel, .pinned, .pinned, .pinned], laidTests := true, laidLooks := .later }
def LexReservedUptoCardSaid : Prop := Claim7.holds Tryz.pinned (.plain (OpenSpec.upto lexReservedSpec)) lexReservedUptoCard

/-- THE SECOND FORM's CARD OF 'smithylaw03.LexSpread'. -/
def lexSpreadUptoCard : Claim7 := { stood := { row := lexSpreadUptoRow, standIns := [], harness := (true, "b1f997c40ab793e63b0855cbca63dd6b95e41ae422d6a76af02dcb921d8820de"), looks := true }, kinds := [], alts := [], laidByText := true, laidKinds := [.data, .data, .widerDeep, .widerDeep, .data, .data, .data, .data, .data, .data, .sentinel, .sentinel, .pinned, .pinned, .pinned], laidTests := true, laidLooks := .later }
def LexSpreadUptoCardSaid : Prop := Claim7.holds Tryz.pinned (.plain (OpenSpec.upto lexSpreadSpec)) lexSpreadUptoCard

/-- THE SECOND FORM's CARD OF 'smithylaw03.LexJoins'. -/
def lexJoinsUptoCard : Claim7 := { stood := { row := lexJoinsUptoRow, standIns := [], harness := (true, "b1f997c40ab793e63b0855cbca63dd6b95e41ae422d6a76af02dcb921d8820de"), looks := true }, kinds := [], alts := [], laidByText := true, laidKinds := [.data, .data, .widerDeep, .widerDeep, .data, .data, .data, .data, .data, .data, .sentinel, .sentinel, .pinned, .pinned, .pinned], laidTests := true, laidLooks := .later }
def LexJoinsUptoCardSaid : Prop := Claim7.holds Tryz.pinned (.plain (OpenSpec.upto lexJoinsSpec)) lexJoinsUptoCard
end Rows
end Go.Proofs.YtajpeeccomgnnaaGreatDoor
