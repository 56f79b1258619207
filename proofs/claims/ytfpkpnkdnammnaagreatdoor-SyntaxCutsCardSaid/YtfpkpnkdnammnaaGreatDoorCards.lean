/-
  DERIVED. GIVEN WITH THE SEED: THE CARDS: each row of YtfpkpnkdnammnaaGreatDoorRows.lean that lists a variable, with what it lists TIED to the program's text (the seventh form; the later family's looks); each row that meets fmt, with fmt's text TOLD by the authors' own Lean function (tested against real Go, not proved from fmt's source: count such statements apart). THE CARD IS WHAT COUNTS. Prove the row's statement (the work); the ties are given (YtfpkpnkdnammnaaGreatDoorTie.lean); close each card by the builder's one call (the guide's Derived/Test/ToyasCard.lean, 'card_holds'). Laid BY PROGRAM, IN A SANDBOX (cutbox-door.mjs). By AI agents, Wed Nov 11 2026. No macro, syntax, notation, axiom, sorry.
-/
import Derived.Test.YtfpkpnkdnammnaaGreatDoorRows
import GoSem.ClaimSeven
namespace Go.Proofs.YtfpkpnkdnammnaaGreatDoor
namespace Rows

/-- THE TIED CARD OF 'babellaw08.SyntaxParses'. -/
def syntaxParsesCard : Claim7 := { stood := { row := syntaxParsesRow, standIns := [], harness := (true, "9e7466ea0daf2e9e237cb3ac5d191ebc6f9c578cedc76a9bf7fc085b7ed4f59e"), looks := true }, kinds := [], alts := [], laidByText := true, laidKinds := [.data, .data, .data, .sentinel, .sentinel], laidTests := true, laidLooks := .later }
def SyntaxParsesCardSaid : Prop := Claim7.holds Tryz.pinned (.plain (OpenSpec.ofChange syntaxParsesSpec)) syntaxParsesCard

/-- THE TIED CARD OF 'babellaw08.SyntaxChanged'. -/
def syntaxChangedCard : Claim7 := { stood := { row := syntaxChangedRow, standIns := [], harness := (true, "9e7466ea0daf2e9e237cb3ac5d191ebc6f9c578cedc76a9bf7fc085b7ed4f59e"), looks := true }, kinds := [], alts := [], laidByText := true, laidKinds := [.data, .data, .data, .sentinel, .sentinel], laidTests := true, laidLooks := .later }
def SyntaxChangedCardSaid : Prop := Claim7.holds Tryz.pinned (.plain (OpenSpec.ofChange syntaxChangedSpec)) syntaxChangedCard

/-- THE TIED CARD OF 'babellaw08.SyntaxPrints'. -/
def syntaxPrintsCard : Claim7 := { stood := { row := syntaxPrintsRow, standIns := [], harness := (true, "9e7466ea0daf2e9e237cb3ac5d191ebc6f9c578cedc76a9bf7fc085b7ed4f59e"), looks := true }, kinds := [], alts := [], laidByText := true, laidKinds := [.data, .data, .data, .sentinel, .sentinel], laidTests := true, laidLooks := .later }
def SyntaxPrintsCardSaid : Prop := Claim7.holds Tryz.pinned (.plain (OpenSpec.ofChange syntaxPrintsSpec)) syntaxPrintsCard

/-- THE TIED CARD OF 'babellaw08.SyntaxInverts'. -/
def syntaxInvertsCard : Claim7 := { stood := { row := syntaxInvertsRow, standIns := [], harness := (true, "9e7466ea0daf2e9e237cb3ac5d191ebc6f9c578cedc76a9bf7fc085b7ed4f59e"), looks := true }, kinds := [], alts := [], laidByText := true, laidKinds := [.data, .data, .data, .sentinel, .sentinel], laidTests := true, laidLooks := .later }
def SyntaxInvertsCardSaid : Prop := Claim7.holds Tryz.pinned (.plain (OpenSpec.ofChange syntaxInvertsSpec)) syntaxInvertsCard

/-- THE TIED CARD OF 'babellaw08.SyntaxRight'. -/
def syntaxRightCard : Claim7 := { stood := { row := syntaxRightRow, standIns := [], harness := (true, "9e7466ea0daf2e9e237cb3ac5d191ebc6f9c578cedc76a9bf7fc085b7ed4f59e"), looks := true }, kinds := [], alts := [], laidByText := true, laidKinds := [.data, .data, .data, .sentinel, .sentinel], laidTests := true, laidLooks := .later }
def SyntaxRightCardSaid : Prop := Claim7.holds Tryz.pinned (.plain (OpenSpec.ofChange syntaxRightSpec)) syntaxRightCard

/-- THE TIED CARD OF 'babellaw08.SyntaxChecks'. -/
def syntaxChecksCard : Claim7 := { stood := { row := syntaxChecksRow, standIns := [], harness := (true, "9e7466ea0daf2e9e237cb3ac5d191ebc6f9c578cedc76a9bf7fc085b7ed4f59e"), looks := true }, kinds := [], alts := [], laidByText := true, laidKinds := [.data, .data, .data, .sentinel, .sentinel], laidTests := true, laidLooks := .later }
def SyntaxChecksCardSaid : Prop := Claim7.holds Tryz.pinned (.plain (OpenSpec.ofChange syntaxChecksSpec)) syntaxChecksCard

/-- THE TIED CARD OF 'babellaw08.SyntaxBlanks'. -/
def syntaxBlanksCard : Claim7 := { stood := { row := syntaxBlanksRow, standIns := [], harness := (true, "9e7466ea0daf2e9e237cb3ac5d191ebc6f9c578cedc76a9bf7fc085b7ed4f59e"), looks := true }, kinds := [], alts := [], laidByText := true, laidKinds := [.data, .data, .data, .sentinel, .sentinel], laidTests := true, laidLooks := .later }
def SyntaxBlanksCardSaid : Prop := Claim7.holds Tryz.pinned (.plain (OpenSpec.ofChange syntaxBlanksSpec)) syntaxBlanksCard

/-- THE TIED CARD OF 'babellaw08.SyntaxParens'. -/
def syntaxParensCard : Claim7 := { stood := { row := syntaxParensRow, standIns := [], harness := (true, "9e7466ea0daf2e9e237cb3ac5d191ebc6f9c578cedc76a9bf7fc085b7ed4f59e"), looks := true }, kinds := [], alts := [], laidByText := true, laidKinds := [.data, .data, .data, .sentinel, .sentinel], laidTests := true, laidLooks := .later }
def SyntaxParensCardSaid : Prop := Claim7.holds Tryz.pinned (.plain (OpenSpec.ofChange syntaxParensSpec)) syntaxParensCard

/-- THE TIED CARD OF 'babellaw08.SyntaxCuts'. -/
def syntaxCutsCard : Claim7 := { stood := { row := syntaxCutsRow, standIns := [], harness := (true, "9e7466ea0daf2e9e237cb3ac5d191ebc6f9c578cedc76a9bf7fc085b7ed4f59e"), looks := true }, kinds := [], alts := [], laidByText := true, laidKinds := [.data, .data, .data, .sentinel, .sentinel], laidTests := true, laidLooks := .later }
def SyntaxCutsCardSaid : Prop := Claim7.holds Tryz.pinned (.plain (OpenSpec.ofChange syntaxCutsSpec)) syntaxCutsCard

/-- THE TIED CARD OF 'babellaw08.SyntaxNumbers'. -/
def syntaxNumbersCard : Claim7 := { stood := { row := syntaxNumbersRow, standIns := [], harness := (true, "9e7466ea0daf2e9e237cb3ac5d191ebc6f9c578cedc76a9bf7fc085b7ed4f59e"), looks := true }, kinds := [], alts := [], laidByText := true, laidKinds := [.data, .data, .data, .sentinel, .sentinel], laidTests := true, laidLooks := .later }
def SyntaxNumbersCardSaid : Prop := Claim7.holds Tryz.pinned (.plain (OpenSpec.ofChange syntaxNumbersSpec)) syntaxNumbersCard

/-- THE TIED CARD OF 'babellaw08.SyntaxLimits'. -/
def syntaxLimitsCard : Claim7 := { stood := { row := syntaxLimitsRow, standIns := [], harness := (true, "9e7466ea0daf2e9e237cb3ac5d191ebc6f9c578cedc76a9bf7fc085b7ed4f59e"), looks := true }, kinds := [], alts := [], laidByText := true, laidKinds := [.data, .data, .data, .sentinel, .sentinel], laidTests := true, laidLooks := .later }
def SyntaxLimitsCardSaid : Prop := Claim7.holds Tryz.pinned (.plain (OpenSpec.ofChange syntaxLimitsSpec)) syntaxLimitsCard

/-- THE TIED CARD OF 'babellaw08.SyntaxEqual'. -/
def syntaxEqualCard : Claim7 := { stood := { row := syntaxEqualRow, standIns := [], harness := (true, "9e7466ea0daf2e9e237cb3ac5d191ebc6f9c578cedc76a9bf7fc085b7ed4f59e"), looks := true }, kinds := [], alts := [], laidByText := true, laidKinds := [.data, .data, .data, .sentinel, .sentinel], laidTests := true, laidLooks := .later }
def SyntaxEqualCardSaid : Prop := Claim7.holds Tryz.pinned (.plain (OpenSpec.ofChange syntaxEqualSpec)) syntaxEqualCard

/-- THE SECOND FORM's CARD OF 'babellaw08.SyntaxParses'. -/
def syntaxParsesUptoCard : Claim7 := { stood := { row := syntaxParsesUptoRow, standIns := [], harness := (true, "9e7466ea0daf2e9e237cb3ac5d191ebc6f9c578cedc76a9bf7fc085b7ed4f59e"), looks := true }, kinds := [], alts := [], laidByText := true, laidKinds := [.data, .data, .data, .sentinel, .sentinel], laidTests := true, laidLooks := .later }
def SyntaxParsesUptoCardSaid : Prop := Claim7.holds Tryz.pinned (.plain (OpenSpec.upto syntaxParsesSpec)) syntaxParsesUptoCard

/-- THE SECOND FORM's CARD OF 'babellaw08.SyntaxChanged'. -/
def syntaxChangedUptoCard : Claim7 := { stood := { row := syntaxChangedUptoRow, standIns := [], harness := (true, "9e7466ea0daf2e9e237cb3ac5d191ebc6f9c578cedc76a9bf7fc085b7ed4f59e"), looks := true }, kinds := [], alts := [], laidByText := true, laidKinds := [.data, .data, .data, .sentinel, .sentinel], laidTests := true, laidLooks := .later }
def SyntaxChangedUptoCardSaid : Prop := Claim7.holds Tryz.pinned (.plain (OpenSpec.upto syntaxChangedSpec)) syntaxChangedUptoCard

/-- THE SECOND FORM's CARD OF 'babellaw08.SyntaxPrints'. -/
def syntaxPrintsUptoCard : Claim7 := { stood := { row := syntaxPrintsUptoRow, standIns := [], harness := (true, "9e7466ea0daf2e9e237cb3ac5d191ebc6f9c578cedc76a9bf7fc085b7ed4f59e"), looks := true }, kinds := [], alts := [], laidByText := true, laidKinds := [.data, .data, .data, .sentinel, .sentinel], laidTests := true, laidLooks := .later }
def SyntaxPrintsUptoCardSaid : Prop := Claim7.holds Tryz.pinned (.plain (OpenSpec.upto syntaxPrintsSpec)) syntaxPrintsUptoCard

/-- THE SECOND FORM's CARD OF 'babellaw08.SyntaxInverts'. -/
def syntaxInvertsUptoCard : Claim7 := { stood := { row := syntaxInvertsUptoRow, standIns := [], harness := (true, "9e7466ea0daf2e9e237cb3ac5d191ebc6f9c578cedc76a9bf7fc085b7ed4f59e"), looks := true }, kinds := [], alts := [], laidByText := true, laidKinds := [.data, .data, .data, .sentinel, .sentinel], laidTests := true, laidLooks := .later }
def SyntaxInvertsUptoCardSaid : Prop := Claim7.holds Tryz.pinned (.plain (OpenSpec.upto syntaxInvertsSpec)) syntaxInvertsUptoCard

/-- THE SECOND FORM's CARD OF 'babellaw08.SyntaxRight'. -/
def syntaxRightUptoCard : Claim7 := { stood := { row := syntaxRightUptoRow, standIns := [], harness := (true, "9e7466ea0daf2e9e237cb3ac5d191ebc6f9c578cedc76a9bf7fc085b7ed4f59e"), looks := true }, kinds := [], alts := [], laidByText := true, laidKinds := [.data, .data, .data, .sentinel, .sentinel], laidTests := true, laidLooks := .later }
def SyntaxRightUptoCardSaid : Prop := Claim7.holds Tryz.pinned (.plain (OpenSpec.upto syntaxRightSpec)) syntaxRightUptoCard

/-- THE SECOND FORM's CARD OF 'babellaw08.SyntaxChecks'. -/
def syntaxChecksUptoCard : Claim7 := { stood := { row := syntaxChecksUptoRow, standIns := [], harness := (true, "9e7466ea0daf2e9e237cb3ac5d191ebc6f9c578cedc76a9bf7fc085b7ed4f59e"), looks := true }, kinds := [], alts := [], laidByText := true, laidKinds := [.data, .data, .data, .sentinel, .sentinel], laidTests := true, laidLooks := .later }
def SyntaxChecksUptoCardSaid : Prop := Claim7.holds Tryz.pinned (.plain (OpenSpec.upto syntaxChecksSpec)) syntaxChecksUptoCard

/-- THE SECOND FORM's CARD OF 'babellaw08.SyntaxBlanks'. -/
def syntaxBlanksUptoCard : Claim7 := { stood := { row := syntaxBlanksUptoRow, standIns := [], harness := (true, "9e7466ea0daf2e9e237cb3ac5d191ebc6f9c578cedc76a9bf7fc085b7ed4f59e"), looks := true }, kinds := [], alts := [], laidByText := true, laidKinds := [.data, .data, .data, .sentinel, .sentinel], laidTests := true, laidLooks := .later }
def SyntaxBlanksUptoCardSaid : Prop := Claim7.holds Tryz.pinned (.plain (OpenSpec.upto syntaxBlanksSpec)) syntaxBlanksUptoCard

/-- THE SECOND FORM's CARD OF 'babellaw08.SyntaxParens'. -/
def syntaxParensUptoCard : Claim7 := { stood := { row := syntaxParensUptoRow, standIns := [], harness := (true, "9e7466ea0daf2e9e237cb3ac5d191ebc6f9c578cedc76a9bf7fc085b7ed4f59e"), looks := true }, kinds := [], alts := [], laidByText := true, laidKinds := [.data, .data, .data, .sentinel, .sentinel], laidTests := true, laidLooks := .later }
def SyntaxParensUptoCardSaid : Prop := Claim7.holds Tryz.pinned (.plain (OpenSpec.upto syntaxParensSpec)) syntaxParensUptoCard

/-- THE SECOND FORM's CARD OF 'babellaw08.SyntaxCuts'. -/
def syntaxCutsUptoCard : Claim7 := { stood := { row := syntaxCutsUptoRow, standIns := [], harness := (true, "9e7466ea0daf2e9e237cb3ac5d191ebc6f9c578cedc76a9bf7fc085b7ed4f59e"), looks := true }, kinds := [], alts := [], laidByText := true, laidKinds := [.data, .data, .data, .sentinel, .sentinel], laidTests := true, laidLooks := .later }
def SyntaxCutsUptoCardSaid : Prop := Claim7.holds Tryz.pinned (.plain (OpenSpec.upto syntaxCutsSpec)) syntaxCutsUptoCard

/-- THE SECOND FORM's CARD OF 'babellaw08.SyntaxNumbers'. -/
def syntaxNumbersUptoCard : Claim7 := { stood := { row := syntaxNumbersUptoRow, standIns := [], harness := (true, "9e7466ea0daf2e9e237cb3ac5d191ebc6f9c578cedc76a9bf7fc085b7ed4f59e"), looks := true }, kinds := [], alts := [], laidByText := true, laidKinds := [.data, .data, .data, .sentinel, .sentinel], laidTests := true, laidLooks := .later }
def SyntaxNumbersUptoCardSaid : Prop := Claim7.holds Tryz.pinned (.plain (OpenSpec.upto syntaxNumbersSpec)) syntaxNumbersUptoCard

/-- THE SECOND FORM's CARD OF 'babellaw08.SyntaxLimits'. -/
def syntaxLimitsUptoCard : Claim7 := { stood := { row := syntaxLimitsUptoRow, standIns := [], harness := (true, "9e7466ea0daf2e9e237cb3ac5d191ebc6f9c578cedc76a9bf7fc085b7ed4f59e"), looks := true }, kinds := [], alts := [], laidByText := true, laidKinds := [.data, .data, .data, .sentinel, .sentinel], laidTests := true, laidLooks := .later }
def SyntaxLimitsUptoCardSaid : Prop := Claim7.holds Tryz.pinned (.plain (OpenSpec.upto syntaxLimitsSpec)) syntaxLimitsUptoCard

/-- THE SECOND FORM's CARD OF 'babellaw08.SyntaxEqual'. -/
def syntaxEqualUptoCard : Claim7 := { stood := { row := syntaxEqualUptoRow, standIns := [], harness := (true, "9e7466ea0daf2e9e237cb3ac5d191ebc6f9c578cedc76a9bf7fc085b7ed4f59e"), looks := true }, kinds := [], alts := [], laidByText := true, laidKinds := [.data, .data, .data, .sentinel, .sentinel], laidTests := true, laidLooks := .later }
def SyntaxEqualUptoCardSaid : Prop := Claim7.holds Tryz.pinned (.plain (OpenSpec.upto syntaxEqualSpec)) syntaxEqualUptoCard
end Rows
end Go.Proofs.YtfpkpnkdnammnaaGreatDoor
