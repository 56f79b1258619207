/-
  DERIVED. GIVEN WITH THE SEED: THE CARDS: each row of YtkaepknpplhgkaaGreatDoorRows.lean that lists a variable, with what it lists TIED to the program's text (the seventh form; the later family's looks); each row that meets fmt, with fmt's text TOLD by the authors' own Lean function (tested against real Go, not proved from fmt's source: count such statements apart). THE CARD IS WHAT COUNTS. Prove the row's statement (the work); the ties are given (YtkaepknpplhgkaaGreatDoorTie.lean); close each card by the builder's one call (the guide's Derived/Test/ToyasCard.lean, 'card_holds'). Laid BY PROGRAM, IN A SANDBOX (cutbox-door.mjs). By AI agents, Wed Nov 11 2026. No macro, syntax, notation, axiom, sorry.
-/
import Derived.Test.YtkaepknpplhgkaaGreatDoorRows
import GoSem.ClaimSeven
namespace Go.Proofs.YtkaepknpplhgkaaGreatDoor
namespace Rows

/-- THE TIED CARD OF 'babellaw07.AsmAssemble'. -/
def asmAssembleCard : Claim7 := { stood := { row := asmAssembleRow, standIns := [], harness := (true, "0942ce58b5acab498ce0f340ab9e26598e996b3a98cc32accedf19a921f10b41"), looks := true }, kinds := [], alts := [], laidByText := true, laidKinds := [.data, .data, .data, .data, .listed, .data, .pinned], laidTests := true, laidLooks := .later }
def AsmAssembleCardSaid : Prop := Claim7.holds Tryz.pinned (.plain (OpenSpec.ofChange asmAssembleSpec)) asmAssembleCard

/-- THE TIED CARD OF 'babellaw07.AsmLabels'. -/
def asmLabelsCard : Claim7 := { stood := { row := asmLabelsRow, standIns := [], harness := (true, "0942ce58b5acab498ce0f340ab9e26598e996b3a98cc32accedf19a921f10b41"), looks := true }, kinds := [], alts := [], laidByText := true, laidKinds := [.data, .data, .data, .data, .listed, .data, .pinned], laidTests := true, laidLooks := .later }
def AsmLabelsCardSaid : Prop := Claim7.holds Tryz.pinned (.plain (OpenSpec.ofChange asmLabelsSpec)) asmLabelsCard

/-- THE TIED CARD OF 'babellaw07.AsmReach'. -/
def asmReachCard : Claim7 := { stood := { row := asmReachRow, standIns := [], harness := (true, "0942ce58b5acab498ce0f340ab9e26598e996b3a98cc32accedf19a921f10b41"), looks := true }, kinds := [], alts := [], laidByText := true, laidKinds := [.data, .data, .data, .data, .listed, .data, .pinned], laidTests := true, laidLooks := .later }
def AsmReachCardSaid : Prop := Claim7.holds Tryz.pinned (.plain (OpenSpec.ofChange asmReachSpec)) asmReachCard

/-- THE TIED CARD OF 'babellaw07.AsmErrors'. -/
def asmErrorsCard : Claim7 := { stood := { row := asmErrorsRow, standIns := [], harness := (true, "0942ce58b5acab498ce0f340ab9e26598e996b3a98cc32accedf19a921f10b41"), looks := true }, kinds := [], alts := [], laidByText := true, laidKinds := [.data, .data, .data, .data, .listed, .data, .pinned], laidTests := true, laidLooks := .later }
def AsmErrorsCardSaid : Prop := Claim7.holds Tryz.pinned (.plain (OpenSpec.ofChange asmErrorsSpec)) asmErrorsCard

/-- THE TIED CARD OF 'babellaw07.AsmData'. -/
def asmDataCard : Claim7 := { stood := { row := asmDataRow, standIns := [], harness := (true, "0942ce58b5acab498ce0f340ab9e26598e996b3a98cc32accedf19a921f10b41"), looks := true }, kinds := [], alts := [], laidByText := true, laidKinds := [.data, .data, .data, .data, .listed, .data, .pinned], laidTests := true, laidLooks := .later }
def AsmDataCardSaid : Prop := Claim7.holds Tryz.pinned (.plain (OpenSpec.ofChange asmDataSpec)) asmDataCard

/-- THE TIED CARD OF 'babellaw07.AsmOrigin'. -/
def asmOriginCard : Claim7 := { stood := { row := asmOriginRow, standIns := [], harness := (true, "0942ce58b5acab498ce0f340ab9e26598e996b3a98cc32accedf19a921f10b41"), looks := true }, kinds := [], alts := [], laidByText := true, laidKinds := [.data, .data, .data, .data, .listed, .data, .pinned], laidTests := true, laidLooks := .later }
def AsmOriginCardSaid : Prop := Claim7.holds Tryz.pinned (.plain (OpenSpec.ofChange asmOriginSpec)) asmOriginCard

/-- THE TIED CARD OF 'babellaw07.AsmForms'. -/
def asmFormsCard : Claim7 := { stood := { row := asmFormsRow, standIns := [], harness := (true, "0942ce58b5acab498ce0f340ab9e26598e996b3a98cc32accedf19a921f10b41"), looks := true }, kinds := [], alts := [], laidByText := true, laidKinds := [.data, .data, .data, .data, .listed, .data, .pinned], laidTests := true, laidLooks := .later }
def AsmFormsCardSaid : Prop := Claim7.holds Tryz.pinned (.plain (OpenSpec.ofChange asmFormsSpec)) asmFormsCard

/-- THE TIED CARD OF 'babellaw07.AsmLinesK'. -/
def asmLinesKCard : Claim7 := { stood := { row := asmLinesKRow, standIns := [], harness := (true, "0942ce58b5acab498ce0f340ab9e26598e996b3a98cc32accedf19a921f10b41"), looks := true }, kinds := [], alts := [], laidByText := true, laidKinds := [.data, .data, .data, .data, .listed, .data, .pinned], laidTests := true, laidLooks := .later }
def AsmLinesKCardSaid : Prop := Claim7.holds Tryz.pinned (.plain (OpenSpec.ofChange asmLinesKSpec)) asmLinesKCard

/-- THE TIED CARD OF 'babellaw07.AsmLinesQ'. -/
def asmLinesQCard : Claim7 := { stood := { row := asmLinesQRow, standIns := [], harness := (true, "0942ce58b5acab498ce0f340ab9e26598e996b3a98cc32accedf19a921f10b41"), looks := true }, kinds := [], alts := [], laidByText := true, laidKinds := [.data, .data, .data, .data, .listed, .data, .pinned], laidTests := true, laidLooks := .later }
def AsmLinesQCardSaid : Prop := Claim7.holds Tryz.pinned (.plain (OpenSpec.ofChange asmLinesQSpec)) asmLinesQCard

/-- THE TIED CARD OF 'babellaw07.AsmDisassemble'. -/
def asmDisassembleCard : Claim7 := { stood := { row := asmDisassembleRow, standIns := [], harness := (true, "0942ce58b5acab498ce0f340ab9e26598e996b3a98cc32accedf19a921f10b41"), looks := true }, kinds := [], alts := [], laidByText := true, laidKinds := [.data, .data, .data, .data, .listed, .data, .pinned], laidTests := true, laidLooks := .later }
def AsmDisassembleCardSaid : Prop := Claim7.holds Tryz.pinned (.plain (OpenSpec.ofChange asmDisassembleSpec)) asmDisassembleCard

/-- THE TIED CARD OF 'babellaw07.AsmRoundTrip'. -/
def asmRoundTripCard : Claim7 := { stood := { row := asmRoundTripRow, standIns := [], harness := (true, "0942ce58b5acab498ce0f340ab9e26598e996b3a98cc32accedf19a921f10b41"), looks := true }, kinds := [], alts := [], laidByText := true, laidKinds := [.data, .data, .data, .data, .listed, .data, .pinned], laidTests := true, laidLooks := .later }
def AsmRoundTripCardSaid : Prop := Claim7.holds Tryz.pinned (.plain (OpenSpec.ofChange asmRoundTripSpec)) asmRoundTripCard

/-- THE TIED CARD OF 'babellaw07.AsmSpaces'. -/
def asmSpacesCard : Claim7 := { stood := { row := asmSpacesRow, standIns := [], harness := (true, "0942ce58b5acab498ce0f340ab9e26598e996b3a98cc32accedf19a921f10b41"), looks := true }, kinds := [], alts := [], laidByText := true, laidKinds := [.data, .data, .data, .data, .listed, .data, .pinned], laidTests := true, laidLooks := .later }
def AsmSpacesCardSaid : Prop := Claim7.holds Tryz.pinned (.plain (OpenSpec.ofChange asmSpacesSpec)) asmSpacesCard

/-- THE SECOND FORM's CARD OF 'babellaw07.AsmAssemble'. -/
def asmAssembleUptoCard : Claim7 := { stood := { row := asmAssembleUptoRow, standIns := [], harness := (true, "0942ce58b5acab498ce0f340ab9e26598e996b3a98cc32accedf19a921f10b41"), looks := true }, kinds := [], alts := [], laidByText := true, laidKinds := [.data, .data, .data, .data, .listed, .data, .pinned], laidTests := true, laidLooks := .later }
def AsmAssembleUptoCardSaid : Prop := Claim7.holds Tryz.pinned (.plain (OpenSpec.upto asmAssembleSpec)) asmAssembleUptoCard

/-- THE SECOND FORM's CARD OF 'babellaw07.AsmLabels'. -/
def asmLabelsUptoCard : Claim7 := { stood := { row := asmLabelsUptoRow, standIns := [], harness := (true, "0942ce58b5acab498ce0f340ab9e26598e996b3a98cc32accedf19a921f10b41"), looks := true }, kinds := [], alts := [], laidByText := true, laidKinds := [.data, .data, .data, .data, .listed, .data, .pinned], laidTests := true, laidLooks := .later }
def AsmLabelsUptoCardSaid : Prop := Claim7.holds Tryz.pinned (.plain (OpenSpec.upto asmLabelsSpec)) asmLabelsUptoCard

/-- THE SECOND FORM's CARD OF 'babellaw07.AsmReach'. -/
def asmReachUptoCard : Claim7 := { stood := { row := asmReachUptoRow, standIns := [], harness := (true, "0942ce58b5acab498ce0f340ab9e26598e996b3a98cc32accedf19a921f10b41"), looks := true }, kinds := [], alts := [], laidByText := true, laidKinds := [.data, .data, .data, .data, .listed, .data, .pinned], laidTests := true, laidLooks := .later }
def AsmReachUptoCardSaid : Prop := Claim7.holds Tryz.pinned (.plain (OpenSpec.upto asmReachSpec)) asmReachUptoCard

/-- THE SECOND FORM's CARD OF 'babellaw07.AsmErrors'. -/
def asmErrorsUptoCard : Claim7 := { stood := { row := asmErrorsUptoRow, standIns := [], harness := (true, "0942ce58b5acab498ce0f340ab9e26598e996b3a98cc32accedf19a921f10b41"), looks := true }, kinds := [], alts := [], laidByText := true, laidKinds := [.data, .data, .data, .data, .listed, .data, .pinned], laidTests := true, laidLooks := .later }
def AsmErrorsUptoCardSaid : Prop := Claim7.holds Tryz.pinned (.plain (OpenSpec.upto asmErrorsSpec)) asmErrorsUptoCard

/-- THE SECOND FORM's CARD OF 'babellaw07.AsmData'. -/
def asmDataUptoCard : Claim7 := { stood := { row := asmDataUptoRow, standIns := [], harness := (true, "0942ce58b5acab498ce0f340ab9e26598e996b3a98cc32accedf19a921f10b41"), looks := true }, kinds := [], alts := [], laidByText := true, laidKinds := [.data, .data, .data, .data, .listed, .data, .pinned], laidTests := true, laidLooks := .later }
def AsmDataUptoCardSaid : Prop := Claim7.holds Tryz.pinned (.plain (OpenSpec.upto asmDataSpec)) asmDataUptoCard

/-- THE SECOND FORM's CARD OF 'babellaw07.AsmOrigin'. -/
def asmOriginUptoCard : Claim7 := { stood := { row := asmOriginUptoRow, standIns := [], harness := (true, "0942ce58b5acab498ce0f340ab9e26598e996b3a98cc32accedf19a921f10b41"), looks := true }, kinds := [], alts := [], laidByText := true, laidKinds := [.data, .data, .data, .data, .listed, .data, .pinned], laidTests := true, laidLooks := .later }
def AsmOriginUptoCardSaid : Prop := Claim7.holds Tryz.pinned (.plain (OpenSpec.upto asmOriginSpec)) asmOriginUptoCard

/-- THE SECOND FORM's CARD OF 'babellaw07.AsmForms'. -/
def asmFormsUptoCard : Claim7 := { stood := { row := asmFormsUptoRow, standIns := [], harness := (true, "0942ce58b5acab498ce0f340ab9e26598e996b3a98cc32accedf19a921f10b41"), looks := true }, kinds := [], alts := [], laidByText := true, laidKinds := [.data, .data, .data, .data, .listed, .data, .pinned], laidTests := true, laidLooks := .later }
def AsmFormsUptoCardSaid : Prop := Claim7.holds Tryz.pinned (.plain (OpenSpec.upto asmFormsSpec)) asmFormsUptoCard

/-- THE SECOND FORM's CARD OF 'babellaw07.AsmLinesK'. -/
def asmLinesKUptoCard : Claim7 := { stood := { row := asmLinesKUptoRow, standIns := [], harness := (true, "0942ce58b5acab498ce0f340ab9e26598e996b3a98cc32accedf19a921f10b41"), looks := true }, kinds := [], alts := [], laidByText := true, laidKinds := [.data, .data, .data, .data, .listed, .data, .pinned], laidTests := true, laidLooks := .later }
def AsmLinesKUptoCardSaid : Prop := Claim7.holds Tryz.pinned (.plain (OpenSpec.upto asmLinesKSpec)) asmLinesKUptoCard

/-- THE SECOND FORM's CARD OF 'babellaw07.AsmLinesQ'. -/
def asmLinesQUptoCard : Claim7 := { stood := { row := asmLinesQUptoRow, standIns := [], harness := (true, "0942ce58b5acab498ce0f340ab9e26598e996b3a98cc32accedf19a921f10b41"), looks := true }, kinds := [], alts := [], laidByText := true, laidKinds := [.data, .data, .data, .data, .listed, .data, .pinned], laidTests := true, laidLooks := .later }
def AsmLinesQUptoCardSaid : Prop := Claim7.holds Tryz.pinned (.plain (OpenSpec.upto asmLinesQSpec)) asmLinesQUptoCard

/-- THE SECOND FORM's CARD OF 'babellaw07.AsmDisassemble'. -/
def asmDisassembleUptoCard : Claim7 := { stood := { row := asmDisassembleUptoRow, standIns := [], harness := (true, "0942ce58b5acab498ce0f340ab9e26598e996b3a98cc32accedf19a921f10b41"), looks := true }, kinds := [], alts := [], laidByText := true, laidKinds := [.data, .data, .data, .data, .listed, .data, .pinned], laidTests := true, laidLooks := .later }
def AsmDisassembleUptoCardSaid : Prop := Claim7.holds Tryz.pinned (.plain (OpenSpec.upto asmDisassembleSpec)) asmDisassembleUptoCard

/-- THE SECOND FORM's CARD OF 'babellaw07.AsmRoundTrip'. -/
def asmRoundTripUptoCard : Claim7 := { stood := { row := asmRoundTripUptoRow, standIns := [], harness := (true, "0942ce58b5acab498ce0f340ab9e26598e996b3a98cc32accedf19a921f10b41"), looks := true }, kinds := [], alts := [], laidByText := true, laidKinds := [.data, .data, .data, .data, .listed, .data, .pinned], laidTests := true, laidLooks := .later }
def AsmRoundTripUptoCardSaid : Prop := Claim7.holds Tryz.pinned (.plain (OpenSpec.upto asmRoundTripSpec)) asmRoundTripUptoCard

/-- THE SECOND FORM's CARD OF 'babellaw07.AsmSpaces'. -/
def asmSpacesUptoCard : Claim7 := { stood := { row := asmSpacesUptoRow, standIns := [], harness := (true, "0942ce58b5acab498ce0f340ab9e26598e996b3a98cc32accedf19a921f10b41"), looks := true }, kinds := [], alts := [], laidByText := true, laidKinds := [.data, .data, .data, .data, .listed, .data, .pinned], laidTests := true, laidLooks := .later }
def AsmSpacesUptoCardSaid : Prop := Claim7.holds Tryz.pinned (.plain (OpenSpec.upto asmSpacesSpec)) asmSpacesUptoCard
end Rows
end Go.Proofs.YtkaepknpplhgkaaGreatDoor
