/-
  DERIVED. GIVEN WITH THE SEED: THE CARDS: each row of YtojofinofpgopaaDoorRows.lean that lists a variable, with what it lists TIED to the program's text (the seventh form; the later family's looks); each row that meets fmt, with fmt's text TOLD by the authors' own Lean function (tested against real Go, not proved from fmt's source: count such statements apart). THE CARD IS WHAT COUNTS. Prove the row's statement (the work); the ties are given (YtojofinofpgopaaDoorTie.lean); close each card by the builder's one call (the guide's Derived/Test/ToyasCard.lean, 'card_holds'). Laid BY PROGRAM, IN A SANDBOX (cutbox-door.mjs). By AI agents, Wed Nov 11 2026. No macro, syntax, notation, axiom, sorry.
-/
import Derived.Test.YtojofinofpgopaaDoorRows
import GoSem.ClaimSeven
namespace Go.Proofs.YtojofinofpgopaaDoor
namespace Rows

/-- THE TIED CARD OF 'babellaw12.IrPrints'. -/
def irPrintsCard : Claim7 := { stood := { row := irPrintsRow, standIns := [], harness := (true, "b4d1b3bb8bd34e351de9ee704959372da2bbad23b3281edc6dae7dca23e2a4d8"), looks := false }, kinds := [], alts := [], laidByText := true, laidKinds := [.data, .data, .data], laidTests := true, laidLooks := .later }
def IrPrintsCardSaid : Prop := Claim7.holds Tryd.pinned (.plain (OpenSpec.ofChange irPrintsSpec)) irPrintsCard

/-- THE TIED CARD OF 'babellaw12.IrKeeps'. -/
def irKeepsCard : Claim7 := { stood := { row := irKeepsRow, standIns := [], harness := (true, "b4d1b3bb8bd34e351de9ee704959372da2bbad23b3281edc6dae7dca23e2a4d8"), looks := false }, kinds := [], alts := [], laidByText := true, laidKinds := [.data, .data, .data], laidTests := true, laidLooks := .later }
def IrKeepsCardSaid : Prop := Claim7.holds Tryd.pinned (.plain (OpenSpec.ofChange irKeepsSpec)) irKeepsCard

/-- THE SECOND FORM's CARD OF 'babellaw12.IrPrints'. -/
def irPrintsUptoCard : Claim7 := { stood := { row := irPrintsUptoRow, standIns := [], harness := (true, "b4d1b3bb8bd34e351de9ee704959372da2bbad23b3281edc6dae7dca23e2a4d8"), looks := false }, kinds := [], alts := [], laidByText := true, laidKinds := [.data, .data, .data], laidTests := true, laidLooks := .later }
def IrPrintsUptoCardSaid : Prop := Claim7.holds Tryd.pinned (.plain (OpenSpec.upto irPrintsSpec)) irPrintsUptoCard

/-- THE SECOND FORM's CARD OF 'babellaw12.IrKeeps'. -/
def irKeepsUptoCard : Claim7 := { stood := { row := irKeepsUptoRow, standIns := [], harness := (true, "b4d1b3bb8bd34e351de9ee704959372da2bbad23b3281edc6dae7dca23e2a4d8"), looks := false }, kinds := [], alts := [], laidByText := true, laidKinds := [.data, .data, .data], laidTests := true, laidLooks := .later }
def IrKeepsUptoCardSaid : Prop := Claim7.holds Tryd.pinned (.plain (OpenSpec.upto irKeepsSpec)) irKeepsUptoCard
end Rows
end Go.Proofs.YtojofinofpgopaaDoor
