/-
  DERIVED. GIVEN WITH THE SEED: THE CARDS: each row of YtekeaempemiciaaGreatDoorRows.lean that lists a variable, with what it lists TIED to the program's text (the seventh form; the later family's looks); each row that meets fmt, with fmt's text TOLD by the authors' own Lean function (tested against real Go, not proved from fmt's source: count such statements apart). THE CARD IS WHAT COUNTS. Prove the row's statement (the work); the ties are given (YtekeaempemiciaaGreatDoorTie.lean); close each card by the builder's one call (the guide's Derived/Test/ToyasCard.lean, 'card_holds'). Laid BY PROGRAM, IN A SANDBOX (cutbox-door.mjs). By AI agents, Wed Nov 11 2026. No macro, syntax, notation, axiom, sorry.
-/
import Derived.Test.YtekeaempemiciaaGreatDoorRows
import GoSem.ClaimSeven
namespace Go.Proofs.YtekeaempemiciaaGreatDoor
namespace Rows

/-- THE TIED CARD OF 'polyglotlaw22.LinePrints'. -/
def linePrintsCard : Claim7 := { stood := { row := linePrintsRow, standIns := [], harness := (true, "3a3d78b7e0eb1c56b89efea67ca43fa93b1dfd62841bfa029f5ef014310608cf"), looks := false }, kinds := [], alts := [], laidByText := true, laidKinds := [.data, .data, .data], laidTests := true, laidLooks := .later }
def LinePrintsCardSaid : Prop := Claim7.holds Tryz.pinned (.plain (OpenSpec.ofChange linePrintsSpec)) linePrintsCard

/-- THE TIED CARD OF 'polyglotlaw22.LineParts'. -/
def linePartsCard : Claim7 := { stood := { row := linePartsRow, standIns := [], harness := (true, "3a3d78b7e0eb1c56b89efea67ca43fa93b1dfd62841bfa029f5ef014310608cf"), looks := false }, kinds := [], alts := [], laidByText := true, laidKinds := [.data, .data, .data], laidTests := true, laidLooks := .later }
def LinePartsCardSaid : Prop := Claim7.holds Tryz.pinned (.plain (OpenSpec.ofChange linePartsSpec)) linePartsCard

/-- THE SECOND FORM's CARD OF 'polyglotlaw22.LinePrints'. -/
def linePrintsUptoCard : Claim7 := { stood := { row := linePrintsUptoRow, standIns := [], harness := (true, "3a3d78b7e0eb1c56b89efea67ca43fa93b1dfd62841bfa029f5ef014310608cf"), looks := false }, kinds := [], alts := [], laidByText := true, laidKinds := [.data, .data, .data], laidTests := true, laidLooks := .later }
def LinePrintsUptoCardSaid : Prop := Claim7.holds Tryz.pinned (.plain (OpenSpec.upto linePrintsSpec)) linePrintsUptoCard

/-- THE SECOND FORM's CARD OF 'polyglotlaw22.LineParts'. -/
def linePartsUptoCard : Claim7 := { stood := { row := linePartsUptoRow, standIns := [], harness := (true, "3a3d78b7e0eb1c56b89efea67ca43fa93b1dfd62841bfa029f5ef014310608cf"), looks := false }, kinds := [], alts := [], laidByText := true, laidKinds := [.data, .data, .data], laidTests := true, laidLooks := .later }
def LinePartsUptoCardSaid : Prop := Claim7.holds Tryz.pinned (.plain (OpenSpec.upto linePartsSpec)) linePartsUptoCard
end Rows
end Go.Proofs.YtekeaempemiciaaGreatDoor
