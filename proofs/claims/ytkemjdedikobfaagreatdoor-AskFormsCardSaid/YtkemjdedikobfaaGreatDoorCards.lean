/-
  DERIVED. GIVEN WITH THE SEED: THE CARDS: each row of YtkemjdedikobfaaGreatDoorRows.lean that lists a variable, with what it lists TIED to the program's text (the seventh form; the later family's looks); each row that meets fmt, with fmt's text TOLD by the authors' own Lean function (tested against real Go, not proved from fmt's source: count such statements apart). THE CARD IS WHAT COUNTS. Prove the row's statement (the work); the ties are given (YtkemjdedikobfaaGreatDoorTie.lean); close each card by the builder's one call (the guide's Derived/Test/ToyasCard.lean, 'card_holds'). Laid BY PROGRAM, IN A SANDBOX (cutbox-door.mjs). By AI agents, Wed Nov 11 2026. No macro, syntax, notation, axiom, sorry.
-/
import Derived.Test.YtkemjdedikobfaaGreatDoorRows
import GoSem.ClaimSeven
namespace Go.Proofs.YtkemjdedikobfaaGreatDoor
namespace Rows

/-- THE TIED CARD OF 'udometerlaw10.AskForms'. -/
def askFormsCard : Claim7 := { stood := { row := askFormsRow, standIns := [], harness := (true, "d02640f45e992c16605511064798ef803b706b4c5db77012d658fe766327cdf1"), looks := true }, kinds := [], alts := [], laidByText := true, laidKinds := [.data, .data, .data, .data, .pinned], laidTests := true, laidLooks := .later }
def AskFormsCardSaid : Prop := Claim7.holds Tryz.pinned (.plain (OpenSpec.ofChange askFormsSpec)) askFormsCard

/-- THE TIED CARD OF 'udometerlaw10.AskAlgebra'. -/
def askAlgebraCard : Claim7 := { stood := { row := askAlgebraRow, standIns := [], harness := (true, "d02640f45e992c16605511064798ef803b706b4c5db77012d658fe766327cdf1"), looks := true }, kinds := [], alts := [], laidByText := true, laidKinds := [.data, .data, .data, .data, .pinned], laidTests := true, laidLooks := .later }
def AskAlgebraCardSaid : Prop := Claim7.holds Tryz.pinned (.plain (OpenSpec.ofChange askAlgebraSpec)) askAlgebraCard

/-- THE SECOND FORM's CARD OF 'udometerlaw10.AskForms'. -/
def askFormsUptoCard : Claim7 := { stood := { row := askFormsUptoRow, standIns := [], harness := (true, "d02640f45e992c16605511064798ef803b706b4c5db77012d658fe766327cdf1"), looks := true }, kinds := [], alts := [], laidByText := true, laidKinds := [.data, .data, .data, .data, .pinned], laidTests := true, laidLooks := .later }
def AskFormsUptoCardSaid : Prop := Claim7.holds Tryz.pinned (.plain (OpenSpec.upto askFormsSpec)) askFormsUptoCard

/-- THE SECOND FORM's CARD OF 'udometerlaw10.AskAlgebra'. -/
def askAlgebraUptoCard : Claim7 := { stood := { row := askAlgebraUptoRow, standIns := [], harness := (true, "d02640f45e992c16605511064798ef803b706b4c5db77012d658fe766327cdf1"), looks := true }, kinds := [], alts := [], laidByText := true, laidKinds := [.data, .data, .data, .data, .pinned], laidTests := true, laidLooks := .later }
def AskAlgebraUptoCardSaid : Prop := Claim7.holds Tryz.pinned (.plain (OpenSpec.upto askAlgebraSpec)) askAlgebraUptoCard
end Rows
end Go.Proofs.YtkemjdedikobfaaGreatDoor
