/-
  DERIVED. GIVEN WITH THE SEED: THE CARDS: each row of YtjhjgkdmacndgaaGreatDoorRows.lean that lists a variable, with what it lists TIED to the program's text (the seventh form; the later family's looks); each row that meets fmt, with fmt's text TOLD by the authors' own Lean function (tested against real Go, not proved from fmt's source: count such statements apart). THE CARD IS WHAT COUNTS. Prove the row's statement (the work); the ties are given (YtjhjgkdmacndgaaGreatDoorTie.lean); close each card by the builder's one call (the guide's Derived/Test/ToyasCard.lean, 'card_holds'). Laid BY PROGRAM, IN A SANDBOX (cutbox-door.mjs). By AI agents, Wed Nov 11 2026. No macro, syntax, notation, axiom, sorry.
-/
import Derived.Test.YtjhjgkdmacndgaaGreatDoorRows
import GoSem.ClaimSeven
namespace Go.Proofs.YtjhjgkdmacndgaaGreatDoor
namespace Rows

/-- THE TIED CARD OF 'udometerlaw10.AskLexes'. -/
def askLexesCard : Claim7 := { stood := { row := askLexesRow, standIns := [], harness := (true, "52d6ec525ff360f66f36673e960c3be5d0891813c8e1ce9fb19b3b0679283973"), looks := true }, kinds := [], alts := [], laidByText := true, laidKinds := [.data, .data, .data, .data, .pinned], laidTests := true, laidLooks := .later }
def AskLexesCardSaid : Prop := Claim7.holds Tryz.pinned (.plain (OpenSpec.ofChange askLexesSpec)) askLexesCard

/-- THE SECOND FORM's CARD OF 'udometerlaw10.AskLexes'. -/
def askLexesUptoCard : Claim7 := { stood := { row := askLexesUptoRow, standIns := [], harness := (true, "52d6ec525ff360f66f36673e960c3be5d0891813c8e1ce9fb19b3b0679283973"), looks := true }, kinds := [], alts := [], laidByText := true, laidKinds := [.data, .data, .data, .data, .pinned], laidTests := true, laidLooks := .later }
def AskLexesUptoCardSaid : Prop := Claim7.holds Tryz.pinned (.plain (OpenSpec.upto askLexesSpec)) askLexesUptoCard
end Rows
end Go.Proofs.YtjhjgkdmacndgaaGreatDoor
