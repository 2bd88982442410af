/-
  DERIVED. GIVEN WITH THE SEED: THE CARDS: each row of YtnifkpljhfpdlaaGreatDoorRows.lean that lists a variable, with what it lists TIED to the program's text (the seventh form; the later family's looks); each row that meets fmt, with fmt's text TOLD by the authors' own Lean function (tested against real Go, not proved from fmt's source: count such statements apart). THE CARD IS WHAT COUNTS. Prove the row's statement (the work); the ties are given (YtnifkpljhfpdlaaGreatDoorTie.lean); close each card by the builder's one call (the guide's Derived/Test/ToyasCard.lean, 'card_holds'). Laid BY PROGRAM, IN A SANDBOX (cutbox-door.mjs). By AI agents, Wed Nov 11 2026. No macro, syntax, notation, axiom, sorry.
-/
import Derived.Test.YtnifkpljhfpdlaaGreatDoorRows
import GoSem.ClaimSeven
namespace Go.Proofs.YtnifkpljhfpdlaaGreatDoor
namespace Rows

/-- THE TIED CARD OF 'udometerlaw06.TotalTextsBack'. -/
def totalTextsBackCard : Claim7 := { stood := { row := totalTextsBackRow, standIns := [], harness := (true, "fa3c7dc565851a8464d8e603006aaf76192b1fc663709e091ee1cd96e0fb009a"), looks := true }, kinds := [], alts := [], laidByText := true, laidKinds := [.data, .data, .data, .data, .sentinel, .sentinel, .pinned], laidTests := true, laidLooks := .later }
def TotalTextsBackCardSaid : Prop := Claim7.holds Tryz.pinned (.plain (OpenSpec.ofChange totalTextsBackSpec)) totalTextsBackCard

/-- THE TIED CARD OF 'udometerlaw06.TotalTexts'. -/
def totalTextsCard : Claim7 := { stood := { row := totalTextsRow, standIns := [], harness := (true, "fa3c7dc565851a8464d8e603006aaf76192b1fc663709e091ee1cd96e0fb009a"), looks := true }, kinds := [], alts := [], laidByText := true, laidKinds := [.data, .data, .data, .data, .sentinel, .sentinel, .pinned], laidTests := true, laidLooks := .later }
def TotalTextsCardSaid : Prop := Claim7.holds Tryz.pinned (.plain (OpenSpec.ofChange totalTextsSpec)) totalTextsCard

/-- THE SECOND FORM's CARD OF 'udometerlaw06.TotalTextsBack'. -/
def totalTextsBackUptoCard : Claim7 := { stood := { row := totalTextsBackUptoRow, standIns := [], harness := (true, "fa3c7dc565851a8464d8e603006aaf76192b1fc663709e091ee1cd96e0fb009a"), looks := true }, kinds := [], alts := [], laidByText := true, laidKinds := [.data, .data, .data, .data, .sentinel, .sentinel, .pinned], laidTests := true, laidLooks := .later }
def TotalTextsBackUptoCardSaid : Prop := Claim7.holds Tryz.pinned (.plain (OpenSpec.upto totalTextsBackSpec)) totalTextsBackUptoCard

/-- THE SECOND FORM's CARD OF 'udometerlaw06.TotalTexts'. -/
def totalTextsUptoCard : Claim7 := { stood := { row := totalTextsUptoRow, standIns := [], harness := (true, "fa3c7dc565851a8464d8e603006aaf76192b1fc663709e091ee1cd96e0fb009a"), looks := true }, kinds := [], alts := [], laidByText := true, laidKinds := [.data, .data, .data, .data, .sentinel, .sentinel, .pinned], laidTests := true, laidLooks := .later }
def TotalTextsUptoCardSaid : Prop := Claim7.holds Tryz.pinned (.plain (OpenSpec.upto totalTextsSpec)) totalTextsUptoCard
end Rows
end Go.Proofs.YtnifkpljhfpdlaaGreatDoor
