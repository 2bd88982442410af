/-
  DERIVED. GIVEN WITH THE SEED: THE CARDS: each row of YtemomehoikbegaaGreatDoorRows.lean that lists a variable, with what it lists TIED to the program's text (the seventh form; the later family's looks); each row that meets fmt, with fmt's text TOLD by the authors' own Lean function (tested against real Go, not proved from fmt's source: count such statements apart). THE CARD IS WHAT COUNTS. Prove the row's statement (the work); the ties are given (YtemomehoikbegaaGreatDoorTie.lean); close each card by the builder's one call (the guide's Derived/Test/ToyasCard.lean, 'card_holds'). Laid BY PROGRAM, IN A SANDBOX (cutbox-door.mjs). By AI agents, Wed Nov 11 2026. No macro, syntax, notation, axiom, sorry.
-/
import Derived.Test.YtemomehoikbegaaGreatDoorRows
import GoSem.ClaimSeven
namespace Go.Proofs.YtemomehoikbegaaGreatDoor
namespace Rows

/-- THE TIED CARD OF 'udometerlaw10.AskJudges'. -/
def askJudgesCard : Claim7 := { stood := { row := askJudgesRow, standIns := [], harness := (true, "4537cea42f04e6d4bbe0e12e152a415ac6be5102f491286cbd7ba1533d766fa2"), looks := true }, kinds := [], alts := [], laidByText := true, laidKinds := [.data, .data, .data, .data, .pinned], laidTests := true, laidLooks := .later }
def AskJudgesCardSaid : Prop := Claim7.holds Tryz.pinned (.plain (OpenSpec.ofChange askJudgesSpec)) askJudgesCard

/-- THE SECOND FORM's CARD OF 'udometerlaw10.AskJudges'. -/
def askJudgesUptoCard : Claim7 := { stood := { row := askJudgesUptoRow, standIns := [], harness := (true, "4537cea42f04e6d4bbe0e12e152a415ac6be5102f491286cbd7ba1533d766fa2"), looks := true }, kinds := [], alts := [], laidByText := true, laidKinds := [.data, .data, .data, .data, .pinned], laidTests := true, laidLooks := .later }
def AskJudgesUptoCardSaid : Prop := Claim7.holds Tryz.pinned (.plain (OpenSpec.upto askJudgesSpec)) askJudgesUptoCard
end Rows
end Go.Proofs.YtemomehoikbegaaGreatDoor
