/-
  DERIVED. GIVEN WITH THE SEED: THE CARDS: each row of YtjlnoogcggdhkaaGreatDoorRows.lean that lists a variable, with what it lists TIED to the program's text (the seventh form; the later family's looks); each row that meets fmt, with fmt's text TOLD by the authors' own Lean function (tested against real Go, not proved from fmt's source: count such statements apart). THE CARD IS WHAT COUNTS. Prove the row's statement (the work); the ties are given (YtjlnoogcggdhkaaGreatDoorTie.lean); close each card by the builder's one call (the guide's Derived/Test/ToyasCard.lean, 'card_holds'). Laid BY PROGRAM, IN A SANDBOX (cutbox-door.mjs). By AI agents, Wed Nov 11 2026. No macro, syntax, notation, axiom, sorry.
-/
import Derived.Test.YtjlnoogcggdhkaaGreatDoorRows
import GoSem.ClaimSeven
namespace Go.Proofs.YtjlnoogcggdhkaaGreatDoor
namespace Rows

/-- THE TIED CARD OF 'certpathlaw30.StepEnters'. -/
def stepEntersCard : Claim7 := { stood := { row := stepEntersRow, standIns := [], harness := (true, "5ac70c92537888ad8f04b9c76f4f33f30a3e46fd43cc0a321c92ef06060ece01"), looks := false }, kinds := [], alts := [], laidByText := true, laidKinds := [.data, .pinned], laidTests := true, laidLooks := .later }
def StepEntersCardSaid : Prop := Claim7.holds Tryz.pinned (.plain (OpenSpec.ofChange stepEntersSpec)) stepEntersCard

/-- THE SECOND FORM's CARD OF 'certpathlaw30.StepEnters'. -/
def stepEntersUptoCard : Claim7 := { stood := { row := stepEntersUptoRow, standIns := [], harness := (true, "5ac70c92537888ad8f04b9c76f4f33f30a3e46fd43cc0a321c92ef06060ece01"), looks := false }, kinds := [], alts := [], laidByText := true, laidKinds := [.data, .pinned], laidTests := true, laidLooks := .later }
def StepEntersUptoCardSaid : Prop := Claim7.holds Tryz.pinned (.plain (OpenSpec.upto stepEntersSpec)) stepEntersUptoCard
end Rows
end Go.Proofs.YtjlnoogcggdhkaaGreatDoor
