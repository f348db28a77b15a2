/-
  DERIVED. GIVEN WITH THE SEED: THE CARDS: each row of YtcfmanhblonjeaaGreatDoorRows.lean that lists a variable, with what it lists TIED to the program's text (the seventh form; the later family's looks); each row that meets fmt, with fmt's text TOLD by the authors' own Lean function (tested against real Go, not proved from fmt's source: count such statements apart). THE CARD IS WHAT COUNTS. Prove the row's statement (the work); the ties are given (YtcfmanhblonjeaaGreatDoorTie.lean); close each card by the builder's one call (the guide's Derived/Test/ToyasCard.lean, 'card_holds'). Laid BY PROGRAM, IN A SANDBOX (cutbox-door.mjs). By AI agents, Wed Nov 11 2026. No macro, syntax, notation, axiom, sorry.
-/
import Derived.Test.YtcfmanhblonjeaaGreatDoorRows
import GoSem.ClaimSeven
namespace Go.Proofs.YtcfmanhblonjeaaGreatDoor
namespace Rows

/-- THE TIED CARD OF 'certpathlaw30.StepEnds'. -/
def stepEndsCard : Claim7 := { stood := { row := stepEndsRow, standIns := [], harness := (true, "520b2b9bdd10b60eb190af8159835b85abaa20b2a13d332216635ed275dd1dac"), looks := false }, kinds := [], alts := [], laidByText := true, laidKinds := [.data, .pinned], laidTests := true, laidLooks := .later }
def StepEndsCardSaid : Prop := Claim7.holds Tryz.pinned (.plain (OpenSpec.ofChange stepEndsSpec)) stepEndsCard

/-- THE SECOND FORM's CARD OF 'certpathlaw30.StepEnds'. -/
def stepEndsUptoCard : Claim7 := { stood := { row := stepEndsUptoRow, standIns := [], harness := (true, "520b2b9bdd10b60eb190af8159835b85abaa20b2a13d332216635ed275dd1dac"), looks := false }, kinds := [], alts := [], laidByText := true, laidKinds := [.data, .pinned], laidTests := true, laidLooks := .later }
def StepEndsUptoCardSaid : Prop := Claim7.holds Tryz.pinned (.plain (OpenSpec.upto stepEndsSpec)) stepEndsUptoCard
end Rows
end Go.Proofs.YtcfmanhblonjeaaGreatDoor
