/-
  DERIVED. GIVEN WITH THE SEED: THE CARDS: each row of YtnpndfmbkmbhbaaGreatDoorRows.lean that lists a variable, with what it lists TIED to the program's text (the seventh form; the later family's looks); each row that meets fmt, with fmt's text TOLD by the authors' own Lean function (tested against real Go, not proved from fmt's source: count such statements apart). THE CARD IS WHAT COUNTS. Prove the row's statement (the work); the ties are given (YtnpndfmbkmbhbaaGreatDoorTie.lean); close each card by the builder's one call (the guide's Derived/Test/ToyasCard.lean, 'card_holds'). Laid BY PROGRAM, IN A SANDBOX (cutbox-door.mjs). By AI agents, Wed Nov 11 2026. No macro, syntax, notation, axiom, sorry.
-/
import Derived.Test.YtnpndfmbkmbhbaaGreatDoorRows
import GoSem.ClaimSeven
namespace Go.Proofs.YtnpndfmbkmbhbaaGreatDoor
namespace Rows

/-- THE TIED CARD OF 'certpathlaw28.StatusTwins'. -/
def statusTwinsCard : Claim7 := { stood := { row := statusTwinsRow, standIns := [], harness := (true, "2170fa740cbfec426085958824b6f7a5cb22f3113ed7ba25fdb0d134d146fb31"), looks := false }, kinds := [], alts := [], laidByText := true, laidKinds := [.data, .pinned], laidTests := true, laidLooks := .later }
def StatusTwinsCardSaid : Prop := Claim7.holds Tryz.pinned (.plain (OpenSpec.ofChange statusTwinsSpec)) statusTwinsCard

/-- THE TIED CARD OF 'certpathlaw28.StatusNewest'. -/
def statusNewestCard : Claim7 := { stood := { row := statusNewestRow, standIns := [], harness := (true, "2170fa740cbfec426085958824b6f7a5cb22f3113ed7ba25fdb0d134d146fb31"), looks := false }, kinds := [], alts := [], laidByText := true, laidKinds := [.data, .pinned], laidTests := true, laidLooks := .later }
def StatusNewestCardSaid : Prop := Claim7.holds Tryz.pinned (.plain (OpenSpec.ofChange statusNewestSpec)) statusNewestCard

/-- THE TIED CARD OF 'certpathlaw28.StatusDeltas'. -/
def statusDeltasCard : Claim7 := { stood := { row := statusDeltasRow, standIns := [], harness := (true, "2170fa740cbfec426085958824b6f7a5cb22f3113ed7ba25fdb0d134d146fb31"), looks := false }, kinds := [], alts := [], laidByText := true, laidKinds := [.data, .pinned], laidTests := true, laidLooks := .later }
def StatusDeltasCardSaid : Prop := Claim7.holds Tryz.pinned (.plain (OpenSpec.ofChange statusDeltasSpec)) statusDeltasCard

/-- THE TIED CARD OF 'certpathlaw28.StatusStale'. -/
def statusStaleCard : Claim7 := { stood := { row := statusStaleRow, standIns := [], harness := (true, "2170fa740cbfec426085958824b6f7a5cb22f3113ed7ba25fdb0d134d146fb31"), looks := false }, kinds := [], alts := [], laidByText := true, laidKinds := [.data, .pinned], laidTests := true, laidLooks := .later }
def StatusStaleCardSaid : Prop := Claim7.holds Tryz.pinned (.plain (OpenSpec.ofChange statusStaleSpec)) statusStaleCard

/-- THE TIED CARD OF 'certpathlaw28.StatusPartitions'. -/
def statusPartitionsCard : Claim7 := { stood := { row := statusPartitionsRow, standIns := [], harness := (true, "2170fa740cbfec426085958824b6f7a5cb22f3113ed7ba25fdb0d134d146fb31"), looks := false }, kinds := [], alts := [], laidByText := true, laidKinds := [.data, .pinned], laidTests := true, laidLooks := .later }
def StatusPartitionsCardSaid : Prop := Claim7.holds Tryz.pinned (.plain (OpenSpec.ofChange statusPartitionsSpec)) statusPartitionsCard

/-- THE TIED CARD OF 'certpathlaw28.StatusIndirect'. -/
def statusIndirectCard : Claim7 := { stood := { row := statusIndirectRow, standIns := [], harness := (true, "2170fa740cbfec426085958824b6f7a5cb22f3113ed7ba25fdb0d134d146fb31"), looks := false }, kinds := [], alts := [], laidByText := true, laidKinds := [.data, .pinned], laidTests := true, laidLooks := .later }
def StatusIndirectCardSaid : Prop := Claim7.holds Tryz.pinned (.plain (OpenSpec.ofChange statusIndirectSpec)) statusIndirectCard

/-- THE SECOND FORM's CARD OF 'certpathlaw28.StatusTwins'. -/
def statusTwinsUptoCard : Claim7 := { stood := { row := statusTwinsUptoRow, standIns := [], harness := (true, "2170fa740cbfec426085958824b6f7a5cb22f3113ed7ba25fdb0d134d146fb31"), looks := false }, kinds := [], alts := [], laidByText := true, laidKinds := [.data, .pinned], laidTests := true, laidLooks := .later }
def StatusTwinsUptoCardSaid : Prop := Claim7.holds Tryz.pinned (.plain (OpenSpec.upto statusTwinsSpec)) statusTwinsUptoCard

/-- THE SECOND FORM's CARD OF 'certpathlaw28.StatusNewest'. -/
def statusNewestUptoCard : Claim7 := { stood := { row := statusNewestUptoRow, standIns := [], harness := (true, "2170fa740cbfec426085958824b6f7a5cb22f3113ed7ba25fdb0d134d146fb31"), looks := false }, kinds := [], alts := [], laidByText := true, laidKinds := [.data, .pinned], laidTests := true, laidLooks := .later }
def StatusNewestUptoCardSaid : Prop := Claim7.holds Tryz.pinned (.plain (OpenSpec.upto statusNewestSpec)) statusNewestUptoCard

/-- THE SECOND FORM's CARD OF 'certpathlaw28.StatusDeltas'. -/
def statusDeltasUptoCard : Claim7 := { stood := { row := statusDeltasUptoRow, standIns := [], harness := (true, "2170fa740cbfec426085958824b6f7a5cb22f3113ed7ba25fdb0d134d146fb31"), looks := false }, kinds := [], alts := [], laidByText := true, laidKinds := [.data, .pinned], laidTests := true, laidLooks := .later }
def StatusDeltasUptoCardSaid : Prop := Claim7.holds Tryz.pinned (.plain (OpenSpec.upto statusDeltasSpec)) statusDeltasUptoCard

/-- THE SECOND FORM's CARD OF 'certpathlaw28.StatusStale'. -/
def statusStaleUptoCard : Claim7 := { stood := { row := statusStaleUptoRow, standIns := [], harness := (true, "2170fa740cbfec426085958824b6f7a5cb22f3113ed7ba25fdb0d134d146fb31"), looks := false }, kinds := [], alts := [], laidByText := true, laidKinds := [.data, .pinned], laidTests := true, laidLooks := .later }
def StatusStaleUptoCardSaid : Prop := Claim7.holds Tryz.pinned (.plain (OpenSpec.upto statusStaleSpec)) statusStaleUptoCard

/-- THE SECOND FORM's CARD OF 'certpathlaw28.StatusPartitions'. -/
def statusPartitionsUptoCard : Claim7 := { stood := { row := statusPartitionsUptoRow, standIns := [], harness := (true, "2170fa740cbfec426085958824b6f7a5cb22f3113ed7ba25fdb0d134d146fb31"), looks := false }, kinds := [], alts := [], laidByText := true, laidKinds := [.data, .pinned], laidTests := true, laidLooks := .later }
def StatusPartitionsUptoCardSaid : Prop := Claim7.holds Tryz.pinned (.plain (OpenSpec.upto statusPartitionsSpec)) statusPartitionsUptoCard

/-- THE SECOND FORM's CARD OF 'certpathlaw28.StatusIndirect'. -/
def statusIndirectUptoCard : Claim7 := { stood := { row := statusIndirectUptoRow, standIns := [], harness := (true, "2170fa740cbfec426085958824b6f7a5cb22f3113ed7ba25fdb0d134d146fb31"), looks := false }, kinds := [], alts := [], laidByText := true, laidKinds := [.data, .pinned], laidTests := true, laidLooks := .later }
def StatusIndirectUptoCardSaid : Prop := Claim7.holds Tryz.pinned (.plain (OpenSpec.upto statusIndirectSpec)) statusIndirectUptoCard
end Rows
end Go.Proofs.YtnpndfmbkmbhbaaGreatDoor
