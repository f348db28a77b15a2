/-
  DERIVED. GIVEN WITH THE SEED: THE CARDS: each row of YtbdfghlkkdkpgaaDoorRows.lean that lists a variable, with what it lists TIED to the program's text (the seventh form; the later family's looks); each row that meets fmt, with fmt's text TOLD by the authors' own Lean function (tested against real Go, not proved from fmt's source: count such statements apart). THE CARD IS WHAT COUNTS. Prove the row's statement (the work); the ties are given (YtbdfghlkkdkpgaaDoorTie.lean); close each card by the builder's one call (the guide's Derived/Test/ToyasCard.lean, 'card_holds'). Laid BY PROGRAM, IN A SANDBOX (cutbox-door.mjs). By AI agents, Wed Nov 11 2026. No macro, syntax, notation, axiom, sorry.
-/
import Derived.Test.YtbdfghlkkdkpgaaDoorRows
import GoSem.ClaimSeven
namespace Go.Proofs.YtbdfghlkkdkpgaaDoor
namespace Rows

/-- THE TIED CARD OF 'certpathlaw27.ScopeCovers'. -/
def scopeCoversCard : Claim7 := { stood := { row := scopeCoversRow, standIns := [], harness := (true, "87e32c66cb7275cbe66de5f4483cde3ffed96674849f9af50df0e95a88e0e3dd"), looks := false }, kinds := [], alts := [], laidByText := true, laidKinds := [.data, .pinned], laidTests := true, laidLooks := .later }
def ScopeCoversCardSaid : Prop := Claim7.holds Tryd.pinned (.plain (OpenSpec.ofChange scopeCoversSpec)) scopeCoversCard

/-- THE TIED CARD OF 'certpathlaw27.ScopeMasks'. -/
def scopeMasksCard : Claim7 := { stood := { row := scopeMasksRow, standIns := [], harness := (true, "87e32c66cb7275cbe66de5f4483cde3ffed96674849f9af50df0e95a88e0e3dd"), looks := false }, kinds := [], alts := [], laidByText := true, laidKinds := [.data, .pinned], laidTests := true, laidLooks := .later }
def ScopeMasksCardSaid : Prop := Claim7.holds Tryd.pinned (.plain (OpenSpec.ofChange scopeMasksSpec)) scopeMasksCard

/-- THE TIED CARD OF 'certpathlaw27.ScopePlain'. -/
def scopePlainCard : Claim7 := { stood := { row := scopePlainRow, standIns := [], harness := (true, "87e32c66cb7275cbe66de5f4483cde3ffed96674849f9af50df0e95a88e0e3dd"), looks := false }, kinds := [], alts := [], laidByText := true, laidKinds := [.data, .pinned], laidTests := true, laidLooks := .later }
def ScopePlainCardSaid : Prop := Claim7.holds Tryd.pinned (.plain (OpenSpec.ofChange scopePlainSpec)) scopePlainCard

/-- THE TIED CARD OF 'certpathlaw27.ScopeReasonsMeet'. -/
def scopeReasonsMeetCard : Claim7 := { stood := { row := scopeReasonsMeetRow, standIns := [], harness := (true, "87e32c66cb7275cbe66de5f4483cde3ffed96674849f9af50df0e95a88e0e3dd"), looks := false }, kinds := [], alts := [], laidByText := true, laidKinds := [.data, .pinned], laidTests := true, laidLooks := .later }
def ScopeReasonsMeetCardSaid : Prop := Claim7.holds Tryd.pinned (.plain (OpenSpec.ofChange scopeReasonsMeetSpec)) scopeReasonsMeetCard

/-- THE TIED CARD OF 'certpathlaw27.ScopeExtends'. -/
def scopeExtendsCard : Claim7 := { stood := { row := scopeExtendsRow, standIns := [], harness := (true, "87e32c66cb7275cbe66de5f4483cde3ffed96674849f9af50df0e95a88e0e3dd"), looks := false }, kinds := [], alts := [], laidByText := true, laidKinds := [.data, .pinned], laidTests := true, laidLooks := .later }
def ScopeExtendsCardSaid : Prop := Claim7.holds Tryd.pinned (.plain (OpenSpec.ofChange scopeExtendsSpec)) scopeExtendsCard

/-- THE SECOND FORM's CARD OF 'certpathlaw27.ScopeCovers'. -/
def scopeCoversUptoCard : Claim7 := { stood := { row := scopeCoversUptoRow, standIns := [], harness := (true, "87e32c66cb7275cbe66de5f4483cde3ffed96674849f9af50df0e95a88e0e3dd"), looks := false }, kinds := [], alts := [], laidByText := true, laidKinds := [.data, .pinned], laidTests := true, laidLooks := .later }
def ScopeCoversUptoCardSaid : Prop := Claim7.holds Tryd.pinned (.plain (OpenSpec.upto scopeCoversSpec)) scopeCoversUptoCard

/-- THE SECOND FORM's CARD OF 'certpathlaw27.ScopeMasks'. -/
def scopeMasksUptoCard : Claim7 := { stood := { row := scopeMasksUptoRow, standIns := [], harness := (true, "87e32c66cb7275cbe66de5f4483cde3ffed96674849f9af50df0e95a88e0e3dd"), looks := false }, kinds := [], alts := [], laidByText := true, laidKinds := [.data, .pinned], laidTests := true, laidLooks := .later }
def ScopeMasksUptoCardSaid : Prop := Claim7.holds Tryd.pinned (.plain (OpenSpec.upto scopeMasksSpec)) scopeMasksUptoCard

/-- THE SECOND FORM's CARD OF 'certpathlaw27.ScopePlain'. -/
def scopePlainUptoCard : Claim7 := { stood := { row := scopePlainUptoRow, standIns := [], harness := (true, "87e32c66cb7275cbe66de5f4483cde3ffed96674849f9af50df0e95a88e0e3dd"), looks := false }, kinds := [], alts := [], laidByText := true, laidKinds := [.data, .pinned], laidTests := true, laidLooks := .later }
def ScopePlainUptoCardSaid : Prop := Claim7.holds Tryd.pinned (.plain (OpenSpec.upto scopePlainSpec)) scopePlainUptoCard

/-- THE SECOND FORM's CARD OF 'certpathlaw27.ScopeReasonsMeet'. -/
def scopeReasonsMeetUptoCard : Claim7 := { stood := { row := scopeReasonsMeetUptoRow, standIns := [], harness := (true, "87e32c66cb7275cbe66de5f4483cde3ffed96674849f9af50df0e95a88e0e3dd"), looks := false }, kinds := [], alts := [], laidByText := true, laidKinds := [.data, .pinned], laidTests := true, laidLooks := .later }
def ScopeReasonsMeetUptoCardSaid : Prop := Claim7.holds Tryd.pinned (.plain (OpenSpec.upto scopeReasonsMeetSpec)) scopeReasonsMeetUptoCard

/-- THE SECOND FORM's CARD OF 'certpathlaw27.ScopeExtends'. -/
def scopeExtendsUptoCard : Claim7 := { stood := { row := scopeExtendsUptoRow, standIns := [], harness := (true, "87e32c66cb7275cbe66de5f4483cde3ffed96674849f9af50df0e95a88e0e3dd"), looks := false }, kinds := [], alts := [], laidByText := true, laidKinds := [.data, .pinned], laidTests := true, laidLooks := .later }
def ScopeExtendsUptoCardSaid : Prop := Claim7.holds Tryd.pinned (.plain (OpenSpec.upto scopeExtendsSpec)) scopeExtendsUptoCard
end Rows
end Go.Proofs.YtbdfghlkkdkpgaaDoor
