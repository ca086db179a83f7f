/-
  DERIVED. GIVEN WITH THE SEED: THE CARDS: each row of YtnhgmdfmhmkpgaaDoorRows.lean that lists a variable, with what it lists TIED to the program's text (the seventh form; the later family's looks); each row that meets fmt, with fmt's text TOLD by the authors' own Lean function (tested against real Go, not proved from fmt's source: count such statements apart). THE CARD IS WHAT COUNTS. Prove the row's statement (the work); the ties are given (YtnhgmdfmhmkpgaaDoorTie.lean); close each card by the builder's one call (the guide's Derived/Test/ToyasCard.lean, 'card_holds'). Laid BY PROGRAM, IN A SANDBOX (cutbox-door.mjs). By AI agents, Wed Nov 11 2026. No macro, syntax, notation, axiom, sorry.
-/
import Derived.Test.YtnhgmdfmhmkpgaaDoorRows
import GoSem.ClaimSeven
namespace Go.Proofs.YtnhgmdfmhmkpgaaDoor
namespace Rows

/-- THE TIED CARD OF 'joysticklaw11.NamesPages'. -/
def namesPagesCard : Claim7 := { stood := { row := namesPagesRow, standIns := [], harness := (true, "15482d2e75ad2ab2220ee30239639a91abcc687731ad4c746319bbfa04a6a6fd"), looks := false }, kinds := [], alts := [], laidByText := true, laidKinds := [.data, .data, .data, .data, .listed, .data, .pinned, .pinned], laidTests := true, laidLooks := .later }
def NamesPagesCardSaid : Prop := Claim7.holds Tryd.pinned (.plain (OpenSpec.ofChange namesPagesSpec)) namesPagesCard

/-- THE TIED CARD OF 'joysticklaw11.NamesEnds'. -/
def namesEndsCard : Claim7 := { stood := { row := namesEndsRow, standIns := [], harness := (true, "15482d2e75ad2ab2220ee30239639a91abcc687731ad4c746319bbfa04a6a6fd"), looks := false }, kinds := [], alts := [], laidByText := true, laidKinds := [.data, .data, .data, .data, .listed, .data, .pinned, .pinned], laidTests := true, laidLooks := .later }
def NamesEndsCardSaid : Prop := Claim7.holds Tryd.pinned (.plain (OpenSpec.ofChange namesEndsSpec)) namesEndsCard

/-- THE TIED CARD OF 'joysticklaw11.NamesDiffer'. -/
def namesDifferCard : Claim7 := { stood := { row := namesDifferRow, standIns := [], harness := (true, "15482d2e75ad2ab2220ee30239639a91abcc687731ad4c746319bbfa04a6a6fd"), looks := false }, kinds := [], alts := [], laidByText := true, laidKinds := [.data, .data, .data, .data, .listed, .data, .pinned, .pinned], laidTests := true, laidLooks := .later }
def NamesDifferCardSaid : Prop := Claim7.holds Tryd.pinned (.plain (OpenSpec.ofChange namesDifferSpec)) namesDifferCard

/-- THE SECOND FORM's CARD OF 'joysticklaw11.NamesPages'. -/
def namesPagesUptoCard : Claim7 := { stood := { row := namesPagesUptoRow, standIns := [], harness := (true, "15482d2e75ad2ab2220ee30239639a91abcc687731ad4c746319bbfa04a6a6fd"), looks := false }, kinds := [], alts := [], laidByText := true, laidKinds := [.data, .data, .data, .data, .listed, .data, .pinned, .pinned], laidTests := true, laidLooks := .later }
def NamesPagesUptoCardSaid : Prop := Claim7.holds Tryd.pinned (.plain (OpenSpec.upto namesPagesSpec)) namesPagesUptoCard

/-- THE SECOND FORM's CARD OF 'joysticklaw11.NamesEnds'. -/
def namesEndsUptoCard : Claim7 := { stood := { row := namesEndsUptoRow, standIns := [], harness := (true, "15482d2e75ad2ab2220ee30239639a91abcc687731ad4c746319bbfa04a6a6fd"), looks := false }, kinds := [], alts := [], laidByText := true, laidKinds := [.data, .data, .data, .data, .listed, .data, .pinned, .pinned], laidTests := true, laidLooks := .later }
def NamesEndsUptoCardSaid : Prop := Claim7.holds Tryd.pinned (.plain (OpenSpec.upto namesEndsSpec)) namesEndsUptoCard

/-- THE SECOND FORM's CARD OF 'joysticklaw11.NamesDiffer'. -/
def namesDifferUptoCard : Claim7 := { stood := { row := namesDifferUptoRow, standIns := [], harness := (true, "15482d2e75ad2ab2220ee30239639a91abcc687731ad4c746319bbfa04a6a6fd"), looks := false }, kinds := [], alts := [], laidByText := true, laidKinds := [.data, .data, .data, .data, .listed, .data, .pinned, .pinned], laidTests := true, laidLooks := .later }
def NamesDifferUptoCardSaid : Prop := Claim7.holds Tryd.pinned (.plain (OpenSpec.upto namesDifferSpec)) namesDifferUptoCard
end Rows
end Go.Proofs.YtnhgmdfmhmkpgaaDoor
