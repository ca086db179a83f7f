/-
  DERIVED. GIVEN WITH THE SEED: THE CARDS: each row of YtnhgmdfmhmkpgaaGreatDoorRows.lean that lists a variable, with what it lists TIED to the program's text (the seventh form; the later family's looks); each row that meets fmt, with fmt's text TOLD by the authors' own Lean function (tested against real Go, not proved from fmt's source: count such statements apart). THE CARD IS WHAT COUNTS. Prove the row's statement (the work); the ties are given (YtnhgmdfmhmkpgaaGreatDoorTie.lean); close each card by the builder's one call (the guide's Derived/Test/ToyasCard.lean, 'card_holds'). Laid BY PROGRAM, IN A SANDBOX (cutbox-door.mjs). By AI agents, Wed Nov 11 2026. No macro, syntax, notation, axiom, sorry.
-/
import Derived.Test.YtnhgmdfmhmkpgaaGreatDoorRows
import GoSem.ClaimSeven
namespace Go.Proofs.YtnhgmdfmhmkpgaaGreatDoor
namespace Rows

/-- THE TIED CARD OF 'joysticklaw11.NamesAll'. -/
def namesAllCard : Claim7 := { stood := { row := namesAllRow, standIns := [], harness := (true, "d2e5457bc5b6be25da32f87dd4efd212bd7ca9c80de326b596381f04fb98b4fd"), looks := false }, kinds := [], alts := [], laidByText := true, laidKinds := [.data, .data, .data, .data, .listed, .data, .pinned, .pinned], laidTests := true, laidLooks := .later }
def NamesAllCardSaid : Prop := Claim7.holds Tryz.pinned (.plain (OpenSpec.ofChange namesAllSpec)) namesAllCard

/-- THE TIED CARD OF 'joysticklaw11.NamesReads'. -/
def namesReadsCard : Claim7 := { stood := { row := namesReadsRow, standIns := [], harness := (true, "d2e5457bc5b6be25da32f87dd4efd212bd7ca9c80de326b596381f04fb98b4fd"), looks := false }, kinds := [], alts := [], laidByText := true, laidKinds := [.data, .data, .data, .data, .listed, .data, .pinned, .pinned], laidTests := true, laidLooks := .later }
def NamesReadsCardSaid : Prop := Claim7.holds Tryz.pinned (.plain (OpenSpec.ofChange namesReadsSpec)) namesReadsCard

/-- THE SECOND FORM's CARD OF 'joysticklaw11.NamesAll'. -/
def namesAllUptoCard : Claim7 := { stood := { row := namesAllUptoRow, standIns := [], harness := (true, "d2e5457bc5b6be25da32f87dd4efd212bd7ca9c80de326b596381f04fb98b4fd"), looks := false }, kinds := [], alts := [], laidByText := true, laidKinds := [.data, .data, .data, .data, .listed, .data, .pinned, .pinned], laidTests := true, laidLooks := .later }
def NamesAllUptoCardSaid : Prop := Claim7.holds Tryz.pinned (.plain (OpenSpec.upto namesAllSpec)) namesAllUptoCard

/-- THE SECOND FORM's CARD OF 'joysticklaw11.NamesReads'. -/
def namesReadsUptoCard : Claim7 := { stood := { row := namesReadsUptoRow, standIns := [], harness := (true, "d2e5457bc5b6be25da32f87dd4efd212bd7ca9c80de326b596381f04fb98b4fd"), looks := false }, kinds := [], alts := [], laidByText := true, laidKinds := [.data, .data, .data, .data, .listed, .data, .pinned, .pinned], laidTests := true, laidLooks := .later }
def NamesReadsUptoCardSaid : Prop := Claim7.holds Tryz.pinned (.plain (OpenSpec.upto namesReadsSpec)) namesReadsUptoCard
end Rows
end Go.Proofs.YtnhgmdfmhmkpgaaGreatDoor
