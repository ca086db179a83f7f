/-
  No cell of these rows narrows 'for every input' (looked for: loops, veiled, ifaces, maps, wideKeys, modest, calm, conditions, laid).
  DERIVED. THE GIVEN ROWS OF THIS SEAT. 6 by the template 'for every input the law returns true; each argument reads behind the call as it read before'; 0 by the template 'total and deterministic' (their statements: YthghpgnnbdimaaaTotals.lean).
  GIVEN WITH THE SEED: the statements are not yours to turn. If you find one false, say at which input.
  Laid BY PROGRAM, IN A SANDBOX (cutbox-rows.mjs): the forced cells as the released guide's own fill.sh prints them over the translation 060edf3a7fd62e61… (all of the seat's roots in one cut). By AI agents, Wed Nov 11 2026. No macro, syntax, notation, axiom, sorry.
-/
import Derived.Test.YthghpgnnbdimaaaChecked
import GoSem.Claim
import GoSem.ClaimJoined
import GoSem.ClaimMapViews
import Derived.JoinedTies
import Derived.KernelRfl
namespace Go.Proofs.Ythghpgnnbdimaaa
/- THE CELL 'sum', in the pinned program and in every row, IS THE sha256 OF THE DUMP (.gsa) THAT YthghpgnnbdimaaaProg.lean LOADS. Nothing in Lean hashes anything: it is a label: what it is worth is what the hold of that sum in a sandbox is worth. -/
noncomputable def Try.pinned : Pinned := { name := "ythghpgnnbdimaaa", sum := "060edf3a7fd62e6161b1bd6b16c9500126f82cea8330622e9d8694ecb32c61ba", checked := Try.checked }
namespace Rows
def none {H : Type} : Left H := { results := [], args := [] }

/-- 'joysticklaw10.RegsGet': WHATEVER THE INPUT: true; the input reads as it did. -/
def regsGetSpec : ChangeSpec := { name := "regsGet", fn := fun _ => fun
  | [d1, d2, d3] => { results := [.lit (.bool true)], args := [d1, d2, d3] }
  | _ => none }
def regsGetRow : OpenClaim := { program := "ythghpgnnbdimaaa", sum := "060edf3a7fd62e6161b1bd6b16c9500126f82cea8330622e9d8694ecb32c61ba", func := "joystick/joysticklaw10.RegsGet", spec := "regsGet", recurses := true, apart := false }
def RegsGetSaid : Prop := regsGetRow.holds Try.pinned (OpenSpec.ofChange regsGetSpec)

/-- ITS FALSE NEIGHBOUR: 'it returns false'. Refute it at one input. -/
def regsGetWrong : ChangeSpec := { name := "regsGet", fn := fun _ => fun
  | [d1, d2, d3] => { results := [.lit (.bool false)], args := [d1, d2, d3] }
  | _ => none }
def RegsGetWrongFalsely : Prop := regsGetRow.holds Try.pinned (OpenSpec.ofChange regsGetWrong)

/-- 'joysticklaw10.RegsNames': WHATEVER THE INPUT: true; the input reads as it did. -/
def regsNamesSpec : ChangeSpec := { name := "regsNames", fn := fun _ => fun
  | [] => { results := [.lit (.bool true)], args := [] }
  | _ => none }
def regsNamesRow : OpenClaim := { program := "ythghpgnnbdimaaa", sum := "060edf3a7fd62e6161b1bd6b16c9500126f82cea8330622e9d8694ecb32c61ba", func := "joystick/joysticklaw10.RegsNames", spec := "regsNames", apart := false }
def RegsNamesSaid : Prop := regsNamesRow.holds Try.pinned (OpenSpec.ofChange regsNamesSpec)

/-- ITS FALSE NEIGHBOUR: 'it returns false'. Refute it at one input. -/
def regsNamesWrong : ChangeSpec := { name := "regsNames", fn := fun _ => fun
  | [] => { results := [.lit (.bool false)], args := [] }
  | _ => none }
def RegsNamesWrongFalsely : Prop := regsNamesRow.holds Try.pinned (OpenSpec.ofChange regsNamesWrong)

/-- 'joysticklaw10.RegsBack': WHATEVER THE INPUT: true; the input reads as it did. -/
def regsBackSpec : ChangeSpec := { name := "regsBack", fn := fun _ => fun
  | [d1, d2, d3] => { results := [.lit (.bool true)], args := [d1, d2, d3] }
  | _ => none }
def regsBackRow : OpenClaim := { program := "ythghpgnnbdimaaa", sum := "060edf3a7fd62e6161b1bd6b16c9500126f82cea8330622e9d8694ecb32c61ba", func := "joystick/joysticklaw10.RegsBack", spec := "regsBack", apart := false }
def RegsBackSaid : Prop := regsBackRow.holds Try.pinned (OpenSpec.ofChange regsBackSpec)

/-- ITS FALSE NEIGHBOUR: 'it returns false'. Refute it at one input. -/
def regsBackWrong : ChangeSpec := { name := "regsBack", fn := fun _ => fun
  | [d1, d2, d3] => { results := [.lit (.bool false)], args := [d1, d2, d3] }
  | _ => none }
def RegsBackWrongFalsely : Prop := regsBackRow.holds Try.pinned (OpenSpec.ofChange regsBackWrong)

/-- 'joysticklaw10.RegsTurn': WHATEVER THE INPUT: true; the input reads as it did. -/
def regsTurnSpec : ChangeSpec := { name := "regsTurn", fn := fun _ => fun
  | [d1, d2, d3] => { results := [.lit (.bool true)], args := [d1, d2, d3] }
  | _ => none }
def regsTurnRow : OpenClaim := { program := "ythghpgnnbdimaaa", sum := "060edf3a7fd62e6161b1bd6b16c9500126f82cea8330622e9d8694ecb32c61ba", func := "joystick/joysticklaw10.RegsTurn", spec := "regsTurn", recurses := true, apart := false }
def RegsTurnSaid : Prop := regsTurnRow.holds Try.pinned (OpenSpec.ofChange regsTurnSpec)

/-- ITS FALSE NEIGHBOUR: 'it returns false'. Refute it at one input. -/
def regsTurnWrong : ChangeSpec := { name := "regsTurn", fn := fun _ => fun
  | [d1, d2, d3] => { results := [.lit (.bool false)], args := [d1, d2, d3] }
  | _ => none }
def RegsTurnWrongFalsely : Prop := regsTurnRow.holds Try.pinned (OpenSpec.ofChange regsTurnWrong)

/-- 'joysticklaw10.RegsSet': WHATEVER THE INPUT: true; the input reads as it did. -/
def regsSetSpec : ChangeSpec := { name := "regsSet", fn := fun _ => fun
  | [d1, d2, d3] => { results := [.lit (.bool true)], args := [d1, d2, d3] }
  | _ => none }
def regsSetRow : OpenClaim := { program := "ythghpgnnbdimaaa", sum := "060edf3a7fd62e6161b1bd6b16c9500126f82cea8330622e9d8694ecb32c61ba", func := "joystick/joysticklaw10.RegsSet", spec := "regsSet", recurses := true, apart := false }
def RegsSetSaid : Prop := regsSetRow.holds Try.pinned (OpenSpec.ofChange regsSetSpec)

/-- ITS FALSE NEIGHBOUR: 'it returns false'. Refute it at one input. -/
def regsSetWrong : ChangeSpec := { name := "regsSet", fn := fun _ => fun
  | [d1, d2, d3] => { results := [.lit (.bool false)], args := [d1, d2, d3] }
  | _ => none }
def RegsSetWrongFalsely : Prop := regsSetRow.holds Try.pinned (OpenSpec.ofChange regsSetWrong)

/-- 'joysticklaw10.RegsApart': WHATEVER THE INPUT: true; the input reads as it did. -/
def regsApartSpec : ChangeSpec := { name := "regsApart", fn := fun _ => fun
  | [d1, d2, d3] => { results := [.lit (.bool true)], args := [d1, d2, d3] }
  | _ => none }
def regsApartRow : OpenClaim := { program := "ythghpgnnbdimaaa", sum := "060edf3a7fd62e6161b1bd6b16c9500126f82cea8330622e9d8694ecb32c61ba", func := "joystick/joysticklaw10.RegsApart", spec := "regsApart", apart := false }
def RegsApartSaid : Prop := regsApartRow.holds Try.pinned (OpenSpec.ofChange regsApartSpec)

/-- ITS FALSE NEIGHBOUR: 'it returns false'. Refute it at one input. -/
def regsApartWrong : ChangeSpec := { name := "regsApart", fn := fun _ => fun
  | [d1, d2, d3] => { results := [.lit (.bool false)], args := [d1, d2, d3] }
  | _ => none }
def RegsApartWrongFalsely : Prop := regsApartRow.holds Try.pinned (OpenSpec.ofChange regsApartWrong)

/- THE SECOND FORM. 'bulk': how many values and letters a reading holds, each counted each time it is reached (what is shared counts as often as it is met; a slice's spare places count too). A statement '..UptoSaid' is the law's where the arguments, and the package variables that the reading takes, are together of bulk at most 1048576: NARROWER than '..Said'. Prove '..Said' where nothing that the law and all that it calls make is longer than what came in: it says more and counts as full. Else prove '..UptoSaid'. A law counts once. -/
mutual
def uptoBulk {H : Type} : DataW H → Nat
  | .lit (.string bytes) => bytes.length + 1
  | .lit _ => 1
  | .nil => 1
  | .ptr d => uptoBulk d + 1
  | .slice elems spare => uptoBulkAll elems + uptoBulkAll spare + 1
  | .agg parts => uptoBulkAll parts + 1
  | .iface _ d => uptoBulk d + 1
  | .map entries => uptoBulkEntries entries + 1
  | .held _ => 1
def uptoBulkAll {H : Type} : List (DataW H) → Nat
  | [] => 0
  | d :: r => uptoBulk d + uptoBulkAll r
def uptoBulkEntries {H : Type} : List (Lit × DataW H) → Nat
  | [] => 0
  | x :: r => uptoBulkEntry x + uptoBulkEntries r
def uptoBulkEntry {H : Type} : Lit × DataW H → Nat
  | (.string bytes, d) => bytes.length + uptoBulk d + 1
  | (_, d) => uptoBulk d + 1
 end
def uptoSmall : (H : Type) → List (DataW H) → Bool := fun _ ds => decide (uptoBulkAll ds ≤ 1048576)
def OpenSpec.upto (s : _root_.Go.ChangeSpec) : _root_.Go.OpenSpec := { _root_.Go.OpenSpec.ofChange s with cond := some uptoSmall }

/-- 'joysticklaw10.RegsGet', WHERE WHAT IT READS IS OF BULK AT MOST 1048576: true; the input reads as it did. -/
def regsGetUptoRow : OpenClaim := { program := "ythghpgnnbdimaaa", sum := "060edf3a7fd62e6161b1bd6b16c9500126f82cea8330622e9d8694ecb32c61ba", func := "joystick/joysticklaw10.RegsGet", spec := "regsGet", recurses := true, apart := false, narrowed := true }
def RegsGetUptoSaid : Prop := regsGetUptoRow.holds Try.pinned (OpenSpec.upto regsGetSpec)

/-- 'joysticklaw10.RegsNames', WHERE WHAT IT READS IS OF BULK AT MOST 1048576: true; the input reads as it did. -/
def regsNamesUptoRow : OpenClaim := { program := "ythghpgnnbdimaaa", sum := "060edf3a7fd62e6161b1bd6b16c9500126f82cea8330622e9d8694ecb32c61ba", func := "joystick/joysticklaw10.RegsNames", spec := "regsNames", apart := false, narrowed := true }
def RegsNamesUptoSaid : Prop := regsNamesUptoRow.holds Try.pinned (OpenSpec.upto regsNamesSpec)

/-- 'joysticklaw10.RegsBack', WHERE WHAT IT READS IS OF BULK AT MOST 1048576: true; the input reads as it did. -/
def regsBackUptoRow : OpenClaim := { program := "ythghpgnnbdimaaa", sum := "060edf3a7fd62e6161b1bd6b16c9500126f82cea8330622e9d8694ecb32c61ba", func := "joystick/joysticklaw10.RegsBack", spec := "regsBack", apart := false, narrowed := true }
def RegsBackUptoSaid : Prop := regsBackUptoRow.holds Try.pinned (OpenSpec.upto regsBackSpec)

/-- 'joysticklaw10.RegsTurn', WHERE WHAT IT READS IS OF BULK AT MOST 1048576: true; the input reads as it did. -/
def regsTurnUptoRow : OpenClaim := { program := "ythghpgnnbdimaaa", sum := "060edf3a7fd62e6161b1bd6b16c9500126f82cea8330622e9d8694ecb32c61ba", func := "joystick/joysticklaw10.RegsTurn", spec := "regsTurn", recurses := true, apart := false, narrowed := true }
def RegsTurnUptoSaid : Prop := regsTurnUptoRow.holds Try.pinned (OpenSpec.upto regsTurnSpec)

/-- 'joysticklaw10.RegsSet', WHERE WHAT IT READS IS OF BULK AT MOST 1048576: true; the input reads as it did. -/
def regsSetUptoRow : OpenClaim := { program := "ythghpgnnbdimaaa", sum := "060edf3a7fd62e6161b1bd6b16c9500126f82cea8330622e9d8694ecb32c61ba", func := "joystick/joysticklaw10.RegsSet", spec := "regsSet", recurses := true, apart := false, narrowed := true }
def RegsSetUptoSaid : Prop := regsSetUptoRow.holds Try.pinned (OpenSpec.upto regsSetSpec)

/-- 'joysticklaw10.RegsApart', WHERE WHAT IT READS IS OF BULK AT MOST 1048576: true; the input reads as it did. -/
def regsApartUptoRow : OpenClaim := { program := "ythghpgnnbdimaaa", sum := "060edf3a7fd62e6161b1bd6b16c9500126f82cea8330622e9d8694ecb32c61ba", func := "joystick/joysticklaw10.RegsApart", spec := "regsApart", apart := false, narrowed := true }
def RegsApartUptoSaid : Prop := regsApartUptoRow.holds Try.pinned (OpenSpec.upto regsApartSpec)

end Rows
end Go.Proofs.Ythghpgnnbdimaaa
