/-
  No cell of these rows narrows 'for every input' (looked for: loops, veiled, ifaces, maps, wideKeys, modest, calm, conditions, laid).
  DERIVED. THE GIVEN ROWS OF THIS SEAT. 6 by the template 'for every input the law returns true; each argument reads behind the call as it read before'; 0 by the template 'total and deterministic' (their statements: YtlhbokennnjohaaTotals.lean).
  GIVEN WITH THE SEED: the statements are not yours to turn. If you find one false, say at which input.
  Laid BY PROGRAM, IN A SANDBOX (cutbox-rows.mjs): the forced cells as the released guide's own fill.sh prints them over the translation 042f37db4550de84… (all of the seat's roots in one cut). By AI agents, Wed Nov 11 2026. No macro, syntax, notation, axiom, sorry.
-/
import Derived.Test.YtlhbokennnjohaaChecked
import GoSem.Claim
import GoSem.ClaimJoined
import GoSem.ClaimMapViews
import Derived.JoinedTies
import Derived.KernelRfl
namespace Go.Proofs.Ytlhbokennnjohaa
/- THE CELL 'sum', in the pinned program and in every row, IS THE sha256 OF THE DUMP (.gsa) THAT YtlhbokennnjohaaProg.lean LOADS. Nothing in Lean hashes anything: it is a label: what it is worth is what the hold of that sum in a sandbox is worth. -/
noncomputable def Try.pinned : Pinned := { name := "ytlhbokennnjohaa", sum := "042f37db4550de8493cf4029d04ed84d46dee601965b04d243109780a14e5b13", checked := Try.checked }
namespace Rows
def none {H : Type} : Left H := { results := [], args := [] }

/-- 'joysticklaw08.TurnsBit': WHATEVER THE INPUT: true; the input reads as it did. -/
def turnsBitSpec : ChangeSpec := { name := "turnsBit", fn := fun _ => fun
  | [d1, d2, d3] => { results := [.lit (.bool true)], args := [d1, d2, d3] }
  | _ => none }
def turnsBitRow : OpenClaim := { program := "ytlhbokennnjohaa", sum := "042f37db4550de8493cf4029d04ed84d46dee601965b04d243109780a14e5b13", func := "joystick/joysticklaw08.TurnsBit", spec := "turnsBit", apart := false }
def TurnsBitSaid : Prop := turnsBitRow.holds Try.pinned (OpenSpec.ofChange turnsBitSpec)

/-- ITS FALSE NEIGHBOUR: 'it returns false'. Refute it at one input. -/
def turnsBitWrong : ChangeSpec := { name := "turnsBit", fn := fun _ => fun
  | [d1, d2, d3] => { results := [.lit (.bool false)], args := [d1, d2, d3] }
  | _ => none }
def TurnsBitWrongFalsely : Prop := turnsBitRow.holds Try.pinned (OpenSpec.ofChange turnsBitWrong)

/-- 'joysticklaw08.TurnsDouble': WHATEVER THE INPUT: true; the input reads as it did. -/
def turnsDoubleSpec : ChangeSpec := { name := "turnsDouble", fn := fun _ => fun
  | [d1, d2, d3] => { results := [.lit (.bool true)], args := [d1, d2, d3] }
  | _ => none }
def turnsDoubleRow : OpenClaim := { program := "ytlhbokennnjohaa", sum := "042f37db4550de8493cf4029d04ed84d46dee601965b04d243109780a14e5b13", func := "joystick/joysticklaw08.TurnsDouble", spec := "turnsDouble", apart := false }
def TurnsDoubleSaid : Prop := turnsDoubleRow.holds Try.pinned (OpenSpec.ofChange turnsDoubleSpec)

/-- ITS FALSE NEIGHBOUR: 'it returns false'. Refute it at one input. -/
def turnsDoubleWrong : ChangeSpec := { name := "turnsDouble", fn := fun _ => fun
  | [d1, d2, d3] => { results := [.lit (.bool false)], args := [d1, d2, d3] }
  | _ => none }
def TurnsDoubleWrongFalsely : Prop := turnsDoubleRow.holds Try.pinned (OpenSpec.ofChange turnsDoubleWrong)

/-- 'joysticklaw08.TurnsRot': WHATEVER THE INPUT: true; the input reads as it did. -/
def turnsRotSpec : ChangeSpec := { name := "turnsRot", fn := fun _ => fun
  | [d1, d2, d3] => { results := [.lit (.bool true)], args := [d1, d2, d3] }
  | _ => none }
def turnsRotRow : OpenClaim := { program := "ytlhbokennnjohaa", sum := "042f37db4550de8493cf4029d04ed84d46dee601965b04d243109780a14e5b13", func := "joystick/joysticklaw08.TurnsRot", spec := "turnsRot", apart := false }
def TurnsRotSaid : Prop := turnsRotRow.holds Try.pinned (OpenSpec.ofChange turnsRotSpec)

/-- ITS FALSE NEIGHBOUR: 'it returns false'. Refute it at one input. -/
def turnsRotWrong : ChangeSpec := { name := "turnsRot", fn := fun _ => fun
  | [d1, d2, d3] => { results := [.lit (.bool false)], args := [d1, d2, d3] }
  | _ => none }
def TurnsRotWrongFalsely : Prop := turnsRotRow.holds Try.pinned (OpenSpec.ofChange turnsRotWrong)

/-- 'joysticklaw08.TurnsDigits': WHATEVER THE INPUT: true; the input reads as it did. -/
def turnsDigitsSpec : ChangeSpec := { name := "turnsDigits", fn := fun _ => fun
  | [d1, d2] => { results := [.lit (.bool true)], args := [d1, d2] }
  | _ => none }
def turnsDigitsRow : OpenClaim := { program := "ytlhbokennnjohaa", sum := "042f37db4550de8493cf4029d04ed84d46dee601965b04d243109780a14e5b13", func := "joystick/joysticklaw08.TurnsDigits", spec := "turnsDigits", apart := false }
def TurnsDigitsSaid : Prop := turnsDigitsRow.holds Try.pinned (OpenSpec.ofChange turnsDigitsSpec)

/-- ITS FALSE NEIGHBOUR: 'it returns false'. Refute it at one input. -/
def turnsDigitsWrong : ChangeSpec := { name := "turnsDigits", fn := fun _ => fun
  | [d1, d2] => { results := [.lit (.bool false)], args := [d1, d2] }
  | _ => none }
def TurnsDigitsWrongFalsely : Prop := turnsDigitsRow.holds Try.pinned (OpenSpec.ofChange turnsDigitsWrong)

/-- 'joysticklaw08.TurnsBack': WHATEVER THE INPUT: true; the input reads as it did. -/
def turnsBackSpec : ChangeSpec := { name := "turnsBack", fn := fun _ => fun
  | [d1, d2, d3] => { results := [.lit (.bool true)], args := [d1, d2, d3] }
  | _ => none }
def turnsBackRow : OpenClaim := { program := "ytlhbokennnjohaa", sum := "042f37db4550de8493cf4029d04ed84d46dee601965b04d243109780a14e5b13", func := "joystick/joysticklaw08.TurnsBack", spec := "turnsBack", apart := false }
def TurnsBackSaid : Prop := turnsBackRow.holds Try.pinned (OpenSpec.ofChange turnsBackSpec)

/-- ITS FALSE NEIGHBOUR: 'it returns false'. Refute it at one input. -/
def turnsBackWrong : ChangeSpec := { name := "turnsBack", fn := fun _ => fun
  | [d1, d2, d3] => { results := [.lit (.bool false)], args := [d1, d2, d3] }
  | _ => none }
def TurnsBackWrongFalsely : Prop := turnsBackRow.holds Try.pinned (OpenSpec.ofChange turnsBackWrong)

/-- 'joysticklaw08.TurnsNames': WHATEVER THE INPUT: true; the input reads as it did. -/
def turnsNamesSpec : ChangeSpec := { name := "turnsNames", fn := fun _ => fun
  | [] => { results := [.lit (.bool true)], args := [] }
  | _ => none }
def turnsNamesRow : OpenClaim := { program := "ytlhbokennnjohaa", sum := "042f37db4550de8493cf4029d04ed84d46dee601965b04d243109780a14e5b13", func := "joystick/joysticklaw08.TurnsNames", spec := "turnsNames", apart := false }
def TurnsNamesSaid : Prop := turnsNamesRow.holds Try.pinned (OpenSpec.ofChange turnsNamesSpec)

/-- ITS FALSE NEIGHBOUR: 'it returns false'. Refute it at one input. -/
def turnsNamesWrong : ChangeSpec := { name := "turnsNames", fn := fun _ => fun
  | [] => { results := [.lit (.bool false)], args := [] }
  | _ => none }
def TurnsNamesWrongFalsely : Prop := turnsNamesRow.holds Try.pinned (OpenSpec.ofChange turnsNamesWrong)

/- THE SECOND FORM. 'bulk': how many values and letters a reading holds, each counted each time it is reached (what is shared counts as often as it is met; a slice's spare places count too). A statement '..UptoSaid' is the law's where the arguments, and the package variables that the reading takes, are together of bulk at most 1048576: NARROWER than '..Said'. Prove '..Said' where nothing that the law and all that it calls make is longer than what came in: it says more and counts as full. Else prove '..UptoSaid'. A law counts once. -/
mutual
def uptoBulk {H : Type} : DataW H → Nat
  | .lit (.string bytes) => bytes.length + 1
  | .lit _ => 1
  | .nil => 1
  | .ptr d => uptoBulk d + 1
  | .slice elems spare => uptoBulkAll elems + uptoBulkAll spare + 1
  | .agg parts => uptoBulkAll parts + 1
  | .iface _ d => uptoBulk d + 1
  | .map entries => uptoBulkEntries entries + 1
  | .held _ => 1
def uptoBulkAll {H : Type} : List (DataW H) → Nat
  | [] => 0
  | d :: r => uptoBulk d + uptoBulkAll r
def uptoBulkEntries {H : Type} : List (Lit × DataW H) → Nat
  | [] => 0
  | x :: r => uptoBulkEntry x + uptoBulkEntries r
def uptoBulkEntry {H : Type} : Lit × DataW H → Nat
  | (.string bytes, d) => bytes.length + uptoBulk d + 1
  | (_, d) => uptoBulk d + 1
 end
def uptoSmall : (H : Type) → List (DataW H) → Bool := fun _ ds => decide (uptoBulkAll ds ≤ 1048576)
def OpenSpec.upto (s : _root_.Go.ChangeSpec) : _root_.Go.OpenSpec := { _root_.Go.OpenSpec.ofChange s with cond := some uptoSmall }

/-- 'joysticklaw08.TurnsBit', WHERE WHAT IT READS IS OF BULK AT MOST 1048576: true; the input reads as it did. -/
def turnsBitUptoRow : OpenClaim := { program := "ytlhbokennnjohaa", sum := "042f37db4550de8493cf4029d04ed84d46dee601965b04d243109780a14e5b13", func := "joystick/joysticklaw08.TurnsBit", spec := "turnsBit", apart := false, narrowed := true }
def TurnsBitUptoSaid : Prop := turnsBitUptoRow.holds Try.pinned (OpenSpec.upto turnsBitSpec)

/-- 'joysticklaw08.TurnsDouble', WHERE WHAT IT READS IS OF BULK AT MOST 1048576: true; the input reads as it did. -/
def turnsDoubleUptoRow : OpenClaim := { program := "ytlhbokennnjohaa", sum := "042f37db4550de8493cf4029d04ed84d46dee601965b04d243109780a14e5b13", func := "joystick/joysticklaw08.TurnsDouble", spec := "turnsDouble", apart := false, narrowed := true }
def TurnsDoubleUptoSaid : Prop := turnsDoubleUptoRow.holds Try.pinned (OpenSpec.upto turnsDoubleSpec)

/-- 'joysticklaw08.TurnsRot', WHERE WHAT IT READS IS OF BULK AT MOST 1048576: true; the input reads as it did. -/
def turnsRotUptoRow : OpenClaim := { program := "ytlhbokennnjohaa", sum := "042f37db4550de8493cf4029d04ed84d46dee601965b04d243109780a14e5b13", func := "joystick/joysticklaw08.TurnsRot", spec := "turnsRot", apart := false, narrowed := true }
def TurnsRotUptoSaid : Prop := turnsRotUptoRow.holds Try.pinned (OpenSpec.upto turnsRotSpec)

/-- 'joysticklaw08.TurnsDigits', WHERE WHAT IT READS IS OF BULK AT MOST 1048576: true; the input reads as it did. -/
def turnsDigitsUptoRow : OpenClaim := { program := "ytlhbokennnjohaa", sum := "042f37db4550de8493cf4029d04ed84d46dee601965b04d243109780a14e5b13", func := "joystick/joysticklaw08.TurnsDigits", spec := "turnsDigits", apart := false, narrowed := true }
def TurnsDigitsUptoSaid : Prop := turnsDigitsUptoRow.holds Try.pinned (OpenSpec.upto turnsDigitsSpec)

/-- 'joysticklaw08.TurnsBack', WHERE WHAT IT READS IS OF BULK AT MOST 1048576: true; the input reads as it did. -/
def turnsBackUptoRow : OpenClaim := { program := "ytlhbokennnjohaa", sum := "042f37db4550de8493cf4029d04ed84d46dee601965b04d243109780a14e5b13", func := "joystick/joysticklaw08.TurnsBack", spec := "turnsBack", apart := false, narrowed := true }
def TurnsBackUptoSaid : Prop := turnsBackUptoRow.holds Try.pinned (OpenSpec.upto turnsBackSpec)

/-- 'joysticklaw08.TurnsNames', WHERE WHAT IT READS IS OF BULK AT MOST 1048576: true; the input reads as it did. -/
def turnsNamesUptoRow : OpenClaim := { program := "ytlhbokennnjohaa", sum := "042f37db4550de8493cf4029d04ed84d46dee601965b04d243109780a14e5b13", func := "joystick/joysticklaw08.TurnsNames", spec := "turnsNames", apart := false, narrowed := true }
def TurnsNamesUptoSaid : Prop := turnsNamesUptoRow.holds Try.pinned (OpenSpec.upto turnsNamesSpec)

end Rows
end Go.Proofs.Ytlhbokennnjohaa
