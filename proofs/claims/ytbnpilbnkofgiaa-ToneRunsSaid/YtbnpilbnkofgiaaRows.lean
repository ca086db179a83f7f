/-
  No cell of these rows narrows 'for every input' (looked for: loops, veiled, ifaces, maps, wideKeys, modest, calm, conditions, laid).
  DERIVED. THE GIVEN ROWS OF THIS SEAT. 4 by the template 'for every input the law returns true; each argument reads behind the call as it read before'; 0 by the template 'total and deterministic' (their statements: YtbnpilbnkofgiaaTotals.lean).
  GIVEN WITH THE SEED: the statements are not yours to turn. If you find one false, say at which input.
  Laid BY PROGRAM, IN A SANDBOX (cutbox-rows.mjs): the forced cells as the released guide's own fill.sh prints them over the translation 97f7918eb212013a… (all of the seat's roots in one cut). By AI agents, Wed Nov 11 2026. No macro, syntax, notation, axiom, sorry.
-/
import Derived.Test.YtbnpilbnkofgiaaChecked
import GoSem.Claim
import GoSem.ClaimJoined
import GoSem.ClaimMapViews
import Derived.JoinedTies
import Derived.KernelRfl
namespace Go.Proofs.Ytbnpilbnkofgiaa
/- THE CELL 'sum', in the pinned program and in every row, IS THE sha256 OF THE DUMP (.gsa) THAT YtbnpilbnkofgiaaProg.lean LOADS. Nothing in Lean hashes anything: it is a label: what it is worth is what the hold of that sum in a sandbox is worth. -/
noncomputable def Try.pinned : Pinned := { name := "ytbnpilbnkofgiaa", sum := "97f7918eb212013aac2d898b4773f649adef5979d774100f8f9ca38ff0623ae5", checked := Try.checked }
namespace Rows
def none {H : Type} : Left H := { results := [], args := [] }

/-- 'joysticklaw03.ToneNames': WHATEVER THE INPUT: true; the input reads as it did. -/
def toneNamesSpec : ChangeSpec := { name := "toneNames", fn := fun _ => fun
  | [] => { results := [.lit (.bool true)], args := [] }
  | _ => none }
def toneNamesRow : OpenClaim := { program := "ytbnpilbnkofgiaa", sum := "97f7918eb212013aac2d898b4773f649adef5979d774100f8f9ca38ff0623ae5", func := "joystick/joysticklaw03.ToneNames", spec := "toneNames", apart := false }
def ToneNamesSaid : Prop := toneNamesRow.holds Try.pinned (OpenSpec.ofChange toneNamesSpec)

/-- ITS FALSE NEIGHBOUR: 'it returns false'. Refute it at one input. -/
def toneNamesWrong : ChangeSpec := { name := "toneNames", fn := fun _ => fun
  | [] => { results := [.lit (.bool false)], args := [] }
  | _ => none }
def ToneNamesWrongFalsely : Prop := toneNamesRow.holds Try.pinned (OpenSpec.ofChange toneNamesWrong)

/-- 'joysticklaw03.ToneRuns': WHATEVER THE INPUT: true; the input reads as it did. -/
def toneRunsSpec : ChangeSpec := { name := "toneRuns", fn := fun _ => fun
  | [d1, d2] => { results := [.lit (.bool true)], args := [d1, d2] }
  | _ => none }
def toneRunsRow : OpenClaim := { program := "ytbnpilbnkofgiaa", sum := "97f7918eb212013aac2d898b4773f649adef5979d774100f8f9ca38ff0623ae5", func := "joystick/joysticklaw03.ToneRuns", spec := "toneRuns", apart := false }
def ToneRunsSaid : Prop := toneRunsRow.holds Try.pinned (OpenSpec.ofChange toneRunsSpec)

/-- ITS FALSE NEIGHBOUR: 'it returns false'. Refute it at one input. -/
def toneRunsWrong : ChangeSpec := { name := "toneRuns", fn := fun _ => fun
  | [d1, d2] => { results := [.lit (.bool false)], args := [d1, d2] }
  | _ => none }
def ToneRunsWrongFalsely : Prop := toneRunsRow.holds Try.pinned (OpenSpec.ofChange toneRunsWrong)

/-- 'joysticklaw03.ToneBeats': WHATEVER THE INPUT: true; the input reads as it did. -/
def toneBeatsSpec : ChangeSpec := { name := "toneBeats", fn := fun _ => fun
  | [d] => { results := [.lit (.bool true)], args := [d] }
  | _ => none }
def toneBeatsRow : OpenClaim := { program := "ytbnpilbnkofgiaa", sum := "97f7918eb212013aac2d898b4773f649adef5979d774100f8f9ca38ff0623ae5", func := "joystick/joysticklaw03.ToneBeats", spec := "toneBeats", apart := false }
def ToneBeatsSaid : Prop := toneBeatsRow.holds Try.pinned (OpenSpec.ofChange toneBeatsSpec)

/-- ITS FALSE NEIGHBOUR: 'it returns false'. Refute it at one input. -/
def toneBeatsWrong : ChangeSpec := { name := "toneBeats", fn := fun _ => fun
  | [d] => { results := [.lit (.bool false)], args := [d] }
  | _ => none }
def ToneBeatsWrongFalsely : Prop := toneBeatsRow.holds Try.pinned (OpenSpec.ofChange toneBeatsWrong)

/-- 'joysticklaw03.ToneUntil': WHATEVER THE INPUT: true; the input reads as it did. -/
def toneUntilSpec : ChangeSpec := { name := "toneUntil", fn := fun _ => fun
  | [d] => { results := [.lit (.bool true)], args := [d] }
  | _ => none }
def toneUntilRow : OpenClaim := { program := "ytbnpilbnkofgiaa", sum := "97f7918eb212013aac2d898b4773f649adef5979d774100f8f9ca38ff0623ae5", func := "joystick/joysticklaw03.ToneUntil", spec := "toneUntil", apart := false }
def ToneUntilSaid : Prop := toneUntilRow.holds Try.pinned (OpenSpec.ofChange toneUntilSpec)

/-- ITS FALSE NEIGHBOUR: 'it returns false'. Refute it at one input. -/
def toneUntilWrong : ChangeSpec := { name := "toneUntil", fn := fun _ => fun
  | [d] => { results := [.lit (.bool false)], args := [d] }
  | _ => none }
def ToneUntilWrongFalsely : Prop := toneUntilRow.holds Try.pinned (OpenSpec.ofChange toneUntilWrong)

/- THE SECOND FORM. 'bulk': how many values and letters a reading holds, each counted each time it is reached (what is shared counts as often as it is met; a slice's spare places count too). A statement '..UptoSaid' is the law's where the arguments, and the package variables that the reading takes, are together of bulk at most 1048576: NARROWER than '..Said'. Prove '..Said' where nothing that the law and all that it calls make is longer than what came in: it says more and counts as full. Else prove '..UptoSaid'. A law counts once. -/
mutual
def uptoBulk {H : Type} : DataW H → Nat
  | .lit (.string bytes) => bytes.length + 1
  | .lit _ => 1
  | .nil => 1
  | .ptr d => uptoBulk d + 1
  | .slice elems spare => uptoBulkAll elems + uptoBulkAll spare + 1
  | .agg parts => uptoBulkAll parts + 1
  | .iface _ d => uptoBulk d + 1
  | .map entries => uptoBulkEntries entries + 1
  | .held _ => 1
def uptoBulkAll {H : Type} : List (DataW H) → Nat
  | [] => 0
  | d :: r => uptoBulk d + uptoBulkAll r
def uptoBulkEntries {H : Type} : List (Lit × DataW H) → Nat
  | [] => 0
  | x :: r => uptoBulkEntry x + uptoBulkEntries r
def uptoBulkEntry {H : Type} : Lit × DataW H → Nat
  | (.string bytes, d) => bytes.length + uptoBulk d + 1
  | (_, d) => uptoBulk d + 1
 end
def uptoSmall : (H : Type) → List (DataW H) → Bool := fun _ ds => decide (uptoBulkAll ds ≤ 1048576)
def OpenSpec.upto (s : _root_.Go.ChangeSpec) : _root_.Go.OpenSpec := { _root_.Go.OpenSpec.ofChange s with cond := some uptoSmall }

/-- 'joysticklaw03.ToneNames', WHERE WHAT IT READS IS OF BULK AT MOST 1048576: true; the input reads as it did. -/
def toneNamesUptoRow : OpenClaim := { program := "ytbnpilbnkofgiaa", sum := "97f7918eb212013aac2d898b4773f649adef5979d774100f8f9ca38ff0623ae5", func := "joystick/joysticklaw03.ToneNames", spec := "toneNames", apart := false, narrowed := true }
def ToneNamesUptoSaid : Prop := toneNamesUptoRow.holds Try.pinned (OpenSpec.upto toneNamesSpec)

/-- 'joysticklaw03.ToneRuns', WHERE WHAT IT READS IS OF BULK AT MOST 1048576: true; the input reads as it did. -/
def toneRunsUptoRow : OpenClaim := { program := "ytbnpilbnkofgiaa", sum := "97f7918eb212013aac2d898b4773f649adef5979d774100f8f9ca38ff0623ae5", func := "joystick/joysticklaw03.ToneRuns", spec := "toneRuns", apart := false, narrowed := true }
def ToneRunsUptoSaid : Prop := toneRunsUptoRow.holds Try.pinned (OpenSpec.upto toneRunsSpec)

/-- 'joysticklaw03.ToneBeats', WHERE WHAT IT READS IS OF BULK AT MOST 1048576: true; the input reads as it did. -/
def toneBeatsUptoRow : OpenClaim := { program := "ytbnpilbnkofgiaa", sum := "97f7918eb212013aac2d898b4773f649adef5979d774100f8f9ca38ff0623ae5", func := "joystick/joysticklaw03.ToneBeats", spec := "toneBeats", apart := false, narrowed := true }
def ToneBeatsUptoSaid : Prop := toneBeatsUptoRow.holds Try.pinned (OpenSpec.upto toneBeatsSpec)

/-- 'joysticklaw03.ToneUntil', WHERE WHAT IT READS IS OF BULK AT MOST 1048576: true; the input reads as it did. -/
def toneUntilUptoRow : OpenClaim := { program := "ytbnpilbnkofgiaa", sum := "97f7918eb212013aac2d898b4773f649adef5979d774100f8f9ca38ff0623ae5", func := "joystick/joysticklaw03.ToneUntil", spec := "toneUntil", apart := false, narrowed := true }
def ToneUntilUptoSaid : Prop := toneUntilUptoRow.holds Try.pinned (OpenSpec.upto toneUntilSpec)

end Rows
end Go.Proofs.Ytbnpilbnkofgiaa
