/-
  No cell of these rows narrows 'for every input' (looked for: loops, veiled, ifaces, maps, wideKeys, modest, calm, conditions, laid).
  DERIVED. THE GIVEN ROWS OF THIS SEAT. 6 by the template 'for every input the law returns true; each argument reads behind the call as it read before'; 0 by the template 'total and deterministic' (their statements: YtjbdefidkgfijaaTotals.lean).
  GIVEN WITH THE SEED: the statements are not yours to turn. If you find one false, say at which input.
  Laid BY PROGRAM, IN A SANDBOX (cutbox-rows.mjs): the forced cells as the released guide's own fill.sh prints them over the translation dc4ec0e359460603… (all of the seat's roots in one cut). By AI agents, Wed Nov 11 2026. No macro, syntax, notation, axiom, sorry.
-/
import Derived.Test.YtjbdefidkgfijaaChecked
import GoSem.Claim
import GoSem.ClaimJoined
import GoSem.ClaimMapViews
import Derived.JoinedTies
import Derived.KernelRfl
namespace Go.Proofs.Ytjbdefidkgfijaa
/- THE CELL 'sum', in the pinned program and in every row, IS THE sha256 OF THE DUMP (.gsa) THAT YtjbdefidkgfijaaProg.lean LOADS. Nothing in Lean hashes anything: it is a label: what it is worth is what the hold of that sum in a sandbox is worth. -/
noncomputable def Try.pinned : Pinned := { name := "ytjbdefidkgfijaa", sum := "dc4ec0e359460603e4b2aa2cf9df11ebc56150d1c2c168ac9a5a4d9224102d37", checked := Try.checked }
namespace Rows
def none {H : Type} : Left H := { results := [], args := [] }

/-- 'joysticklaw09.RepeatLoads': WHATEVER THE INPUT: true; the input reads as it did. -/
def repeatLoadsSpec : ChangeSpec := { name := "repeatLoads", fn := fun _ => fun
  | [d1, d2] => { results := [.lit (.bool true)], args := [d1, d2] }
  | _ => none }
def repeatLoadsRow : OpenClaim := { program := "ytjbdefidkgfijaa", sum := "dc4ec0e359460603e4b2aa2cf9df11ebc56150d1c2c168ac9a5a4d9224102d37", func := "joystick/joysticklaw09.RepeatLoads", spec := "repeatLoads", apart := false }
def RepeatLoadsSaid : Prop := repeatLoadsRow.holds Try.pinned (OpenSpec.ofChange repeatLoadsSpec)

/-- ITS FALSE NEIGHBOUR: 'it returns false'. Refute it at one input. -/
def repeatLoadsWrong : ChangeSpec := { name := "repeatLoads", fn := fun _ => fun
  | [d1, d2] => { results := [.lit (.bool false)], args := [d1, d2] }
  | _ => none }
def RepeatLoadsWrongFalsely : Prop := repeatLoadsRow.holds Try.pinned (OpenSpec.ofChange repeatLoadsWrong)

/-- 'joysticklaw09.RepeatSeeks': WHATEVER THE INPUT: true; the input reads as it did. -/
def repeatSeeksSpec : ChangeSpec := { name := "repeatSeeks", fn := fun _ => fun
  | [d1, d2] => { results := [.lit (.bool true)], args := [d1, d2] }
  | _ => none }
def repeatSeeksRow : OpenClaim := { program := "ytjbdefidkgfijaa", sum := "dc4ec0e359460603e4b2aa2cf9df11ebc56150d1c2c168ac9a5a4d9224102d37", func := "joystick/joysticklaw09.RepeatSeeks", spec := "repeatSeeks", apart := false }
def RepeatSeeksSaid : Prop := repeatSeeksRow.holds Try.pinned (OpenSpec.ofChange repeatSeeksSpec)

/-- ITS FALSE NEIGHBOUR: 'it returns false'. Refute it at one input. -/
def repeatSeeksWrong : ChangeSpec := { name := "repeatSeeks", fn := fun _ => fun
  | [d1, d2] => { results := [.lit (.bool false)], args := [d1, d2] }
  | _ => none }
def RepeatSeeksWrongFalsely : Prop := repeatSeeksRow.holds Try.pinned (OpenSpec.ofChange repeatSeeksWrong)

/-- 'joysticklaw09.RepeatSeeksAll': WHATEVER THE INPUT: true; the input reads as it did. -/
def repeatSeeksAllSpec : ChangeSpec := { name := "repeatSeeksAll", fn := fun _ => fun
  | [d1, d2] => { results := [.lit (.bool true)], args := [d1, d2] }
  | _ => none }
def repeatSeeksAllRow : OpenClaim := { program := "ytjbdefidkgfijaa", sum := "dc4ec0e359460603e4b2aa2cf9df11ebc56150d1c2c168ac9a5a4d9224102d37", func := "joystick/joysticklaw09.RepeatSeeksAll", spec := "repeatSeeksAll", apart := false }
def RepeatSeeksAllSaid : Prop := repeatSeeksAllRow.holds Try.pinned (OpenSpec.ofChange repeatSeeksAllSpec)

/-- ITS FALSE NEIGHBOUR: 'it returns false'. Refute it at one input. -/
def repeatSeeksAllWrong : ChangeSpec := { name := "repeatSeeksAll", fn := fun _ => fun
  | [d1, d2] => { results := [.lit (.bool false)], args := [d1, d2] }
  | _ => none }
def RepeatSeeksAllWrongFalsely : Prop := repeatSeeksAllRow.holds Try.pinned (OpenSpec.ofChange repeatSeeksAllWrong)

/-- 'joysticklaw09.RepeatNames': WHATEVER THE INPUT: true; the input reads as it did. -/
def repeatNamesSpec : ChangeSpec := { name := "repeatNames", fn := fun _ => fun
  | [] => { results := [.lit (.bool true)], args := [] }
  | _ => none }
def repeatNamesRow : OpenClaim := { program := "ytjbdefidkgfijaa", sum := "dc4ec0e359460603e4b2aa2cf9df11ebc56150d1c2c168ac9a5a4d9224102d37", func := "joystick/joysticklaw09.RepeatNames", spec := "repeatNames", apart := false }
def RepeatNamesSaid : Prop := repeatNamesRow.holds Try.pinned (OpenSpec.ofChange repeatNamesSpec)

/-- ITS FALSE NEIGHBOUR: 'it returns false'. Refute it at one input. -/
def repeatNamesWrong : ChangeSpec := { name := "repeatNames", fn := fun _ => fun
  | [] => { results := [.lit (.bool false)], args := [] }
  | _ => none }
def RepeatNamesWrongFalsely : Prop := repeatNamesRow.holds Try.pinned (OpenSpec.ofChange repeatNamesWrong)

/-- 'joysticklaw09.RepeatPorts': WHATEVER THE INPUT: true; the input reads as it did. -/
def repeatPortsSpec : ChangeSpec := { name := "repeatPorts", fn := fun _ => fun
  | [d1, d2, d3] => { results := [.lit (.bool true)], args := [d1, d2, d3] }
  | _ => none }
def repeatPortsRow : OpenClaim := { program := "ytjbdefidkgfijaa", sum := "dc4ec0e359460603e4b2aa2cf9df11ebc56150d1c2c168ac9a5a4d9224102d37", func := "joystick/joysticklaw09.RepeatPorts", spec := "repeatPorts", apart := false }
def RepeatPortsSaid : Prop := repeatPortsRow.holds Try.pinned (OpenSpec.ofChange repeatPortsSpec)

/-- ITS FALSE NEIGHBOUR: 'it returns false'. Refute it at one input. -/
def repeatPortsWrong : ChangeSpec := { name := "repeatPorts", fn := fun _ => fun
  | [d1, d2, d3] => { results := [.lit (.bool false)], args := [d1, d2, d3] }
  | _ => none }
def RepeatPortsWrongFalsely : Prop := repeatPortsRow.holds Try.pinned (OpenSpec.ofChange repeatPortsWrong)

/-- 'joysticklaw09.RepeatKeeps': WHATEVER THE INPUT: true; the input reads as it did. -/
def repeatKeepsSpec : ChangeSpec := { name := "repeatKeeps", fn := fun _ => fun
  | [d1, d2] => { results := [.lit (.bool true)], args := [d1, d2] }
  | _ => none }
def repeatKeepsRow : OpenClaim := { program := "ytjbdefidkgfijaa", sum := "dc4ec0e359460603e4b2aa2cf9df11ebc56150d1c2c168ac9a5a4d9224102d37", func := "joystick/joysticklaw09.RepeatKeeps", spec := "repeatKeeps", apart := false }
def RepeatKeepsSaid : Prop := repeatKeepsRow.holds Try.pinned (OpenSpec.ofChange repeatKeepsSpec)

/-- ITS FALSE NEIGHBOUR: 'it returns false'. Refute it at one input. -/
def repeatKeepsWrong : ChangeSpec := { name := "repeatKeeps", fn := fun _ => fun
  | [d1, d2] => { results := [.lit (.bool false)], args := [d1, d2] }
  | _ => none }
def RepeatKeepsWrongFalsely : Prop := repeatKeepsRow.holds Try.pinned (OpenSpec.ofChange repeatKeepsWrong)

/- THE SECOND FORM. 'bulk': how many values and letters a reading holds, each counted each time it is reached (what is shared counts as often as it is met; a slice's spare places count too). A statement '..UptoSaid' is the law's where the arguments, and the package variables that the reading takes, are together of bulk at most 1048576: NARROWER than '..Said'. Prove '..Said' where nothing that the law and all that it calls make is longer than what came in: it says more and counts as full. Else prove '..UptoSaid'. A law counts once. -/
mutual
def uptoBulk {H : Type} : DataW H → Nat
  | .lit (.string bytes) => bytes.length + 1
  | .lit _ => 1
  | .nil => 1
  | .ptr d => uptoBulk d + 1
  | .slice elems spare => uptoBulkAll elems + uptoBulkAll spare + 1
  | .agg parts => uptoBulkAll parts + 1
  | .iface _ d => uptoBulk d + 1
  | .map entries => uptoBulkEntries entries + 1
  | .held _ => 1
def uptoBulkAll {H : Type} : List (DataW H) → Nat
  | [] => 0
  | d :: r => uptoBulk d + uptoBulkAll r
def uptoBulkEntries {H : Type} : List (Lit × DataW H) → Nat
  | [] => 0
  | x :: r => uptoBulkEntry x + uptoBulkEntries r
def uptoBulkEntry {H : Type} : Lit × DataW H → Nat
  | (.string bytes, d) => bytes.length + uptoBulk d + 1
  | (_, d) => uptoBulk d + 1
 end
def uptoSmall : (H : Type) → List (DataW H) → Bool := fun _ ds => decide (uptoBulkAll ds ≤ 1048576)
def OpenSpec.upto (s : _root_.Go.ChangeSpec) : _root_.Go.OpenSpec := { _root_.Go.OpenSpec.ofChange s with cond := some uptoSmall }

/-- 'joysticklaw09.RepeatLoads', WHERE WHAT IT READS IS OF BULK AT MOST 1048576: true; the input reads as it did. -/
def repeatLoadsUptoRow : OpenClaim := { program := "ytjbdefidkgfijaa", sum := "dc4ec0e359460603e4b2aa2cf9df11ebc56150d1c2c168ac9a5a4d9224102d37", func := "joystick/joysticklaw09.RepeatLoads", spec := "repeatLoads", apart := false, narrowed := true }
def RepeatLoadsUptoSaid : Prop := repeatLoadsUptoRow.holds Try.pinned (OpenSpec.upto repeatLoadsSpec)

/-- 'joysticklaw09.RepeatSeeks', WHERE WHAT IT READS IS OF BULK AT MOST 1048576: true; the input reads as it did. -/
def repeatSeeksUptoRow : OpenClaim := { program := "ytjbdefidkgfijaa", sum := "dc4ec0e359460603e4b2aa2cf9df11ebc56150d1c2c168ac9a5a4d9224102d37", func := "joystick/joysticklaw09.RepeatSeeks", spec := "repeatSeeks", apart := false, narrowed := true }
def RepeatSeeksUptoSaid : Prop := repeatSeeksUptoRow.holds Try.pinned (OpenSpec.upto repeatSeeksSpec)

/-- 'joysticklaw09.RepeatSeeksAll', WHERE WHAT IT READS IS OF BULK AT MOST 1048576: true; the input reads as it did. -/
def repeatSeeksAllUptoRow : OpenClaim := { program := "ytjbdefidkgfijaa", sum := "dc4ec0e359460603e4b2aa2cf9df11ebc56150d1c2c168ac9a5a4d9224102d37", func := "joystick/joysticklaw09.RepeatSeeksAll", spec := "repeatSeeksAll", apart := false, narrowed := true }
def RepeatSeeksAllUptoSaid : Prop := repeatSeeksAllUptoRow.holds Try.pinned (OpenSpec.upto repeatSeeksAllSpec)

/-- 'joysticklaw09.RepeatNames', WHERE WHAT IT READS IS OF BULK AT MOST 1048576: true; the input reads as it did. -/
def repeatNamesUptoRow : OpenClaim := { program := "ytjbdefidkgfijaa", sum := "dc4ec0e359460603e4b2aa2cf9df11ebc56150d1c2c168ac9a5a4d9224102d37", func := "joystick/joysticklaw09.RepeatNames", spec := "repeatNames", apart := false, narrowed := true }
def RepeatNamesUptoSaid : Prop := repeatNamesUptoRow.holds Try.pinned (OpenSpec.upto repeatNamesSpec)

/-- 'joysticklaw09.RepeatPorts', WHERE WHAT IT READS IS OF BULK AT MOST 1048576: true; the input reads as it did. -/
def repeatPortsUptoRow : OpenClaim := { program := "ytjbdefidkgfijaa", sum := "dc4ec0e359460603e4b2aa2cf9df11ebc56150d1c2c168ac9a5a4d9224102d37", func := "joystick/joysticklaw09.RepeatPorts", spec := "repeatPorts", apart := false, narrowed := true }
def RepeatPortsUptoSaid : Prop := repeatPortsUptoRow.holds Try.pinned (OpenSpec.upto repeatPortsSpec)

/-- 'joysticklaw09.RepeatKeeps', WHERE WHAT IT READS IS OF BULK AT MOST 1048576: true; the input reads as it did. -/
def repeatKeepsUptoRow : OpenClaim := { program := "ytjbdefidkgfijaa", sum := "dc4ec0e359460603e4b2aa2cf9df11ebc56150d1c2c168ac9a5a4d9224102d37", func := "joystick/joysticklaw09.RepeatKeeps", spec := "repeatKeeps", apart := false, narrowed := true }
def RepeatKeepsUptoSaid : Prop := repeatKeepsUptoRow.holds Try.pinned (OpenSpec.upto repeatKeepsSpec)

end Rows
end Go.Proofs.Ytjbdefidkgfijaa
