/-
  No cell of these rows narrows 'for every input' (looked for: loops, veiled, ifaces, maps, wideKeys, modest, calm, conditions, laid).
  DERIVED. THE GIVEN ROWS OF THIS SEAT. 5 by the template 'for every input the law returns true; each argument reads behind the call as it read before'; 0 by the template 'total and deterministic' (their statements: YtjggocbihjdekaaTotals.lean).
  GIVEN WITH THE SEED: the statements are not yours to turn. If you find one false, say at which input.
  Laid BY PROGRAM, IN A SANDBOX (cutbox-rows.mjs): the forced cells as the released guide's own fill.sh prints them over the translation a2cf5151be3852d1… (all of the seat's roots in one cut). By AI agents, Wed Nov 11 2026. No macro, syntax, notation, axiom, sorry.
-/
import Derived.Test.YtjggocbihjdekaaChecked
import GoSem.Claim
import GoSem.ClaimJoined
import GoSem.ClaimMapViews
import Derived.JoinedTies
import Derived.KernelRfl
namespace Go.Proofs.Ytjggocbihjdekaa
/- THE CELL 'sum', in the pinned program and in every row, IS THE sha256 OF THE DUMP (.gsa) THAT YtjggocbihjdekaaProg.lean LOADS. Nothing in Lean hashes anything: it is a label: what it is worth is what the hold of that sum in a sandbox is worth. -/
noncomputable def Try.pinned : Pinned := { name := "ytjggocbihjdekaa", sum := "a2cf5151be3852d12e0755da7b04ea0e039b8d8c7ac1fbcb5682cc07bad7903d", checked := Try.checked }
namespace Rows
def none {H : Type} : Left H := { results := [], args := [] }

/-- 'joysticklaw05.PsgNames': WHATEVER THE INPUT: true; the input reads as it did. -/
def psgNamesSpec : ChangeSpec := { name := "psgNames", fn := fun _ => fun
  | [] => { results := [.lit (.bool true)], args := [] }
  | _ => none }
def psgNamesRow : OpenClaim := { program := "ytjggocbihjdekaa", sum := "a2cf5151be3852d12e0755da7b04ea0e039b8d8c7ac1fbcb5682cc07bad7903d", func := "joystick/joysticklaw05.PsgNames", spec := "psgNames", apart := false }
def PsgNamesSaid : Prop := psgNamesRow.holds Try.pinned (OpenSpec.ofChange psgNamesSpec)

/-- ITS FALSE NEIGHBOUR: 'it returns false'. Refute it at one input. -/
def psgNamesWrong : ChangeSpec := { name := "psgNames", fn := fun _ => fun
  | [] => { results := [.lit (.bool false)], args := [] }
  | _ => none }
def PsgNamesWrongFalsely : Prop := psgNamesRow.holds Try.pinned (OpenSpec.ofChange psgNamesWrong)

/-- 'joysticklaw05.PsgWrites': WHATEVER THE INPUT: true; the input reads as it did. -/
def psgWritesSpec : ChangeSpec := { name := "psgWrites", fn := fun _ => fun
  | [d1, d2] => { results := [.lit (.bool true)], args := [d1, d2] }
  | _ => none }
def psgWritesRow : OpenClaim := { program := "ytjggocbihjdekaa", sum := "a2cf5151be3852d12e0755da7b04ea0e039b8d8c7ac1fbcb5682cc07bad7903d", func := "joystick/joysticklaw05.PsgWrites", spec := "psgWrites", apart := false }
def PsgWritesSaid : Prop := psgWritesRow.holds Try.pinned (OpenSpec.ofChange psgWritesSpec)

/-- ITS FALSE NEIGHBOUR: 'it returns false'. Refute it at one input. -/
def psgWritesWrong : ChangeSpec := { name := "psgWrites", fn := fun _ => fun
  | [d1, d2] => { results := [.lit (.bool false)], args := [d1, d2] }
  | _ => none }
def PsgWritesWrongFalsely : Prop := psgWritesRow.holds Try.pinned (OpenSpec.ofChange psgWritesWrong)

/-- 'joysticklaw05.PsgVoices': WHATEVER THE INPUT: true; the input reads as it did. -/
def psgVoicesSpec : ChangeSpec := { name := "psgVoices", fn := fun _ => fun
  | [d] => { results := [.lit (.bool true)], args := [d] }
  | _ => none }
def psgVoicesRow : OpenClaim := { program := "ytjggocbihjdekaa", sum := "a2cf5151be3852d12e0755da7b04ea0e039b8d8c7ac1fbcb5682cc07bad7903d", func := "joystick/joysticklaw05.PsgVoices", spec := "psgVoices", apart := false }
def PsgVoicesSaid : Prop := psgVoicesRow.holds Try.pinned (OpenSpec.ofChange psgVoicesSpec)

/-- ITS FALSE NEIGHBOUR: 'it returns false'. Refute it at one input. -/
def psgVoicesWrong : ChangeSpec := { name := "psgVoices", fn := fun _ => fun
  | [d] => { results := [.lit (.bool false)], args := [d] }
  | _ => none }
def PsgVoicesWrongFalsely : Prop := psgVoicesRow.holds Try.pinned (OpenSpec.ofChange psgVoicesWrong)

/-- 'joysticklaw05.PsgRuns': WHATEVER THE INPUT: true; the input reads as it did. -/
def psgRunsSpec : ChangeSpec := { name := "psgRuns", fn := fun _ => fun
  | [d1, d2] => { results := [.lit (.bool true)], args := [d1, d2] }
  | _ => none }
def psgRunsRow : OpenClaim := { program := "ytjggocbihjdekaa", sum := "a2cf5151be3852d12e0755da7b04ea0e039b8d8c7ac1fbcb5682cc07bad7903d", func := "joystick/joysticklaw05.PsgRuns", spec := "psgRuns", apart := false }
def PsgRunsSaid : Prop := psgRunsRow.holds Try.pinned (OpenSpec.ofChange psgRunsSpec)

/-- ITS FALSE NEIGHBOUR: 'it returns false'. Refute it at one input. -/
def psgRunsWrong : ChangeSpec := { name := "psgRuns", fn := fun _ => fun
  | [d1, d2] => { results := [.lit (.bool false)], args := [d1, d2] }
  | _ => none }
def PsgRunsWrongFalsely : Prop := psgRunsRow.holds Try.pinned (OpenSpec.ofChange psgRunsWrong)

/-- 'joysticklaw05.PsgSplits': WHATEVER THE INPUT: true; the input reads as it did. -/
def psgSplitsSpec : ChangeSpec := { name := "psgSplits", fn := fun _ => fun
  | [d1, d2] => { results := [.lit (.bool true)], args := [d1, d2] }
  | _ => none }
def psgSplitsRow : OpenClaim := { program := "ytjggocbihjdekaa", sum := "a2cf5151be3852d12e0755da7b04ea0e039b8d8c7ac1fbcb5682cc07bad7903d", func := "joystick/joysticklaw05.PsgSplits", spec := "psgSplits", apart := false }
def PsgSplitsSaid : Prop := psgSplitsRow.holds Try.pinned (OpenSpec.ofChange psgSplitsSpec)

/-- ITS FALSE NEIGHBOUR: 'it returns false'. Refute it at one input. -/
def psgSplitsWrong : ChangeSpec := { name := "psgSplits", fn := fun _ => fun
  | [d1, d2] => { results := [.lit (.bool false)], args := [d1, d2] }
  | _ => none }
def PsgSplitsWrongFalsely : Prop := psgSplitsRow.holds Try.pinned (OpenSpec.ofChange psgSplitsWrong)

/- THE SECOND FORM. 'bulk': how many values and letters a reading holds, each counted each time it is reached (what is shared counts as often as it is met; a slice's spare places count too). A statement '..UptoSaid' is the law's where the arguments, and the package variables that the reading takes, are together of bulk at most 1048576: NARROWER than '..Said'. Prove '..Said' where nothing that the law and all that it calls make is longer than what came in: it says more and counts as full. Else prove '..UptoSaid'. A law counts once. -/
mutual
def uptoBulk {H : Type} : DataW H → Nat
  | .lit (.string bytes) => bytes.length + 1
  | .lit _ => 1
  | .nil => 1
  | .ptr d => uptoBulk d + 1
  | .slice elems spare => uptoBulkAll elems + uptoBulkAll spare + 1
  | .agg parts => uptoBulkAll parts + 1
  | .iface _ d => uptoBulk d + 1
  | .map entries => uptoBulkEntries entries + 1
  | .held _ => 1
def uptoBulkAll {H : Type} : List (DataW H) → Nat
  | [] => 0
  | d :: r => uptoBulk d + uptoBulkAll r
def uptoBulkEntries {H : Type} : List (Lit × DataW H) → Nat
  | [] => 0
  | x :: r => uptoBulkEntry x + uptoBulkEntries r
def uptoBulkEntry {H : Type} : Lit × DataW H → Nat
  | (.string bytes, d) => bytes.length + uptoBulk d + 1
  | (_, d) => uptoBulk d + 1
 end
def uptoSmall : (H : Type) → List (DataW H) → Bool := fun _ ds => decide (uptoBulkAll ds ≤ 1048576)
def OpenSpec.upto (s : _root_.Go.ChangeSpec) : _root_.Go.OpenSpec := { _root_.Go.OpenSpec.ofChange s with cond := some uptoSmall }

/-- 'joysticklaw05.PsgNames', WHERE WHAT IT READS IS OF BULK AT MOST 1048576: true; the input reads as it did. -/
def psgNamesUptoRow : OpenClaim := { program := "ytjggocbihjdekaa", sum := "a2cf5151be3852d12e0755da7b04ea0e039b8d8c7ac1fbcb5682cc07bad7903d", func := "joystick/joysticklaw05.PsgNames", spec := "psgNames", apart := false, narrowed := true }
def PsgNamesUptoSaid : Prop := psgNamesUptoRow.holds Try.pinned (OpenSpec.upto psgNamesSpec)

/-- 'joysticklaw05.PsgWrites', WHERE WHAT IT READS IS OF BULK AT MOST 1048576: true; the input reads as it did. -/
def psgWritesUptoRow : OpenClaim := { program := "ytjggocbihjdekaa", sum := "a2cf5151be3852d12e0755da7b04ea0e039b8d8c7ac1fbcb5682cc07bad7903d", func := "joystick/joysticklaw05.PsgWrites", spec := "psgWrites", apart := false, narrowed := true }
def PsgWritesUptoSaid : Prop := psgWritesUptoRow.holds Try.pinned (OpenSpec.upto psgWritesSpec)

/-- 'joysticklaw05.PsgVoices', WHERE WHAT IT READS IS OF BULK AT MOST 1048576: true; the input reads as it did. -/
def psgVoicesUptoRow : OpenClaim := { program := "ytjggocbihjdekaa", sum := "a2cf5151be3852d12e0755da7b04ea0e039b8d8c7ac1fbcb5682cc07bad7903d", func := "joystick/joysticklaw05.PsgVoices", spec := "psgVoices", apart := false, narrowed := true }
def PsgVoicesUptoSaid : Prop := psgVoicesUptoRow.holds Try.pinned (OpenSpec.upto psgVoicesSpec)

/-- 'joysticklaw05.PsgRuns', WHERE WHAT IT READS IS OF BULK AT MOST 1048576: true; the input reads as it did. -/
def psgRunsUptoRow : OpenClaim := { program := "ytjggocbihjdekaa", sum := "a2cf5151be3852d12e0755da7b04ea0e039b8d8c7ac1fbcb5682cc07bad7903d", func := "joystick/joysticklaw05.PsgRuns", spec := "psgRuns", apart := false, narrowed := true }
def PsgRunsUptoSaid : Prop := psgRunsUptoRow.holds Try.pinned (OpenSpec.upto psgRunsSpec)

/-- 'joysticklaw05.PsgSplits', WHERE WHAT IT READS IS OF BULK AT MOST 1048576: true; the input reads as it did. -/
def psgSplitsUptoRow : OpenClaim := { program := "ytjggocbihjdekaa", sum := "a2cf5151be3852d12e0755da7b04ea0e039b8d8c7ac1fbcb5682cc07bad7903d", func := "joystick/joysticklaw05.PsgSplits", spec := "psgSplits", apart := false, narrowed := true }
def PsgSplitsUptoSaid : Prop := psgSplitsUptoRow.holds Try.pinned (OpenSpec.upto psgSplitsSpec)

end Rows
end Go.Proofs.Ytjggocbihjdekaa
