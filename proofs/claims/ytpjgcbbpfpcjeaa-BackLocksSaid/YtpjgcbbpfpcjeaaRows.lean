/-
  No cell of these rows narrows 'for every input' (looked for: loops, veiled, ifaces, maps, wideKeys, modest, calm, conditions, laid).
  DERIVED. THE GIVEN ROWS OF THIS SEAT. 5 by the template 'for every input the law returns true; each argument reads behind the call as it read before'; 0 by the template 'total and deterministic' (their statements: YtpjgcbbpfpcjeaaTotals.lean).
  GIVEN WITH THE SEED: the statements are not yours to turn. If you find one false, say at which input.
  Laid BY PROGRAM, IN A SANDBOX (cutbox-rows.mjs): the forced cells as the released guide's own fill.sh prints them over the translation b716bccea7ea8f81… (all of the seat's roots in one cut). By AI agents, Wed Nov 11 2026. No macro, syntax, notation, axiom, sorry.
-/
import Derived.Test.YtpjgcbbpfpcjeaaChecked
import GoSem.Claim
import GoSem.ClaimJoined
import GoSem.ClaimMapViews
import Derived.JoinedTies
import Derived.KernelRfl
namespace Go.Proofs.Ytpjgcbbpfpcjeaa
/- THE CELL 'sum', in the pinned program and in every row, IS THE sha256 OF THE DUMP (.gsa) THAT YtpjgcbbpfpcjeaaProg.lean LOADS. Nothing in Lean hashes anything: it is a label: what it is worth is what the hold of that sum in a sandbox is worth. -/
noncomputable def Try.pinned : Pinned := { name := "ytpjgcbbpfpcjeaa", sum := "b716bccea7ea8f81e5892d6ad8fe463f75c5dbc0effb3e63577b9f79d6355047", checked := Try.checked }
namespace Rows
def none {H : Type} : Left H := { results := [], args := [] }

/-- 'joysticklaw17.BackNames': WHATEVER THE INPUT: true; the input reads as it did. -/
def backNamesSpec : ChangeSpec := { name := "backNames", fn := fun _ => fun
  | [] => { results := [.lit (.bool true)], args := [] }
  | _ => none }
def backNamesRow : OpenClaim := { program := "ytpjgcbbpfpcjeaa", sum := "b716bccea7ea8f81e5892d6ad8fe463f75c5dbc0effb3e63577b9f79d6355047", func := "joystick/joysticklaw17.BackNames", spec := "backNames", apart := false }
def BackNamesSaid : Prop := backNamesRow.holds Try.pinned (OpenSpec.ofChange backNamesSpec)

/-- ITS FALSE NEIGHBOUR: 'it returns false'. Refute it at one input. -/
def backNamesWrong : ChangeSpec := { name := "backNames", fn := fun _ => fun
  | [] => { results := [.lit (.bool false)], args := [] }
  | _ => none }
def BackNamesWrongFalsely : Prop := backNamesRow.holds Try.pinned (OpenSpec.ofChange backNamesWrong)

/-- 'joysticklaw17.BackLines': WHATEVER THE INPUT: true; the input reads as it did. -/
def backLinesSpec : ChangeSpec := { name := "backLines", fn := fun _ => fun
  | [d1, d2, d3] => { results := [.lit (.bool true)], args := [d1, d2, d3] }
  | _ => none }
def backLinesRow : OpenClaim := { program := "ytpjgcbbpfpcjeaa", sum := "b716bccea7ea8f81e5892d6ad8fe463f75c5dbc0effb3e63577b9f79d6355047", func := "joystick/joysticklaw17.BackLines", spec := "backLines", apart := false }
def BackLinesSaid : Prop := backLinesRow.holds Try.pinned (OpenSpec.ofChange backLinesSpec)

/-- ITS FALSE NEIGHBOUR: 'it returns false'. Refute it at one input. -/
def backLinesWrong : ChangeSpec := { name := "backLines", fn := fun _ => fun
  | [d1, d2, d3] => { results := [.lit (.bool false)], args := [d1, d2, d3] }
  | _ => none }
def BackLinesWrongFalsely : Prop := backLinesRow.holds Try.pinned (OpenSpec.ofChange backLinesWrong)

/-- 'joysticklaw17.BackSources': WHATEVER THE INPUT: true; the input reads as it did. -/
def backSourcesSpec : ChangeSpec := { name := "backSources", fn := fun _ => fun
  | [d1, d2, d3] => { results := [.lit (.bool true)], args := [d1, d2, d3] }
  | _ => none }
def backSourcesRow : OpenClaim := { program := "ytpjgcbbpfpcjeaa", sum := "b716bccea7ea8f81e5892d6ad8fe463f75c5dbc0effb3e63577b9f79d6355047", func := "joystick/joysticklaw17.BackSources", spec := "backSources", apart := false }
def BackSourcesSaid : Prop := backSourcesRow.holds Try.pinned (OpenSpec.ofChange backSourcesSpec)

/-- ITS FALSE NEIGHBOUR: 'it returns false'. Refute it at one input. -/
def backSourcesWrong : ChangeSpec := { name := "backSources", fn := fun _ => fun
  | [d1, d2, d3] => { results := [.lit (.bool false)], args := [d1, d2, d3] }
  | _ => none }
def BackSourcesWrongFalsely : Prop := backSourcesRow.holds Try.pinned (OpenSpec.ofChange backSourcesWrong)

/-- 'joysticklaw17.BackScrolls': WHATEVER THE INPUT: true; the input reads as it did. -/
def backScrollsSpec : ChangeSpec := { name := "backScrolls", fn := fun _ => fun
  | [d1, d2, d3] => { results := [.lit (.bool true)], args := [d1, d2, d3] }
  | _ => none }
def backScrollsRow : OpenClaim := { program := "ytpjgcbbpfpcjeaa", sum := "b716bccea7ea8f81e5892d6ad8fe463f75c5dbc0effb3e63577b9f79d6355047", func := "joystick/joysticklaw17.BackScrolls", spec := "backScrolls", apart := false }
def BackScrollsSaid : Prop := backScrollsRow.holds Try.pinned (OpenSpec.ofChange backScrollsSpec)

/-- ITS FALSE NEIGHBOUR: 'it returns false'. Refute it at one input. -/
def backScrollsWrong : ChangeSpec := { name := "backScrolls", fn := fun _ => fun
  | [d1, d2, d3] => { results := [.lit (.bool false)], args := [d1, d2, d3] }
  | _ => none }
def BackScrollsWrongFalsely : Prop := backScrollsRow.holds Try.pinned (OpenSpec.ofChange backScrollsWrong)

/-- 'joysticklaw17.BackLocks': WHATEVER THE INPUT: true; the input reads as it did. -/
def backLocksSpec : ChangeSpec := { name := "backLocks", fn := fun _ => fun
  | [d1, d2, d3] => { results := [.lit (.bool true)], args := [d1, d2, d3] }
  | _ => none }
def backLocksRow : OpenClaim := { program := "ytpjgcbbpfpcjeaa", sum := "b716bccea7ea8f81e5892d6ad8fe463f75c5dbc0effb3e63577b9f79d6355047", func := "joystick/joysticklaw17.BackLocks", spec := "backLocks", apart := false }
def BackLocksSaid : Prop := backLocksRow.holds Try.pinned (OpenSpec.ofChange backLocksSpec)

/-- ITS FALSE NEIGHBOUR: 'it returns false'. Refute it at one input. -/
def backLocksWrong : ChangeSpec := { name := "backLocks", fn := fun _ => fun
  | [d1, d2, d3] => { results := [.lit (.bool false)], args := [d1, d2, d3] }
  | _ => none }
def BackLocksWrongFalsely : Prop := backLocksRow.holds Try.pinned (OpenSpec.ofChange backLocksWrong)

/- THE SECOND FORM. 'bulk': how many values and letters a reading holds, each counted each time it is reached (what is shared counts as often as it is met; a slice's spare places count too). A statement '..UptoSaid' is the law's where the arguments, and the package variables that the reading takes, are together of bulk at most 1048576: NARROWER than '..Said'. Prove '..Said' where nothing that the law and all that it calls make is longer than what came in: it says more and counts as full. Else prove '..UptoSaid'. A law counts once. -/
mutual
def uptoBulk {H : Type} : DataW H → Nat
  | .lit (.string bytes) => bytes.length + 1
  | .lit _ => 1
  | .nil => 1
  | .ptr d => uptoBulk d + 1
  | .slice elems spare => uptoBulkAll elems + uptoBulkAll spare + 1
  | .agg parts => uptoBulkAll parts + 1
  | .iface _ d => uptoBulk d + 1
  | .map entries => uptoBulkEntries entries + 1
  | .held _ => 1
def uptoBulkAll {H : Type} : List (DataW H) → Nat
  | [] => 0
  | d :: r => uptoBulk d + uptoBulkAll r
def uptoBulkEntries {H : Type} : List (Lit × DataW H) → Nat
  | [] => 0
  | x :: r => uptoBulkEntry x + uptoBulkEntries r
def uptoBulkEntry {H : Type} : Lit × DataW H → Nat
  | (.string bytes, d) => bytes.length + uptoBulk d + 1
  | (_, d) => uptoBulk d + 1
 end
def uptoSmall : (H : Type) → List (DataW H) → Bool := fun _ ds => decide (uptoBulkAll ds ≤ 1048576)
def OpenSpec.upto (s : _root_.Go.ChangeSpec) : _root_.Go.OpenSpec := { _root_.Go.OpenSpec.ofChange s with cond := some uptoSmall }

/-- 'joysticklaw17.BackNames', WHERE WHAT IT READS IS OF BULK AT MOST 1048576: true; the input reads as it did. -/
def backNamesUptoRow : OpenClaim := { program := "ytpjgcbbpfpcjeaa", sum := "b716bccea7ea8f81e5892d6ad8fe463f75c5dbc0effb3e63577b9f79d6355047", func := "joystick/joysticklaw17.BackNames", spec := "backNames", apart := false, narrowed := true }
def BackNamesUptoSaid : Prop := backNamesUptoRow.holds Try.pinned (OpenSpec.upto backNamesSpec)

/-- 'joysticklaw17.BackLines', WHERE WHAT IT READS IS OF BULK AT MOST 1048576: true; the input reads as it did. -/
def backLinesUptoRow : OpenClaim := { program := "ytpjgcbbpfpcjeaa", sum := "b716bccea7ea8f81e5892d6ad8fe463f75c5dbc0effb3e63577b9f79d6355047", func := "joystick/joysticklaw17.BackLines", spec := "backLines", apart := false, narrowed := true }
def BackLinesUptoSaid : Prop := backLinesUptoRow.holds Try.pinned (OpenSpec.upto backLinesSpec)

/-- 'joysticklaw17.BackSources', WHERE WHAT IT READS IS OF BULK AT MOST 1048576: true; the input reads as it did. -/
def backSourcesUptoRow : OpenClaim := { program := "ytpjgcbbpfpcjeaa", sum := "b716bccea7ea8f81e5892d6ad8fe463f75c5dbc0effb3e63577b9f79d6355047", func := "joystick/joysticklaw17.BackSources", spec := "backSources", apart := false, narrowed := true }
def BackSourcesUptoSaid : Prop := backSourcesUptoRow.holds Try.pinned (OpenSpec.upto backSourcesSpec)

/-- 'joysticklaw17.BackScrolls', WHERE WHAT IT READS IS OF BULK AT MOST 1048576: true; the input reads as it did. -/
def backScrollsUptoRow : OpenClaim := { program := "ytpjgcbbpfpcjeaa", sum := "b716bccea7ea8f81e5892d6ad8fe463f75c5dbc0effb3e63577b9f79d6355047", func := "joystick/joysticklaw17.BackScrolls", spec := "backScrolls", apart := false, narrowed := true }
def BackScrollsUptoSaid : Prop := backScrollsUptoRow.holds Try.pinned (OpenSpec.upto backScrollsSpec)

/-- 'joysticklaw17.BackLocks', WHERE WHAT IT READS IS OF BULK AT MOST 1048576: true; the input reads as it did. -/
def backLocksUptoRow : OpenClaim := { program := "ytpjgcbbpfpcjeaa", sum := "b716bccea7ea8f81e5892d6ad8fe463f75c5dbc0effb3e63577b9f79d6355047", func := "joystick/joysticklaw17.BackLocks", spec := "backLocks", apart := false, narrowed := true }
def BackLocksUptoSaid : Prop := backLocksUptoRow.holds Try.pinned (OpenSpec.upto backLocksSpec)

end Rows
end Go.Proofs.Ytpjgcbbpfpcjeaa
