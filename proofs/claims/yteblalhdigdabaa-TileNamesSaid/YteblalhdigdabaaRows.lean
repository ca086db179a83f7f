/-
  No cell of these rows narrows 'for every input' (looked for: loops, veiled, ifaces, maps, wideKeys, modest, calm, conditions, laid).
  DERIVED. THE GIVEN ROWS OF THIS SEAT. 4 by the template 'for every input the law returns true; each argument reads behind the call as it read before'; 0 by the template 'total and deterministic' (their statements: YteblalhdigdabaaTotals.lean).
  GIVEN WITH THE SEED: the statements are not yours to turn. If you find one false, say at which input.
  Laid BY PROGRAM, IN A SANDBOX (cutbox-rows.mjs): the forced cells as the released guide's own fill.sh prints them over the translation a21f3d0973213db7… (all of the seat's roots in one cut). By AI agents, Wed Nov 11 2026. No macro, syntax, notation, axiom, sorry.
-/
import Derived.Test.YteblalhdigdabaaChecked
import GoSem.Claim
import GoSem.ClaimJoined
import GoSem.ClaimMapViews
import Derived.JoinedTies
import Derived.KernelRfl
namespace Go.Proofs.Yteblalhdigdabaa
/- THE CELL 'sum', in the pinned program and in every row, IS THE sha256 OF THE DUMP (.gsa) THAT YteblalhdigdabaaProg.lean LOADS. Nothing in Lean hashes anything: it is a label: what it is worth is what the hold of that sum in a sandbox is worth. -/
noncomputable def Try.pinned : Pinned := { name := "yteblalhdigdabaa", sum := "a21f3d0973213db79be49d242b2f56b697c8cfa0db12ed33800014ffbb55c4b0", checked := Try.checked }
namespace Rows
def none {H : Type} : Left H := { results := [], args := [] }

/-- 'joysticklaw16.TileRows': WHATEVER THE INPUT: true; the input reads as it did. -/
def tileRowsSpec : ChangeSpec := { name := "tileRows", fn := fun _ => fun
  | [d1, d2, d3] => { results := [.lit (.bool true)], args := [d1, d2, d3] }
  | _ => none }
def tileRowsRow : OpenClaim := { program := "yteblalhdigdabaa", sum := "a21f3d0973213db79be49d242b2f56b697c8cfa0db12ed33800014ffbb55c4b0", func := "joystick/joysticklaw16.TileRows", spec := "tileRows", apart := false }
def TileRowsSaid : Prop := tileRowsRow.holds Try.pinned (OpenSpec.ofChange tileRowsSpec)

/-- ITS FALSE NEIGHBOUR: 'it returns false'. Refute it at one input. -/
def tileRowsWrong : ChangeSpec := { name := "tileRows", fn := fun _ => fun
  | [d1, d2, d3] => { results := [.lit (.bool false)], args := [d1, d2, d3] }
  | _ => none }
def TileRowsWrongFalsely : Prop := tileRowsRow.holds Try.pinned (OpenSpec.ofChange tileRowsWrong)

/-- 'joysticklaw16.TileTurns': WHATEVER THE INPUT: true; the input reads as it did. -/
def tileTurnsSpec : ChangeSpec := { name := "tileTurns", fn := fun _ => fun
  | [d1, d2] => { results := [.lit (.bool true)], args := [d1, d2] }
  | _ => none }
def tileTurnsRow : OpenClaim := { program := "yteblalhdigdabaa", sum := "a21f3d0973213db79be49d242b2f56b697c8cfa0db12ed33800014ffbb55c4b0", func := "joystick/joysticklaw16.TileTurns", spec := "tileTurns", apart := false }
def TileTurnsSaid : Prop := tileTurnsRow.holds Try.pinned (OpenSpec.ofChange tileTurnsSpec)

/-- ITS FALSE NEIGHBOUR: 'it returns false'. Refute it at one input. -/
def tileTurnsWrong : ChangeSpec := { name := "tileTurns", fn := fun _ => fun
  | [d1, d2] => { results := [.lit (.bool false)], args := [d1, d2] }
  | _ => none }
def TileTurnsWrongFalsely : Prop := tileTurnsRow.holds Try.pinned (OpenSpec.ofChange tileTurnsWrong)

/-- 'joysticklaw16.TileNames': WHATEVER THE INPUT: true; the input reads as it did. -/
def tileNamesSpec : ChangeSpec := { name := "tileNames", fn := fun _ => fun
  | [] => { results := [.lit (.bool true)], args := [] }
  | _ => none }
def tileNamesRow : OpenClaim := { program := "yteblalhdigdabaa", sum := "a21f3d0973213db79be49d242b2f56b697c8cfa0db12ed33800014ffbb55c4b0", func := "joystick/joysticklaw16.TileNames", spec := "tileNames", apart := false }
def TileNamesSaid : Prop := tileNamesRow.holds Try.pinned (OpenSpec.ofChange tileNamesSpec)

/-- ITS FALSE NEIGHBOUR: 'it returns false'. Refute it at one input. -/
def tileNamesWrong : ChangeSpec := { name := "tileNames", fn := fun _ => fun
  | [] => { results := [.lit (.bool false)], args := [] }
  | _ => none }
def TileNamesWrongFalsely : Prop := tileNamesRow.holds Try.pinned (OpenSpec.ofChange tileNamesWrong)

/-- 'joysticklaw16.TileEntries': WHATEVER THE INPUT: true; the input reads as it did. -/
def tileEntriesSpec : ChangeSpec := { name := "tileEntries", fn := fun _ => fun
  | [d1, d2, d3] => { results := [.lit (.bool true)], args := [d1, d2, d3] }
  | _ => none }
def tileEntriesRow : OpenClaim := { program := "yteblalhdigdabaa", sum := "a21f3d0973213db79be49d242b2f56b697c8cfa0db12ed33800014ffbb55c4b0", func := "joystick/joysticklaw16.TileEntries", spec := "tileEntries", apart := false }
def TileEntriesSaid : Prop := tileEntriesRow.holds Try.pinned (OpenSpec.ofChange tileEntriesSpec)

/-- ITS FALSE NEIGHBOUR: 'it returns false'. Refute it at one input. -/
def tileEntriesWrong : ChangeSpec := { name := "tileEntries", fn := fun _ => fun
  | [d1, d2, d3] => { results := [.lit (.bool false)], args := [d1, d2, d3] }
  | _ => none }
def TileEntriesWrongFalsely : Prop := tileEntriesRow.holds Try.pinned (OpenSpec.ofChange tileEntriesWrong)

/- THE SECOND FORM. 'bulk': how many values and letters a reading holds, each counted each time it is reached (what is shared counts as often as it is met; a slice's spare places count too). A statement '..UptoSaid' is the law's where the arguments, and the package variables that the reading takes, are together of bulk at most 1048576: NARROWER than '..Said'. Prove '..Said' where nothing that the law and all that it calls make is longer than what came in: it says more and counts as full. Else prove '..UptoSaid'. A law counts once. -/
mutual
def uptoBulk {H : Type} : DataW H → Nat
  | .lit (.string bytes) => bytes.length + 1
  | .lit _ => 1
  | .nil => 1
  | .ptr d => uptoBulk d + 1
  | .slice elems spare => uptoBulkAll elems + uptoBulkAll spare + 1
  | .agg parts => uptoBulkAll parts + 1
  | .iface _ d => uptoBulk d + 1
  | .map entries => uptoBulkEntries entries + 1
  | .held _ => 1
def uptoBulkAll {H : Type} : List (DataW H) → Nat
  | [] => 0
  | d :: r => uptoBulk d + uptoBulkAll r
def uptoBulkEntries {H : Type} : List (Lit × DataW H) → Nat
  | [] => 0
  | x :: r => uptoBulkEntry x + uptoBulkEntries r
def uptoBulkEntry {H : Type} : Lit × DataW H → Nat
  | (.string bytes, d) => bytes.length + uptoBulk d + 1
  | (_, d) => uptoBulk d + 1
 end
def uptoSmall : (H : Type) → List (DataW H) → Bool := fun _ ds => decide (uptoBulkAll ds ≤ 1048576)
def OpenSpec.upto (s : _root_.Go.ChangeSpec) : _root_.Go.OpenSpec := { _root_.Go.OpenSpec.ofChange s with cond := some uptoSmall }

/-- 'joysticklaw16.TileRows', WHERE WHAT IT READS IS OF BULK AT MOST 1048576: true; the input reads as it did. -/
def tileRowsUptoRow : OpenClaim := { program := "yteblalhdigdabaa", sum := "a21f3d0973213db79be49d242b2f56b697c8cfa0db12ed33800014ffbb55c4b0", func := "joystick/joysticklaw16.TileRows", spec := "tileRows", apart := false, narrowed := true }
def TileRowsUptoSaid : Prop := tileRowsUptoRow.holds Try.pinned (OpenSpec.upto tileRowsSpec)

/-- 'joysticklaw16.TileTurns', WHERE WHAT IT READS IS OF BULK AT MOST 1048576: true; the input reads as it did. -/
def tileTurnsUptoRow : OpenClaim := { program := "yteblalhdigdabaa", sum := "a21f3d0973213db79be49d242b2f56b697c8cfa0db12ed33800014ffbb55c4b0", func := "joystick/joysticklaw16.TileTurns", spec := "tileTurns", apart := false, narrowed := true }
def TileTurnsUptoSaid : Prop := tileTurnsUptoRow.holds Try.pinned (OpenSpec.upto tileTurnsSpec)

/-- 'joysticklaw16.TileNames', WHERE WHAT IT READS IS OF BULK AT MOST 1048576: true; the input reads as it did. -/
def tileNamesUptoRow : OpenClaim := { program := "yteblalhdigdabaa", sum := "a21f3d0973213db79be49d242b2f56b697c8cfa0db12ed33800014ffbb55c4b0", func := "joystick/joysticklaw16.TileNames", spec := "tileNames", apart := false, narrowed := true }
def TileNamesUptoSaid : Prop := tileNamesUptoRow.holds Try.pinned (OpenSpec.upto tileNamesSpec)

/-- 'joysticklaw16.TileEntries', WHERE WHAT IT READS IS OF BULK AT MOST 1048576: true; the input reads as it did. -/
def tileEntriesUptoRow : OpenClaim := { program := "yteblalhdigdabaa", sum := "a21f3d0973213db79be49d242b2f56b697c8cfa0db12ed33800014ffbb55c4b0", func := "joystick/joysticklaw16.TileEntries", spec := "tileEntries", apart := false, narrowed := true }
def TileEntriesUptoSaid : Prop := tileEntriesUptoRow.holds Try.pinned (OpenSpec.upto tileEntriesSpec)

end Rows
end Go.Proofs.Yteblalhdigdabaa
