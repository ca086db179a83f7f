/-
  No cell of these rows narrows 'for every input' (looked for: loops, veiled, ifaces, maps, wideKeys, modest, calm, conditions, laid).
  DERIVED. THE GIVEN ROWS OF THIS SEAT. 5 by the template 'for every input the law returns true; each argument reads behind the call as it read before'; 0 by the template 'total and deterministic' (their statements: YtoppnjkebmjdcaaTotals.lean).
  GIVEN WITH THE SEED: the statements are not yours to turn. If you find one false, say at which input.
  Laid BY PROGRAM, IN A SANDBOX (cutbox-rows.mjs): the forced cells as the released guide's own fill.sh prints them over the translation cd11e0dd0d0ca028… (all of the seat's roots in one cut). By AI agents, Wed Nov 11 2026. No macro, syntax, notation, axiom, sorry.
-/
import Derived.Test.YtoppnjkebmjdcaaChecked
import GoSem.Claim
import GoSem.ClaimJoined
import GoSem.ClaimMapViews
import Derived.JoinedTies
import Derived.KernelRfl
namespace Go.Proofs.Ytoppnjkebmjdcaa
/- THE CELL 'sum', in the pinned program and in every row, IS THE sha256 OF THE DUMP (.gsa) THAT YtoppnjkebmjdcaaProg.lean LOADS. Nothing in Lean hashes anything: it is a label: what it is worth is what the hold of that sum in a sandbox is worth. -/
noncomputable def Try.pinned : Pinned := { name := "ytoppnjkebmjdcaa", sum := "cd11e0dd0d0ca02849f61a3dd7945aa999372bc8554067aa83f8fd64093df0ed", checked := Try.checked }
namespace Rows
def none {H : Type} : Left H := { results := [], args := [] }

/-- 'joysticklaw07.PairsParts': WHATEVER THE INPUT: true; the input reads as it did. -/
def pairsPartsSpec : ChangeSpec := { name := "pairsParts", fn := fun _ => fun
  | [d1, d2] => { results := [.lit (.bool true)], args := [d1, d2] }
  | _ => none }
def pairsPartsRow : OpenClaim := { program := "ytoppnjkebmjdcaa", sum := "cd11e0dd0d0ca02849f61a3dd7945aa999372bc8554067aa83f8fd64093df0ed", func := "joystick/joysticklaw07.PairsParts", spec := "pairsParts", apart := false }
def PairsPartsSaid : Prop := pairsPartsRow.holds Try.pinned (OpenSpec.ofChange pairsPartsSpec)

/-- ITS FALSE NEIGHBOUR: 'it returns false'. Refute it at one input. -/
def pairsPartsWrong : ChangeSpec := { name := "pairsParts", fn := fun _ => fun
  | [d1, d2] => { results := [.lit (.bool false)], args := [d1, d2] }
  | _ => none }
def PairsPartsWrongFalsely : Prop := pairsPartsRow.holds Try.pinned (OpenSpec.ofChange pairsPartsWrong)

/-- 'joysticklaw07.PairsNames': WHATEVER THE INPUT: true; the input reads as it did. -/
def pairsNamesSpec : ChangeSpec := { name := "pairsNames", fn := fun _ => fun
  | [] => { results := [.lit (.bool true)], args := [] }
  | _ => none }
def pairsNamesRow : OpenClaim := { program := "ytoppnjkebmjdcaa", sum := "cd11e0dd0d0ca02849f61a3dd7945aa999372bc8554067aa83f8fd64093df0ed", func := "joystick/joysticklaw07.PairsNames", spec := "pairsNames", apart := false }
def PairsNamesSaid : Prop := pairsNamesRow.holds Try.pinned (OpenSpec.ofChange pairsNamesSpec)

/-- ITS FALSE NEIGHBOUR: 'it returns false'. Refute it at one input. -/
def pairsNamesWrong : ChangeSpec := { name := "pairsNames", fn := fun _ => fun
  | [] => { results := [.lit (.bool false)], args := [] }
  | _ => none }
def PairsNamesWrongFalsely : Prop := pairsNamesRow.holds Try.pinned (OpenSpec.ofChange pairsNamesWrong)

/-- 'joysticklaw07.PairsRuns': WHATEVER THE INPUT: true; the input reads as it did. -/
def pairsRunsSpec : ChangeSpec := { name := "pairsRuns", fn := fun _ => fun
  | [d1, d2, d3] => { results := [.lit (.bool true)], args := [d1, d2, d3] }
  | _ => none }
def pairsRunsRow : OpenClaim := { program := "ytoppnjkebmjdcaa", sum := "cd11e0dd0d0ca02849f61a3dd7945aa999372bc8554067aa83f8fd64093df0ed", func := "joystick/joysticklaw07.PairsRuns", spec := "pairsRuns", apart := false }
def PairsRunsSaid : Prop := pairsRunsRow.holds Try.pinned (OpenSpec.ofChange pairsRunsSpec)

/-- ITS FALSE NEIGHBOUR: 'it returns false'. Refute it at one input. -/
def pairsRunsWrong : ChangeSpec := { name := "pairsRuns", fn := fun _ => fun
  | [d1, d2, d3] => { results := [.lit (.bool false)], args := [d1, d2, d3] }
  | _ => none }
def PairsRunsWrongFalsely : Prop := pairsRunsRow.holds Try.pinned (OpenSpec.ofChange pairsRunsWrong)

/-- 'joysticklaw07.PairsBack': WHATEVER THE INPUT: true; the input reads as it did. -/
def pairsBackSpec : ChangeSpec := { name := "pairsBack", fn := fun _ => fun
  | [d1, d2, d3] => { results := [.lit (.bool true)], args := [d1, d2, d3] }
  | _ => none }
def pairsBackRow : OpenClaim := { program := "ytoppnjkebmjdcaa", sum := "cd11e0dd0d0ca02849f61a3dd7945aa999372bc8554067aa83f8fd64093df0ed", func := "joystick/joysticklaw07.PairsBack", spec := "pairsBack", apart := false }
def PairsBackSaid : Prop := pairsBackRow.holds Try.pinned (OpenSpec.ofChange pairsBackSpec)

/-- ITS FALSE NEIGHBOUR: 'it returns false'. Refute it at one input. -/
def pairsBackWrong : ChangeSpec := { name := "pairsBack", fn := fun _ => fun
  | [d1, d2, d3] => { results := [.lit (.bool false)], args := [d1, d2, d3] }
  | _ => none }
def PairsBackWrongFalsely : Prop := pairsBackRow.holds Try.pinned (OpenSpec.ofChange pairsBackWrong)

/-- 'joysticklaw07.PairsBytes': WHATEVER THE INPUT: true; the input reads as it did. -/
def pairsBytesSpec : ChangeSpec := { name := "pairsBytes", fn := fun _ => fun
  | [d1, d2, d3] => { results := [.lit (.bool true)], args := [d1, d2, d3] }
  | _ => none }
def pairsBytesRow : OpenClaim := { program := "ytoppnjkebmjdcaa", sum := "cd11e0dd0d0ca02849f61a3dd7945aa999372bc8554067aa83f8fd64093df0ed", func := "joystick/joysticklaw07.PairsBytes", spec := "pairsBytes", apart := false }
def PairsBytesSaid : Prop := pairsBytesRow.holds Try.pinned (OpenSpec.ofChange pairsBytesSpec)

/-- ITS FALSE NEIGHBOUR: 'it returns false'. Refute it at one input. -/
def pairsBytesWrong : ChangeSpec := { name := "pairsBytes", fn := fun _ => fun
  | [d1, d2, d3] => { results := [.lit (.bool false)], args := [d1, d2, d3] }
  | _ => none }
def PairsBytesWrongFalsely : Prop := pairsBytesRow.holds Try.pinned (OpenSpec.ofChange pairsBytesWrong)

/- THE SECOND FORM. 'bulk': how many values and letters a reading holds, each counted each time it is reached (what is shared counts as often as it is met; a slice's spare places count too). A statement '..UptoSaid' is the law's where the arguments, and the package variables that the reading takes, are together of bulk at most 1048576: NARROWER than '..Said'. Prove '..Said' where nothing that the law and all that it calls make is longer than what came in: it says more and counts as full. Else prove '..UptoSaid'. A law counts once. -/
mutual
def uptoBulk {H : Type} : DataW H → Nat
  | .lit (.string bytes) => bytes.length + 1
  | .lit _ => 1
  | .nil => 1
  | .ptr d => uptoBulk d + 1
  | .slice elems spare => uptoBulkAll elems + uptoBulkAll spare + 1
  | .agg parts => uptoBulkAll parts + 1
  | .iface _ d => uptoBulk d + 1
  | .map entries => uptoBulkEntries entries + 1
  | .held _ => 1
def uptoBulkAll {H : Type} : List (DataW H) → Nat
  | [] => 0
  | d :: r => uptoBulk d + uptoBulkAll r
def uptoBulkEntries {H : Type} : List (Lit × DataW H) → Nat
  | [] => 0
  | x :: r => uptoBulkEntry x + uptoBulkEntries r
def uptoBulkEntry {H : Type} : Lit × DataW H → Nat
  | (.string bytes, d) => bytes.length + uptoBulk d + 1
  | (_, d) => uptoBulk d + 1
 end
def uptoSmall : (H : Type) → List (DataW H) → Bool := fun _ ds => decide (uptoBulkAll ds ≤ 1048576)
def OpenSpec.upto (s : _root_.Go.ChangeSpec) : _root_.Go.OpenSpec := { _root_.Go.OpenSpec.ofChange s with cond := some uptoSmall }

/-- 'joysticklaw07.PairsParts', WHERE WHAT IT READS IS OF BULK AT MOST 1048576: true; the input reads as it did. -/
def pairsPartsUptoRow : OpenClaim := { program := "ytoppnjkebmjdcaa", sum := "cd11e0dd0d0ca02849f61a3dd7945aa999372bc8554067aa83f8fd64093df0ed", func := "joystick/joysticklaw07.PairsParts", spec := "pairsParts", apart := false, narrowed := true }
def PairsPartsUptoSaid : Prop := pairsPartsUptoRow.holds Try.pinned (OpenSpec.upto pairsPartsSpec)

/-- 'joysticklaw07.PairsNames', WHERE WHAT IT READS IS OF BULK AT MOST 1048576: true; the input reads as it did. -/
def pairsNamesUptoRow : OpenClaim := { program := "ytoppnjkebmjdcaa", sum := "cd11e0dd0d0ca02849f61a3dd7945aa999372bc8554067aa83f8fd64093df0ed", func := "joystick/joysticklaw07.PairsNames", spec := "pairsNames", apart := false, narrowed := true }
def PairsNamesUptoSaid : Prop := pairsNamesUptoRow.holds Try.pinned (OpenSpec.upto pairsNamesSpec)

/-- 'joysticklaw07.PairsRuns', WHERE WHAT IT READS IS OF BULK AT MOST 1048576: true; the input reads as it did. -/
def pairsRunsUptoRow : OpenClaim := { program := "ytoppnjkebmjdcaa", sum := "cd11e0dd0d0ca02849f61a3dd7945aa999372bc8554067aa83f8fd64093df0ed", func := "joystick/joysticklaw07.PairsRuns", spec := "pairsRuns", apart := false, narrowed := true }
def PairsRunsUptoSaid : Prop := pairsRunsUptoRow.holds Try.pinned (OpenSpec.upto pairsRunsSpec)

/-- 'joysticklaw07.PairsBack', WHERE WHAT IT READS IS OF BULK AT MOST 1048576: true; the input reads as it did. -/
def pairsBackUptoRow : OpenClaim := { program := "ytoppnjkebmjdcaa", sum := "cd11e0dd0d0ca02849f61a3dd7945aa999372bc8554067aa83f8fd64093df0ed", func := "joystick/joysticklaw07.PairsBack", spec := "pairsBack", apart := false, narrowed := true }
def PairsBackUptoSaid : Prop := pairsBackUptoRow.holds Try.pinned (OpenSpec.upto pairsBackSpec)

/-- 'joysticklaw07.PairsBytes', WHERE WHAT IT READS IS OF BULK AT MOST 1048576: true; the input reads as it did. -/
def pairsBytesUptoRow : OpenClaim := { program := "ytoppnjkebmjdcaa", sum := "cd11e0dd0d0ca02849f61a3dd7945aa999372bc8554067aa83f8fd64093df0ed", func := "joystick/joysticklaw07.PairsBytes", spec := "pairsBytes", apart := false, narrowed := true }
def PairsBytesUptoSaid : Prop := pairsBytesUptoRow.holds Try.pinned (OpenSpec.upto pairsBytesSpec)

end Rows
end Go.Proofs.Ytoppnjkebmjdcaa
