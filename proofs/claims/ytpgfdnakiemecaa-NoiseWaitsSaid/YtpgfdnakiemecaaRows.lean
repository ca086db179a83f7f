/-
  No cell of these rows narrows 'for every input' (looked for: loops, veiled, ifaces, maps, wideKeys, modest, calm, conditions, laid).
  DERIVED. THE GIVEN ROWS OF THIS SEAT. 5 by the template 'for every input the law returns true; each argument reads behind the call as it read before'; 0 by the template 'total and deterministic' (their statements: YtpgfdnakiemecaaTotals.lean).
  GIVEN WITH THE SEED: the statements are not yours to turn. If you find one false, say at which input.
  Laid BY PROGRAM, IN A SANDBOX (cutbox-rows.mjs): the forced cells as the released guide's own fill.sh prints them over the translation 940574a7ae04f239… (all of the seat's roots in one cut). By AI agents, Wed Nov 11 2026. No macro, syntax, notation, axiom, sorry.
-/
import Derived.Test.YtpgfdnakiemecaaChecked
import GoSem.Claim
import GoSem.ClaimJoined
import GoSem.ClaimMapViews
import Derived.JoinedTies
import Derived.KernelRfl
namespace Go.Proofs.Ytpgfdnakiemecaa
/- THE CELL 'sum', in the pinned program and in every row, IS THE sha256 OF THE DUMP (.gsa) THAT YtpgfdnakiemecaaProg.lean LOADS. Nothing in Lean hashes anything: it is a label: what it is worth is what the hold of that sum in a sandbox is worth. -/
noncomputable def Try.pinned : Pinned := { name := "ytpgfdnakiemecaa", sum := "940574a7ae04f2390730aa13bea791e15ef2992bc963a38469a5e89794aa2f23", checked := Try.checked }
namespace Rows
def none {H : Type} : Left H := { results := [], args := [] }

/-- 'joysticklaw04.NoiseMoves': WHATEVER THE INPUT: true; the input reads as it did. -/
def noiseMovesSpec : ChangeSpec := { name := "noiseMoves", fn := fun _ => fun
  | [d1, d2] => { results := [.lit (.bool true)], args := [d1, d2] }
  | _ => none }
def noiseMovesRow : OpenClaim := { program := "ytpgfdnakiemecaa", sum := "940574a7ae04f2390730aa13bea791e15ef2992bc963a38469a5e89794aa2f23", func := "joystick/joysticklaw04.NoiseMoves", spec := "noiseMoves", apart := false }
def NoiseMovesSaid : Prop := noiseMovesRow.holds Try.pinned (OpenSpec.ofChange noiseMovesSpec)

/-- ITS FALSE NEIGHBOUR: 'it returns false'. Refute it at one input. -/
def noiseMovesWrong : ChangeSpec := { name := "noiseMoves", fn := fun _ => fun
  | [d1, d2] => { results := [.lit (.bool false)], args := [d1, d2] }
  | _ => none }
def NoiseMovesWrongFalsely : Prop := noiseMovesRow.holds Try.pinned (OpenSpec.ofChange noiseMovesWrong)

/-- 'joysticklaw04.NoiseGoes': WHATEVER THE INPUT: true; the input reads as it did. -/
def noiseGoesSpec : ChangeSpec := { name := "noiseGoes", fn := fun _ => fun
  | [d1, d2, d3] => { results := [.lit (.bool true)], args := [d1, d2, d3] }
  | _ => none }
def noiseGoesRow : OpenClaim := { program := "ytpgfdnakiemecaa", sum := "940574a7ae04f2390730aa13bea791e15ef2992bc963a38469a5e89794aa2f23", func := "joystick/joysticklaw04.NoiseGoes", spec := "noiseGoes", apart := false }
def NoiseGoesSaid : Prop := noiseGoesRow.holds Try.pinned (OpenSpec.ofChange noiseGoesSpec)

/-- ITS FALSE NEIGHBOUR: 'it returns false'. Refute it at one input. -/
def noiseGoesWrong : ChangeSpec := { name := "noiseGoes", fn := fun _ => fun
  | [d1, d2, d3] => { results := [.lit (.bool false)], args := [d1, d2, d3] }
  | _ => none }
def NoiseGoesWrongFalsely : Prop := noiseGoesRow.holds Try.pinned (OpenSpec.ofChange noiseGoesWrong)

/-- 'joysticklaw04.NoiseNames': WHATEVER THE INPUT: true; the input reads as it did. -/
def noiseNamesSpec : ChangeSpec := { name := "noiseNames", fn := fun _ => fun
  | [] => { results := [.lit (.bool true)], args := [] }
  | _ => none }
def noiseNamesRow : OpenClaim := { program := "ytpgfdnakiemecaa", sum := "940574a7ae04f2390730aa13bea791e15ef2992bc963a38469a5e89794aa2f23", func := "joystick/joysticklaw04.NoiseNames", spec := "noiseNames", apart := false }
def NoiseNamesSaid : Prop := noiseNamesRow.holds Try.pinned (OpenSpec.ofChange noiseNamesSpec)

/-- ITS FALSE NEIGHBOUR: 'it returns false'. Refute it at one input. -/
def noiseNamesWrong : ChangeSpec := { name := "noiseNames", fn := fun _ => fun
  | [] => { results := [.lit (.bool false)], args := [] }
  | _ => none }
def NoiseNamesWrongFalsely : Prop := noiseNamesRow.holds Try.pinned (OpenSpec.ofChange noiseNamesWrong)

/-- 'joysticklaw04.NoiseWaits': WHATEVER THE INPUT: true; the input reads as it did. -/
def noiseWaitsSpec : ChangeSpec := { name := "noiseWaits", fn := fun _ => fun
  | [d] => { results := [.lit (.bool true)], args := [d] }
  | _ => none }
def noiseWaitsRow : OpenClaim := { program := "ytpgfdnakiemecaa", sum := "940574a7ae04f2390730aa13bea791e15ef2992bc963a38469a5e89794aa2f23", func := "joystick/joysticklaw04.NoiseWaits", spec := "noiseWaits", apart := false }
def NoiseWaitsSaid : Prop := noiseWaitsRow.holds Try.pinned (OpenSpec.ofChange noiseWaitsSpec)

/-- ITS FALSE NEIGHBOUR: 'it returns false'. Refute it at one input. -/
def noiseWaitsWrong : ChangeSpec := { name := "noiseWaits", fn := fun _ => fun
  | [d] => { results := [.lit (.bool false)], args := [d] }
  | _ => none }
def NoiseWaitsWrongFalsely : Prop := noiseWaitsRow.holds Try.pinned (OpenSpec.ofChange noiseWaitsWrong)

/-- 'joysticklaw04.NoiseRuns': WHATEVER THE INPUT: true; the input reads as it did. -/
def noiseRunsSpec : ChangeSpec := { name := "noiseRuns", fn := fun _ => fun
  | [d1, d2] => { results := [.lit (.bool true)], args := [d1, d2] }
  | _ => none }
def noiseRunsRow : OpenClaim := { program := "ytpgfdnakiemecaa", sum := "940574a7ae04f2390730aa13bea791e15ef2992bc963a38469a5e89794aa2f23", func := "joystick/joysticklaw04.NoiseRuns", spec := "noiseRuns", apart := false }
def NoiseRunsSaid : Prop := noiseRunsRow.holds Try.pinned (OpenSpec.ofChange noiseRunsSpec)

/-- ITS FALSE NEIGHBOUR: 'it returns false'. Refute it at one input. -/
def noiseRunsWrong : ChangeSpec := { name := "noiseRuns", fn := fun _ => fun
  | [d1, d2] => { results := [.lit (.bool false)], args := [d1, d2] }
  | _ => none }
def NoiseRunsWrongFalsely : Prop := noiseRunsRow.holds Try.pinned (OpenSpec.ofChange noiseRunsWrong)

/- THE SECOND FORM. 'bulk': how many values and letters a reading holds, each counted each time it is reached (what is shared counts as often as it is met; a slice's spare places count too). A statement '..UptoSaid' is the law's where the arguments, and the package variables that the reading takes, are together of bulk at most 1048576: NARROWER than '..Said'. Prove '..Said' where nothing that the law and all that it calls make is longer than what came in: it says more and counts as full. Else prove '..UptoSaid'. A law counts once. -/
mutual
def uptoBulk {H : Type} : DataW H → Nat
  | .lit (.string bytes) => bytes.length + 1
  | .lit _ => 1
  | .nil => 1
  | .ptr d => uptoBulk d + 1
  | .slice elems spare => uptoBulkAll elems + uptoBulkAll spare + 1
  | .agg parts => uptoBulkAll parts + 1
  | .iface _ d => uptoBulk d + 1
  | .map entries => uptoBulkEntries entries + 1
  | .held _ => 1
def uptoBulkAll {H : Type} : List (DataW H) → Nat
  | [] => 0
  | d :: r => uptoBulk d + uptoBulkAll r
def uptoBulkEntries {H : Type} : List (Lit × DataW H) → Nat
  | [] => 0
  | x :: r => uptoBulkEntry x + uptoBulkEntries r
def uptoBulkEntry {H : Type} : Lit × DataW H → Nat
  | (.string bytes, d) => bytes.length + uptoBulk d + 1
  | (_, d) => uptoBulk d + 1
 end
def uptoSmall : (H : Type) → List (DataW H) → Bool := fun _ ds => decide (uptoBulkAll ds ≤ 1048576)
def OpenSpec.upto (s : _root_.Go.ChangeSpec) : _root_.Go.OpenSpec := { _root_.Go.OpenSpec.ofChange s with cond := some uptoSmall }

/-- 'joysticklaw04.NoiseMoves', WHERE WHAT IT READS IS OF BULK AT MOST 1048576: true; the input reads as it did. -/
def noiseMovesUptoRow : OpenClaim := { program := "ytpgfdnakiemecaa", sum := "940574a7ae04f2390730aa13bea791e15ef2992bc963a38469a5e89794aa2f23", func := "joystick/joysticklaw04.NoiseMoves", spec := "noiseMoves", apart := false, narrowed := true }
def NoiseMovesUptoSaid : Prop := noiseMovesUptoRow.holds Try.pinned (OpenSpec.upto noiseMovesSpec)

/-- 'joysticklaw04.NoiseGoes', WHERE WHAT IT READS IS OF BULK AT MOST 1048576: true; the input reads as it did. -/
def noiseGoesUptoRow : OpenClaim := { program := "ytpgfdnakiemecaa", sum := "940574a7ae04f2390730aa13bea791e15ef2992bc963a38469a5e89794aa2f23", func := "joystick/joysticklaw04.NoiseGoes", spec := "noiseGoes", apart := false, narrowed := true }
def NoiseGoesUptoSaid : Prop := noiseGoesUptoRow.holds Try.pinned (OpenSpec.upto noiseGoesSpec)

/-- 'joysticklaw04.NoiseNames', WHERE WHAT IT READS IS OF BULK AT MOST 1048576: true; the input reads as it did. -/
def noiseNamesUptoRow : OpenClaim := { program := "ytpgfdnakiemecaa", sum := "940574a7ae04f2390730aa13bea791e15ef2992bc963a38469a5e89794aa2f23", func := "joystick/joysticklaw04.NoiseNames", spec := "noiseNames", apart := false, narrowed := true }
def NoiseNamesUptoSaid : Prop := noiseNamesUptoRow.holds Try.pinned (OpenSpec.upto noiseNamesSpec)

/-- 'joysticklaw04.NoiseWaits', WHERE WHAT IT READS IS OF BULK AT MOST 1048576: true; the input reads as it did. -/
def noiseWaitsUptoRow : OpenClaim := { program := "ytpgfdnakiemecaa", sum := "940574a7ae04f2390730aa13bea791e15ef2992bc963a38469a5e89794aa2f23", func := "joystick/joysticklaw04.NoiseWaits", spec := "noiseWaits", apart := false, narrowed := true }
def NoiseWaitsUptoSaid : Prop := noiseWaitsUptoRow.holds Try.pinned (OpenSpec.upto noiseWaitsSpec)

/-- 'joysticklaw04.NoiseRuns', WHERE WHAT IT READS IS OF BULK AT MOST 1048576: true; the input reads as it did. -/
def noiseRunsUptoRow : OpenClaim := { program := "ytpgfdnakiemecaa", sum := "940574a7ae04f2390730aa13bea791e15ef2992bc963a38469a5e89794aa2f23", func := "joystick/joysticklaw04.NoiseRuns", spec := "noiseRuns", apart := false, narrowed := true }
def NoiseRunsUptoSaid : Prop := noiseRunsUptoRow.holds Try.pinned (OpenSpec.upto noiseRunsSpec)

end Rows
end Go.Proofs.Ytpgfdnakiemecaa
