/-
  No cell of these rows narrows 'for every input' (looked for: loops, veiled, ifaces, maps, wideKeys, modest, calm, conditions, laid).
  DERIVED. THE GIVEN ROWS OF THIS SEAT. 5 by the template 'for every input the law returns true; each argument reads behind the call as it read before'; 0 by the template 'total and deterministic' (their statements: YtfdnhlmfidjpkaaTotals.lean).
  GIVEN WITH THE SEED: the statements are not yours to turn. If you find one false, say at which input.
  Laid BY PROGRAM, IN A SANDBOX (cutbox-rows.mjs): the forced cells as the released guide's own fill.sh prints them over the translation 56df033045263986… (all of the seat's roots in one cut). By AI agents, Wed Nov 11 2026. No macro, syntax, notation, axiom, sorry.
-/
import Derived.Test.YtfdnhlmfidjpkaaChecked
import GoSem.Claim
import GoSem.ClaimJoined
import GoSem.ClaimMapViews
import Derived.JoinedTies
import Derived.KernelRfl
namespace Go.Proofs.Ytfdnhlmfidjpkaa
/- THE CELL 'sum', in the pinned program and in every row, IS THE sha256 OF THE DUMP (.gsa) THAT YtfdnhlmfidjpkaaProg.lean LOADS. Nothing in Lean hashes anything: it is a label: what it is worth is what the hold of that sum in a sandbox is worth. -/
noncomputable def Try.pinned : Pinned := { name := "ytfdnhlmfidjpkaa", sum := "56df033045263986fb0539570238a0988d6ca9253b1b21b5e12c84ea1200582b", checked := Try.checked }
namespace Rows
def none {H : Type} : Left H := { results := [], args := [] }

/-- 'joysticklaw14.DotsCounts': WHATEVER THE INPUT: true; the input reads as it did. -/
def dotsCountsSpec : ChangeSpec := { name := "dotsCounts", fn := fun _ => fun
  | [d1, d2] => { results := [.lit (.bool true)], args := [d1, d2] }
  | _ => none }
def dotsCountsRow : OpenClaim := { program := "ytfdnhlmfidjpkaa", sum := "56df033045263986fb0539570238a0988d6ca9253b1b21b5e12c84ea1200582b", func := "joystick/joysticklaw14.DotsCounts", spec := "dotsCounts", apart := false }
def DotsCountsSaid : Prop := dotsCountsRow.holds Try.pinned (OpenSpec.ofChange dotsCountsSpec)

/-- ITS FALSE NEIGHBOUR: 'it returns false'. Refute it at one input. -/
def dotsCountsWrong : ChangeSpec := { name := "dotsCounts", fn := fun _ => fun
  | [d1, d2] => { results := [.lit (.bool false)], args := [d1, d2] }
  | _ => none }
def DotsCountsWrongFalsely : Prop := dotsCountsRow.holds Try.pinned (OpenSpec.ofChange dotsCountsWrong)

/-- 'joysticklaw14.DotsGo': WHATEVER THE INPUT: true; the input reads as it did. -/
def dotsGoSpec : ChangeSpec := { name := "dotsGo", fn := fun _ => fun
  | [d] => { results := [.lit (.bool true)], args := [d] }
  | _ => none }
def dotsGoRow : OpenClaim := { program := "ytfdnhlmfidjpkaa", sum := "56df033045263986fb0539570238a0988d6ca9253b1b21b5e12c84ea1200582b", func := "joystick/joysticklaw14.DotsGo", spec := "dotsGo", apart := false }
def DotsGoSaid : Prop := dotsGoRow.holds Try.pinned (OpenSpec.ofChange dotsGoSpec)

/-- ITS FALSE NEIGHBOUR: 'it returns false'. Refute it at one input. -/
def dotsGoWrong : ChangeSpec := { name := "dotsGo", fn := fun _ => fun
  | [d] => { results := [.lit (.bool false)], args := [d] }
  | _ => none }
def DotsGoWrongFalsely : Prop := dotsGoRow.holds Try.pinned (OpenSpec.ofChange dotsGoWrong)

/-- 'joysticklaw14.DotsNames': WHATEVER THE INPUT: true; the input reads as it did. -/
def dotsNamesSpec : ChangeSpec := { name := "dotsNames", fn := fun _ => fun
  | [] => { results := [.lit (.bool true)], args := [] }
  | _ => none }
def dotsNamesRow : OpenClaim := { program := "ytfdnhlmfidjpkaa", sum := "56df033045263986fb0539570238a0988d6ca9253b1b21b5e12c84ea1200582b", func := "joystick/joysticklaw14.DotsNames", spec := "dotsNames", apart := false }
def DotsNamesSaid : Prop := dotsNamesRow.holds Try.pinned (OpenSpec.ofChange dotsNamesSpec)

/-- ITS FALSE NEIGHBOUR: 'it returns false'. Refute it at one input. -/
def dotsNamesWrong : ChangeSpec := { name := "dotsNames", fn := fun _ => fun
  | [] => { results := [.lit (.bool false)], args := [] }
  | _ => none }
def DotsNamesWrongFalsely : Prop := dotsNamesRow.holds Try.pinned (OpenSpec.ofChange dotsNamesWrong)

/-- 'joysticklaw14.DotsTimes': WHATEVER THE INPUT: true; the input reads as it did. -/
def dotsTimesSpec : ChangeSpec := { name := "dotsTimes", fn := fun _ => fun
  | [d] => { results := [.lit (.bool true)], args := [d] }
  | _ => none }
def dotsTimesRow : OpenClaim := { program := "ytfdnhlmfidjpkaa", sum := "56df033045263986fb0539570238a0988d6ca9253b1b21b5e12c84ea1200582b", func := "joystick/joysticklaw14.DotsTimes", spec := "dotsTimes", apart := false }
def DotsTimesSaid : Prop := dotsTimesRow.holds Try.pinned (OpenSpec.ofChange dotsTimesSpec)

/-- ITS FALSE NEIGHBOUR: 'it returns false'. Refute it at one input. -/
def dotsTimesWrong : ChangeSpec := { name := "dotsTimes", fn := fun _ => fun
  | [d] => { results := [.lit (.bool false)], args := [d] }
  | _ => none }
def DotsTimesWrongFalsely : Prop := dotsTimesRow.holds Try.pinned (OpenSpec.ofChange dotsTimesWrong)

/-- 'joysticklaw14.DotsCover': WHATEVER THE INPUT: true; the input reads as it did. -/
def dotsCoverSpec : ChangeSpec := { name := "dotsCover", fn := fun _ => fun
  | [d] => { results := [.lit (.bool true)], args := [d] }
  | _ => none }
def dotsCoverRow : OpenClaim := { program := "ytfdnhlmfidjpkaa", sum := "56df033045263986fb0539570238a0988d6ca9253b1b21b5e12c84ea1200582b", func := "joystick/joysticklaw14.DotsCover", spec := "dotsCover", apart := false }
def DotsCoverSaid : Prop := dotsCoverRow.holds Try.pinned (OpenSpec.ofChange dotsCoverSpec)

/-- ITS FALSE NEIGHBOUR: 'it returns false'. Refute it at one input. -/
def dotsCoverWrong : ChangeSpec := { name := "dotsCover", fn := fun _ => fun
  | [d] => { results := [.lit (.bool false)], args := [d] }
  | _ => none }
def DotsCoverWrongFalsely : Prop := dotsCoverRow.holds Try.pinned (OpenSpec.ofChange dotsCoverWrong)

/- THE SECOND FORM. 'bulk': how many values and letters a reading holds, each counted each time it is reached (what is shared counts as often as it is met; a slice's spare places count too). A statement '..UptoSaid' is the law's where the arguments, and the package variables that the reading takes, are together of bulk at most 1048576: NARROWER than '..Said'. Prove '..Said' where nothing that the law and all that it calls make is longer than what came in: it says more and counts as full. Else prove '..UptoSaid'. A law counts once. -/
mutual
def uptoBulk {H : Type} : DataW H → Nat
  | .lit (.string bytes) => bytes.length + 1
  | .lit _ => 1
  | .nil => 1
  | .ptr d => uptoBulk d + 1
  | .slice elems spare => uptoBulkAll elems + uptoBulkAll spare + 1
  | .agg parts => uptoBulkAll parts + 1
  | .iface _ d => uptoBulk d + 1
  | .map entries => uptoBulkEntries entries + 1
  | .held _ => 1
def uptoBulkAll {H : Type} : List (DataW H) → Nat
  | [] => 0
  | d :: r => uptoBulk d + uptoBulkAll r
def uptoBulkEntries {H : Type} : List (Lit × DataW H) → Nat
  | [] => 0
  | x :: r => uptoBulkEntry x + uptoBulkEntries r
def uptoBulkEntry {H : Type} : Lit × DataW H → Nat
  | (.string bytes, d) => bytes.length + uptoBulk d + 1
  | (_, d) => uptoBulk d + 1
 end
def uptoSmall : (H : Type) → List (DataW H) → Bool := fun _ ds => decide (uptoBulkAll ds ≤ 1048576)
def OpenSpec.upto (s : _root_.Go.ChangeSpec) : _root_.Go.OpenSpec := { _root_.Go.OpenSpec.ofChange s with cond := some uptoSmall }

/-- 'joysticklaw14.DotsCounts', WHERE WHAT IT READS IS OF BULK AT MOST 1048576: true; the input reads as it did. -/
def dotsCountsUptoRow : OpenClaim := { program := "ytfdnhlmfidjpkaa", sum := "56df033045263986fb0539570238a0988d6ca9253b1b21b5e12c84ea1200582b", func := "joystick/joysticklaw14.DotsCounts", spec := "dotsCounts", apart := false, narrowed := true }
def DotsCountsUptoSaid : Prop := dotsCountsUptoRow.holds Try.pinned (OpenSpec.upto dotsCountsSpec)

/-- 'joysticklaw14.DotsGo', WHERE WHAT IT READS IS OF BULK AT MOST 1048576: true; the input reads as it did. -/
def dotsGoUptoRow : OpenClaim := { program := "ytfdnhlmfidjpkaa", sum := "56df033045263986fb0539570238a0988d6ca9253b1b21b5e12c84ea1200582b", func := "joystick/joysticklaw14.DotsGo", spec := "dotsGo", apart := false, narrowed := true }
def DotsGoUptoSaid : Prop := dotsGoUptoRow.holds Try.pinned (OpenSpec.upto dotsGoSpec)

/-- 'joysticklaw14.DotsNames', WHERE WHAT IT READS IS OF BULK AT MOST 1048576: true; the input reads as it did. -/
def dotsNamesUptoRow : OpenClaim := { program := "ytfdnhlmfidjpkaa", sum := "56df033045263986fb0539570238a0988d6ca9253b1b21b5e12c84ea1200582b", func := "joystick/joysticklaw14.DotsNames", spec := "dotsNames", apart := false, narrowed := true }
def DotsNamesUptoSaid : Prop := dotsNamesUptoRow.holds Try.pinned (OpenSpec.upto dotsNamesSpec)

/-- 'joysticklaw14.DotsTimes', WHERE WHAT IT READS IS OF BULK AT MOST 1048576: true; the input reads as it did. -/
def dotsTimesUptoRow : OpenClaim := { program := "ytfdnhlmfidjpkaa", sum := "56df033045263986fb0539570238a0988d6ca9253b1b21b5e12c84ea1200582b", func := "joystick/joysticklaw14.DotsTimes", spec := "dotsTimes", apart := false, narrowed := true }
def DotsTimesUptoSaid : Prop := dotsTimesUptoRow.holds Try.pinned (OpenSpec.upto dotsTimesSpec)

/-- 'joysticklaw14.DotsCover', WHERE WHAT IT READS IS OF BULK AT MOST 1048576: true; the input reads as it did. -/
def dotsCoverUptoRow : OpenClaim := { program := "ytfdnhlmfidjpkaa", sum := "56df033045263986fb0539570238a0988d6ca9253b1b21b5e12c84ea1200582b", func := "joystick/joysticklaw14.DotsCover", spec := "dotsCover", apart := false, narrowed := true }
def DotsCoverUptoSaid : Prop := dotsCoverUptoRow.holds Try.pinned (OpenSpec.upto dotsCoverSpec)

end Rows
end Go.Proofs.Ytfdnhlmfidjpkaa
