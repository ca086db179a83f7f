/-
  No cell of these rows narrows 'for every input' (looked for: loops, veiled, ifaces, maps, wideKeys, modest, calm, conditions, laid).
  DERIVED. THE GIVEN ROWS OF THIS SEAT. 8 by the template 'for every input the law returns true; each argument reads behind the call as it read before'; 0 by the template 'total and deterministic' (their statements: YtibahlpphnokkaaTotals.lean).
  GIVEN WITH THE SEED: the statements are not yours to turn. If you find one false, say at which input.
  Laid BY PROGRAM, IN A SANDBOX (cutbox-rows.mjs): the forced cells as the released guide's own fill.sh prints them over the translation 88dffc5f0e918e4b… (all of the seat's roots in one cut). By AI agents, Wed Nov 11 2026. No macro, syntax, notation, axiom, sorry.
-/
import Derived.Test.YtibahlpphnokkaaChecked
import GoSem.Claim
import GoSem.ClaimJoined
import GoSem.ClaimMapViews
import Derived.JoinedTies
import Derived.KernelRfl
namespace Go.Proofs.Ytibahlpphnokkaa
/- THE CELL 'sum', in the pinned program and in every row, IS THE sha256 OF THE DUMP (.gsa) THAT YtibahlpphnokkaaProg.lean LOADS. Nothing in Lean hashes anything: it is a label: what it is worth is what the hold of that sum in a sandbox is worth. -/
noncomputable def Try.pinned : Pinned := { name := "ytibahlpphnokkaa", sum := "88dffc5f0e918e4b41f21f623750a814f922fe4cbae69494db45a55b8f98935c", checked := Try.checked }
namespace Rows
def none {H : Type} : Left H := { results := [], args := [] }

/-- 'joysticklaw06.SumsAdd': WHATEVER THE INPUT: true; the input reads as it did. -/
def sumsAddSpec : ChangeSpec := { name := "sumsAdd", fn := fun _ => fun
  | [d1, d2, d3] => { results := [.lit (.bool true)], args := [d1, d2, d3] }
  | _ => none }
def sumsAddRow : OpenClaim := { program := "ytibahlpphnokkaa", sum := "88dffc5f0e918e4b41f21f623750a814f922fe4cbae69494db45a55b8f98935c", func := "joystick/joysticklaw06.SumsAdd", spec := "sumsAdd", apart := false }
def SumsAddSaid : Prop := sumsAddRow.holds Try.pinned (OpenSpec.ofChange sumsAddSpec)

/-- ITS FALSE NEIGHBOUR: 'it returns false'. Refute it at one input. -/
def sumsAddWrong : ChangeSpec := { name := "sumsAdd", fn := fun _ => fun
  | [d1, d2, d3] => { results := [.lit (.bool false)], args := [d1, d2, d3] }
  | _ => none }
def SumsAddWrongFalsely : Prop := sumsAddRow.holds Try.pinned (OpenSpec.ofChange sumsAddWrong)

/-- 'joysticklaw06.SumsSigns': WHATEVER THE INPUT: true; the input reads as it did. -/
def sumsSignsSpec : ChangeSpec := { name := "sumsSigns", fn := fun _ => fun
  | [d1, d2] => { results := [.lit (.bool true)], args := [d1, d2] }
  | _ => none }
def sumsSignsRow : OpenClaim := { program := "ytibahlpphnokkaa", sum := "88dffc5f0e918e4b41f21f623750a814f922fe4cbae69494db45a55b8f98935c", func := "joystick/joysticklaw06.SumsSigns", spec := "sumsSigns", apart := false }
def SumsSignsSaid : Prop := sumsSignsRow.holds Try.pinned (OpenSpec.ofChange sumsSignsSpec)

/-- ITS FALSE NEIGHBOUR: 'it returns false'. Refute it at one input. -/
def sumsSignsWrong : ChangeSpec := { name := "sumsSigns", fn := fun _ => fun
  | [d1, d2] => { results := [.lit (.bool false)], args := [d1, d2] }
  | _ => none }
def SumsSignsWrongFalsely : Prop := sumsSignsRow.holds Try.pinned (OpenSpec.ofChange sumsSignsWrong)

/-- 'joysticklaw06.SumsNames': WHATEVER THE INPUT: true; the input reads as it did. -/
def sumsNamesSpec : ChangeSpec := { name := "sumsNames", fn := fun _ => fun
  | [] => { results := [.lit (.bool true)], args := [] }
  | _ => none }
def sumsNamesRow : OpenClaim := { program := "ytibahlpphnokkaa", sum := "88dffc5f0e918e4b41f21f623750a814f922fe4cbae69494db45a55b8f98935c", func := "joystick/joysticklaw06.SumsNames", spec := "sumsNames", apart := false }
def SumsNamesSaid : Prop := sumsNamesRow.holds Try.pinned (OpenSpec.ofChange sumsNamesSpec)

/-- ITS FALSE NEIGHBOUR: 'it returns false'. Refute it at one input. -/
def sumsNamesWrong : ChangeSpec := { name := "sumsNames", fn := fun _ => fun
  | [] => { results := [.lit (.bool false)], args := [] }
  | _ => none }
def SumsNamesWrongFalsely : Prop := sumsNamesRow.holds Try.pinned (OpenSpec.ofChange sumsNamesWrong)

/-- 'joysticklaw06.SumsTell': WHATEVER THE INPUT: true; the input reads as it did. -/
def sumsTellSpec : ChangeSpec := { name := "sumsTell", fn := fun _ => fun
  | [d1, d2] => { results := [.lit (.bool true)], args := [d1, d2] }
  | _ => none }
def sumsTellRow : OpenClaim := { program := "ytibahlpphnokkaa", sum := "88dffc5f0e918e4b41f21f623750a814f922fe4cbae69494db45a55b8f98935c", func := "joystick/joysticklaw06.SumsTell", spec := "sumsTell", apart := false }
def SumsTellSaid : Prop := sumsTellRow.holds Try.pinned (OpenSpec.ofChange sumsTellSpec)

/-- ITS FALSE NEIGHBOUR: 'it returns false'. Refute it at one input. -/
def sumsTellWrong : ChangeSpec := { name := "sumsTell", fn := fun _ => fun
  | [d1, d2] => { results := [.lit (.bool false)], args := [d1, d2] }
  | _ => none }
def SumsTellWrongFalsely : Prop := sumsTellRow.holds Try.pinned (OpenSpec.ofChange sumsTellWrong)

/-- 'joysticklaw06.SumsDigits': WHATEVER THE INPUT: true; the input reads as it did. -/
def sumsDigitsSpec : ChangeSpec := { name := "sumsDigits", fn := fun _ => fun
  | [d1, d2, d3] => { results := [.lit (.bool true)], args := [d1, d2, d3] }
  | _ => none }
def sumsDigitsRow : OpenClaim := { program := "ytibahlpphnokkaa", sum := "88dffc5f0e918e4b41f21f623750a814f922fe4cbae69494db45a55b8f98935c", func := "joystick/joysticklaw06.SumsDigits", spec := "sumsDigits", apart := false }
def SumsDigitsSaid : Prop := sumsDigitsRow.holds Try.pinned (OpenSpec.ofChange sumsDigitsSpec)

/-- ITS FALSE NEIGHBOUR: 'it returns false'. Refute it at one input. -/
def sumsDigitsWrong : ChangeSpec := { name := "sumsDigits", fn := fun _ => fun
  | [d1, d2, d3] => { results := [.lit (.bool false)], args := [d1, d2, d3] }
  | _ => none }
def SumsDigitsWrongFalsely : Prop := sumsDigitsRow.holds Try.pinned (OpenSpec.ofChange sumsDigitsWrong)

/-- 'joysticklaw06.SumsBack': WHATEVER THE INPUT: true; the input reads as it did. -/
def sumsBackSpec : ChangeSpec := { name := "sumsBack", fn := fun _ => fun
  | [d1, d2, d3] => { results := [.lit (.bool true)], args := [d1, d2, d3] }
  | _ => none }
def sumsBackRow : OpenClaim := { program := "ytibahlpphnokkaa", sum := "88dffc5f0e918e4b41f21f623750a814f922fe4cbae69494db45a55b8f98935c", func := "joystick/joysticklaw06.SumsBack", spec := "sumsBack", apart := false }
def SumsBackSaid : Prop := sumsBackRow.holds Try.pinned (OpenSpec.ofChange sumsBackSpec)

/-- ITS FALSE NEIGHBOUR: 'it returns false'. Refute it at one input. -/
def sumsBackWrong : ChangeSpec := { name := "sumsBack", fn := fun _ => fun
  | [d1, d2, d3] => { results := [.lit (.bool false)], args := [d1, d2, d3] }
  | _ => none }
def SumsBackWrongFalsely : Prop := sumsBackRow.holds Try.pinned (OpenSpec.ofChange sumsBackWrong)

/-- 'joysticklaw06.SumsDo': WHATEVER THE INPUT: true; the input reads as it did. -/
def sumsDoSpec : ChangeSpec := { name := "sumsDo", fn := fun _ => fun
  | [d1, d2] => { results := [.lit (.bool true)], args := [d1, d2] }
  | _ => none }
def sumsDoRow : OpenClaim := { program := "ytibahlpphnokkaa", sum := "88dffc5f0e918e4b41f21f623750a814f922fe4cbae69494db45a55b8f98935c", func := "joystick/joysticklaw06.SumsDo", spec := "sumsDo", apart := false }
def SumsDoSaid : Prop := sumsDoRow.holds Try.pinned (OpenSpec.ofChange sumsDoSpec)

/-- ITS FALSE NEIGHBOUR: 'it returns false'. Refute it at one input. -/
def sumsDoWrong : ChangeSpec := { name := "sumsDo", fn := fun _ => fun
  | [d1, d2] => { results := [.lit (.bool false)], args := [d1, d2] }
  | _ => none }
def SumsDoWrongFalsely : Prop := sumsDoRow.holds Try.pinned (OpenSpec.ofChange sumsDoWrong)

/-- 'joysticklaw06.SumsOne': WHATEVER THE INPUT: true; the input reads as it did. -/
def sumsOneSpec : ChangeSpec := { name := "sumsOne", fn := fun _ => fun
  | [d1, d2, d3] => { results := [.lit (.bool true)], args := [d1, d2, d3] }
  | _ => none }
def sumsOneRow : OpenClaim := { program := "ytibahlpphnokkaa", sum := "88dffc5f0e918e4b41f21f623750a814f922fe4cbae69494db45a55b8f98935c", func := "joystick/joysticklaw06.SumsOne", spec := "sumsOne", apart := false }
def SumsOneSaid : Prop := sumsOneRow.holds Try.pinned (OpenSpec.ofChange sumsOneSpec)

/-- ITS FALSE NEIGHBOUR: 'it returns false'. Refute it at one input. -/
def sumsOneWrong : ChangeSpec := { name := "sumsOne", fn := fun _ => fun
  | [d1, d2, d3] => { results := [.lit (.bool false)], args := [d1, d2, d3] }
  | _ => none }
def SumsOneWrongFalsely : Prop := sumsOneRow.holds Try.pinned (OpenSpec.ofChange sumsOneWrong)

/- THE SECOND FORM. 'bulk': how many values and letters a reading holds, each counted each time it is reached (what is shared counts as often as it is met; a slice's spare places count too). A statement '..UptoSaid' is the law's where the arguments, and the package variables that the reading takes, are together of bulk at most 1048576: NARROWER than '..Said'. Prove '..Said' where nothing that the law and all that it calls make is longer than what came in: it says more and counts as full. Else prove '..UptoSaid'. A law counts once. -/
mutual
def uptoBulk {H : Type} : DataW H → Nat
  | .lit (.string bytes) => bytes.length + 1
  | .lit _ => 1
  | .nil => 1
  | .ptr d => uptoBulk d + 1
  | .slice elems spare => uptoBulkAll elems + uptoBulkAll spare + 1
  | .agg parts => uptoBulkAll parts + 1
  | .iface _ d => uptoBulk d + 1
  | .map entries => uptoBulkEntries entries + 1
  | .held _ => 1
def uptoBulkAll {H : Type} : List (DataW H) → Nat
  | [] => 0
  | d :: r => uptoBulk d + uptoBulkAll r
def uptoBulkEntries {H : Type} : List (Lit × DataW H) → Nat
  | [] => 0
  | x :: r => uptoBulkEntry x + uptoBulkEntries r
def uptoBulkEntry {H : Type} : Lit × DataW H → Nat
  | (.string bytes, d) => bytes.length + uptoBulk d + 1
  | (_, d) => uptoBulk d + 1
 end
def uptoSmall : (H : Type) → List (DataW H) → Bool := fun _ ds => decide (uptoBulkAll ds ≤ 1048576)
def OpenSpec.upto (s : _root_.Go.ChangeSpec) : _root_.Go.OpenSpec := { _root_.Go.OpenSpec.ofChange s with cond := some uptoSmall }

/-- 'joysticklaw06.SumsAdd', WHERE WHAT IT READS IS OF BULK AT MOST 1048576: true; the input reads as it did. -/
def sumsAddUptoRow : OpenClaim := { program := "ytibahlpphnokkaa", sum := "88dffc5f0e918e4b41f21f623750a814f922fe4cbae69494db45a55b8f98935c", func := "joystick/joysticklaw06.SumsAdd", spec := "sumsAdd", apart := false, narrowed := true }
def SumsAddUptoSaid : Prop := sumsAddUptoRow.holds Try.pinned (OpenSpec.upto sumsAddSpec)

/-- 'joysticklaw06.SumsSigns', WHERE WHAT IT READS IS OF BULK AT MOST 1048576: true; the input reads as it did. -/
def sumsSignsUptoRow : OpenClaim := { program := "ytibahlpphnokkaa", sum := "88dffc5f0e918e4b41f21f623750a814f922fe4cbae69494db45a55b8f98935c", func := "joystick/joysticklaw06.SumsSigns", spec := "sumsSigns", apart := false, narrowed := true }
def SumsSignsUptoSaid : Prop := sumsSignsUptoRow.holds Try.pinned (OpenSpec.upto sumsSignsSpec)

/-- 'joysticklaw06.SumsNames', WHERE WHAT IT READS IS OF BULK AT MOST 1048576: true; the input reads as it did. -/
def sumsNamesUptoRow : OpenClaim := { program := "ytibahlpphnokkaa", sum := "88dffc5f0e918e4b41f21f623750a814f922fe4cbae69494db45a55b8f98935c", func := "joystick/joysticklaw06.SumsNames", spec := "sumsNames", apart := false, narrowed := true }
def SumsNamesUptoSaid : Prop := sumsNamesUptoRow.holds Try.pinned (OpenSpec.upto sumsNamesSpec)

/-- 'joysticklaw06.SumsTell', WHERE WHAT IT READS IS OF BULK AT MOST 1048576: true; the input reads as it did. -/
def sumsTellUptoRow : OpenClaim := { program := "ytibahlpphnokkaa", sum := "88dffc5f0e918e4b41f21f623750a814f922fe4cbae69494db45a55b8f98935c", func := "joystick/joysticklaw06.SumsTell", spec := "sumsTell", apart := false, narrowed := true }
def SumsTellUptoSaid : Prop := sumsTellUptoRow.holds Try.pinned (OpenSpec.upto sumsTellSpec)

/-- 'joysticklaw06.SumsDigits', WHERE WHAT IT READS IS OF BULK AT MOST 1048576: true; the input reads as it did. -/
def sumsDigitsUptoRow : OpenClaim := { program := "ytibahlpphnokkaa", sum := "88dffc5f0e918e4b41f21f623750a814f922fe4cbae69494db45a55b8f98935c", func := "joystick/joysticklaw06.SumsDigits", spec := "sumsDigits", apart := false, narrowed := true }
def SumsDigitsUptoSaid : Prop := sumsDigitsUptoRow.holds Try.pinned (OpenSpec.upto sumsDigitsSpec)

/-- 'joysticklaw06.SumsBack', WHERE WHAT IT READS IS OF BULK AT MOST 1048576: true; the input reads as it did. -/
def sumsBackUptoRow : OpenClaim := { program := "ytibahlpphnokkaa", sum := "88dffc5f0e918e4b41f21f623750a814f922fe4cbae69494db45a55b8f98935c", func := "joystick/joysticklaw06.SumsBack", spec := "sumsBack", apart := false, narrowed := true }
def SumsBackUptoSaid : Prop := sumsBackUptoRow.holds Try.pinned (OpenSpec.upto sumsBackSpec)

/-- 'joysticklaw06.SumsDo', WHERE WHAT IT READS IS OF BULK AT MOST 1048576: true; the input reads as it did. -/
def sumsDoUptoRow : OpenClaim := { program := "ytibahlpphnokkaa", sum := "88dffc5f0e918e4b41f21f623750a814f922fe4cbae69494db45a55b8f98935c", func := "joystick/joysticklaw06.SumsDo", spec := "sumsDo", apart := false, narrowed := true }
def SumsDoUptoSaid : Prop := sumsDoUptoRow.holds Try.pinned (OpenSpec.upto sumsDoSpec)

/-- 'joysticklaw06.SumsOne', WHERE WHAT IT READS IS OF BULK AT MOST 1048576: true; the input reads as it did. -/
def sumsOneUptoRow : OpenClaim := { program := "ytibahlpphnokkaa", sum := "88dffc5f0e918e4b41f21f623750a814f922fe4cbae69494db45a55b8f98935c", func := "joystick/joysticklaw06.SumsOne", spec := "sumsOne", apart := false, narrowed := true }
def SumsOneUptoSaid : Prop := sumsOneUptoRow.holds Try.pinned (OpenSpec.upto sumsOneSpec)

end Rows
end Go.Proofs.Ytibahlpphnokkaa
