/- What is pressed (layer 21): what the program's functions do: the form. No conditions but that numbers are of their kinds. -/
import Derived.Test.YtlbcjbnknegcnaaPads3
import Derived.RegionTactic
import Derived.LoopTactic
import Derived.Deep.RegionHeld3
import Derived.Lib.Hide
namespace Go.Proofs.Ytlbcjbnknegcnaa
open Go.RowKit
open Kit
set_option linter.unusedSimpArgs false
set_option linter.unusedVariables false
namespace Pads
theorem wf_u8 {z : Int} (h : (Lit.int .u8 z).wf = true) : 0 ≤ z ∧ z < 256 := by
  simp [Lit.wf, IntKind.min, IntKind.max, IntKind.signed, IntKind.bits] at h; omega
theorem wf_i64 {z : Int} (h : (Lit.int .i64 z).wf = true) : -9223372036854775808 ≤ z ∧ z ≤ 9223372036854775807 := by
  simp [Lit.wf, IntKind.min, IntKind.max, IntKind.signed, IntKind.bits] at h; omega
theorem padsAlone_walk (a0_0 a0_1 : Int) (a0_2 a0_3 : Bool) (a1 : Int) (w0_0 : (Lit.int .u8 a0_0).wf = true) (w0_1 : (Lit.int .u8 a0_1).wf = true) (w1 : (Lit.int .i64 a1).wf = true) (w : World) : Calls Try.prog 3 #[.agg #[.int .u8 a0_0, .int .u8 a0_1, .bool a0_2, .bool a0_3], .int .i64 a1] w fun e w' => e = .returned (.bool true) ∧ Below w.heap.size w w' := by
  obtain ⟨x0, x1⟩ := wf_u8 w0_0
  obtain ⟨y0, y1⟩ := wf_u8 w0_1
  obtain ⟨x, rfl⟩ := Int.eq_ofNat_of_zero_le x0
  obtain ⟨y, rfl⟩ := Int.eq_ofNat_of_zero_le y0
  exact alone_all x y a0_2 a0_3 a1 (by omega) (by omega) (wf_i64 w1).1 (wf_i64 w1).2 w
end Pads
end Go.Proofs.Ytlbcjbnknegcnaa
