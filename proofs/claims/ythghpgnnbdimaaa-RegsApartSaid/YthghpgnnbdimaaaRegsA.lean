/- The registers as an argument (layer 10). No conditions but that numbers are of their kinds. -/
import Derived.Test.YthghpgnnbdimaaaRegs9
namespace Go.Proofs.Ythghpgnnbdimaaa
open Go.RowKit
open Kit
set_option linter.unusedSimpArgs false
set_option linter.unusedVariables false
namespace Regs
def cz (b : Bool) : Int := cond b 1 0
theorem wf_u8 {z : Int} (h : (Lit.int .u8 z).wf = true) : 0 ≤ z ∧ z < 256 := by
  simp [Lit.wf, IntKind.min, IntKind.max, IntKind.signed, IntKind.bits] at h; omega
theorem wf_u16 {z : Int} (h : (Lit.int .u16 z).wf = true) : 0 ≤ z ∧ z < 65536 := by
  simp [Lit.wf, IntKind.min, IntKind.max, IntKind.signed, IntKind.bits] at h; omega
def fOf (l : List Int) (j : Nat) : Int := l.getD j 0
set_option maxRecDepth 100000 in
set_option maxHeartbeats 4000000 in
theorem regs_eq (a0_0 a0_1 a0_2 a0_3 a0_4 a0_5 a0_6 a0_7 a0_8 a0_9 a0_10 a0_11 a0_12 a0_13 a0_14 a0_15 a0_16 a0_17 a0_18 a0_19 a0_20 a0_21 a0_22 a0_23 a0_24 : Int) (a0_25 a0_26 a0_27 a0_28 : Bool) : (#[.int .u8 a0_0, .int .u8 a0_1, .int .u8 a0_2, .int .u8 a0_3, .int .u8 a0_4, .int .u8 a0_5, .int .u8 a0_6, .int .u8 a0_7, .int .u8 a0_8, .int .u8 a0_9, .int .u8 a0_10, .int .u8 a0_11, .int .u8 a0_12, .int .u8 a0_13, .int .u8 a0_14, .int .u8 a0_15, .int .u16 a0_16, .int .u16 a0_17, .int .u16 a0_18, .int .u16 a0_19, .int .u16 a0_20, .int .u8 a0_21, .int .u8 a0_22, .int .u8 a0_23, .int .u8 a0_24, .bool a0_25, .bool a0_26, .bool a0_27, .bool a0_28] : Array Value) = R (fOf [a0_0, a0_1, a0_2, a0_3, a0_4, a0_5, a0_6, a0_7, a0_8, a0_9, a0_10, a0_11, a0_12, a0_13, a0_14, a0_15, a0_16, a0_17, a0_18, a0_19, a0_20, a0_21, a0_22, a0_23, a0_24, cz a0_25, cz a0_26, cz a0_27, cz a0_28]) := by
  cases a0_25 <;> cases a0_26 <;> cases a0_27 <;> cases a0_28 <;> rfl
set_option maxRecDepth 100000 in
set_option maxHeartbeats 4000000 in
theorem regs_rb (a0_0 a0_1 a0_2 a0_3 a0_4 a0_5 a0_6 a0_7 a0_8 a0_9 a0_10 a0_11 a0_12 a0_13 a0_14 a0_15 a0_16 a0_17 a0_18 a0_19 a0_20 a0_21 a0_22 a0_23 a0_24 : Int) (a0_25 a0_26 a0_27 a0_28 : Bool) (w0_0 : (Lit.int .u8 a0_0).wf = true) (w0_1 : (Lit.int .u8 a0_1).wf = true) (w0_2 : (Lit.int .u8 a0_2).wf = true) (w0_3 : (Lit.int .u8 a0_3).wf = true) (w0_4 : (Lit.int .u8 a0_4).wf = true) (w0_5 : (Lit.int .u8 a0_5).wf = true) (w0_6 : (Lit.int .u8 a0_6).wf = true) (w0_7 : (Lit.int .u8 a0_7).wf = true) (w0_8 : (Lit.int .u8 a0_8).wf = true) (w0_9 : (Lit.int .u8 a0_9).wf = true) (w0_10 : (Lit.int .u8 a0_10).wf = true) (w0_11 : (Lit.int .u8 a0_11).wf = true) (w0_12 : (Lit.int .u8 a0_12).wf = true) (w0_13 : (Lit.int .u8 a0_13).wf = true) (w0_14 : (Lit.int .u8 a0_14).wf = true) (w0_15 : (Lit.int .u8 a0_15).wf = true) (w0_16 : (Lit.int .u16 a0_16).wf = true) (w0_17 : (Lit.int .u16 a0_17).wf = true) (w0_18 : (Lit.int .u16 a0_18).wf = true) (w0_19 : (Lit.int .u16 a0_19).wf = true) (w0_20 : (Lit.int .u16 a0_20).wf = true) (w0_21 : (Lit.int .u8 a0_21).wf = true) (w0_22 : (Lit.int .u8 a0_22).wf = true) (w0_23 : (Lit.int .u8 a0_23).wf = true) (w0_24 : (Lit.int .u8 a0_24).wf = true) : RB (fOf [a0_0, a0_1, a0_2, a0_3, a0_4, a0_5, a0_6, a0_7, a0_8, a0_9, a0_10, a0_11, a0_12, a0_13, a0_14, a0_15, a0_16, a0_17, a0_18, a0_19, a0_20, a0_21, a0_22, a0_23, a0_24, cz a0_25, cz a0_26, cz a0_27, cz a0_28]) := by
  refine ⟨fun j hj => ?_, fun j hj hk => ?_, fun j hj hk => ?_⟩
  · match j, hj with
    | 0, _ => exact wf_u8 w0_0
    | 1, _ => exact wf_u8 w0_1
    | 2, _ => exact wf_u8 w0_2
    | 3, _ => exact wf_u8 w0_3
    | 4, _ => exact wf_u8 w0_4
    | 5, _ => exact wf_u8 w0_5
    | 6, _ => exact wf_u8 w0_6
    | 7, _ => exact wf_u8 w0_7
    | 8, _ => exact wf_u8 w0_8
    | 9, _ => exact wf_u8 w0_9
    | 10, _ => exact wf_u8 w0_10
    | 11, _ => exact wf_u8 w0_11
    | 12, _ => exact wf_u8 w0_12
    | 13, _ => exact wf_u8 w0_13
    | 14, _ => exact wf_u8 w0_14
    | 15, _ => exact wf_u8 w0_15
    | n + 16, h => omega
  · match j, hj, hk with
    | 0, h, _ => omega
    | 1, h, _ => omega
    | 2, h, _ => omega
    | 3, h, _ => omega
    | 4, h, _ => omega
    | 5, h, _ => omega
    | 6, h, _ => omega
    | 7, h, _ => omega
    | 8, h, _ => omega
    | 9, h, _ => omega
    | 10, h, _ => omega
    | 11, h, _ => omega
    | 12, h, _ => omega
    | 13, h, _ => omega
    | 14, h, _ => omega
    | 15, h, _ => omega
    | 16, h, _ => exact wf_u16 w0_16
    | 17, h, _ => exact wf_u16 w0_17
    | 18, h, _ => exact wf_u16 w0_18
    | 19, h, _ => exact wf_u16 w0_19
    | 20, h, _ => exact wf_u16 w0_20
    | n + 21, _, h => omega
  · match j, hj, hk with
    | 0, h, _ => omega
    | 1, h, _ => omega
    | 2, h, _ => omega
    | 3, h, _ => omega
    | 4, h, _ => omega
    | 5, h, _ => omega
    | 6, h, _ => omega
    | 7, h, _ => omega
    | 8, h, _ => omega
    | 9, h, _ => omega
    | 10, h, _ => omega
    | 11, h, _ => omega
    | 12, h, _ => omega
    | 13, h, _ => omega
    | 14, h, _ => omega
    | 15, h, _ => omega
    | 16, h, _ => omega
    | 17, h, _ => omega
    | 18, h, _ => omega
    | 19, h, _ => omega
    | 20, h, _ => omega
    | 21, h, _ => exact wf_u8 w0_21
    | 22, h, _ => exact wf_u8 w0_22
    | 23, h, _ => exact wf_u8 w0_23
    | 24, h, _ => exact wf_u8 w0_24
    | n + 25, _, h => omega
end Regs
end Go.Proofs.Ythghpgnnbdimaaa
