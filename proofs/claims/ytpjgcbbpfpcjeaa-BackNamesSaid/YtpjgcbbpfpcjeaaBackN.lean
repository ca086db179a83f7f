/- A line of the ground of a picture (layer 17): what the program's and the reference's functions do, part 12. No conditions but that numbers are of their kinds and slices are slices. -/
import Derived.Test.YtpjgcbbpfpcjeaaBack6
import Derived.RegionTactic
import Derived.LoopTactic
import Derived.Deep.RegionHeld3
import Derived.Lib.Hide
namespace Go.Proofs.Ytpjgcbbpfpcjeaa
open Go.RowKit
open Kit Tile TileR
set_option linter.unusedSimpArgs false
set_option linter.unusedVariables false
attribute [local simp] blkAt_alloc blkNew_cells putRow_cells blkAt_drew BlkN.set BlkOne.setInt BlkOne.setBool blkPut_alloc blkPut_drew blkAt_blkPut_other size_blkPut nq2 nq3 nq4 nq5 nq6 nq7 nq8
namespace Back
attribute [local simp ↓] rl_in
attribute [local simp] rl_run
attribute [local simp ↓] gl_in gs_in ds_in ag_in
attribute [local simp] gl_run gs_run ds_run ag_run
open TileB
noncomputable def buildG (parts : Array (Nat × Value)) : Sem Value := Instr.build 29 parts
theorem bg_in (parts : Array (Nat × Value)) : Instr.build 29 parts = buildG parts := rfl
theorem bg_run (w : World) : Sem.run Try.prog (buildG #[]) w = .ok (.agg Z512) w := by unfold buildG; kernel_rfl
attribute [local simp ↓] bg_in
attribute [local simp] bg_run
def r1 (j : Nat) : Int := if j = 0 then 64 else if j = 8 then 9 else if j = 9 then 3 else 0
def r2 (j : Nat) : Int := if j = 0 then 128 else if j = 8 then 9 else if j = 9 then 100 else 0
def r3 (j : Nat) : Int := if j = 9 then 100 else 0
def r4 (j : Nat) : Int := 0
theorem r1_b : RB r1 := fun j _ => by unfold r1; split <;> (try split) <;> (try split) <;> omega
theorem r2_b : RB r2 := fun j _ => by unfold r2; split <;> (try split) <;> (try split) <;> omega
theorem r3_b : RB r3 := fun j _ => by unfold r3; split <;> omega
theorem r1_e : R r1 = #[.int .u8 64, .int .u8 0, .int .u8 0, .int .u8 0, .int .u8 0, .int .u8 0, .int .u8 0, .int .u8 0, .int .u8 9, .int .u8 3, .int .u8 0] := by rfl
theorem r2_e : R r2 = #[.int .u8 128, .int .u8 0, .int .u8 0, .int .u8 0, .int .u8 0, .int .u8 0, .int .u8 0, .int .u8 0, .int .u8 9, .int .u8 100, .int .u8 0] := by rfl
theorem r3_e : R r3 = #[.int .u8 0, .int .u8 0, .int .u8 0, .int .u8 0, .int .u8 0, .int .u8 0, .int .u8 0, .int .u8 0, .int .u8 0, .int .u8 100, .int .u8 0] := by rfl
theorem r4_e : R r4 = #[.int .u8 0, .int .u8 0, .int .u8 0, .int .u8 0, .int .u8 0, .int .u8 0, .int .u8 0, .int .u8 0, .int .u8 0, .int .u8 0, .int .u8 0] := by rfl
set_option maxRecDepth 100000 in
set_option maxHeartbeats 4000000 in
theorem backNames_walk (w : World) : Calls Try.prog 3 #[] w fun e w' => e = .returned (.bool true) ∧ Below w.heap.size w w' := by
  have h1 := source_yes r1 r1_b 15 9 (by omega) (by omega) (by omega) (by omega)
  rw [r1_e, show colV r1 15 9 = 9 by decide, show rowV r1 15 9 = 18 by decide] at h1
  have h2 := source_yes r2 r2_b 191 200 (by omega) (by omega) (by omega) (by omega)
  rw [r2_e, show colV r2 191 200 = 191 by decide, show rowV r2 191 200 = 191 by decide] at h2
  have h3 := source_yes r3 r3_b 191 0 (by omega) (by omega) (by omega) (by omega)
  rw [r3_e, show colV r3 191 0 = 0 by decide, show rowV r3 191 0 = 67 by decide] at h3
  have h4 := source_no r4 192 7 (by omega)
  rw [r4_e] at h4
  have h5 := line_no r4 (.slice none 0 0) (-1) (by omega)
  rw [r4_e] at h5
  have heq : ∀ w0, (Op.equalIn 10000 29 (.agg Z512) (.agg Z512)).run Try.prog w0 = .ok true w0 := fun w0 => by
    have := eqG (fun _ => 0) (fun _ => false) (fun j => ⟨by omega, by omega⟩) w0
    rw [G_zero] at this; exact this
  have gN := z512N
  have H1 := Lib.hid h1
  have H2 := Lib.hid h2
  have H3 := Lib.hid h3
  have H4 := Lib.hid h4
  have H5 := Lib.hid h5
  have HA := Lib.hid alive_any
  clear h1 h2 h3 h4 h5
  go_enter Try.func3, Try.ntmps3
  go_wp2_with fail
  refine (H1.out _).mono ?_
  rintro e w1 ⟨rfl, b1⟩
  go_wp2_with fail
  refine (H2.out _).mono ?_
  rintro e w2 ⟨rfl, b2⟩
  go_wp2_with fail
  refine (H3.out _).mono ?_
  rintro e w3 ⟨rfl, b3⟩
  go_wp2_with fail
  refine (H4.out _).mono ?_
  rintro e w4 ⟨rfl, b4⟩
  go_wp2_with fail
  refine (HA.out _).mono ?_
  rintro e w5 ⟨rfl, b5⟩
  go_wp2_with fail
  refine (H5.out _).mono ?_
  rintro e w6 ⟨rfl, b6⟩
  go_wp2_with fail
  go_ret
  have c2 := b1.trans (b2.mono b1.size)
  have c3 := c2.trans (b3.mono c2.size)
  have c4 := c3.trans (b4.mono c3.size)
  have c5 := c4.trans (b5.mono c4.size)
  exact ⟨ret_bool (by simp), c5.trans (b6.mono c5.size)⟩
end Back
end Go.Proofs.Ytpjgcbbpfpcjeaa
