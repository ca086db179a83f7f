/- A line of the ground of a picture (layer 17): what the program's and the reference's functions do, part 1. No conditions but that numbers are of their kinds and slices are slices. -/
import Derived.Test.YtpjgcbbpfpcjeaaCell
import Derived.Test.YtpjgcbbpfpcjeaaIdx
import Derived.Test.YtpjgcbbpfpcjeaaEq
import Derived.Test.YtpjgcbbpfpcjeaaTileR
import Derived.RegionTactic
import Derived.LoopTactic
import Derived.Deep.RegionHeld3
import Derived.Lib.Hide
namespace Go.Proofs.Ytpjgcbbpfpcjeaa
open Go.RowKit
open Kit Tile TileR
set_option linter.unusedSimpArgs false
set_option linter.unusedVariables false
attribute [local simp] blkAt_alloc blkNew_cells putRow_cells blkAt_drew BlkN.set BlkOne.setInt BlkOne.setBool blkPut_alloc blkPut_drew blkAt_blkPut_other size_blkPut nq2 nq3 nq4 nq5 nq6 nq7 nq8
namespace Back
/-- The registers. -/
def R (r : Nat → Int) : Array Value := row 11 (fun j => .int .u8 (r j))
def RB (r : Nat → Int) : Prop := ∀ j, j < 11 → 0 ≤ r j ∧ r j < 256
def upd (f : Nat → Int) (k : Nat) (x : Int) : Nat → Int := fun j => if j = k then x else f j
theorem R_size (r : Nat → Int) : (R r).size = 11 := row_size _ _
theorem R_get (r : Nat → Int) (k : Nat) (hk : k < 11) : (R r)[k]? = some (.int .u8 (r k)) := row_get _ _ _ hk
theorem R_congr (f g : Nat → Int) (h : ∀ j, j < 11 → f j = g j) : R f = R g := row_congr _ _ _ fun j hj => by rw [h j hj]
theorem R_set (r : Nat → Int) (k : Nat) (x : Int) : (R r).setIfInBounds k (.int .u8 x) = R (upd r k x) := by
  refine row_set _ _ _ _ _ fun j hj => ?_
  unfold upd
  by_cases e : j = k
  · rw [if_pos e, if_pos e]
  · rw [if_neg e, if_neg e]
theorem R_one (r : Nat → Int) : (R r).all (·.oneCell') = true := row_one _ _ fun j _ => rfl
theorem i11 : (Try.prog.info? 24).map (·.size) = some 11 := by kernel_rfl
theorem rl_in (v : Value) : Instr.loadAt 24 v = loadW 24 v := rfl
theorem rl_run (b : Nat) (w : World) (h : BlkN (blkAt w b) 11) : Sem.run Try.prog (loadW 24 (.pointer (some ⟨b, 0, none⟩))) w = .ok (.agg (blkAt w b)) w := load_run 24 11 Try.underlying24 rfl i11 (by omega) b w h
attribute [local simp ↓] rl_in
attribute [local simp] rl_run
/-- Which dot of the ground is seen. -/
def colV (r : Nat → Int) (line x : Int) : Int := if r 0 / 64 % 2 = 1 ∧ line < 16 then x % 256 else (x % 256 - r 8) % 256
def rowV (r : Nat → Int) (line x : Int) : Int := if r 0 / 128 = 1 ∧ 192 ≤ x % 256 then line else (line + r 9) % 224
theorem a64 : ∀ v, v < 256 → v &&& 64 = v / 64 % 2 * 64 := byte_all _ _ (by decide +kernel)
theorem a128 : ∀ v, v < 256 → v &&& 128 = v / 128 * 128 := byte_all _ _ (by decide +kernel)
theorem a14 : ∀ v, v < 256 → v &&& 14 = v / 2 % 8 * 2 := byte_all _ _ (by decide +kernel)
theorem a1 : ∀ v, v < 256 → v &&& 1 = v % 2 := byte_all _ _ (by decide +kernel)
theorem a2 : ∀ v, v < 256 → v &&& 2 = v / 2 % 2 * 2 := byte_all _ _ (by decide +kernel)
theorem a4 : ∀ v, v < 256 → v &&& 4 = v / 4 % 2 * 4 := byte_all _ _ (by decide +kernel)
theorem a8 : ∀ v, v < 256 → v &&& 8 = v / 8 % 2 * 8 := byte_all _ _ (by decide +kernel)
theorem and64i (v : Int) (v0 : 0 ≤ v) (v1 : v < 256) : Go.bits .and .u8 v 64 = v / 64 % 2 * 64 := by
  obtain ⟨v, rfl⟩ := Int.eq_ofNat_of_zero_le v0
  simp only [Kit.and8l, Kit.or8l, Kit.xor8l, Kit.andn8l, Kit.and16l, Kit.or16l, Kit.divl, Kit.modl, Kit.addn, Kit.muln, Kit.addl, Kit.mull, Kit.lmul, Kit.ladd, Kit.and8, Kit.or8, Kit.xor8, Kit.andn8, Kit.and16, Kit.or16, Kit.xor16, Kit.wrap16, Kit.wrap8, Kit.land8, Kit.lor8, Kit.lxor8, Kit.landn8, Kit.land16, Kit.lor16, Kit.lxor16]
  rw [Nat.mod_eq_of_lt (show v < 256 by omega), show 64 % 256 = 64 from rfl, a64 v (by omega)]
  try rfl
theorem and128i (v : Int) (v0 : 0 ≤ v) (v1 : v < 256) : Go.bits .and .u8 v 128 = v / 128 * 128 := by
  obtain ⟨v, rfl⟩ := Int.eq_ofNat_of_zero_le v0
  simp only [Kit.and8l, Kit.or8l, Kit.xor8l, Kit.andn8l, Kit.and16l, Kit.or16l, Kit.divl, Kit.modl, Kit.addn, Kit.muln, Kit.addl, Kit.mull, Kit.lmul, Kit.ladd, Kit.and8, Kit.or8, Kit.xor8, Kit.andn8, Kit.and16, Kit.or16, Kit.xor16, Kit.wrap16, Kit.wrap8, Kit.land8, Kit.lor8, Kit.lxor8, Kit.landn8, Kit.land16, Kit.lor16, Kit.lxor16]
  rw [Nat.mod_eq_of_lt (show v < 256 by omega), show 128 % 256 = 128 from rfl, a128 v (by omega)]
  try rfl
theorem and14i (v : Int) (v0 : 0 ≤ v) (v1 : v < 256) : Go.bits .and .u8 v 14 = v / 2 % 8 * 2 := by
  obtain ⟨v, rfl⟩ := Int.eq_ofNat_of_zero_le v0
  simp only [Kit.and8l, Kit.or8l, Kit.xor8l, Kit.andn8l, Kit.and16l, Kit.or16l, Kit.divl, Kit.modl, Kit.addn, Kit.muln, Kit.addl, Kit.mull, Kit.lmul, Kit.ladd, Kit.and8, Kit.or8, Kit.xor8, Kit.andn8, Kit.and16, Kit.or16, Kit.xor16, Kit.wrap16, Kit.wrap8, Kit.land8, Kit.lor8, Kit.lxor8, Kit.landn8, Kit.land16, Kit.lor16, Kit.lxor16]
  rw [Nat.mod_eq_of_lt (show v < 256 by omega), show 14 % 256 = 14 from rfl, a14 v (by omega)]
  try rfl
theorem and1i (v : Int) (v0 : 0 ≤ v) (v1 : v < 256) : Go.bits .and .u8 v 1 = v % 2 := by
  obtain ⟨v, rfl⟩ := Int.eq_ofNat_of_zero_le v0
  simp only [Kit.and8l, Kit.or8l, Kit.xor8l, Kit.andn8l, Kit.and16l, Kit.or16l, Kit.divl, Kit.modl, Kit.addn, Kit.muln, Kit.addl, Kit.mull, Kit.lmul, Kit.ladd, Kit.and8, Kit.or8, Kit.xor8, Kit.andn8, Kit.and16, Kit.or16, Kit.xor16, Kit.wrap16, Kit.wrap8, Kit.land8, Kit.lor8, Kit.lxor8, Kit.landn8, Kit.land16, Kit.lor16, Kit.lxor16]
  rw [Nat.mod_eq_of_lt (show v < 256 by omega), show 1 % 256 = 1 from rfl, a1 v (by omega)]
  try rfl
theorem and2i (v : Int) (v0 : 0 ≤ v) (v1 : v < 256) : Go.bits .and .u8 v 2 = v / 2 % 2 * 2 := by
  obtain ⟨v, rfl⟩ := Int.eq_ofNat_of_zero_le v0
  simp only [Kit.and8l, Kit.or8l, Kit.xor8l, Kit.andn8l, Kit.and16l, Kit.or16l, Kit.divl, Kit.modl, Kit.addn, Kit.muln, Kit.addl, Kit.mull, Kit.lmul, Kit.ladd, Kit.and8, Kit.or8, Kit.xor8, Kit.andn8, Kit.and16, Kit.or16, Kit.xor16, Kit.wrap16, Kit.wrap8, Kit.land8, Kit.lor8, Kit.lxor8, Kit.landn8, Kit.land16, Kit.lor16, Kit.lxor16]
  rw [Nat.mod_eq_of_lt (show v < 256 by omega), show 2 % 256 = 2 from rfl, a2 v (by omega)]
  try rfl
theorem and4i (v : Int) (v0 : 0 ≤ v) (v1 : v < 256) : Go.bits .and .u8 v 4 = v / 4 % 2 * 4 := by
  obtain ⟨v, rfl⟩ := Int.eq_ofNat_of_zero_le v0
  simp only [Kit.and8l, Kit.or8l, Kit.xor8l, Kit.andn8l, Kit.and16l, Kit.or16l, Kit.divl, Kit.modl, Kit.addn, Kit.muln, Kit.addl, Kit.mull, Kit.lmul, Kit.ladd, Kit.and8, Kit.or8, Kit.xor8, Kit.andn8, Kit.and16, Kit.or16, Kit.xor16, Kit.wrap16, Kit.wrap8, Kit.land8, Kit.lor8, Kit.lxor8, Kit.landn8, Kit.land16, Kit.lor16, Kit.lxor16]
  rw [Nat.mod_eq_of_lt (show v < 256 by omega), show 4 % 256 = 4 from rfl, a4 v (by omega)]
  try rfl
theorem and8i (v : Int) (v0 : 0 ≤ v) (v1 : v < 256) : Go.bits .and .u8 v 8 = v / 8 % 2 * 8 := by
  obtain ⟨v, rfl⟩ := Int.eq_ofNat_of_zero_le v0
  simp only [Kit.and8l, Kit.or8l, Kit.xor8l, Kit.andn8l, Kit.and16l, Kit.or16l, Kit.divl, Kit.modl, Kit.addn, Kit.muln, Kit.addl, Kit.mull, Kit.lmul, Kit.ladd, Kit.and8, Kit.or8, Kit.xor8, Kit.andn8, Kit.and16, Kit.or16, Kit.xor16, Kit.wrap16, Kit.wrap8, Kit.land8, Kit.lor8, Kit.lxor8, Kit.landn8, Kit.land16, Kit.lor16, Kit.lxor16]
  rw [Nat.mod_eq_of_lt (show v < 256 by omega), show 8 % 256 = 8 from rfl, a8 v (by omega)]
  try rfl
theorem and255 (x : Int) : Go.bits .and .i64 x 255 = x % 256 := and64_mask x 8 (by decide)
set_option maxRecDepth 100000 in
set_option maxHeartbeats 4000000 in
theorem source_no (r : Nat → Int) (line x : Int) (h : line < 0 ∨ 192 ≤ line) (w : World) : Calls Try.prog 8 #[.agg (R r), .int .i64 line, .int .i64 x] w fun e w' => e = .returned (.tuple #[.int .i64 0, .int .i64 0]) ∧ Below w.heap.size w w' := by
  generalize R r = A at *
  rcases h with h | h
  · go_enter Try.func8, Try.ntmps8
    go_wp2_with fail
    go_ret2
    exact ⟨rfl, by go_grown⟩
  · have h1 : ¬ line < 0 := by omega
    have h2 : 191 < line := by omega
    go_enter Try.func8, Try.ntmps8
    go_wp2_with fail
    go_ret2
    exact ⟨rfl, by go_grown⟩
set_option maxRecDepth 100000 in
set_option maxHeartbeats 4000000 in
theorem source_yes (r : Nat → Int) (h : RB r) (line x : Int) (l0 : 0 ≤ line) (l1 : line < 192) (x0 : -9223372036854775808 ≤ x) (x1 : x ≤ 9223372036854775807) (w : World) : Calls Try.prog 8 #[.agg (R r), .int .i64 line, .int .i64 x] w fun e w' => e = .returned (.tuple #[.int .i64 (colV r line x), .int .i64 (rowV r line x)]) ∧ Below w.heap.size w w' := by
  have c0 := R_get r 0 (by omega)
  have c8 := R_get r 8 (by omega)
  have c9 := R_get r 9 (by omega)
  have sA : BlkN (R r) 11 := R_size _
  generalize R r = A at *
  obtain ⟨a0, a1⟩ := h 0 (by omega)
  obtain ⟨a8, a9⟩ := h 8 (by omega)
  obtain ⟨b8, b9⟩ := h 9 (by omega)
  clear h
  unfold colV rowV
  generalize hr8 : r 8 = r8 at *
  generalize hr9 : r 9 = r9 at *
  have g1 : ¬ line < 0 := by omega
  have g2 : ¬ 192 ≤ line := by omega
  have g3 : ¬ 191 < line := by omega
  have m0 : 0 ≤ x % 256 := by omega
  have m1 : x % 256 < 256 := by omega
  have q0 : 0 ≤ r 0 / 64 := by omega
  have q1 : 0 ≤ r 0 / 64 % 2 := by omega
  have q2 : 0 ≤ r 0 / 128 := by omega
  have hx := and255 x
  have hd := and255 (x % 256 - r8)
  have h64 := and64i (r 0) a0 a1
  have h128 := and128i (r 0) a0 a1
  have e64 : r 0 / 64 % 2 = 1 ∨ r 0 / 64 % 2 = 0 := by omega
  have e128 : r 0 / 128 = 1 ∨ r 0 / 128 = 0 := by omega
  clear hr8 hr9
  have hs : ∃ s, r 0 = s := ⟨_, rfl⟩
  have main : ∀ (p q : Prop) [Decidable p] [Decidable q], (p ↔ r 0 / 64 % 2 = 1 ∧ line < 16) → (q ↔ r 0 / 128 = 1 ∧ 192 ≤ x % 256) → True := fun _ _ _ _ _ _ => trivial
  clear main hs
  generalize x % 256 = y at *
  have y1 : (if r 0 / 64 % 2 = 1 ∧ line < 16 then y else (y - r8) % 256) = (if r 0 / 64 % 2 = 1 ∧ line < 16 then y else (y - r8) % 256) := rfl
  clear y1
  skip
  rcases e64 with e64 | e64
  all_goals
    rcases e128 with e128 | e128
    all_goals
      rw [e64] at h64
      rw [e128] at h128
      simp only [Int.one_mul, Int.zero_mul] at h64 h128
      by_cases g16 : line < 16
      all_goals
        by_cases g192 : 192 ≤ y
        all_goals
          go_enter Try.func8, Try.ntmps8
          go_wp2_with fail
          go_region
          all_goals go_wp2_with fail
          all_goals
            go_ret2
            exact ⟨by simp [e64, e128, g16, g192], by go_grown⟩
set_option maxRecDepth 100000 in
set_option maxHeartbeats 4000000 in
theorem rsource_no (r : Nat → Int) (line x : Int) (h : line < 0 ∨ 192 ≤ line) (w : World) : Calls Try.prog 13 #[.agg (R r), .int .i64 line, .int .i64 x] w fun e w' => e = .returned (.tuple #[.int .i64 0, .int .i64 0]) ∧ Below w.heap.size w w' := by
  generalize R r = A at *
  rcases h with h | h
  · go_enter Try.func13, Try.ntmps13
    go_wp2_with fail
    go_ret2
    exact ⟨rfl, by go_grown⟩
  · have h1 : ¬ line < 0 := by omega
    have h2 : 191 < line := by omega
    go_enter Try.func13, Try.ntmps13
    go_wp2_with fail
    go_ret2
    exact ⟨rfl, by go_grown⟩
set_option maxRecDepth 100000 in
set_option maxHeartbeats 4000000 in
theorem rsource_yes (r : Nat → Int) (h : RB r) (line x : Int) (l0 : 0 ≤ line) (l1 : line < 192) (x0 : -9223372036854775808 ≤ x) (x1 : x ≤ 9223372036854775807) (w : World) : Calls Try.prog 13 #[.agg (R r), .int .i64 line, .int .i64 x] w fun e w' => e = .returned (.tuple #[.int .i64 (colV r line x), .int .i64 (rowV r line x)]) ∧ Below w.heap.size w w' := by
  have c0 := R_get r 0 (by omega)
  have c8 := R_get r 8 (by omega)
  have c9 := R_get r 9 (by omega)
  have sA : BlkN (R r) 11 := R_size _
  generalize R r = A at *
  obtain ⟨a0, a1⟩ := h 0 (by omega)
  obtain ⟨a8, a9⟩ := h 8 (by omega)
  obtain ⟨b8, b9⟩ := h 9 (by omega)
  clear h
  unfold colV rowV
  generalize hr8 : r 8 = r8 at *
  generalize hr9 : r 9 = r9 at *
  have g1 : ¬ line < 0 := by omega
  have g2 : ¬ 192 ≤ line := by omega
  have g3 : ¬ 191 < line := by omega
  have m0 : 0 ≤ x % 256 := by omega
  have m1 : x % 256 < 256 := by omega
  have q0 : 0 ≤ r 0 / 64 := by omega
  have q1 : 0 ≤ r 0 / 64 % 2 := by omega
  have q2 : 0 ≤ r 0 / 128 := by omega
  have hm := fun W => mod_any x 256 (by decide) (by decide) W
  have e64 : r 0 / 64 % 2 = 1 ∨ r 0 / 64 % 2 = 0 := by omega
  have e128 : r 0 / 128 = 1 ∨ r 0 / 128 = 0 := by omega
  clear hr8 hr9
  have hs : ∃ s, r 0 = s := ⟨_, rfl⟩
  have main : ∀ (p q : Prop) [Decidable p] [Decidable q], (p ↔ r 0 / 64 % 2 = 1 ∧ line < 16) → (q ↔ r 0 / 128 = 1 ∧ 192 ≤ x % 256) → True := fun _ _ _ _ _ _ => trivial
  clear main hs
  generalize x % 256 = y at *
  have y1 : (if r 0 / 64 % 2 = 1 ∧ line < 16 then y else (y - r8) % 256) = (if r 0 / 64 % 2 = 1 ∧ line < 16 then y else (y - r8) % 256) := rfl
  clear y1
  have HM := Lib.hid hm
  clear hm
  rcases e64 with e64 | e64
  all_goals
    rcases e128 with e128 | e128
    all_goals
      skip
      by_cases g16 : line < 16
      all_goals
        by_cases g192 : 192 ≤ y
        all_goals
          go_enter Try.func13, Try.ntmps13
          go_wp2_with (go_at_call 18; (first | (with_reducible refine (HM.out _).mono ?_) | (with_reducible refine (mod_any _ _ (by decide) (by decide) _).mono ?_)); rintro e w1 ⟨rfl, rfl⟩)
          go_ret2
          exact ⟨by simp [e64, e128, g16, g192], by go_grown⟩
end Back
end Go.Proofs.Ytpjgcbbpfpcjeaa
