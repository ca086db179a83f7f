/- Registers (layer 10): what the program's functions do, the second part. No conditions but that numbers are of their kinds. -/
import Derived.Test.YthghpgnnbdimaaaRegs7
import Derived.Test.YthghpgnnbdimaaaIdx
import Derived.RegionTactic
import Derived.Deep.CutRange
import Derived.LoopTactic
import Derived.Deep.RegionHeld3
namespace Go.Proofs.Ythghpgnnbdimaaa
open Go.RowKit
open Kit R06
set_option linter.unusedSimpArgs false
set_option linter.unusedVariables false
attribute [local simp] blkAt_alloc blkNew_cells putRow_cells blkAt_drew BlkN.set BlkOne.setInt BlkOne.setBool blkPut_alloc blkPut_drew nq2 nq3 nq4 nq5 nq6 nq7 nq8
namespace Regs
attribute [local simp ↓] rl_in rs_in
attribute [local simp] rl_run rs_run
theorem m64 : ∀ v, v < 256 → v &&& 64 = fl (bt v 64) 64 := byte_all _ _ (by decide +kernel)
theorem m128 : ∀ v, v < 256 → v &&& 128 = fl (bt v 128) 128 := byte_all _ _ (by decide +kernel)
theorem and_bit64 (x : Int) (x0 : 0 ≤ x) (x1 : x < 256) : Go.bits .and .u8 x 64 = if bi x 64 then 64 else 0 := by
  obtain ⟨v, rfl⟩ := Int.eq_ofNat_of_zero_le x0
  simp only [Kit.and8l, Kit.or8l, Kit.xor8l, Kit.andn8l, Kit.and16l, Kit.or16l, Kit.divl, Kit.modl, Kit.addn, Kit.muln, Kit.addl, Kit.mull, Kit.lmul, Kit.ladd, Kit.and8, Kit.or8, Kit.xor8, Kit.andn8, Kit.and16, Kit.or16, Kit.xor16, Kit.wrap16, Kit.wrap8, Kit.land8, Kit.lor8, Kit.lxor8, Kit.landn8, Kit.land16, Kit.lor16, Kit.lxor16]
  rw [Nat.mod_eq_of_lt (show v < 256 by omega), show 64 % 256 = 64 from rfl, m64 v (by omega), bi_cast]
  cases bt v 64 <;> rfl
theorem and_bit1 (x : Int) (x0 : 0 ≤ x) (x1 : x < 256) : Go.bits .and .u8 x 1 = if bi x 1 then 1 else 0 := by
  obtain ⟨v, rfl⟩ := Int.eq_ofNat_of_zero_le x0
  simp only [Kit.and8l, Kit.or8l, Kit.xor8l, Kit.andn8l, Kit.and16l, Kit.or16l, Kit.divl, Kit.modl, Kit.addn, Kit.muln, Kit.addl, Kit.mull, Kit.lmul, Kit.ladd, Kit.and8, Kit.or8, Kit.xor8, Kit.andn8, Kit.and16, Kit.or16, Kit.xor16, Kit.wrap16, Kit.wrap8, Kit.land8, Kit.lor8, Kit.lxor8, Kit.landn8, Kit.land16, Kit.lor16, Kit.lxor16]
  rw [Nat.mod_eq_of_lt (show v < 256 by omega), show 1 % 256 = 1 from rfl, m1 v (by omega), bi_cast]
  cases bt v 1 <;> rfl
theorem and_bit4 (x : Int) (x0 : 0 ≤ x) (x1 : x < 256) : Go.bits .and .u8 x 4 = if bi x 4 then 4 else 0 := by
  obtain ⟨v, rfl⟩ := Int.eq_ofNat_of_zero_le x0
  simp only [Kit.and8l, Kit.or8l, Kit.xor8l, Kit.andn8l, Kit.and16l, Kit.or16l, Kit.divl, Kit.modl, Kit.addn, Kit.muln, Kit.addl, Kit.mull, Kit.lmul, Kit.ladd, Kit.and8, Kit.or8, Kit.xor8, Kit.andn8, Kit.and16, Kit.or16, Kit.xor16, Kit.wrap16, Kit.wrap8, Kit.land8, Kit.lor8, Kit.lxor8, Kit.landn8, Kit.land16, Kit.lor16, Kit.lxor16]
  rw [Nat.mod_eq_of_lt (show v < 256 by omega), show 4 % 256 = 4 from rfl, m4 v (by omega), bi_cast]
  cases bt v 4 <;> rfl
theorem and_bit128 (x : Int) (x0 : 0 ≤ x) (x1 : x < 256) : Go.bits .and .u8 x 128 = if bi x 128 then 128 else 0 := by
  obtain ⟨v, rfl⟩ := Int.eq_ofNat_of_zero_le x0
  simp only [Kit.and8l, Kit.or8l, Kit.xor8l, Kit.andn8l, Kit.and16l, Kit.or16l, Kit.divl, Kit.modl, Kit.addn, Kit.muln, Kit.addl, Kit.mull, Kit.lmul, Kit.ladd, Kit.and8, Kit.or8, Kit.xor8, Kit.andn8, Kit.and16, Kit.or16, Kit.xor16, Kit.wrap16, Kit.wrap8, Kit.land8, Kit.lor8, Kit.lxor8, Kit.landn8, Kit.land16, Kit.lor16, Kit.lxor16]
  rw [Nat.mod_eq_of_lt (show v < 256 by omega), show 128 % 256 = 128 from rfl, m128 v (by omega), bi_cast]
  cases bt v 128 <;> rfl
def metV (x : Int) (k : Int) : Bool := if k = 0 then !bi x 64 else if k = 1 then bi x 64 else if k = 2 then !bi x 1 else if k = 3 then bi x 1 else if k = 4 then !bi x 4 else if k = 5 then bi x 4 else if k = 6 then !bi x 128 else bi x 128
set_option maxRecDepth 100000 in
set_option maxHeartbeats 4000000 in
theorem met_any (x c : Int) (x0 : 0 ≤ x) (x1 : x < 256) (w : World) : Calls Try.prog 22 #[.int .u8 x, .int .i64 c] w fun e w' => e = .returned (.bool (metV x (c % 8))) ∧ ∃ o, w' = w.alloc o := by
  have hk := and64_7 c
  have q64 := and_bit64 x x0 x1
  have q1 := and_bit1 x x0 x1
  have q4 := and_bit4 x x0 x1
  have q128 := and_bit128 x x0 x1
  rcases (by omega : c % 8 = 0 ∨ c % 8 = 1 ∨ c % 8 = 2 ∨ c % 8 = 3 ∨ c % 8 = 4 ∨ c % 8 = 5 ∨ c % 8 = 6 ∨ c % 8 = 7) with e | e | e | e | e | e | e | e
  case inl =>
    rw [e] at hk ⊢
    unfold metV
    cases hb : bi x 64
    all_goals
      rw [hb] at q64
      simp only [if_true, if_false, Bool.false_eq_true] at q64
      go_enter Try.func22, Try.ntmps22
      go_wp2_with fail
      go_ret
      exact ⟨ret_bool (by simp [hb]), _, rfl⟩
  case inr.inl =>
    rw [e] at hk ⊢
    unfold metV
    cases hb : bi x 64
    all_goals
      rw [hb] at q64
      simp only [if_true, if_false, Bool.false_eq_true] at q64
      go_enter Try.func22, Try.ntmps22
      go_wp2_with fail
      go_ret
      exact ⟨ret_bool (by simp [hb]), _, rfl⟩
  case inr.inr.inl =>
    rw [e] at hk ⊢
    unfold metV
    cases hb : bi x 1
    all_goals
      rw [hb] at q1
      simp only [if_true, if_false, Bool.false_eq_true] at q1
      go_enter Try.func22, Try.ntmps22
      go_wp2_with fail
      go_ret
      exact ⟨ret_bool (by simp [hb]), _, rfl⟩
  case inr.inr.inr.inl =>
    rw [e] at hk ⊢
    unfold metV
    cases hb : bi x 1
    all_goals
      rw [hb] at q1
      simp only [if_true, if_false, Bool.false_eq_true] at q1
      go_enter Try.func22, Try.ntmps22
      go_wp2_with fail
      go_ret
      exact ⟨ret_bool (by simp [hb]), _, rfl⟩
  case inr.inr.inr.inr.inl =>
    rw [e] at hk ⊢
    unfold metV
    cases hb : bi x 4
    all_goals
      rw [hb] at q4
      simp only [if_true, if_false, Bool.false_eq_true] at q4
      go_enter Try.func22, Try.ntmps22
      go_wp2_with fail
      go_ret
      exact ⟨ret_bool (by simp [hb]), _, rfl⟩
  case inr.inr.inr.inr.inr.inl =>
    rw [e] at hk ⊢
    unfold metV
    cases hb : bi x 4
    all_goals
      rw [hb] at q4
      simp only [if_true, if_false, Bool.false_eq_true] at q4
      go_enter Try.func22, Try.ntmps22
      go_wp2_with fail
      go_ret
      exact ⟨ret_bool (by simp [hb]), _, rfl⟩
  case inr.inr.inr.inr.inr.inr.inl =>
    rw [e] at hk ⊢
    unfold metV
    cases hb : bi x 128
    all_goals
      rw [hb] at q128
      simp only [if_true, if_false, Bool.false_eq_true] at q128
      go_enter Try.func22, Try.ntmps22
      go_wp2_with fail
      go_ret
      exact ⟨ret_bool (by simp [hb]), _, rfl⟩
  case inr.inr.inr.inr.inr.inr.inr =>
    rw [e] at hk ⊢
    unfold metV
    cases hb : bi x 128
    all_goals
      rw [hb] at q128
      simp only [if_true, if_false, Bool.false_eq_true] at q128
      go_enter Try.func22, Try.ntmps22
      go_wp2_with fail
      go_ret
      exact ⟨ret_bool (by simp [hb]), _, rfl⟩
set_option maxRecDepth 100000 in
set_option maxHeartbeats 4000000 in
theorem rmet_0 (x : Int) (x0 : 0 ≤ x) (x1 : x < 256) (w : World) : Calls Try.prog 26 #[.int .u8 x, .string ⟨#[78, 90]⟩] w fun e w' => e = .returned (.bool (metV x 0)) ∧ ∃ o1 o2, w' = (w.alloc o1).alloc o2 := by
  go_enter Try.func26, Try.ntmps26
  go_wp2_with (go_at_call 31; with_reducible refine (of_any x x0 x1 _).mono ?_; rintro e w' ⟨rfl, o1, rfl⟩)
  go_ret
  exact ⟨ret_bool (by simp [metV]), _, _, rfl⟩
set_option maxRecDepth 100000 in
set_option maxHeartbeats 4000000 in
theorem rmet_1 (x : Int) (x0 : 0 ≤ x) (x1 : x < 256) (w : World) : Calls Try.prog 26 #[.int .u8 x, .string ⟨#[90]⟩] w fun e w' => e = .returned (.bool (metV x 1)) ∧ ∃ o1 o2, w' = (w.alloc o1).alloc o2 := by
  go_enter Try.func26, Try.ntmps26
  go_wp2_with (go_at_call 31; with_reducible refine (of_any x x0 x1 _).mono ?_; rintro e w' ⟨rfl, o1, rfl⟩)
  go_ret
  exact ⟨ret_bool (by simp [metV]), _, _, rfl⟩
set_option maxRecDepth 100000 in
set_option maxHeartbeats 4000000 in
theorem rmet_2 (x : Int) (x0 : 0 ≤ x) (x1 : x < 256) (w : World) : Calls Try.prog 26 #[.int .u8 x, .string ⟨#[78, 67]⟩] w fun e w' => e = .returned (.bool (metV x 2)) ∧ ∃ o1 o2, w' = (w.alloc o1).alloc o2 := by
  go_enter Try.func26, Try.ntmps26
  go_wp2_with (go_at_call 31; with_reducible refine (of_any x x0 x1 _).mono ?_; rintro e w' ⟨rfl, o1, rfl⟩)
  go_ret
  exact ⟨ret_bool (by simp [metV]), _, _, rfl⟩
set_option maxRecDepth 100000 in
set_option maxHeartbeats 4000000 in
theorem rmet_3 (x : Int) (x0 : 0 ≤ x) (x1 : x < 256) (w : World) : Calls Try.prog 26 #[.int .u8 x, .string ⟨#[67]⟩] w fun e w' => e = .returned (.bool (metV x 3)) ∧ ∃ o1 o2, w' = (w.alloc o1).alloc o2 := by
  go_enter Try.func26, Try.ntmps26
  go_wp2_with (go_at_call 31; with_reducible refine (of_any x x0 x1 _).mono ?_; rintro e w' ⟨rfl, o1, rfl⟩)
  go_ret
  exact ⟨ret_bool (by simp [metV]), _, _, rfl⟩
set_option maxRecDepth 100000 in
set_option maxHeartbeats 4000000 in
theorem rmet_4 (x : Int) (x0 : 0 ≤ x) (x1 : x < 256) (w : World) : Calls Try.prog 26 #[.int .u8 x, .string ⟨#[80, 79]⟩] w fun e w' => e = .returned (.bool (metV x 4)) ∧ ∃ o1 o2, w' = (w.alloc o1).alloc o2 := by
  go_enter Try.func26, Try.ntmps26
  go_wp2_with (go_at_call 31; with_reducible refine (of_any x x0 x1 _).mono ?_; rintro e w' ⟨rfl, o1, rfl⟩)
  go_ret
  exact ⟨ret_bool (by simp [metV]), _, _, rfl⟩
set_option maxRecDepth 100000 in
set_option maxHeartbeats 4000000 in
theorem rmet_5 (x : Int) (x0 : 0 ≤ x) (x1 : x < 256) (w : World) : Calls Try.prog 26 #[.int .u8 x, .string ⟨#[80, 69]⟩] w fun e w' => e = .returned (.bool (metV x 5)) ∧ ∃ o1 o2, w' = (w.alloc o1).alloc o2 := by
  go_enter Try.func26, Try.ntmps26
  go_wp2_with (go_at_call 31; with_reducible refine (of_any x x0 x1 _).mono ?_; rintro e w' ⟨rfl, o1, rfl⟩)
  go_ret
  exact ⟨ret_bool (by simp [metV]), _, _, rfl⟩
set_option maxRecDepth 100000 in
set_option maxHeartbeats 4000000 in
theorem rmet_6 (x : Int) (x0 : 0 ≤ x) (x1 : x < 256) (w : World) : Calls Try.prog 26 #[.int .u8 x, .string ⟨#[80]⟩] w fun e w' => e = .returned (.bool (metV x 6)) ∧ ∃ o1 o2, w' = (w.alloc o1).alloc o2 := by
  go_enter Try.func26, Try.ntmps26
  go_wp2_with (go_at_call 31; with_reducible refine (of_any x x0 x1 _).mono ?_; rintro e w' ⟨rfl, o1, rfl⟩)
  go_ret
  exact ⟨ret_bool (by simp [metV]), _, _, rfl⟩
set_option maxRecDepth 100000 in
set_option maxHeartbeats 4000000 in
theorem rmet_7 (x : Int) (x0 : 0 ≤ x) (x1 : x < 256) (w : World) : Calls Try.prog 26 #[.int .u8 x, .string ⟨#[77]⟩] w fun e w' => e = .returned (.bool (metV x 7)) ∧ ∃ o1 o2, w' = (w.alloc o1).alloc o2 := by
  go_enter Try.func26, Try.ntmps26
  go_wp2_with (go_at_call 31; with_reducible refine (of_any x x0 x1 _).mono ?_; rintro e w' ⟨rfl, o1, rfl⟩)
  go_ret
  exact ⟨ret_bool (by simp [metV]), _, _, rfl⟩
set_option maxRecDepth 100000 in
set_option maxHeartbeats 4000000 in
theorem let_0 (p : Int) (w : World) : Calls Try.prog 12 #[.int .i64 0, .int .u8 p] w fun e w' => e = .returned (.string ⟨#[66]⟩) ∧ w = w' := by
  have hix : ∀ w, Sem.run Try.prog (Instr.index 41 (.agg #[.string ⟨#[66]⟩, .string ⟨#[67]⟩, .string ⟨#[68]⟩, .string ⟨#[69]⟩, .string ⟨#[]⟩, .string ⟨#[]⟩, .string ⟨#[]⟩, .string ⟨#[65]⟩]) (.int .i64 0)) w = .ok (.string ⟨#[66]⟩) w := fun w => index_run Try.underlying41 Try.underlying9 rfl (by kernel_rfl) _ _ _ _ (by omega) (by omega) (by rfl) w
  go_enter Try.func12, Try.ntmps12
  go_wp2_with fail
  go_ret
  exact ⟨by rfl, rfl⟩
set_option maxRecDepth 100000 in
set_option maxHeartbeats 4000000 in
theorem let_1 (p : Int) (w : World) : Calls Try.prog 12 #[.int .i64 1, .int .u8 p] w fun e w' => e = .returned (.string ⟨#[67]⟩) ∧ w = w' := by
  have hix : ∀ w, Sem.run Try.prog (Instr.index 41 (.agg #[.string ⟨#[66]⟩, .string ⟨#[67]⟩, .string ⟨#[68]⟩, .string ⟨#[69]⟩, .string ⟨#[]⟩, .string ⟨#[]⟩, .string ⟨#[]⟩, .string ⟨#[65]⟩]) (.int .i64 1)) w = .ok (.string ⟨#[67]⟩) w := fun w => index_run Try.underlying41 Try.underlying9 rfl (by kernel_rfl) _ _ _ _ (by omega) (by omega) (by rfl) w
  go_enter Try.func12, Try.ntmps12
  go_wp2_with fail
  go_ret
  exact ⟨by rfl, rfl⟩
set_option maxRecDepth 100000 in
set_option maxHeartbeats 4000000 in
theorem let_2 (p : Int) (w : World) : Calls Try.prog 12 #[.int .i64 2, .int .u8 p] w fun e w' => e = .returned (.string ⟨#[68]⟩) ∧ w = w' := by
  have hix : ∀ w, Sem.run Try.prog (Instr.index 41 (.agg #[.string ⟨#[66]⟩, .string ⟨#[67]⟩, .string ⟨#[68]⟩, .string ⟨#[69]⟩, .string ⟨#[]⟩, .string ⟨#[]⟩, .string ⟨#[]⟩, .string ⟨#[65]⟩]) (.int .i64 2)) w = .ok (.string ⟨#[68]⟩) w := fun w => index_run Try.underlying41 Try.underlying9 rfl (by kernel_rfl) _ _ _ _ (by omega) (by omega) (by rfl) w
  go_enter Try.func12, Try.ntmps12
  go_wp2_with fail
  go_ret
  exact ⟨by rfl, rfl⟩
set_option maxRecDepth 100000 in
set_option maxHeartbeats 4000000 in
theorem let_3 (p : Int) (w : World) : Calls Try.prog 12 #[.int .i64 3, .int .u8 p] w fun e w' => e = .returned (.string ⟨#[69]⟩) ∧ w = w' := by
  have hix : ∀ w, Sem.run Try.prog (Instr.index 41 (.agg #[.string ⟨#[66]⟩, .string ⟨#[67]⟩, .string ⟨#[68]⟩, .string ⟨#[69]⟩, .string ⟨#[]⟩, .string ⟨#[]⟩, .string ⟨#[]⟩, .string ⟨#[65]⟩]) (.int .i64 3)) w = .ok (.string ⟨#[69]⟩) w := fun w => index_run Try.underlying41 Try.underlying9 rfl (by kernel_rfl) _ _ _ _ (by omega) (by omega) (by rfl) w
  go_enter Try.func12, Try.ntmps12
  go_wp2_with fail
  go_ret
  exact ⟨by rfl, rfl⟩
set_option maxRecDepth 100000 in
set_option maxHeartbeats 4000000 in
theorem let_7 (p : Int) (w : World) : Calls Try.prog 12 #[.int .i64 7, .int .u8 p] w fun e w' => e = .returned (.string ⟨#[65]⟩) ∧ w = w' := by
  have hix : ∀ w, Sem.run Try.prog (Instr.index 41 (.agg #[.string ⟨#[66]⟩, .string ⟨#[67]⟩, .string ⟨#[68]⟩, .string ⟨#[69]⟩, .string ⟨#[]⟩, .string ⟨#[]⟩, .string ⟨#[]⟩, .string ⟨#[65]⟩]) (.int .i64 7)) w = .ok (.string ⟨#[65]⟩) w := fun w => index_run Try.underlying41 Try.underlying9 rfl (by kernel_rfl) _ _ _ _ (by omega) (by omega) (by rfl) w
  go_enter Try.func12, Try.ntmps12
  go_wp2_with fail
  go_ret
  exact ⟨by rfl, rfl⟩
set_option maxRecDepth 100000 in
set_option maxHeartbeats 4000000 in
theorem let_4x (w : World) : Calls Try.prog 12 #[.int .i64 4, .int .u8 221] w fun e w' => e = .returned (.string ⟨#[73, 88, 72]⟩) ∧ w = w' := by
  have hix : ∀ w, Sem.run Try.prog (Instr.index 52 (.agg #[.string ⟨#[72]⟩, .string ⟨#[76]⟩]) (.int .i64 0)) w = .ok (.string ⟨#[72]⟩) w := fun w => index_run Try.underlying52 Try.underlying9 rfl (by kernel_rfl) _ _ _ _ (by omega) (by omega) (by rfl) w
  go_enter Try.func12, Try.ntmps12
  go_wp2_with fail
  go_ret
  exact ⟨by rfl, rfl⟩
set_option maxRecDepth 100000 in
set_option maxHeartbeats 4000000 in
theorem let_4y (w : World) : Calls Try.prog 12 #[.int .i64 4, .int .u8 253] w fun e w' => e = .returned (.string ⟨#[73, 89, 72]⟩) ∧ w = w' := by
  have hix : ∀ w, Sem.run Try.prog (Instr.index 52 (.agg #[.string ⟨#[72]⟩, .string ⟨#[76]⟩]) (.int .i64 0)) w = .ok (.string ⟨#[72]⟩) w := fun w => index_run Try.underlying52 Try.underlying9 rfl (by kernel_rfl) _ _ _ _ (by omega) (by omega) (by rfl) w
  go_enter Try.func12, Try.ntmps12
  go_wp2_with fail
  go_ret
  exact ⟨by rfl, rfl⟩
set_option maxRecDepth 100000 in
set_option maxHeartbeats 4000000 in
theorem let_4 (p : Int) (p1 : p ≠ 221) (p2 : p ≠ 253) (w : World) : Calls Try.prog 12 #[.int .i64 4, .int .u8 p] w fun e w' => e = .returned (.string ⟨#[72]⟩) ∧ w = w' := by
  have hix : ∀ w, Sem.run Try.prog (Instr.index 52 (.agg #[.string ⟨#[72]⟩, .string ⟨#[76]⟩]) (.int .i64 0)) w = .ok (.string ⟨#[72]⟩) w := fun w => index_run Try.underlying52 Try.underlying9 rfl (by kernel_rfl) _ _ _ _ (by omega) (by omega) (by rfl) w
  go_enter Try.func12, Try.ntmps12
  go_wp2_with fail
  go_ret
  exact ⟨by rfl, rfl⟩
set_option maxRecDepth 100000 in
set_option maxHeartbeats 4000000 in
theorem let_5x (w : World) : Calls Try.prog 12 #[.int .i64 5, .int .u8 221] w fun e w' => e = .returned (.string ⟨#[73, 88, 76]⟩) ∧ w = w' := by
  have hix : ∀ w, Sem.run Try.prog (Instr.index 52 (.agg #[.string ⟨#[72]⟩, .string ⟨#[76]⟩]) (.int .i64 1)) w = .ok (.string ⟨#[76]⟩) w := fun w => index_run Try.underlying52 Try.underlying9 rfl (by kernel_rfl) _ _ _ _ (by omega) (by omega) (by rfl) w
  go_enter Try.func12, Try.ntmps12
  go_wp2_with fail
  go_ret
  exact ⟨by rfl, rfl⟩
set_option maxRecDepth 100000 in
set_option maxHeartbeats 4000000 in
theorem let_5y (w : World) : Calls Try.prog 12 #[.int .i64 5, .int .u8 253] w fun e w' => e = .returned (.string ⟨#[73, 89, 76]⟩) ∧ w = w' := by
  have hix : ∀ w, Sem.run Try.prog (Instr.index 52 (.agg #[.string ⟨#[72]⟩, .string ⟨#[76]⟩]) (.int .i64 1)) w = .ok (.string ⟨#[76]⟩) w := fun w => index_run Try.underlying52 Try.underlying9 rfl (by kernel_rfl) _ _ _ _ (by omega) (by omega) (by rfl) w
  go_enter Try.func12, Try.ntmps12
  go_wp2_with fail
  go_ret
  exact ⟨by rfl, rfl⟩
set_option maxRecDepth 100000 in
set_option maxHeartbeats 4000000 in
theorem let_5 (p : Int) (p1 : p ≠ 221) (p2 : p ≠ 253) (w : World) : Calls Try.prog 12 #[.int .i64 5, .int .u8 p] w fun e w' => e = .returned (.string ⟨#[76]⟩) ∧ w = w' := by
  have hix : ∀ w, Sem.run Try.prog (Instr.index 52 (.agg #[.string ⟨#[72]⟩, .string ⟨#[76]⟩]) (.int .i64 1)) w = .ok (.string ⟨#[76]⟩) w := fun w => index_run Try.underlying52 Try.underlying9 rfl (by kernel_rfl) _ _ _ _ (by omega) (by omega) (by rfl) w
  go_enter Try.func12, Try.ntmps12
  go_wp2_with fail
  go_ret
  exact ⟨by rfl, rfl⟩
set_option maxRecDepth 100000 in
set_option maxHeartbeats 4000000 in
theorem let_6 (p : Int) (w : World) : Calls Try.prog 12 #[.int .i64 6, .int .u8 p] w fun e w' => e = .returned (.string ⟨#[]⟩) ∧ w = w' := by
  go_enter Try.func12, Try.ntmps12
  go_wp2_with fail
  go_ret
  exact ⟨by rfl, rfl⟩
set_option maxRecDepth 100000 in
set_option maxHeartbeats 4000000 in
theorem let_lo (n p : Int) (h : n < 0) (w : World) : Calls Try.prog 12 #[.int .i64 n, .int .u8 p] w fun e w' => e = .returned (.string ⟨#[]⟩) ∧ w = w' := by
  go_enter Try.func12, Try.ntmps12
  go_wp2_with fail
  go_ret
  exact ⟨by rfl, rfl⟩
set_option maxRecDepth 100000 in
set_option maxHeartbeats 4000000 in
theorem let_hi (n p : Int) (h0 : 0 ≤ n) (h : 7 < n) (w : World) : Calls Try.prog 12 #[.int .i64 n, .int .u8 p] w fun e w' => e = .returned (.string ⟨#[]⟩) ∧ w = w' := by
  go_enter Try.func12, Try.ntmps12
  go_wp2_with fail
  go_ret
  exact ⟨by rfl, rfl⟩
set_option maxRecDepth 100000 in
set_option maxHeartbeats 4000000 in
theorem set_BC (f : Nat → Int) (h : RB f) (n : Int) (n0 : 0 ≤ n) (n1 : n < 65536) (w : World) : Calls Try.prog 27 #[.agg (R f), .string ⟨#[66, 67]⟩, .int .i64 n] w fun e w' => e = .returned (.agg (R (upd (upd f 2 (n / 256)) 3 (n % 256)))) ∧ Below w.heap.size w w' := by
  have c0 := R_get f 0 (by omega)
  have c1 := R_get f 1 (by omega)
  have c2 := R_get f 2 (by omega)
  have c3 := R_get f 3 (by omega)
  have c4 := R_get f 4 (by omega)
  have c5 := R_get f 5 (by omega)
  have c6 := R_get f 6 (by omega)
  have c7 := R_get f 7 (by omega)
  have c16 := R_get f 16 (by omega)
  have c17 := R_get f 17 (by omega)
  have c18 := R_get f 18 (by omega)
  change (R f)[0]? = some (.int .u8 (f 0)) at c0
  change (R f)[1]? = some (.int .u8 (f 1)) at c1
  change (R f)[2]? = some (.int .u8 (f 2)) at c2
  change (R f)[3]? = some (.int .u8 (f 3)) at c3
  change (R f)[4]? = some (.int .u8 (f 4)) at c4
  change (R f)[5]? = some (.int .u8 (f 5)) at c5
  change (R f)[6]? = some (.int .u8 (f 6)) at c6
  change (R f)[7]? = some (.int .u8 (f 7)) at c7
  change (R f)[16]? = some (.int .u16 (f 16)) at c16
  change (R f)[17]? = some (.int .u16 (f 17)) at c17
  change (R f)[18]? = some (.int .u16 (f 18)) at c18
  have c22 := R_get f 22 (by omega)
  change (R f)[22]? = some (.int .u8 (f 22)) at c22
  have c23 := R_get f 23 (by omega)
  change (R f)[23]? = some (.int .u8 (f 23)) at c23
  have c24 := R_get f 24 (by omega)
  change (R f)[24]? = some (.int .u8 (f 24)) at c24
  have sA : BlkN (R f) 29 := R_size f
  have oA : BlkOne (R f) := R_one f
  have zn := zN
  unfold Z29 at zn
  have g1 : RB (upd f 2 (n / 256)) := h.set8 2 _ (by omega) (by omega) (by omega)
  have ha := fun W => set_B f h (n / 256) (by omega) (by omega) W
  have hb := fun W => set_C _ g1 (n % 256) (by omega) (by omega) W
  rw [show n / 256 % 256 = n / 256 by omega] at ha
  rw [show n % 256 % 256 = n % 256 by omega] at hb
  have s1 : BlkN (R (upd f 2 (n / 256))) 29 := R_size _
  have s2 : BlkN (R (upd (upd f 2 (n / 256)) 3 (n % 256))) 29 := R_size _
  have o2 : BlkOne (R (upd (upd f 2 (n / 256)) 3 (n % 256))) := R_one _
  have x1 : (ByteArray.mk #[66, 67]).extract 0 1 = ⟨#[66]⟩ := by rfl
  have x2 : (ByteArray.mk #[66, 67]).extract 1 2 = ⟨#[67]⟩ := by rfl
  have d1 := tdiv_nn n0 256
  have d2 := tmod_nn n0 256
  have d3 : (n / 256).tmod 256 = n / 256 := by rw [tmod_nn (by omega)]; omega
  have dw : IntKind.i64.wrap (n / 256) = n / 256 := by rw [IntKind.wrap_i64]; omega
  have d4 : 0 ≤ n / 256 ∧ n / 256 < 256 ∧ 0 ≤ n % 256 ∧ n % 256 < 256 := by omega
  obtain ⟨d5, d6, d7, d8⟩ := d4
  generalize R (upd (upd f 2 (n / 256)) 3 (n % 256)) = A2 at *
  generalize R (upd f 2 (n / 256)) = A1 at *
  generalize hA : R f = A at *
  have HA := Lib.hid ha
  have HB := Lib.hid hb
  clear ha hb hA g1
  go_enter Try.func27, Try.ntmps27
  go_wp2_with fail
  go_region_with (first | (go_at_call 27; with_reducible refine (HA.out _).mono ?_; rintro e w' ⟨rfl, o3, o4, rfl⟩) | (go_at_call 27; with_reducible refine (HB.out _).mono ?_; rintro e w' ⟨rfl, o5, o6, rfl⟩))
  all_goals
    go_wp2_with fail
    exact bodyPost_ret (v := .agg _) (results_cell_row rfl _ _ (w.heap.size + 1) 25 _ (0, 0) _ rfl (by repeat (first | (refine heap_at _ _ _ ?_; (simp; done)) | (refine (heap_past _ _ _ ?_).trans ?_; focus (simp; done)) | (refine (heap_drew _ _).trans ?_))) Try.underlying25 rfl (iR (show BlkN _ 29 by simp [*]))) rfl ⟨rfl, by go_grown⟩
set_option maxRecDepth 100000 in
set_option maxHeartbeats 4000000 in
theorem set_DE (f : Nat → Int) (h : RB f) (n : Int) (n0 : 0 ≤ n) (n1 : n < 65536) (w : World) : Calls Try.prog 27 #[.agg (R f), .string ⟨#[68, 69]⟩, .int .i64 n] w fun e w' => e = .returned (.agg (R (upd (upd f 4 (n / 256)) 5 (n % 256)))) ∧ Below w.heap.size w w' := by
  have c0 := R_get f 0 (by omega)
  have c1 := R_get f 1 (by omega)
  have c2 := R_get f 2 (by omega)
  have c3 := R_get f 3 (by omega)
  have c4 := R_get f 4 (by omega)
  have c5 := R_get f 5 (by omega)
  have c6 := R_get f 6 (by omega)
  have c7 := R_get f 7 (by omega)
  have c16 := R_get f 16 (by omega)
  have c17 := R_get f 17 (by omega)
  have c18 := R_get f 18 (by omega)
  change (R f)[0]? = some (.int .u8 (f 0)) at c0
  change (R f)[1]? = some (.int .u8 (f 1)) at c1
  change (R f)[2]? = some (.int .u8 (f 2)) at c2
  change (R f)[3]? = some (.int .u8 (f 3)) at c3
  change (R f)[4]? = some (.int .u8 (f 4)) at c4
  change (R f)[5]? = some (.int .u8 (f 5)) at c5
  change (R f)[6]? = some (.int .u8 (f 6)) at c6
  change (R f)[7]? = some (.int .u8 (f 7)) at c7
  change (R f)[16]? = some (.int .u16 (f 16)) at c16
  change (R f)[17]? = some (.int .u16 (f 17)) at c17
  change (R f)[18]? = some (.int .u16 (f 18)) at c18
  have c22 := R_get f 22 (by omega)
  change (R f)[22]? = some (.int .u8 (f 22)) at c22
  have c23 := R_get f 23 (by omega)
  change (R f)[23]? = some (.int .u8 (f 23)) at c23
  have c24 := R_get f 24 (by omega)
  change (R f)[24]? = some (.int .u8 (f 24)) at c24
  have sA : BlkN (R f) 29 := R_size f
  have oA : BlkOne (R f) := R_one f
  have zn := zN
  unfold Z29 at zn
  have g1 : RB (upd f 4 (n / 256)) := h.set8 4 _ (by omega) (by omega) (by omega)
  have ha := fun W => set_D f h (n / 256) (by omega) (by omega) W
  have hb := fun W => set_E _ g1 (n % 256) (by omega) (by omega) W
  rw [show n / 256 % 256 = n / 256 by omega] at ha
  rw [show n % 256 % 256 = n % 256 by omega] at hb
  have s1 : BlkN (R (upd f 4 (n / 256))) 29 := R_size _
  have s2 : BlkN (R (upd (upd f 4 (n / 256)) 5 (n % 256))) 29 := R_size _
  have o2 : BlkOne (R (upd (upd f 4 (n / 256)) 5 (n % 256))) := R_one _
  have x1 : (ByteArray.mk #[68, 69]).extract 0 1 = ⟨#[68]⟩ := by rfl
  have x2 : (ByteArray.mk #[68, 69]).extract 1 2 = ⟨#[69]⟩ := by rfl
  have d1 := tdiv_nn n0 256
  have d2 := tmod_nn n0 256
  have d3 : (n / 256).tmod 256 = n / 256 := by rw [tmod_nn (by omega)]; omega
  have dw : IntKind.i64.wrap (n / 256) = n / 256 := by rw [IntKind.wrap_i64]; omega
  have d4 : 0 ≤ n / 256 ∧ n / 256 < 256 ∧ 0 ≤ n % 256 ∧ n % 256 < 256 := by omega
  obtain ⟨d5, d6, d7, d8⟩ := d4
  generalize R (upd (upd f 4 (n / 256)) 5 (n % 256)) = A2 at *
  generalize R (upd f 4 (n / 256)) = A1 at *
  generalize hA : R f = A at *
  have HA := Lib.hid ha
  have HB := Lib.hid hb
  clear ha hb hA g1
  go_enter Try.func27, Try.ntmps27
  go_wp2_with fail
  go_region_with (first | (go_at_call 27; with_reducible refine (HA.out _).mono ?_; rintro e w' ⟨rfl, o3, o4, rfl⟩) | (go_at_call 27; with_reducible refine (HB.out _).mono ?_; rintro e w' ⟨rfl, o5, o6, rfl⟩))
  all_goals
    go_wp2_with fail
    exact bodyPost_ret (v := .agg _) (results_cell_row rfl _ _ (w.heap.size + 1) 25 _ (0, 0) _ rfl (by repeat (first | (refine heap_at _ _ _ ?_; (simp; done)) | (refine (heap_past _ _ _ ?_).trans ?_; focus (simp; done)) | (refine (heap_drew _ _).trans ?_))) Try.underlying25 rfl (iR (show BlkN _ 29 by simp [*]))) rfl ⟨rfl, by go_grown⟩
set_option maxRecDepth 100000 in
set_option maxHeartbeats 4000000 in
theorem set_HL (f : Nat → Int) (h : RB f) (n : Int) (n0 : 0 ≤ n) (n1 : n < 65536) (w : World) : Calls Try.prog 27 #[.agg (R f), .string ⟨#[72, 76]⟩, .int .i64 n] w fun e w' => e = .returned (.agg (R (upd (upd f 6 (n / 256)) 7 (n % 256)))) ∧ Below w.heap.size w w' := by
  have c0 := R_get f 0 (by omega)
  have c1 := R_get f 1 (by omega)
  have c2 := R_get f 2 (by omega)
  have c3 := R_get f 3 (by omega)
  have c4 := R_get f 4 (by omega)
  have c5 := R_get f 5 (by omega)
  have c6 := R_get f 6 (by omega)
  have c7 := R_get f 7 (by omega)
  have c16 := R_get f 16 (by omega)
  have c17 := R_get f 17 (by omega)
  have c18 := R_get f 18 (by omega)
  change (R f)[0]? = some (.int .u8 (f 0)) at c0
  change (R f)[1]? = some (.int .u8 (f 1)) at c1
  change (R f)[2]? = some (.int .u8 (f 2)) at c2
  change (R f)[3]? = some (.int .u8 (f 3)) at c3
  change (R f)[4]? = some (.int .u8 (f 4)) at c4
  change (R f)[5]? = some (.int .u8 (f 5)) at c5
  change (R f)[6]? = some (.int .u8 (f 6)) at c6
  change (R f)[7]? = some (.int .u8 (f 7)) at c7
  change (R f)[16]? = some (.int .u16 (f 16)) at c16
  change (R f)[17]? = some (.int .u16 (f 17)) at c17
  change (R f)[18]? = some (.int .u16 (f 18)) at c18
  have c22 := R_get f 22 (by omega)
  change (R f)[22]? = some (.int .u8 (f 22)) at c22
  have c23 := R_get f 23 (by omega)
  change (R f)[23]? = some (.int .u8 (f 23)) at c23
  have c24 := R_get f 24 (by omega)
  change (R f)[24]? = some (.int .u8 (f 24)) at c24
  have sA : BlkN (R f) 29 := R_size f
  have oA : BlkOne (R f) := R_one f
  have zn := zN
  unfold Z29 at zn
  have g1 : RB (upd f 6 (n / 256)) := h.set8 6 _ (by omega) (by omega) (by omega)
  have ha := fun W => set_H f h (n / 256) (by omega) (by omega) W
  have hb := fun W => set_L _ g1 (n % 256) (by omega) (by omega) W
  rw [show n / 256 % 256 = n / 256 by omega] at ha
  rw [show n % 256 % 256 = n % 256 by omega] at hb
  have s1 : BlkN (R (upd f 6 (n / 256))) 29 := R_size _
  have s2 : BlkN (R (upd (upd f 6 (n / 256)) 7 (n % 256))) 29 := R_size _
  have o2 : BlkOne (R (upd (upd f 6 (n / 256)) 7 (n % 256))) := R_one _
  have x1 : (ByteArray.mk #[72, 76]).extract 0 1 = ⟨#[72]⟩ := by rfl
  have x2 : (ByteArray.mk #[72, 76]).extract 1 2 = ⟨#[76]⟩ := by rfl
  have d1 := tdiv_nn n0 256
  have d2 := tmod_nn n0 256
  have d3 : (n / 256).tmod 256 = n / 256 := by rw [tmod_nn (by omega)]; omega
  have dw : IntKind.i64.wrap (n / 256) = n / 256 := by rw [IntKind.wrap_i64]; omega
  have d4 : 0 ≤ n / 256 ∧ n / 256 < 256 ∧ 0 ≤ n % 256 ∧ n % 256 < 256 := by omega
  obtain ⟨d5, d6, d7, d8⟩ := d4
  generalize R (upd (upd f 6 (n / 256)) 7 (n % 256)) = A2 at *
  generalize R (upd f 6 (n / 256)) = A1 at *
  generalize hA : R f = A at *
  have HA := Lib.hid ha
  have HB := Lib.hid hb
  clear ha hb hA g1
  go_enter Try.func27, Try.ntmps27
  go_wp2_with fail
  go_region_with (first | (go_at_call 27; with_reducible refine (HA.out _).mono ?_; rintro e w' ⟨rfl, o3, o4, rfl⟩) | (go_at_call 27; with_reducible refine (HB.out _).mono ?_; rintro e w' ⟨rfl, o5, o6, rfl⟩))
  all_goals
    go_wp2_with fail
    exact bodyPost_ret (v := .agg _) (results_cell_row rfl _ _ (w.heap.size + 1) 25 _ (0, 0) _ rfl (by repeat (first | (refine heap_at _ _ _ ?_; (simp; done)) | (refine (heap_past _ _ _ ?_).trans ?_; focus (simp; done)) | (refine (heap_drew _ _).trans ?_))) Try.underlying25 rfl (iR (show BlkN _ 29 by simp [*]))) rfl ⟨rfl, by go_grown⟩
set_option maxRecDepth 100000 in
set_option maxHeartbeats 4000000 in
theorem set_AF (f : Nat → Int) (h : RB f) (n : Int) (n0 : 0 ≤ n) (n1 : n < 65536) (w : World) : Calls Try.prog 27 #[.agg (R f), .string ⟨#[65, 70]⟩, .int .i64 n] w fun e w' => e = .returned (.agg (R (upd (upd f 0 (n / 256)) 1 (n % 256)))) ∧ Below w.heap.size w w' := by
  have c0 := R_get f 0 (by omega)
  have c1 := R_get f 1 (by omega)
  have c2 := R_get f 2 (by omega)
  have c3 := R_get f 3 (by omega)
  have c4 := R_get f 4 (by omega)
  have c5 := R_get f 5 (by omega)
  have c6 := R_get f 6 (by omega)
  have c7 := R_get f 7 (by omega)
  have c16 := R_get f 16 (by omega)
  have c17 := R_get f 17 (by omega)
  have c18 := R_get f 18 (by omega)
  change (R f)[0]? = some (.int .u8 (f 0)) at c0
  change (R f)[1]? = some (.int .u8 (f 1)) at c1
  change (R f)[2]? = some (.int .u8 (f 2)) at c2
  change (R f)[3]? = some (.int .u8 (f 3)) at c3
  change (R f)[4]? = some (.int .u8 (f 4)) at c4
  change (R f)[5]? = some (.int .u8 (f 5)) at c5
  change (R f)[6]? = some (.int .u8 (f 6)) at c6
  change (R f)[7]? = some (.int .u8 (f 7)) at c7
  change (R f)[16]? = some (.int .u16 (f 16)) at c16
  change (R f)[17]? = some (.int .u16 (f 17)) at c17
  change (R f)[18]? = some (.int .u16 (f 18)) at c18
  have c22 := R_get f 22 (by omega)
  change (R f)[22]? = some (.int .u8 (f 22)) at c22
  have c23 := R_get f 23 (by omega)
  change (R f)[23]? = some (.int .u8 (f 23)) at c23
  have c24 := R_get f 24 (by omega)
  change (R f)[24]? = some (.int .u8 (f 24)) at c24
  have sA : BlkN (R f) 29 := R_size f
  have oA : BlkOne (R f) := R_one f
  have zn := zN
  unfold Z29 at zn
  have g1 : RB (upd f 0 (n / 256)) := h.set8 0 _ (by omega) (by omega) (by omega)
  have ha := fun W => set_A f h (n / 256) (by omega) (by omega) W
  have hb := fun W => set_F _ g1 (n % 256) (by omega) (by omega) W
  rw [show n / 256 % 256 = n / 256 by omega] at ha
  rw [show n % 256 % 256 = n % 256 by omega] at hb
  have s1 : BlkN (R (upd f 0 (n / 256))) 29 := R_size _
  have s2 : BlkN (R (upd (upd f 0 (n / 256)) 1 (n % 256))) 29 := R_size _
  have o2 : BlkOne (R (upd (upd f 0 (n / 256)) 1 (n % 256))) := R_one _
  have x1 : (ByteArray.mk #[65, 70]).extract 0 1 = ⟨#[65]⟩ := by rfl
  have x2 : (ByteArray.mk #[65, 70]).extract 1 2 = ⟨#[70]⟩ := by rfl
  have d1 := tdiv_nn n0 256
  have d2 := tmod_nn n0 256
  have d3 : (n / 256).tmod 256 = n / 256 := by rw [tmod_nn (by omega)]; omega
  have dw : IntKind.i64.wrap (n / 256) = n / 256 := by rw [IntKind.wrap_i64]; omega
  have d4 : 0 ≤ n / 256 ∧ n / 256 < 256 ∧ 0 ≤ n % 256 ∧ n % 256 < 256 := by omega
  obtain ⟨d5, d6, d7, d8⟩ := d4
  generalize R (upd (upd f 0 (n / 256)) 1 (n % 256)) = A2 at *
  generalize R (upd f 0 (n / 256)) = A1 at *
  generalize hA : R f = A at *
  have HA := Lib.hid ha
  have HB := Lib.hid hb
  clear ha hb hA g1
  go_enter Try.func27, Try.ntmps27
  go_wp2_with fail
  go_region_with (first | (go_at_call 27; with_reducible refine (HA.out _).mono ?_; rintro e w' ⟨rfl, o3, o4, rfl⟩) | (go_at_call 27; with_reducible refine (HB.out _).mono ?_; rintro e w' ⟨rfl, o5, o6, rfl⟩))
  all_goals
    go_wp2_with fail
    exact bodyPost_ret (v := .agg _) (results_cell_row rfl _ _ (w.heap.size + 1) 25 _ (0, 0) _ rfl (by repeat (first | (refine heap_at _ _ _ ?_; (simp; done)) | (refine (heap_past _ _ _ ?_).trans ?_; focus (simp; done)) | (refine (heap_drew _ _).trans ?_))) Try.underlying25 rfl (iR (show BlkN _ 29 by simp [*]))) rfl ⟨rfl, by go_grown⟩
end Regs
end Go.Proofs.Ythghpgnnbdimaaa
