/- The walks of the statements on sums of two bytes at once (layer 7): each returns true for every input. No conditions but that numbers are of their kinds. -/
import Derived.Test.YtoppnjkebmjdcaaPairs
namespace Go.Proofs.Ytoppnjkebmjdcaa
open Go.RowKit
open Kit Pairs
set_option linter.unusedSimpArgs false
set_option linter.unusedVariables false
theorem join_eq (h l : Int) (h0 : 0 ≤ h) (h1 : h < 256) (l0 : 0 ≤ l) (l1 : l < 256) : Go.bits .or .u16 (h * 256) l = h * 256 + l := by
  obtain ⟨h, rfl⟩ := Int.eq_ofNat_of_zero_le h0
  obtain ⟨l, rfl⟩ := Int.eq_ofNat_of_zero_le l0
  simp only [Kit.and8l, Kit.or8l, Kit.xor8l, Kit.andn8l, Kit.and16l, Kit.or16l, Kit.divl, Kit.modl, Kit.addn, Kit.muln, Kit.addl, Kit.mull, Kit.lmul, Kit.ladd, Kit.and8, Kit.or8, Kit.xor8, Kit.andn8, Kit.and16, Kit.or16, Kit.xor16, Kit.wrap16, Kit.wrap8, Kit.land8, Kit.lor8, Kit.lxor8, Kit.landn8, Kit.land16, Kit.lor16, Kit.lxor16]
  rw [Nat.mod_eq_of_lt (show h * 256 < 65536 by omega), Nat.mod_eq_of_lt (show l < 65536 by omega)]
  have := Nat.two_pow_add_eq_or_of_lt (i := 8) (show l < 2 ^ 8 by omega) h
  rw [show h * 256 = 2 ^ 8 * h from by omega, ← this]
theorem join_any (h l : Int) (h0 : 0 ≤ h) (h1 : h < 256) (l0 : 0 ≤ l) (l1 : l < 256) (w : World) : Calls Try.prog 10 #[.int .u8 h, .int .u8 l] w fun e w' => e = .returned (.int .u16 (h * 256 + l)) ∧ w = w' := by
  go_enter Try.func10, Try.ntmps10
  go_wp2
  go_ret
  exact ⟨ret_int (join_eq h l h0 h1 l0 l1), rfl⟩
theorem move_any (v b : Int) (h0 : 0 ≤ v) (h1 : v < 65536) (l0 : 0 ≤ b) (l1 : b < 256) (w : World) : Calls Try.prog 12 #[.int .u16 v, .int .u8 b] w fun e w' => e = .returned (.int .u16 ((v + R06.sg8 b) % 65536)) ∧ w = w' := by
  go_enter Try.func12, Try.ntmps12
  go_wp2
  go_ret
  refine ⟨ret_int ?_, rfl⟩
  rw [i8_wrap, IntKind.wrap_u16, IntKind.wrap_u16]
  unfold R06.sg8
  split <;> omega
theorem rjoin_any (h l : Int) (h0 : 0 ≤ h) (h1 : h < 256) (l0 : 0 ≤ l) (l1 : l < 256) (w : World) : Calls Try.prog 11 #[.int .u8 h, .int .u8 l] w fun e w' => e = .returned (.int .u16 (h * 256 + l)) ∧ w = w' := by
  go_enter Try.func11, Try.ntmps11
  go_wp2
  go_ret
  exact ⟨rfl, rfl⟩
theorem rmove_any (v b : Int) (h0 : 0 ≤ v) (h1 : v < 65536) (l0 : 0 ≤ b) (l1 : b < 256) (w : World) : Calls Try.prog 13 #[.int .u16 v, .int .u8 b] w fun e w' => e = .returned (.int .u16 ((v + R06.sg8 b) % 65536)) ∧ w = w' := by
  go_enter Try.func13, Try.ntmps13
  go_wp2_with (go_at_call 22; with_reducible refine (modulo_any _ (by omega) (by omega) _).mono ?_; rintro e w' ⟨rfl, rfl⟩)
  all_goals
    go_ret
    refine ⟨ret_int ?_, rfl⟩
    unfold R06.sg8
    split <;> omega
theorem alive_any (w : World) : Calls Try.prog 8 #[] w fun e w' => e = .returned (.bool true) ∧ w = w' := by
  have e1 : addFi 4095 1 0 = 16 := by decide +kernel
  have e2 : ((5 + R06.sg8 255) % 65536 == 4) = true := by decide +kernel
  go_enter Try.func8, Try.ntmps8
  go_wp2_with (first
    | (go_at_call 16; with_reducible refine (add_any _ _ _ (by omega) (by omega) (by omega) (by omega) (by omega) (by omega) _).mono ?_; rintro e w' ⟨rfl, rfl⟩)
    | (go_at_call 10; with_reducible refine (join_any _ _ (by omega) (by omega) (by omega) (by omega) _).mono ?_; rintro e w' ⟨rfl, rfl⟩)
    | (go_at_call 12; with_reducible refine (move_any _ _ (by omega) (by omega) (by omega) (by omega) _).mono ?_; rintro e w' ⟨rfl, rfl⟩))
  go_ret
  exact ⟨ret_bool e2, rfl⟩
def Al (w : World) (e : Ending) (w' : World) : Prop := e = .returned (.bool true) ∧ Below w.heap.size w w'
theorem pairsParts_walk (a0 : Int) (a1 : Int) (w0 : (Lit.int .u16 a0).wf = true) (w1 : (Lit.int .u8 a1).wf = true) (w : World) :
    Calls Try.prog 3 #[.int .u16 a0, .int .u8 a1] w fun e w' => e = .returned (.bool true) ∧ Below w.heap.size w w' := by
  obtain ⟨p0, p1⟩ := u16_bd w0
  obtain ⟨q0, q1⟩ := u8_bd w1
  clear w0 w1
  obtain ⟨a0, rfl⟩ := Int.eq_ofNat_of_zero_le p0
  obtain ⟨a1, rfl⟩ := Int.eq_ofNat_of_zero_le q0
  have t1 : (((a0 : Int) / 256 * 256 + a0 % 256) == a0) = true := by rw [beq_iff_eq]; omega
  go_enter Try.func3, Try.ntmps3
  go_wp2_with (first
    | (go_at_call 8; with_reducible refine (alive_any _).mono ?_; rintro e w' ⟨rfl, rfl⟩)
    | (go_at_call 10; with_reducible refine (join_any _ _ (by omega) (by omega) (by omega) (by omega) _).mono ?_; rintro e w' ⟨rfl, rfl⟩)
    | (go_at_call 11; with_reducible refine (rjoin_any _ _ (by omega) (by omega) (by omega) (by omega) _).mono ?_; rintro e w' ⟨rfl, rfl⟩)
    | (go_at_call 12; with_reducible refine (move_any _ _ (by omega) (by omega) (by omega) (by omega) _).mono ?_; rintro e w' ⟨rfl, rfl⟩)
    | (go_at_call 13; with_reducible refine (rmove_any _ _ (by omega) (by omega) (by omega) (by omega) _).mono ?_; rintro e w' ⟨rfl, rfl⟩)
    | go_in)
  go_ret
  exact ⟨ret_bool (by simp), Below.refl _ _⟩
theorem pairsRuns_walk (a0 : Int) (a1 : Int) (a2 : Int) (w0 : (Lit.int .u16 a0).wf = true) (w1 : (Lit.int .u16 a1).wf = true) (w2 : (Lit.int .u8 a2).wf = true) (w : World) :
    Calls Try.prog 5 #[.int .u16 a0, .int .u16 a1, .int .u8 a2] w fun e w' => e = .returned (.bool true) ∧ Below w.heap.size w w' := by
  obtain ⟨p0, p1⟩ := u16_bd w0
  obtain ⟨q0, q1⟩ := u16_bd w1
  obtain ⟨r0, r1⟩ := u8_bd w2
  clear w0 w1 w2
  go_enter Try.func5, Try.ntmps5
  go_wp2_with (first
    | (go_at_call 8; with_reducible refine (alive_any _).mono ?_; rintro e w' ⟨rfl, rfl⟩)
    | (go_at_call 16; with_reducible refine (add_any _ _ _ p0 p1 q0 q1 r0 r1 _).mono ?_; rintro e w' ⟨rfl, rfl⟩)
    | (go_at_call 14; with_reducible refine (adc_any _ _ _ p0 p1 q0 q1 r0 r1 _).mono ?_; rintro e w' ⟨rfl, rfl⟩)
    | (go_at_call 15; with_reducible refine (sbc_any _ _ _ p0 p1 q0 q1 r0 r1 _).mono ?_; rintro e w' ⟨rfl, rfl⟩)
    | (go_at_call 17; with_reducible refine (radd_any _ _ _ p0 p1 q0 q1 r0 r1 _).mono ?_; rintro e w1 ⟨rfl, hb1⟩)
    | (go_at_call 18; with_reducible refine (radc_any _ _ _ p0 p1 q0 q1 r0 r1 _).mono ?_; rintro e w2 ⟨rfl, hb2⟩)
    | (go_at_call 19; with_reducible refine (rsbc_any _ _ _ p0 p1 q0 q1 r0 r1 _).mono ?_; rintro e w3 ⟨rfl, hb3⟩))
  go_ret
  exact ⟨ret_bool (by simp), below_trans hb1 (below_trans hb2 hb3)⟩
theorem pairsNames_walk (w : World) :
    Calls Try.prog 4 #[] w fun e w' => e = .returned (.bool true) ∧ Below w.heap.size w w' := by
  have e1 : sumFi 32767 0 1 = 148 := by decide +kernel
  have e2 : subFi 0 0 1 = 187 := by decide +kernel
  have e3 : subFi 5 5 0 = 66 := by decide +kernel
  go_enter Try.func4, Try.ntmps4
  go_wp2_with (first
    | (go_at_call 8; with_reducible refine (alive_any _).mono ?_; rintro e w' ⟨rfl, rfl⟩)
    | (go_at_call 16; with_reducible refine (add_any _ _ _ (by omega) (by omega) (by omega) (by omega) (by omega) (by omega) _).mono ?_; rintro e w' ⟨rfl, rfl⟩)
    | (go_at_call 14; with_reducible refine (adc_any _ _ _ (by omega) (by omega) (by omega) (by omega) (by omega) (by omega) _).mono ?_; rintro e w' ⟨rfl, rfl⟩)
    | (go_at_call 15; with_reducible refine (sbc_any _ _ _ (by omega) (by omega) (by omega) (by omega) (by omega) (by omega) _).mono ?_; rintro e w' ⟨rfl, rfl⟩))
  go_ret
  exact ⟨ret_bool (by simp), Below.refl _ _⟩
theorem sumFi_comm (a b c : Int) : sumFi a b c = sumFi b a c := by
  unfold sumFi
  refine flags_eq ?_ ?_ ?_ ?_ ?_ ?_ rfl ?_
  · rw [Int.add_comm a b]
  · rw [Int.add_comm a b]
  · rw [Int.add_comm a b]
  · rw [Int.add_comm (a % 4096)]
  · rw [Int.add_comm a b]
  · rw [Int.add_comm (sgn a)]
  · rw [Int.add_comm a b]
theorem kept (a b f : Int) (f0 : 0 ≤ f) (f1 : f < 256) : Go.bits .and .u8 (Go.bits .xor .u8 (addFi a b f) f) 196 = 0 := by
  obtain ⟨f, rfl⟩ := Int.eq_ofNat_of_zero_le f0
  unfold addFi
  simp only [Kit.and8l, Kit.or8l, Kit.xor8l, Kit.andn8l, Kit.and16l, Kit.or16l, Kit.divl, Kit.modl, Kit.addn, Kit.muln, Kit.addl, Kit.mull, Kit.lmul, Kit.ladd, Kit.and8, Kit.or8, Kit.xor8, Kit.andn8, Kit.and16, Kit.or16, Kit.xor16, Kit.wrap16, Kit.wrap8, Kit.land8, Kit.lor8, Kit.lxor8, Kit.landn8, Kit.land16, Kit.lor16, Kit.lxor16, R06.bi_cast]
  rw [Nat.mod_eq_of_lt (flagsOf_lt ..), Nat.mod_eq_of_lt (show f < 256 by omega)]
  have g := allB_at (n := 256) (p := fun f => allB 16 fun k => Nat.beq ((flagsOf (bt f 128) (bt f 64) (bt k 1) (bt k 2) (bt k 4) (bt f 4) false (bt k 8) ^^^ f) &&& 196 % 256) 0) (by decide +kernel) (i := f) (by omega)
  generalize R06.bi ((a + b) % 65536 / 256) 32 = y
  generalize R06.bi ((a + b) % 65536 / 256) 8 = x
  generalize decide (4095 < a % 4096 + b % 4096) = h
  generalize decide (65535 < a + b) = c
  have g' := Nat.eq_of_beq_eq_true (allB_at g (i := fl y 1 + fl h 2 + fl x 4 + fl c 8) (by cases y <;> cases h <;> cases x <;> cases c <;> decide))
  rw [show bt (fl y 1 + fl h 2 + fl x 4 + fl c 8) 1 = y from by cases y <;> cases h <;> cases x <;> cases c <;> decide, show bt (fl y 1 + fl h 2 + fl x 4 + fl c 8) 2 = h from by cases y <;> cases h <;> cases x <;> cases c <;> decide,
    show bt (fl y 1 + fl h 2 + fl x 4 + fl c 8) 4 = x from by cases y <;> cases h <;> cases x <;> cases c <;> decide, show bt (fl y 1 + fl h 2 + fl x 4 + fl c 8) 8 = c from by cases y <;> cases h <;> cases x <;> cases c <;> decide] at g'
  rw [g']; rfl
theorem noN : ∀ s z y h x p c : Bool, Go.bits .and .u8 ((flagsOf s z y h x p false c : Nat) : Int) 2 = 0 := by decide
theorem adc_comm (a b f : Int) (ha0 : 0 ≤ a) (ha1 : a < 65536) (hb0 : 0 ≤ b) (hb1 : b < 65536) (hf0 : 0 ≤ f) (hf1 : f < 256) (w : World) : Calls Try.prog 14 #[.int .u16 b, .int .u16 a, .int .u8 f] w fun e w' =>
    e = .returned (.tuple #[.int .u16 ((a + b + f % 2) % 65536), .int .u8 (sumFi a b (f % 2))]) ∧ w = w' := by
  rw [sumFi_comm a b, Int.add_comm a b]
  exact adc_any b a f hb0 hb1 ha0 ha1 hf0 hf1 w
theorem pairsBack_walk (a0 : Int) (a1 : Int) (a2 : Int) (w0 : (Lit.int .u16 a0).wf = true) (w1 : (Lit.int .u16 a1).wf = true) (w2 : (Lit.int .u8 a2).wf = true) (w : World) :
    Calls Try.prog 6 #[.int .u16 a0, .int .u16 a1, .int .u8 a2] w fun e w' => e = .returned (.bool true) ∧ Below w.heap.size w w' := by
  obtain ⟨p0, p1⟩ := u16_bd w0
  obtain ⟨q0, q1⟩ := u16_bd w1
  obtain ⟨r0, r1⟩ := u8_bd w2
  clear w0 w1 w2
  have t3 : ((a0 + a1 + a2 % 2) % 65536 - a1 - a2 % 2) % 65536 = a0 := by omega
  have t4 : IntKind.u16.wrap ((a0 + a1) % 65536 + IntKind.u16.wrap (Go.bits .and .u8 a2 1)) = (a0 + a1 + a2 % 2) % 65536 := by
    have e : Go.bits .and .u8 a2 1 = a2 % 2 := by
      obtain ⟨a2, rfl⟩ := Int.eq_ofNat_of_zero_le r0
      simp only [Kit.and8l, Kit.or8l, Kit.xor8l, Kit.andn8l, Kit.and16l, Kit.or16l, Kit.divl, Kit.modl, Kit.addn, Kit.muln, Kit.addl, Kit.mull, Kit.lmul, Kit.ladd, Kit.and8, Kit.or8, Kit.xor8, Kit.andn8, Kit.and16, Kit.or16, Kit.xor16, Kit.wrap16, Kit.wrap8, Kit.land8, Kit.lor8, Kit.lxor8, Kit.landn8, Kit.land16, Kit.lor16, Kit.lxor16]
      rw [Nat.mod_eq_of_lt (show a2 < 256 by omega), m1' a2 (by omega)]
    rw [e, IntKind.wrap_u16, IntKind.wrap_u16]; omega
  have t5 := kept a0 a1 a2 r0 r1
  have t6 : Go.bits .and .u8 (addFi a0 a1 a2) 2 = 0 := noN ..
  have t7 : Go.bits .and .u8 (sumFi a0 a1 (a2 % 2)) 2 = 0 := noN ..
  go_enter Try.func6, Try.ntmps6
  go_wp2_with (first
    | (go_at_call 8; with_reducible refine (alive_any _).mono ?_; rintro e w' ⟨rfl, rfl⟩)
    | (go_at_call 14; with_reducible refine (adc_any a0 a1 a2 p0 p1 q0 q1 r0 r1 _).mono ?_; rintro e w' ⟨rfl, rfl⟩)
    | (go_at_call 14; with_reducible refine (adc_comm a0 a1 a2 p0 p1 q0 q1 r0 r1 _).mono ?_; rintro e w' ⟨rfl, rfl⟩)
    | (go_at_call 16; with_reducible refine (add_any a0 a1 a2 p0 p1 q0 q1 r0 r1 _).mono ?_; rintro e w' ⟨rfl, rfl⟩)
    | (go_at_call 15; with_reducible refine (sbc_any ((a0 + a1 + a2 % 2) % 65536) a1 a2 (by omega) (by omega) q0 q1 r0 r1 _).mono ?_; rintro e w' ⟨rfl, rfl⟩))
  go_ret
  exact ⟨ret_bool (by simp), Below.refl _ _⟩
theorem join_to (h l v : Int) (h0 : 0 ≤ h) (h1 : h < 256) (l0 : 0 ≤ l) (l1 : l < 256) (hv : h * 256 + l = v) (w : World) : Calls Try.prog 10 #[.int .u8 h, .int .u8 l] w fun e w' => e = .returned (.int .u16 v) ∧ w = w' := by
  subst hv
  exact join_any h l h0 h1 l0 l1 w
theorem em0 (n : Int) : 0 ≤ n % 256 := Int.emod_nonneg _ (by decide)
theorem em1 (n : Int) : n % 256 < 256 := Int.emod_lt_of_pos _ (by decide)
open R06 in
theorem apartZ : ∀ s z z' y h x p n c : Bool, Go.bits .andNot .u8 (Go.bits .xor .u8 ((flagsOf s z y h x p n c : Nat) : Int) ((flagsOf s z' y h x p n c : Nat) : Int)) 64 = 0 := by decide +kernel
open R06 in
theorem sgn_of (a : Int) (h0 : 0 ≤ a) (h1 : a < 65536) : sgn a = 256 * sg8 (a / 256) + a % 256 := by
  unfold sgn sg8
  split <;> split <;> omega
open R06 in
theorem ov_of (t s l : Int) (h : s = 256 * t + l) (h0 : 0 ≤ l) (h1 : l < 256) : ov8 t = ov s := by
  unfold ov8 ov
  rw [Bool.eq_iff_iff]
  simp only [Bool.or_eq_true, decide_eq_true_eq]
  omega
open R06 in
theorem bytes_add (a b c : Int) (ha0 : 0 ≤ a) (ha1 : a < 65536) (hb0 : 0 ≤ b) (hb1 : b < 65536) (hc0 : 0 ≤ c) (hc1 : c < 2) :
    Go.bits .andNot .u8 (Go.bits .xor .u8 (sumFi a b c) (add8F (a / 256) (b / 256) ((a % 256 + b % 256 + c) / 256))) 64 = 0 := by
  have e : (a / 256 + b / 256 + (a % 256 + b % 256 + c) / 256) % 256 = (a + b + c) % 65536 / 256 := by omega
  have e2 : decide (15 < a / 256 % 16 + b / 256 % 16 + (a % 256 + b % 256 + c) / 256) = decide (4095 < a % 4096 + b % 4096 + c) := by rw [decide_eq_decide]; omega
  have e3 : decide (255 < a / 256 + b / 256 + (a % 256 + b % 256 + c) / 256) = decide (65535 < a + b + c) := by rw [decide_eq_decide]; omega
  have e4 : ov8 (sg8 (a / 256) + sg8 (b / 256) + (a % 256 + b % 256 + c) / 256) = ov (sgn a + sgn b + c) := by
    rw [sgn_of a ha0 ha1, sgn_of b hb0 hb1]
    generalize sg8 (a / 256) = x
    generalize sg8 (b / 256) = y
    exact ov_of _ _ ((a % 256 + b % 256 + c) % 256) (by omega) (by omega) (by omega)
  unfold sumFi add8F
  rw [e, e2, e3, e4]
  exact apartZ ..
open R06 in
theorem bytes_sub (a b c : Int) (ha0 : 0 ≤ a) (ha1 : a < 65536) (hb0 : 0 ≤ b) (hb1 : b < 65536) (hc0 : 0 ≤ c) (hc1 : c < 2) :
    Go.bits .andNot .u8 (Go.bits .xor .u8 (subFi a b c) (sub8F (a / 256) (b / 256) (-((a % 256 - b % 256 - c) / 256)))) 64 = 0 := by
  have e : (a / 256 - b / 256 - -((a % 256 - b % 256 - c) / 256)) % 256 = (a - b - c) % 65536 / 256 := by omega
  have e2 : decide (a / 256 % 16 - b / 256 % 16 - -((a % 256 - b % 256 - c) / 256) < 0) = decide (a % 4096 - b % 4096 - c < 0) := by rw [decide_eq_decide]; omega
  have e3 : decide (a / 256 - b / 256 - -((a % 256 - b % 256 - c) / 256) < 0) = decide (a - b - c < 0) := by rw [decide_eq_decide]; omega
  have e4 : ov8 (sg8 (a / 256) - sg8 (b / 256) - -((a % 256 - b % 256 - c) / 256)) = ov (sgn a - sgn b - c) := by
    rw [sgn_of a ha0 ha1, sgn_of b hb0 hb1]
    generalize sg8 (a / 256) = x
    generalize sg8 (b / 256) = y
    exact ov_of _ _ ((a % 256 - b % 256 - c) % 256) (by omega) (by omega) (by omega)
  unfold subFi sub8F
  rw [e, e2, e3, e4]
  exact apartZ ..
theorem carry_of : ∀ s z y h x p n c : Bool, (Go.bits .and .u8 ((flagsOf s z y h x p n c : Nat) : Int) 1 == 1) = c := by decide +kernel
theorem and1 (f : Int) (f0 : 0 ≤ f) (f1 : f < 256) : Go.bits .and .u8 f 1 = f % 2 := by
  obtain ⟨f, rfl⟩ := Int.eq_ofNat_of_zero_le f0
  simp only [Kit.and8l, Kit.or8l, Kit.xor8l, Kit.andn8l, Kit.and16l, Kit.or16l, Kit.divl, Kit.modl, Kit.addn, Kit.muln, Kit.addl, Kit.mull, Kit.lmul, Kit.ladd, Kit.and8, Kit.or8, Kit.xor8, Kit.andn8, Kit.and16, Kit.or16, Kit.xor16, Kit.wrap16, Kit.wrap8, Kit.land8, Kit.lor8, Kit.lxor8, Kit.landn8, Kit.land16, Kit.lor16, Kit.lxor16]
  rw [Nat.mod_eq_of_lt (show f < 256 by omega), m1' f (by omega)]
open R06 in
theorem cb_of (a : Int) : c01 (a % 2 == 1) = a % 2 := by
  unfold c01
  rcases (show a % 2 = 0 ∨ a % 2 = 1 by omega) with h | h <;> rw [h] <;> rfl
open R06 in
theorem c01_dec (p : Prop) [Decidable p] : c01 (decide p) = if p then 1 else 0 := by unfold c01; by_cases h : p <;> simp [h]
open R06 in
theorem kb_of (a b c : Int) : c01 (decide (255 < a % 256 + b % 256 + c % 2)) = (a % 256 + b % 256 + c % 2) / 256 := by
  rw [c01_dec]
  split <;> omega
open R06 in
theorem jb_of (a b c : Int) : c01 (decide (a % 256 - b % 256 - c % 2 < 0)) = -((a % 256 - b % 256 - c % 2) / 256) := by
  rw [c01_dec]
  split <;> omega
theorem t1_of (a b c : Int) : ((a / 256 + b / 256 + (a % 256 + b % 256 + c % 2) / 256) % 256) * 256 + (a % 256 + b % 256 + c % 2) % 256 = (a + b + c % 2) % 65536 := by omega
theorem t2_of (a b c : Int) : ((a / 256 - b / 256 - -((a % 256 - b % 256 - c % 2) / 256)) % 256) * 256 + (a % 256 - b % 256 - c % 2) % 256 = (a - b - c % 2) % 65536 := by omega
open R06 in
theorem pairsBytes_walk (a0 : Int) (a1 : Int) (a2 : Int) (w0 : (Lit.int .u16 a0).wf = true) (w1 : (Lit.int .u16 a1).wf = true) (w2 : (Lit.int .u8 a2).wf = true) (w : World) :
    Calls Try.prog 7 #[.int .u16 a0, .int .u16 a1, .int .u8 a2] w fun e w' => e = .returned (.bool true) ∧ Below w.heap.size w w' := by
  obtain ⟨p0, p1⟩ := u16_bd w0
  obtain ⟨q0, q1⟩ := u16_bd w1
  obtain ⟨r0, r1⟩ := u8_bd w2
  clear w0 w1 w2
  obtain ⟨c, hc⟩ : ∃ c : Bool, c = (a2 % 2 == 1) := ⟨_, rfl⟩
  have cb : c01 c = a2 % 2 := by rw [hc]; exact cb_of a2
  have m0 : Go.bits .and .u8 a2 1 = a2 % 2 := and1 a2 r0 r1
  have hc' : (a2 % 2 == 1) = c := hc.symm
  clear hc
  obtain ⟨k, hk⟩ : ∃ k : Bool, k = decide (255 < a0 % 256 + a1 % 256 + c01 c) := ⟨_, rfl⟩
  have hk' : (Go.bits .and .u8 (add8F (a0 % 256) (a1 % 256) (c01 c)) 1 == 1) = k := by rw [hk]; exact carry_of ..
  have kb : c01 k = (a0 % 256 + a1 % 256 + a2 % 2) / 256 := by rw [hk, cb]; exact kb_of a0 a1 a2
  clear hk
  obtain ⟨j, hj⟩ : ∃ j : Bool, j = decide (a0 % 256 - a1 % 256 - c01 c < 0) := ⟨_, rfl⟩
  have hj' : (Go.bits .and .u8 (sub8F (a0 % 256) (a1 % 256) (c01 c)) 1 == 1) = j := by rw [hj]; exact carry_of ..
  have jb : c01 j = -((a0 % 256 - a1 % 256 - a2 % 2) / 256) := by rw [hj, cb]; exact jb_of a0 a1 a2
  clear hj
  have t1 : ((a0 / 256 + a1 / 256 + c01 k) % 256) * 256 + (a0 % 256 + a1 % 256 + c01 c) % 256 = (a0 + a1 + a2 % 2) % 65536 := by rw [kb, cb]; exact t1_of a0 a1 a2
  have t2 : ((a0 / 256 - a1 / 256 - c01 j) % 256) * 256 + (a0 % 256 - a1 % 256 - c01 c) % 256 = (a0 - a1 - a2 % 2) % 65536 := by rw [jb, cb]; exact t2_of a0 a1 a2
  have t3 : Go.bits .andNot .u8 (Go.bits .xor .u8 (sumFi a0 a1 (a2 % 2)) (add8F (a0 / 256) (a1 / 256) (c01 k))) 64 = 0 := by rw [kb]; exact bytes_add a0 a1 (a2 % 2) p0 p1 q0 q1 (Int.emod_nonneg _ (by decide)) (Int.emod_lt_of_pos _ (by decide))
  have t4 : Go.bits .andNot .u8 (Go.bits .xor .u8 (subFi a0 a1 (a2 % 2)) (sub8F (a0 / 256) (a1 / 256) (c01 j))) 64 = 0 := by rw [jb]; exact bytes_sub a0 a1 (a2 % 2) p0 p1 q0 q1 (Int.emod_nonneg _ (by decide)) (Int.emod_lt_of_pos _ (by decide))
  clear cb kb jb
  have T1 := Lib.hid t1
  have T2 := Lib.hid t2
  have b0 : 0 ≤ a0 / 256 := by omega
  have b1 : a0 / 256 < 256 := by omega
  have b2 : 0 ≤ a1 / 256 := by omega
  have b3 : a1 / 256 < 256 := by omega
  clear t1 t2
  go_enter Try.func7, Try.ntmps7
  go_wp2_with (first
    | (go_at_call 8; with_reducible refine (alive_any _).mono ?_; rintro e w' ⟨rfl, rfl⟩)
    | (go_at_call 14; with_reducible refine (adc_any a0 a1 a2 p0 p1 q0 q1 r0 r1 _).mono ?_; rintro e w' ⟨rfl, rfl⟩)
    | (go_at_call 15; with_reducible refine (sbc_any a0 a1 a2 p0 p1 q0 q1 r0 r1 _).mono ?_; rintro e w' ⟨rfl, rfl⟩)
    | (go_at_call 20; with_reducible refine (R06.add_any (a0 % 256) (a1 % 256) (em0 _) (em1 _) (em0 _) (em1 _) _ _).mono ?_; rintro e w1 ⟨rfl, hb1⟩)
    | (go_at_call 20; with_reducible refine (R06.add_any (a0 / 256) (a1 / 256) b0 b1 b2 b3 _ _).mono ?_; rintro e w2 ⟨rfl, hb2⟩)
    | (go_at_call 21; with_reducible refine (R06.sub_any (a0 % 256) (a1 % 256) (em0 _) (em1 _) (em0 _) (em1 _) _ _).mono ?_; rintro e w3 ⟨rfl, hb3⟩)
    | (go_at_call 21; with_reducible refine (R06.sub_any (a0 / 256) (a1 / 256) b0 b1 b2 b3 _ _).mono ?_; rintro e w4 ⟨rfl, hb4⟩)
    | (go_at_call 10; with_reducible refine (join_to _ _ _ (em0 _) (em1 _) (em0 _) (em1 _) T1.out _).mono ?_; rintro e w' ⟨rfl, rfl⟩)
    | (go_at_call 10; with_reducible refine (join_to _ _ _ (em0 _) (em1 _) (em0 _) (em1 _) T2.out _).mono ?_; rintro e w' ⟨rfl, rfl⟩))
  go_ret
  exact ⟨ret_bool (by simp), below_trans hb1 (below_trans hb2 (below_trans hb3 hb4))⟩
end Go.Proofs.Ytoppnjkebmjdcaa
