/- What steps over many bytes say (layer 9): what the program's functions and the reference's answer. No conditions but that numbers are of their kinds. -/
import Derived.Test.YtjbdefidkgfijaaRepeat
namespace Go.Proofs.Ytjbdefidkgfijaa
open Go.RowKit
open Kit R06 Pop
set_option linter.unusedSimpArgs false
set_option linter.unusedVariables false
namespace Repeat
theorem em256 (n : Int) : 0 ≤ n % 256 := Int.emod_nonneg _ (by decide)
theorem xor_comm8 (a b : Int) : Go.bits .xor .u8 a b = Go.bits .xor .u8 b a := by
  show IntKind.u8.wrap (((BitVec.ofInt 8 a ^^^ BitVec.ofInt 8 b).toNat : Nat) : Int) = IntKind.u8.wrap (((BitVec.ofInt 8 b ^^^ BitVec.ofInt 8 a).toNat : Nat) : Int)
  rw [BitVec.xor_comm]
theorem pos_ne (l : Int) (h : 0 ≤ l) : decide (0 < l) = (l != 0) := by rw [Bool.eq_iff_iff, decide_eq_true_eq, bne_iff_ne]; omega
set_option maxRecDepth 100000 in
theorem rload_any (a v g l : Int) (ha0 : 0 ≤ a) (ha1 : a < 256) (hv0 : 0 ≤ v) (hv1 : v < 256) (hg0 : 0 ≤ g) (hg1 : g < 256) (hl0 : 0 ≤ l) (hl1 : l < 65536) (w : World) : Calls Try.prog 11 #[.int .u8 a, .int .u8 v, .int .u8 g, .int .u16 l] w fun e w' => e = .returned (.int .u8 (loadF a v g l)) ∧ Below w.heap.size w w' := by
  go_enter Try.func11, Try.ntmps11
  go_wp2_with (first | (go_at_call 18; with_reducible refine (R06.of_any _ hg0 hg1 _).mono ?_; rintro e w' ⟨rfl, o1, rfl⟩) | (go_at_call 19; with_reducible refine (R06.byte_any _ _ _ _ _ _ _ _ _).mono ?_; rintro e w' ⟨rfl, o2, rfl⟩))
  go_ret
  refine ⟨ret_int ?_, by go_grown⟩
  rw [show ((a + v) % 256 / 2 % 2 == 1) = bi ((a + v) % 256) 2 from bi_k _ 2 (by omega), show ((a + v) % 256 / 8 % 2 == 1) = bi ((a + v) % 256) 8 from bi_k _ 8 (by omega), pos_ne l hl0]
  rfl
theorem rseek_leaf (a v g l n : Int) (p hv : Bool) (hp : p = (l != 0)) (h0 : 0 ≤ n) (hg0 : 0 ≤ g) (hn : n = seekM a v) (he : bi (sub8F a v (c01 false)) 16 = hv) :
    ((flagsOf (bi (sub8F a v (c01 false)) 128) (bi (sub8F a v (c01 false)) 64) (n / 2 % 2 == 1) hv (n / 8 % 2 == 1) p true (g % 2 == 1) : Nat) : Int) = seekF a v g l := by
  subst hp he
  rw [show (n / 2 % 2 == 1) = bi n 2 from bi_k n 2 h0, show (n / 8 % 2 == 1) = bi n 8 from bi_k n 8 h0, bi_1 g hg0, hn]
  unfold sub8F seekF
  simp only [bi_cast, b128, b64, b16, show c01 false = 0 from rfl, Int.sub_zero]
set_option maxRecDepth 100000 in
set_option maxHeartbeats 2000000 in
theorem rseek_any (a v g l : Int) (ha0 : 0 ≤ a) (ha1 : a < 256) (hv0 : 0 ≤ v) (hv1 : v < 256) (hg0 : 0 ≤ g) (hg1 : g < 256) (hl0 : 0 ≤ l) (hl1 : l < 65536) (w : World) : Calls Try.prog 13 #[.int .u8 a, .int .u8 v, .int .u8 g, .int .u16 l] w fun e w' => e = .returned (.tuple #[.int .u8 (seekF a v g l), .bool (l != 0 && a != v)]) ∧ Below w.heap.size w w' := by
  have e : bi (sub8F a v (c01 false)) 16 = decide (a % 16 - v % 16 < 0) := by unfold sub8F; simp only [bi_cast, b16, show c01 false = 0 from rfl, Int.sub_zero]
  cases hh : decide (a % 16 - v % 16 < 0)
  all_goals
    rw [hh] at e
    have HH := Lib.hid hh
    clear hh
    by_cases hl : 0 < l
    all_goals
      have HL := Lib.hid hl
      go_enter Try.func13, Try.ntmps13
      go_wp2_with (first | (go_at_call 21; with_reducible refine (R06.sub_any _ _ (by omega) (by omega) (by omega) (by omega) _ _).mono ?_; rintro e w1 ⟨rfl, hb⟩) | (go_at_call 18; with_reducible refine (R06.of_any _ (sub8F_lt _ _ _).1 (sub8F_lt _ _ _).2 _).mono ?_; rintro e w' ⟨rfl, o1, rfl⟩) | (go_at_call 19; with_reducible refine (R06.byte_any _ _ _ _ _ _ _ _ _).mono ?_; rintro e w' ⟨rfl, o2, rfl⟩))
      all_goals
        go_ret2
        refine ⟨ret_ib (rseek_leaf a v g l _ _ _ ?_ (em256 _) hg0 ?_ e) ?_, below_trans hb (by go_grown)⟩
        · rw [← pos_ne l hl0]; first | (rw [decide_eq_true HL.out]; done) | (rw [decide_eq_false (Int.not_lt.2 HL.out)]; done)
        · unfold seekM; rw [HH.out]; simp only [c01, cond_true, cond_false]; omega
        · rw [← pos_ne l hl0]; first | (rw [decide_eq_true HL.out, Bool.true_and]; done) | (rw [decide_eq_false (Int.not_lt.2 HL.out), Bool.false_and]; done)
set_option maxRecDepth 100000 in
set_option maxHeartbeats 2000000 in
theorem rport_any (v x b : Int) (hv0 : 0 ≤ v) (hv1 : v < 256) (hx0 : 0 ≤ x) (hx1 : x < 256) (hb0 : 0 ≤ b) (hb1 : b < 256) (w : World) : Calls Try.prog 15 #[.int .u8 v, .int .u8 x, .int .u8 b] w fun e w' => e = .returned (.int .u8 (portF v x b)) ∧ Below w.heap.size w w' := by
  go_enter Try.func15, Try.ntmps15
  go_wp2_with (first | (go_at_call 24; with_reducible refine (R06.shape_any _ (by omega) (by omega) _).mono ?_; rintro e w' ⟨rfl, o1, rfl⟩) | (go_at_call 25; with_reducible refine (rparity_any _ (Sums.and_bd _ _ _).1 (Sums.and_bd _ _ _).2 _).mono ?_; rintro e w' ⟨rfl, rfl⟩) | (go_at_call 19; with_reducible refine (R06.byte_any _ _ _ _ _ _ _ _ _).mono ?_; rintro e w' ⟨rfl, o2, rfl⟩))
  all_goals
    go_ret
    refine ⟨ret_int ?_, by go_grown⟩
    unfold portF
    rw [bit_127 v hv0 hv1, xor_comm8 b]
end Repeat
end Go.Proofs.Ytjbdefidkgfijaa
