/- Bits that go round, are asked, and set (layer 8): what the reference's functions answer: the same as the program's. No conditions but that numbers are of their kinds. -/
import Derived.Test.YtlhbokennnjohaaTurns
namespace Go.Proofs.Ytlhbokennnjohaa
open Go.RowKit
open Kit R06 Pop Turns
set_option linter.unusedSimpArgs false
set_option linter.unusedVariables false
namespace RTurns
theorem ret_ib {k : IntKind} {a b : Int} {c d : Bool} (h : a = b) (g : c = d) : Ending.returned (.tuple #[.int k a, .bool c]) = .returned (.tuple #[.int k b, .bool d]) := by rw [h, g]
theorem bi_1 (b : Int) (h0 : 0 ≤ b) : (b % 2 == 1) = bi b 1 := by
  obtain ⟨b, rfl⟩ := Int.eq_ofNat_of_zero_le h0
  rw [bi_cast, bt_1]
theorem bi_k (b : Int) (k : Nat) (h0 : 0 ≤ b) : (b / (k : Int) % 2 == 1) = bi b k := by
  obtain ⟨b, rfl⟩ := Int.eq_ofNat_of_zero_le h0
  rw [bi_cast, bt_int]
theorem low8 (n : Int) (w : World) : Calls Try.prog 20 #[.int .i64 n, .int .i64 8] w fun e w' => e = .returned (.int .i64 (n % 8)) ∧ w = w' := by
  have hb0 := Int.emod_nonneg n (show (8 : Int) ≠ 0 by decide)
  have hb1 := Int.emod_lt_of_pos n (show (0 : Int) < 8 by decide)
  rcases tmod_cases n 8 (by decide) with ⟨h1, h2⟩ | ⟨h1, h2⟩
  · have h3 : n.tmod 8 < 8 := by omega
    have H2 := Lib.hid h2
    clear h2 hb0 hb1
    go_enter Try.func20, Try.ntmps20
    go_wp2
    go_ret
    exact ⟨ret_int H2.out, rfl⟩
  · have h3 : -8 ≤ n.tmod 8 := by omega
    have H2 := Lib.hid (show n.tmod 8 + 8 = n % 8 by omega)
    clear h2 hb0 hb1
    go_enter Try.func20, Try.ntmps20
    go_wp2
    go_ret
    exact ⟨ret_int H2.out, rfl⟩
theorem low4 (n : Int) (w : World) : Calls Try.prog 20 #[.int .i64 n, .int .i64 4] w fun e w' => e = .returned (.int .i64 (n % 4)) ∧ w = w' := by
  have hb0 := Int.emod_nonneg n (show (4 : Int) ≠ 0 by decide)
  have hb1 := Int.emod_lt_of_pos n (show (0 : Int) < 4 by decide)
  rcases tmod_cases n 4 (by decide) with ⟨h1, h2⟩ | ⟨h1, h2⟩
  · have h3 : n.tmod 4 < 4 := by omega
    have H2 := Lib.hid h2
    clear h2 hb0 hb1
    go_enter Try.func20, Try.ntmps20
    go_wp2
    go_ret
    exact ⟨ret_int H2.out, rfl⟩
  · have h3 : -4 ≤ n.tmod 4 := by omega
    have H2 := Lib.hid (show n.tmod 4 + 4 = n % 4 by omega)
    clear h2 hb0 hb1
    go_enter Try.func20, Try.ntmps20
    go_wp2
    go_ret
    exact ⟨ret_int H2.out, rfl⟩
set_option maxHeartbeats 1000000 in
theorem turn_any (k v g : Int) (hk0 : 0 ≤ k) (hk1 : k < 8) (hv0 : 0 ≤ v) (hv1 : v < 256) (hg0 : 0 ≤ g) (hg1 : g < 256) (w : World) : Calls Try.prog 24 #[.int .i64 k, .int .u8 v, .int .u8 g] w fun e w' => e = .returned (.tuple #[.int .u8 (trV k v (g % 2)), .bool (trO k v == 1)]) ∧ w = w' := by
  have hc : k = 0 ∨ k = 1 ∨ k = 2 ∨ k = 3 ∨ k = 4 ∨ k = 5 ∨ k = 6 ∨ k = 7 := by omega
  clear hk0 hk1
  obtain ⟨v, rfl⟩ := Int.eq_ofNat_of_zero_le hv0
  obtain ⟨g, rfl⟩ := Int.eq_ofNat_of_zero_le hg0
  rcases hc with rfl | rfl | rfl | rfl | rfl | rfl | rfl | rfl
  all_goals
    go_enter Try.func24, Try.ntmps24
    go_wp2
    go_ret2
    refine ⟨ret_ib ?_ ?_, rfl⟩
    · unfold trV
      simp
      try omega
    · unfold trO
      simp
set_option maxRecDepth 100000 in
theorem rrot_any (o v g : Int) (hv0 : 0 ≤ v) (hv1 : v < 256) (hg0 : 0 ≤ g) (hg1 : g < 256) (w : World) : Calls Try.prog 15 #[.int .i64 o, .int .u8 v, .int .u8 g] w fun e w' => e = .returned (.tuple #[.int .u8 (trV (o % 8) v (g % 2)), .int .u8 (saidF (trV (o % 8) v (g % 2)) (trO (o % 8) v == 1))]) ∧ Below w.heap.size w w' := by
  obtain ⟨x0, x1⟩ := trV_bd (o % 8) v (g % 2) hv0 hv1 (by omega) (by omega)
  have k0 : 0 ≤ o % 8 := by omega
  have k1 : o % 8 < 8 := by omega
  go_enter Try.func15, Try.ntmps15
  go_wp2_with (first | (go_at_call 20; with_reducible refine (low8 _ _).mono ?_; rintro e w' ⟨rfl, rfl⟩) | (go_at_call 24; with_reducible refine (turn_any _ _ _ k0 k1 hv0 hv1 hg0 hg1 _).mono ?_; rintro e w' ⟨rfl, rfl⟩) | (go_at_call 27; with_reducible refine (R06.shape_any _ x0 x1 _).mono ?_; rintro e w' ⟨rfl, o1, rfl⟩) | (go_at_call 31; with_reducible refine (rparity_any _ x0 x1 _).mono ?_; rintro e w' ⟨rfl, rfl⟩) | (go_at_call 21; with_reducible refine (R06.byte_any _ _ _ _ _ _ _ _ _).mono ?_; rintro e w' ⟨rfl, o2, rfl⟩) | (go_at_call 26; with_reducible refine (R06.of_any _ hg0 hg1 _).mono ?_; rintro e w' ⟨rfl, o3, rfl⟩) | go_in)
  go_ret2
  refine ⟨ret_int2 rfl ?_, by go_grown⟩
  rfl
set_option maxRecDepth 100000 in
theorem rquick_any (o v g : Int) (hv0 : 0 ≤ v) (hv1 : v < 256) (hg0 : 0 ≤ g) (hg1 : g < 256) (w : World) : Calls Try.prog 17 #[.int .i64 o, .int .u8 v, .int .u8 g] w fun e w' => e = .returned (.tuple #[.int .u8 (trV (o % 4) v (g % 2)), .int .u8 (quickF (trV (o % 4) v (g % 2)) g (trO (o % 4) v == 1))]) ∧ Below w.heap.size w w' := by
  obtain ⟨x0, x1⟩ := trV_bd (o % 4) v (g % 2) hv0 hv1 (by omega) (by omega)
  have k0 : 0 ≤ o % 4 := by omega
  have k1 : o % 4 < 8 := by omega
  go_enter Try.func17, Try.ntmps17
  go_wp2_with (first | (go_at_call 20; with_reducible refine (low4 _ _).mono ?_; rintro e w' ⟨rfl, rfl⟩) | (go_at_call 24; with_reducible refine (turn_any _ _ _ k0 k1 hv0 hv1 hg0 hg1 _).mono ?_; rintro e w' ⟨rfl, rfl⟩) | (go_at_call 27; with_reducible refine (R06.shape_any _ x0 x1 _).mono ?_; rintro e w' ⟨rfl, o1, rfl⟩) | (go_at_call 31; with_reducible refine (rparity_any _ x0 x1 _).mono ?_; rintro e w' ⟨rfl, rfl⟩) | (go_at_call 21; with_reducible refine (R06.byte_any _ _ _ _ _ _ _ _ _).mono ?_; rintro e w' ⟨rfl, o2, rfl⟩) | (go_at_call 26; with_reducible refine (R06.of_any _ hg0 hg1 _).mono ?_; rintro e w' ⟨rfl, o3, rfl⟩) | go_in)
  go_ret2
  refine ⟨ret_int2 rfl ?_, by go_grown⟩
  rfl
set_option maxRecDepth 100000 in
theorem rdigits_any (l : Bool) (a m g : Int) (ha0 : 0 ≤ a) (ha1 : a < 256) (hm0 : 0 ≤ m) (hm1 : m < 256) (hg0 : 0 ≤ g) (hg1 : g < 256) (w : World) : Calls Try.prog 19 #[.bool l, .int .u8 a, .int .u8 m, .int .u8 g] w fun e w' => e = .returned (.tuple #[.int .u8 (dB l a m), .int .u8 (dN l a m), .int .u8 (saidF (dB l a m) (bi g 1))]) ∧ Below w.heap.size w w' := by
  cases l
  all_goals
    go_enter Try.func19, Try.ntmps19
    go_wp2_with (first | (go_at_call 27; with_reducible refine (R06.shape_any _ (by omega) (by omega) _).mono ?_; rintro e w' ⟨rfl, o1, rfl⟩) | (go_at_call 31; with_reducible refine (rparity_any _ (by omega) (by omega) _).mono ?_; rintro e w' ⟨rfl, rfl⟩) | (go_at_call 21; with_reducible refine (R06.byte_any _ _ _ _ _ _ _ _ _).mono ?_; rintro e w' ⟨rfl, o2, rfl⟩) | go_in)
    go_ret3
    refine ⟨ret_int3 rfl ?_ ?_, by go_grown⟩
    · unfold dN
      simp only [cond_true, cond_false]
      omega
    · rw [← bi_1 g hg0]
      rfl
theorem bi_1e (b r : Int) (h0 : 0 ≤ b) (h : b % 2 = r) : bi b 1 = (r == 1) := by rw [← bi_1 b h0, h]
theorem bi_ke (b : Int) (k : Nat) (r : Int) (h0 : 0 ≤ b) (h : b / (k : Int) % 2 = r) : bi b k = (r == 1) := by rw [← bi_k b k h0, h]
set_option maxRecDepth 100000 in
set_option maxHeartbeats 4000000 in
theorem rbit_any (o v g x : Int) (hv0 : 0 ≤ v) (hv1 : v < 256) (hg0 : 0 ≤ g) (hg1 : g < 256) (hx0 : 0 ≤ x) (hx1 : x < 256) (w : World) : Calls Try.prog 11 #[.int .i64 o, .int .u8 v, .int .u8 g, .int .u8 x] w fun e w' => e = .returned (.int .u8 (bitF (o % 8) v g x)) ∧ Below w.heap.size w w' := by
  obtain ⟨k, hk⟩ : ∃ k, k = o % 8 := ⟨_, rfl⟩
  have hc : k = 0 ∨ k = 1 ∨ k = 2 ∨ k = 3 ∨ k = 4 ∨ k = 5 ∨ k = 6 ∨ k = 7 := by omega
  rw [← hk]
  have HK := Lib.hid hk
  clear hk
  rcases hc with rfl | rfl | rfl | rfl | rfl | rfl | rfl | rfl
  · rcases (show v % 2 = 0 ∨ v % 2 = 1 by omega) with hb | hb
    · have HB := Lib.hid (show bi v 1 = false from bi_1e v 0 hv0 hb)
      go_enter Try.func11, Try.ntmps11
      go_wp2_with (first | (go_at_call 20; with_reducible refine (low8 _ _).mono ?_; rw [← HK.out]; rintro e w' ⟨rfl, rfl⟩) | (go_at_call 21; with_reducible refine (R06.byte_any _ _ _ _ _ _ _ _ _).mono ?_; rintro e w' ⟨rfl, o2, rfl⟩) | go_in)
      go_ret
      refine ⟨ret_int ?_, by go_grown⟩
      have e1 : (x / 32 % 2 == 1) = bi x 32 := bi_k x 32 hx0
      have e2 : (x / 8 % 2 == 1) = bi x 8 := bi_k x 8 hx0
      have e3 : (g % 2 == 1) = bi g 1 := bi_1 g hg0
      try rw [e1]
      try rw [e2]
      try rw [e3]
      show _ = ((flagsOf (bi v 1 && (0 : Int) == 7) (!(bi v 1)) (bi x 32) true (bi x 8) (!(bi v 1)) false (bi g 1) : Nat) : Int)
      rw [HB.out]
      rfl
    · have HB := Lib.hid (show bi v 1 = true from bi_1e v 1 hv0 hb)
      go_enter Try.func11, Try.ntmps11
      go_wp2_with (first | (go_at_call 20; with_reducible refine (low8 _ _).mono ?_; rw [← HK.out]; rintro e w' ⟨rfl, rfl⟩) | (go_at_call 21; with_reducible refine (R06.byte_any _ _ _ _ _ _ _ _ _).mono ?_; rintro e w' ⟨rfl, o2, rfl⟩) | go_in)
      go_ret
      refine ⟨ret_int ?_, by go_grown⟩
      have e1 : (x / 32 % 2 == 1) = bi x 32 := bi_k x 32 hx0
      have e2 : (x / 8 % 2 == 1) = bi x 8 := bi_k x 8 hx0
      have e3 : (g % 2 == 1) = bi g 1 := bi_1 g hg0
      try rw [e1]
      try rw [e2]
      try rw [e3]
      show _ = ((flagsOf (bi v 1 && (0 : Int) == 7) (!(bi v 1)) (bi x 32) true (bi x 8) (!(bi v 1)) false (bi g 1) : Nat) : Int)
      rw [HB.out]
      rfl
  · rcases (show v / 2 % 2 = 0 ∨ v / 2 % 2 = 1 by omega) with hb | hb
    · have HB := Lib.hid (show bi v 2 = false from bi_ke v 2 0 hv0 hb)
      go_enter Try.func11, Try.ntmps11
      go_wp2_with (first | (go_at_call 20; with_reducible refine (low8 _ _).mono ?_; rw [← HK.out]; rintro e w' ⟨rfl, rfl⟩) | (go_at_call 21; with_reducible refine (R06.byte_any _ _ _ _ _ _ _ _ _).mono ?_; rintro e w' ⟨rfl, o2, rfl⟩) | go_in)
      go_ret
      refine ⟨ret_int ?_, by go_grown⟩
      have e1 : (x / 32 % 2 == 1) = bi x 32 := bi_k x 32 hx0
      have e2 : (x / 8 % 2 == 1) = bi x 8 := bi_k x 8 hx0
      have e3 : (g % 2 == 1) = bi g 1 := bi_1 g hg0
      try rw [e1]
      try rw [e2]
      try rw [e3]
      show _ = ((flagsOf (bi v 2 && (1 : Int) == 7) (!(bi v 2)) (bi x 32) true (bi x 8) (!(bi v 2)) false (bi g 1) : Nat) : Int)
      rw [HB.out]
      rfl
    · have HB := Lib.hid (show bi v 2 = true from bi_ke v 2 1 hv0 hb)
      go_enter Try.func11, Try.ntmps11
      go_wp2_with (first | (go_at_call 20; with_reducible refine (low8 _ _).mono ?_; rw [← HK.out]; rintro e w' ⟨rfl, rfl⟩) | (go_at_call 21; with_reducible refine (R06.byte_any _ _ _ _ _ _ _ _ _).mono ?_; rintro e w' ⟨rfl, o2, rfl⟩) | go_in)
      go_ret
      refine ⟨ret_int ?_, by go_grown⟩
      have e1 : (x / 32 % 2 == 1) = bi x 32 := bi_k x 32 hx0
      have e2 : (x / 8 % 2 == 1) = bi x 8 := bi_k x 8 hx0
      have e3 : (g % 2 == 1) = bi g 1 := bi_1 g hg0
      try rw [e1]
      try rw [e2]
      try rw [e3]
      show _ = ((flagsOf (bi v 2 && (1 : Int) == 7) (!(bi v 2)) (bi x 32) true (bi x 8) (!(bi v 2)) false (bi g 1) : Nat) : Int)
      rw [HB.out]
      rfl
  · rcases (show v / 4 % 2 = 0 ∨ v / 4 % 2 = 1 by omega) with hb | hb
    · have HB := Lib.hid (show bi v 4 = false from bi_ke v 4 0 hv0 hb)
      go_enter Try.func11, Try.ntmps11
      go_wp2_with (first | (go_at_call 20; with_reducible refine (low8 _ _).mono ?_; rw [← HK.out]; rintro e w' ⟨rfl, rfl⟩) | (go_at_call 21; with_reducible refine (R06.byte_any _ _ _ _ _ _ _ _ _).mono ?_; rintro e w' ⟨rfl, o2, rfl⟩) | go_in)
      go_ret
      refine ⟨ret_int ?_, by go_grown⟩
      have e1 : (x / 32 % 2 == 1) = bi x 32 := bi_k x 32 hx0
      have e2 : (x / 8 % 2 == 1) = bi x 8 := bi_k x 8 hx0
      have e3 : (g % 2 == 1) = bi g 1 := bi_1 g hg0
      try rw [e1]
      try rw [e2]
      try rw [e3]
      show _ = ((flagsOf (bi v 4 && (2 : Int) == 7) (!(bi v 4)) (bi x 32) true (bi x 8) (!(bi v 4)) false (bi g 1) : Nat) : Int)
      rw [HB.out]
      rfl
    · have HB := Lib.hid (show bi v 4 = true from bi_ke v 4 1 hv0 hb)
      go_enter Try.func11, Try.ntmps11
      go_wp2_with (first | (go_at_call 20; with_reducible refine (low8 _ _).mono ?_; rw [← HK.out]; rintro e w' ⟨rfl, rfl⟩) | (go_at_call 21; with_reducible refine (R06.byte_any _ _ _ _ _ _ _ _ _).mono ?_; rintro e w' ⟨rfl, o2, rfl⟩) | go_in)
      go_ret
      refine ⟨ret_int ?_, by go_grown⟩
      have e1 : (x / 32 % 2 == 1) = bi x 32 := bi_k x 32 hx0
      have e2 : (x / 8 % 2 == 1) = bi x 8 := bi_k x 8 hx0
      have e3 : (g % 2 == 1) = bi g 1 := bi_1 g hg0
      try rw [e1]
      try rw [e2]
      try rw [e3]
      show _ = ((flagsOf (bi v 4 && (2 : Int) == 7) (!(bi v 4)) (bi x 32) true (bi x 8) (!(bi v 4)) false (bi g 1) : Nat) : Int)
      rw [HB.out]
      rfl
  · rcases (show v / 8 % 2 = 0 ∨ v / 8 % 2 = 1 by omega) with hb | hb
    · have HB := Lib.hid (show bi v 8 = false from bi_ke v 8 0 hv0 hb)
      go_enter Try.func11, Try.ntmps11
      go_wp2_with (first | (go_at_call 20; with_reducible refine (low8 _ _).mono ?_; rw [← HK.out]; rintro e w' ⟨rfl, rfl⟩) | (go_at_call 21; with_reducible refine (R06.byte_any _ _ _ _ _ _ _ _ _).mono ?_; rintro e w' ⟨rfl, o2, rfl⟩) | go_in)
      go_ret
      refine ⟨ret_int ?_, by go_grown⟩
      have e1 : (x / 32 % 2 == 1) = bi x 32 := bi_k x 32 hx0
      have e2 : (x / 8 % 2 == 1) = bi x 8 := bi_k x 8 hx0
      have e3 : (g % 2 == 1) = bi g 1 := bi_1 g hg0
      try rw [e1]
      try rw [e2]
      try rw [e3]
      show _ = ((flagsOf (bi v 8 && (3 : Int) == 7) (!(bi v 8)) (bi x 32) true (bi x 8) (!(bi v 8)) false (bi g 1) : Nat) : Int)
      rw [HB.out]
      rfl
    · have HB := Lib.hid (show bi v 8 = true from bi_ke v 8 1 hv0 hb)
      go_enter Try.func11, Try.ntmps11
      go_wp2_with (first | (go_at_call 20; with_reducible refine (low8 _ _).mono ?_; rw [← HK.out]; rintro e w' ⟨rfl, rfl⟩) | (go_at_call 21; with_reducible refine (R06.byte_any _ _ _ _ _ _ _ _ _).mono ?_; rintro e w' ⟨rfl, o2, rfl⟩) | go_in)
      go_ret
      refine ⟨ret_int ?_, by go_grown⟩
      have e1 : (x / 32 % 2 == 1) = bi x 32 := bi_k x 32 hx0
      have e2 : (x / 8 % 2 == 1) = bi x 8 := bi_k x 8 hx0
      have e3 : (g % 2 == 1) = bi g 1 := bi_1 g hg0
      try rw [e1]
      try rw [e2]
      try rw [e3]
      show _ = ((flagsOf (bi v 8 && (3 : Int) == 7) (!(bi v 8)) (bi x 32) true (bi x 8) (!(bi v 8)) false (bi g 1) : Nat) : Int)
      rw [HB.out]
      rfl
  · rcases (show v / 16 % 2 = 0 ∨ v / 16 % 2 = 1 by omega) with hb | hb
    · have HB := Lib.hid (show bi v 16 = false from bi_ke v 16 0 hv0 hb)
      go_enter Try.func11, Try.ntmps11
      go_wp2_with (first | (go_at_call 20; with_reducible refine (low8 _ _).mono ?_; rw [← HK.out]; rintro e w' ⟨rfl, rfl⟩) | (go_at_call 21; with_reducible refine (R06.byte_any _ _ _ _ _ _ _ _ _).mono ?_; rintro e w' ⟨rfl, o2, rfl⟩) | go_in)
      go_ret
      refine ⟨ret_int ?_, by go_grown⟩
      have e1 : (x / 32 % 2 == 1) = bi x 32 := bi_k x 32 hx0
      have e2 : (x / 8 % 2 == 1) = bi x 8 := bi_k x 8 hx0
      have e3 : (g % 2 == 1) = bi g 1 := bi_1 g hg0
      try rw [e1]
      try rw [e2]
      try rw [e3]
      show _ = ((flagsOf (bi v 16 && (4 : Int) == 7) (!(bi v 16)) (bi x 32) true (bi x 8) (!(bi v 16)) false (bi g 1) : Nat) : Int)
      rw [HB.out]
      rfl
    · have HB := Lib.hid (show bi v 16 = true from bi_ke v 16 1 hv0 hb)
      go_enter Try.func11, Try.ntmps11
      go_wp2_with (first | (go_at_call 20; with_reducible refine (low8 _ _).mono ?_; rw [← HK.out]; rintro e w' ⟨rfl, rfl⟩) | (go_at_call 21; with_reducible refine (R06.byte_any _ _ _ _ _ _ _ _ _).mono ?_; rintro e w' ⟨rfl, o2, rfl⟩) | go_in)
      go_ret
      refine ⟨ret_int ?_, by go_grown⟩
      have e1 : (x / 32 % 2 == 1) = bi x 32 := bi_k x 32 hx0
      have e2 : (x / 8 % 2 == 1) = bi x 8 := bi_k x 8 hx0
      have e3 : (g % 2 == 1) = bi g 1 := bi_1 g hg0
      try rw [e1]
      try rw [e2]
      try rw [e3]
      show _ = ((flagsOf (bi v 16 && (4 : Int) == 7) (!(bi v 16)) (bi x 32) true (bi x 8) (!(bi v 16)) false (bi g 1) : Nat) : Int)
      rw [HB.out]
      rfl
  · rcases (show v / 32 % 2 = 0 ∨ v / 32 % 2 = 1 by omega) with hb | hb
    · have HB := Lib.hid (show bi v 32 = false from bi_ke v 32 0 hv0 hb)
      go_enter Try.func11, Try.ntmps11
      go_wp2_with (first | (go_at_call 20; with_reducible refine (low8 _ _).mono ?_; rw [← HK.out]; rintro e w' ⟨rfl, rfl⟩) | (go_at_call 21; with_reducible refine (R06.byte_any _ _ _ _ _ _ _ _ _).mono ?_; rintro e w' ⟨rfl, o2, rfl⟩) | go_in)
      go_ret
      refine ⟨ret_int ?_, by go_grown⟩
      have e1 : (x / 32 % 2 == 1) = bi x 32 := bi_k x 32 hx0
      have e2 : (x / 8 % 2 == 1) = bi x 8 := bi_k x 8 hx0
      have e3 : (g % 2 == 1) = bi g 1 := bi_1 g hg0
      try rw [e1]
      try rw [e2]
      try rw [e3]
      show _ = ((flagsOf (bi v 32 && (5 : Int) == 7) (!(bi v 32)) (bi x 32) true (bi x 8) (!(bi v 32)) false (bi g 1) : Nat) : Int)
      rw [HB.out]
      rfl
    · have HB := Lib.hid (show bi v 32 = true from bi_ke v 32 1 hv0 hb)
      go_enter Try.func11, Try.ntmps11
      go_wp2_with (first | (go_at_call 20; with_reducible refine (low8 _ _).mono ?_; rw [← HK.out]; rintro e w' ⟨rfl, rfl⟩) | (go_at_call 21; with_reducible refine (R06.byte_any _ _ _ _ _ _ _ _ _).mono ?_; rintro e w' ⟨rfl, o2, rfl⟩) | go_in)
      go_ret
      refine ⟨ret_int ?_, by go_grown⟩
      have e1 : (x / 32 % 2 == 1) = bi x 32 := bi_k x 32 hx0
      have e2 : (x / 8 % 2 == 1) = bi x 8 := bi_k x 8 hx0
      have e3 : (g % 2 == 1) = bi g 1 := bi_1 g hg0
      try rw [e1]
      try rw [e2]
      try rw [e3]
      show _ = ((flagsOf (bi v 32 && (5 : Int) == 7) (!(bi v 32)) (bi x 32) true (bi x 8) (!(bi v 32)) false (bi g 1) : Nat) : Int)
      rw [HB.out]
      rfl
  · rcases (show v / 64 % 2 = 0 ∨ v / 64 % 2 = 1 by omega) with hb | hb
    · have HB := Lib.hid (show bi v 64 = false from bi_ke v 64 0 hv0 hb)
      go_enter Try.func11, Try.ntmps11
      go_wp2_with (first | (go_at_call 20; with_reducible refine (low8 _ _).mono ?_; rw [← HK.out]; rintro e w' ⟨rfl, rfl⟩) | (go_at_call 21; with_reducible refine (R06.byte_any _ _ _ _ _ _ _ _ _).mono ?_; rintro e w' ⟨rfl, o2, rfl⟩) | go_in)
      go_ret
      refine ⟨ret_int ?_, by go_grown⟩
      have e1 : (x / 32 % 2 == 1) = bi x 32 := bi_k x 32 hx0
      have e2 : (x / 8 % 2 == 1) = bi x 8 := bi_k x 8 hx0
      have e3 : (g % 2 == 1) = bi g 1 := bi_1 g hg0
      try rw [e1]
      try rw [e2]
      try rw [e3]
      show _ = ((flagsOf (bi v 64 && (6 : Int) == 7) (!(bi v 64)) (bi x 32) true (bi x 8) (!(bi v 64)) false (bi g 1) : Nat) : Int)
      rw [HB.out]
      rfl
    · have HB := Lib.hid (show bi v 64 = true from bi_ke v 64 1 hv0 hb)
      go_enter Try.func11, Try.ntmps11
      go_wp2_with (first | (go_at_call 20; with_reducible refine (low8 _ _).mono ?_; rw [← HK.out]; rintro e w' ⟨rfl, rfl⟩) | (go_at_call 21; with_reducible refine (R06.byte_any _ _ _ _ _ _ _ _ _).mono ?_; rintro e w' ⟨rfl, o2, rfl⟩) | go_in)
      go_ret
      refine ⟨ret_int ?_, by go_grown⟩
      have e1 : (x / 32 % 2 == 1) = bi x 32 := bi_k x 32 hx0
      have e2 : (x / 8 % 2 == 1) = bi x 8 := bi_k x 8 hx0
      have e3 : (g % 2 == 1) = bi g 1 := bi_1 g hg0
      try rw [e1]
      try rw [e2]
      try rw [e3]
      show _ = ((flagsOf (bi v 64 && (6 : Int) == 7) (!(bi v 64)) (bi x 32) true (bi x 8) (!(bi v 64)) false (bi g 1) : Nat) : Int)
      rw [HB.out]
      rfl
  · rcases (show v / 128 % 2 = 0 ∨ v / 128 % 2 = 1 by omega) with hb | hb
    · have HB := Lib.hid (show bi v 128 = false from bi_ke v 128 0 hv0 hb)
      go_enter Try.func11, Try.ntmps11
      go_wp2_with (first | (go_at_call 20; with_reducible refine (low8 _ _).mono ?_; rw [← HK.out]; rintro e w' ⟨rfl, rfl⟩) | (go_at_call 21; with_reducible refine (R06.byte_any _ _ _ _ _ _ _ _ _).mono ?_; rintro e w' ⟨rfl, o2, rfl⟩) | go_in)
      go_ret
      refine ⟨ret_int ?_, by go_grown⟩
      have e1 : (x / 32 % 2 == 1) = bi x 32 := bi_k x 32 hx0
      have e2 : (x / 8 % 2 == 1) = bi x 8 := bi_k x 8 hx0
      have e3 : (g % 2 == 1) = bi g 1 := bi_1 g hg0
      try rw [e1]
      try rw [e2]
      try rw [e3]
      show _ = ((flagsOf (bi v 128 && (7 : Int) == 7) (!(bi v 128)) (bi x 32) true (bi x 8) (!(bi v 128)) false (bi g 1) : Nat) : Int)
      rw [HB.out]
      rfl
    · have HB := Lib.hid (show bi v 128 = true from bi_ke v 128 1 hv0 hb)
      go_enter Try.func11, Try.ntmps11
      go_wp2_with (first | (go_at_call 20; with_reducible refine (low8 _ _).mono ?_; rw [← HK.out]; rintro e w' ⟨rfl, rfl⟩) | (go_at_call 21; with_reducible refine (R06.byte_any _ _ _ _ _ _ _ _ _).mono ?_; rintro e w' ⟨rfl, o2, rfl⟩) | go_in)
      go_ret
      refine ⟨ret_int ?_, by go_grown⟩
      have e1 : (x / 32 % 2 == 1) = bi x 32 := bi_k x 32 hx0
      have e2 : (x / 8 % 2 == 1) = bi x 8 := bi_k x 8 hx0
      have e3 : (g % 2 == 1) = bi g 1 := bi_1 g hg0
      try rw [e1]
      try rw [e2]
      try rw [e3]
      show _ = ((flagsOf (bi v 128 && (7 : Int) == 7) (!(bi v 128)) (bi x 32) true (bi x 8) (!(bi v 128)) false (bi g 1) : Nat) : Int)
      rw [HB.out]
      rfl
end RTurns
end Go.Proofs.Ytlhbokennnjohaa
