/- A processor's sums of bytes (layer 6): what the reference's functions answer: the same as the program's. No conditions but that bytes are bytes. -/
import Derived.Test.YtibahlpphnokkaaLogic
namespace Go.Proofs.Ytibahlpphnokkaa
open Go.RowKit
open Kit R06 Pop Sums
set_option linter.unusedSimpArgs false
set_option linter.unusedVariables false
namespace RSums
theorem b128 : ∀ s z y h x p n c : Bool, bt (flagsOf s z y h x p n c) 128 = s := by decide
theorem b64 : ∀ s z y h x p n c : Bool, bt (flagsOf s z y h x p n c) 64 = z := by decide
theorem b32 : ∀ s z y h x p n c : Bool, bt (flagsOf s z y h x p n c) 32 = y := by decide
theorem b16 : ∀ s z y h x p n c : Bool, bt (flagsOf s z y h x p n c) 16 = h := by decide
theorem b8 : ∀ s z y h x p n c : Bool, bt (flagsOf s z y h x p n c) 8 = x := by decide
theorem b4 : ∀ s z y h x p n c : Bool, bt (flagsOf s z y h x p n c) 4 = p := by decide
theorem b2 : ∀ s z y h x p n c : Bool, bt (flagsOf s z y h x p n c) 2 = n := by decide
theorem b1 : ∀ s z y h x p n c : Bool, bt (flagsOf s z y h x p n c) 1 = c := by decide
theorem bi_1 (b : Int) (h0 : 0 ≤ b) : (b % 2 == 1) = bi b 1 := by
  obtain ⟨b, rfl⟩ := Int.eq_ofNat_of_zero_le h0
  rw [bi_cast, bt_1]
theorem bi_k (b : Int) (k : Nat) (h0 : 0 ≤ b) : (b / (k : Int) % 2 == 1) = bi b k := by
  obtain ⟨b, rfl⟩ := Int.eq_ofNat_of_zero_le h0
  rw [bi_cast, bt_int]
theorem add8F_bd (a b c : Int) : 0 ≤ add8F a b c ∧ add8F a b c < 256 := fi_lt ..
theorem sub8F_bd (a b c : Int) : 0 ≤ sub8F a b c ∧ sub8F a b c < 256 := fi_lt ..
theorem ret_daa (v g : Nat) (x : Int) (n c : Bool) (hx : x = daaVi v g) (hn : n = bi g 2) (hc : c = (bi g 1 || decide (153 < v))) :
    Ending.returned (.tuple #[.int .u8 x, .int .u8 ((flagsOf (bi x 128) (x == 0) (bi x 32) ((v : Int) / 16 % 2 != x / 16 % 2) (bi x 8) (par x) n c : Nat) : Int)]) = .returned (.tuple #[.int .u8 (daaVi v g), .int .u8 (daaFi v g)]) := by
  subst hx hn hc
  refine ret_int2 rfl ?_
  unfold daaVi daaFi daaF
  simp only [bi_cast, ← beq0, Int.toNat_natCast]
  have e : ((v : Int) / 16 % 2 != ((daaV v (bt g 16) (bt g 1) (bt g 2) : Nat) : Int) / 16 % 2) = xor (bt v 16) (bt (daaV v (bt g 16) (bt g 1) (bt g 2)) 16) := by
    generalize daaV v (bt g 16) (bt g 1) (bt g 2) = u
    unfold bt
    rw [Bool.eq_iff_iff, xor_iff, Nat.beq_eq, Nat.beq_eq, bne_iff_ne]
    omega
  rw [e]
  rfl
theorem ret_daa_val (v g : Nat) (x : Int) (h c n : Bool) (h16 : bi g 16 = h) (h1 : bi g 1 = c) (h2 : bi g 2 = n) (hx : x = (daaV v h c n : Nat)) : x = daaVi v g := by
  subst h16 h1 h2
  exact hx
set_option maxRecDepth 100000 in
theorem inc_any (v g : Int) (hv0 : 0 ≤ v) (hv1 : v < 256) (hg0 : 0 ≤ g) (hg1 : g < 256) (w : World) : Calls Try.prog 33 #[.int .u8 v, .int .u8 g] w fun e w' => e = .returned (.tuple #[.int .u8 ((v + 1) % 256), .int .u8 (incF v g)]) ∧ Below w.heap.size w w' := by
  go_enter Try.func33, Try.ntmps33
  go_wp2_with (first | (go_at_call 13; with_reducible refine (R06.add_any _ _ (by omega) (by omega) (by omega) (by omega) _ _).mono ?_; rintro e w' ⟨rfl, hb⟩) | (go_at_call 43; with_reducible refine (R06.of_any _ (add8F_bd _ _ _).1 (add8F_bd _ _ _).2 _).mono ?_; rintro e w' ⟨rfl, o1, rfl⟩) | (go_at_call 19; with_reducible refine (R06.byte_any _ _ _ _ _ _ _ _  _).mono ?_; rintro e w' ⟨rfl, o3, rfl⟩))
  go_ret2
  refine ⟨ret_int2 ?_ ?_, ?_⟩
  · rw [show c01 false = 0 from rfl, Int.add_zero]
  · rw [bi_1 g hg0]
    unfold add8F incF
    simp only [bi_cast, b128, b64, b32, b16, b8, b4, b2, b1, show c01 false = 0 from rfl, Int.add_zero, show sg8 1 = 1 from by decide, show (1 : Int) % 16 = 1 from by decide]
  · exact below_trans hb (by go_grown)
set_option maxRecDepth 100000 in
theorem dec_any (v g : Int) (hv0 : 0 ≤ v) (hv1 : v < 256) (hg0 : 0 ≤ g) (hg1 : g < 256) (w : World) : Calls Try.prog 34 #[.int .u8 v, .int .u8 g] w fun e w' => e = .returned (.tuple #[.int .u8 ((v - 1) % 256), .int .u8 (decF v g)]) ∧ Below w.heap.size w w' := by
  go_enter Try.func34, Try.ntmps34
  go_wp2_with (first | (go_at_call 15; with_reducible refine (R06.sub_any _ _ (by omega) (by omega) (by omega) (by omega) _ _).mono ?_; rintro e w' ⟨rfl, hb⟩) | (go_at_call 43; with_reducible refine (R06.of_any _ (sub8F_bd _ _ _).1 (sub8F_bd _ _ _).2 _).mono ?_; rintro e w' ⟨rfl, o1, rfl⟩) | (go_at_call 19; with_reducible refine (R06.byte_any _ _ _ _ _ _ _ _  _).mono ?_; rintro e w' ⟨rfl, o3, rfl⟩))
  go_ret2
  refine ⟨ret_int2 ?_ ?_, ?_⟩
  · rw [show c01 false = 0 from rfl, Int.sub_zero]
  · rw [bi_1 g hg0]
    unfold sub8F decF
    simp only [bi_cast, b128, b64, b32, b16, b8, b4, b2, b1, show c01 false = 0 from rfl, Int.sub_zero, show sg8 1 = 1 from by decide, show (1 : Int) % 16 = 1 from by decide]
  · exact below_trans hb (by go_grown)
set_option maxRecDepth 100000 in
theorem cmp_any (a b : Int) (ha0 : 0 ≤ a) (ha1 : a < 256) (hb0 : 0 ≤ b) (hb1 : b < 256) (w : World) : Calls Try.prog 32 #[.int .u8 a, .int .u8 b] w fun e w' => e = .returned (.int .u8 (cmpF a b)) ∧ Below w.heap.size w w' := by
  go_enter Try.func32, Try.ntmps32
  go_wp2_with (first | (go_at_call 15; with_reducible refine (R06.sub_any _ _ (by omega) (by omega) (by omega) (by omega) _ _).mono ?_; rintro e w' ⟨rfl, hb⟩) | (go_at_call 43; with_reducible refine (R06.of_any _ (sub8F_bd _ _ _).1 (sub8F_bd _ _ _).2 _).mono ?_; rintro e w' ⟨rfl, o1, rfl⟩) | (go_at_call 19; with_reducible refine (R06.byte_any _ _ _ _ _ _ _ _  _).mono ?_; rintro e w' ⟨rfl, o3, rfl⟩))
  go_ret
  refine ⟨ret_int ?_, below_trans hb (by go_grown)⟩
  rw [show (b / 32 % 2 == 1) = bi b 32 from bi_k b 32 hb0, show (b / 8 % 2 == 1) = bi b 8 from bi_k b 8 hb0]
  unfold sub8F cmpF
  simp only [bi_cast, b128, b64, b32, b16, b8, b4, b2, b1, show c01 false = 0 from rfl, Int.sub_zero]
theorem log_and (a b : Int) (ha0 : 0 ≤ a) (ha1 : a < 256) (hb0 : 0 ≤ b) (hb1 : b < 256) (w : World) : Calls Try.prog 31 #[.int .i64 4, .int .u8 a, .int .u8 b] w fun e w' =>
    e = .returned (.tuple #[.int .u8 (Go.bits .and .u8 a b), .int .u8 (Sums.lgF (Go.bits .and .u8 a b) true)]) ∧ Below w.heap.size w w' := by
  obtain ⟨a, rfl⟩ := Int.eq_ofNat_of_zero_le ha0
  obtain ⟨b, rfl⟩ := Int.eq_ofNat_of_zero_le hb0
  rw [and8, Nat.mod_eq_of_lt (show a < 256 by omega), Nat.mod_eq_of_lt (show b < 256 by omega)]
  exact Logic.and_any a b (by omega) (by omega) w
theorem log_xor (a b : Int) (ha0 : 0 ≤ a) (ha1 : a < 256) (hb0 : 0 ≤ b) (hb1 : b < 256) (w : World) : Calls Try.prog 31 #[.int .i64 5, .int .u8 a, .int .u8 b] w fun e w' =>
    e = .returned (.tuple #[.int .u8 (Go.bits .xor .u8 a b), .int .u8 (Sums.lgF (Go.bits .xor .u8 a b) false)]) ∧ Below w.heap.size w w' := by
  obtain ⟨a, rfl⟩ := Int.eq_ofNat_of_zero_le ha0
  obtain ⟨b, rfl⟩ := Int.eq_ofNat_of_zero_le hb0
  rw [xor8, Nat.mod_eq_of_lt (show a < 256 by omega), Nat.mod_eq_of_lt (show b < 256 by omega)]
  exact Logic.xor_any a b (by omega) (by omega) w
theorem log_or (a b : Int) (ha0 : 0 ≤ a) (ha1 : a < 256) (hb0 : 0 ≤ b) (hb1 : b < 256) (w : World) : Calls Try.prog 31 #[.int .i64 6, .int .u8 a, .int .u8 b] w fun e w' =>
    e = .returned (.tuple #[.int .u8 (Go.bits .or .u8 a b), .int .u8 (Sums.lgF (Go.bits .or .u8 a b) false)]) ∧ Below w.heap.size w w' := by
  obtain ⟨a, rfl⟩ := Int.eq_ofNat_of_zero_le ha0
  obtain ⟨b, rfl⟩ := Int.eq_ofNat_of_zero_le hb0
  rw [or8, Nat.mod_eq_of_lt (show a < 256 by omega), Nat.mod_eq_of_lt (show b < 256 by omega)]
  exact Logic.or_any a b (by omega) (by omega) w
set_option maxRecDepth 100000 in
set_option maxHeartbeats 2000000 in
theorem do_any (o a b g : Int) (ha0 : 0 ≤ a) (ha1 : a < 256) (hb0 : 0 ≤ b) (hb1 : b < 256) (hg0 : 0 ≤ g) (hg1 : g < 256) (w : World) : Calls Try.prog 30 #[.int .i64 o, .int .u8 a, .int .u8 b, .int .u8 g] w fun e w' => e = .returned (.tuple #[.int .u8 (doV (o % 8) a b g), .int .u8 (doF (o % 8) a b g)]) ∧ Below w.heap.size w w' := by
  obtain ⟨k, hk⟩ : ∃ k, k = o % 8 := ⟨_, rfl⟩
  have hc : k = 0 ∨ k = 1 ∨ k = 2 ∨ k = 3 ∨ k = 4 ∨ k = 5 ∨ k = 6 ∨ k = 7 := by omega
  have ht : o.tmod 8 = k ∨ o.tmod 8 = k - 8 := by rcases tmod_cases o 8 (by decide) with h | h <;> omega
  have ht2 : o.tmod 8 < 8 := by rcases tmod_cases o 8 (by decide) with h | h <;> omega
  have hg := bi_1 g hg0
  rw [← hk]
  clear hk
  rcases hc with rfl | rfl | rfl | rfl | rfl | rfl | rfl | rfl
  · rcases ht with ht | ht
    all_goals
      go_enter Try.func30, Try.ntmps30
      go_wp2_with (go_at_call 13; with_reducible refine (R06.add_any _ _ ha0 ha1 hb0 hb1 _ _).mono ?_; rintro e w' ⟨rfl, hb⟩)
      go_ret2
      refine ⟨ret_int2 ?_ ?_, hb⟩
      · unfold doV; simp [show c01 false = 0 from rfl]
      · unfold doF; simp [show c01 false = 0 from rfl]
  · rcases ht with ht | ht
    all_goals
      go_enter Try.func30, Try.ntmps30
      go_wp2_with (go_at_call 13; with_reducible refine (R06.add_any _ _ ha0 ha1 hb0 hb1 _ _).mono ?_; rintro e w' ⟨rfl, hb⟩)
      go_ret2
      refine ⟨ret_int2 ?_ ?_, hb⟩
      · unfold doV; simp [show c01 false = 0 from rfl]
      · unfold doF; simp [show c01 false = 0 from rfl]
  · rcases ht with ht | ht
    all_goals
      go_enter Try.func30, Try.ntmps30
      go_wp2_with (go_at_call 15; with_reducible refine (R06.sub_any _ _ ha0 ha1 hb0 hb1 _ _).mono ?_; rintro e w' ⟨rfl, hb⟩)
      go_ret2
      refine ⟨ret_int2 ?_ ?_, hb⟩
      · unfold doV; simp [show c01 false = 0 from rfl]
      · unfold doF; simp [show c01 false = 0 from rfl]
  · rcases ht with ht | ht
    all_goals
      go_enter Try.func30, Try.ntmps30
      go_wp2_with (go_at_call 15; with_reducible refine (R06.sub_any _ _ ha0 ha1 hb0 hb1 _ _).mono ?_; rintro e w' ⟨rfl, hb⟩)
      go_ret2
      refine ⟨ret_int2 ?_ ?_, hb⟩
      · unfold doV; simp [show c01 false = 0 from rfl]
      · unfold doF; simp [show c01 false = 0 from rfl]
  · rcases ht with ht | ht
    all_goals
      go_enter Try.func30, Try.ntmps30
      go_wp2_with (go_at_call 31; with_reducible refine (log_and _ _ (by omega) (by omega) (by omega) (by omega) _).mono ?_; rintro e w' ⟨rfl, hb⟩)
      go_ret2
      refine ⟨ret_int2 ?_ ?_, hb⟩
      · unfold doV; simp [show c01 false = 0 from rfl]
      · unfold doF; simp [show c01 false = 0 from rfl]
  · rcases ht with ht | ht
    all_goals
      go_enter Try.func30, Try.ntmps30
      go_wp2_with (go_at_call 31; with_reducible refine (log_xor _ _ (by omega) (by omega) (by omega) (by omega) _).mono ?_; rintro e w' ⟨rfl, hb⟩)
      go_ret2
      refine ⟨ret_int2 ?_ ?_, hb⟩
      · unfold doV; simp [show c01 false = 0 from rfl]
      · unfold doF; simp [show c01 false = 0 from rfl]
  · rcases ht with ht | ht
    all_goals
      go_enter Try.func30, Try.ntmps30
      go_wp2_with (go_at_call 31; with_reducible refine (log_or _ _ (by omega) (by omega) (by omega) (by omega) _).mono ?_; rintro e w' ⟨rfl, hb⟩)
      go_ret2
      refine ⟨ret_int2 ?_ ?_, hb⟩
      · unfold doV; simp [show c01 false = 0 from rfl]
      · unfold doF; simp [show c01 false = 0 from rfl]
  · rcases ht with ht | ht
    all_goals
      go_enter Try.func30, Try.ntmps30
      go_wp2_with (go_at_call 32; with_reducible refine (cmp_any _ _ ha0 ha1 hb0 hb1 _).mono ?_; rintro e w' ⟨rfl, hb⟩)
      go_ret2
      refine ⟨ret_int2 ?_ ?_, hb⟩
      · unfold doV; simp [show c01 false = 0 from rfl]
      · unfold doF; simp [show c01 false = 0 from rfl]
set_option maxRecDepth 100000 in
set_option maxHeartbeats 2000000 in
theorem daa_any (v g : Int) (hv0 : 0 ≤ v) (hv1 : v < 256) (hg0 : 0 ≤ g) (hg1 : g < 256) (w : World) : Calls Try.prog 35 #[.int .u8 v, .int .u8 g] w fun e w' => e = .returned (.tuple #[.int .u8 (daaVi v g), .int .u8 (daaFi v g)]) ∧ Below w.heap.size w w' := by
  obtain ⟨v, rfl⟩ := Int.eq_ofNat_of_zero_le hv0
  obtain ⟨g, rfl⟩ := Int.eq_ofNat_of_zero_le hg0
  have hv : v < 256 := by omega
  have hg : g < 256 := by omega
  clear hv0 hv1
  cases h16 : bi (g : Int) 16
  all_goals
    cases h1 : bi (g : Int) 1
    all_goals
      cases h2 : bi (g : Int) 2
      all_goals
        go_enter Try.func35, Try.ntmps35
        go_wp2_with (first | (go_at_call 43; with_reducible refine (R06.of_any _ (by omega) (by omega) _).mono ?_; rintro e w' ⟨rfl, o1, rfl⟩) | (go_at_call 20; with_reducible refine (R06.shape_any _ (by omega) (by omega) _).mono ?_; rintro e w' ⟨rfl, o2, rfl⟩) | (go_at_call 17; with_reducible refine (rparity_any _ (by omega) (by omega) _).mono ?_; rintro e w' ⟨rfl, rfl⟩) | (go_at_call 19; with_reducible refine (R06.byte_any _ _ _ _ _ _ _ _  _).mono ?_; rintro e w' ⟨rfl, o3, rfl⟩))
        all_goals
          go_ret2
          refine ⟨ret_daa v g _ _ _ (ret_daa_val v g _ _ _ _ h16 h1 h2 ?_) h2.symm ?_, by go_grown⟩
          · unfold daaV mend
            simp only [cond_true, cond_false, Bool.false_or, Bool.true_or, Bool.cond_decide]
            repeat' split
            all_goals omega
          · rw [h1]
            first
            | rfl
            | (rw [Bool.false_or, Bool.eq_iff_iff, decide_eq_true_eq]; simp only [true_iff, false_iff, Bool.false_eq_true]; omega)
set_option maxRecDepth 100000 in
set_option maxHeartbeats 2000000 in
theorem flip_any (o v g : Int) (hv0 : 0 ≤ v) (hv1 : v < 256) (hg0 : 0 ≤ g) (hg1 : g < 256) (w : World) : Calls Try.prog 36 #[.int .i64 o, .int .u8 v, .int .u8 g] w fun e w' => e = .returned (.tuple #[.int .u8 (flV o v), .int .u8 (flF o v g)]) ∧ Below w.heap.size w w' := by
  by_cases h0 : o = 0
  · subst h0
    go_enter Try.func36, Try.ntmps36
    go_wp2_with (first | (go_at_call 43; with_reducible refine (R06.of_any _ (by omega) (by omega) _).mono ?_; rintro e w' ⟨rfl, o1, rfl⟩) | (go_at_call 19; with_reducible refine (R06.byte_any _ _ _ _ _ _ _ _  _).mono ?_; rintro e w' ⟨rfl, o3, rfl⟩))
    go_ret2
    refine ⟨ret_int2 ?_ ?_, by go_grown⟩
    · unfold flV; rw [if_pos rfl]
    · unfold flF
      rw [if_pos rfl, show ((255 - v) / 32 % 2 == 1) = bi (255 - v) 32 from bi_k _ 32 (by omega), show ((255 - v) / 8 % 2 == 1) = bi (255 - v) 8 from bi_k _ 8 (by omega)]
  · by_cases h1 : o = 1
    · subst h1
      go_enter Try.func36, Try.ntmps36
      go_wp2_with (first | (go_at_call 43; with_reducible refine (R06.of_any _ (by omega) (by omega) _).mono ?_; rintro e w' ⟨rfl, o1, rfl⟩) | (go_at_call 19; with_reducible refine (R06.byte_any _ _ _ _ _ _ _ _  _).mono ?_; rintro e w' ⟨rfl, o3, rfl⟩))
      go_ret2
      refine ⟨ret_int2 ?_ ?_, by go_grown⟩
      · unfold flV; rw [if_neg (by decide)]
      · unfold flF
        rw [if_neg (by decide), if_pos rfl, show (v / 32 % 2 == 1) = bi v 32 from bi_k _ 32 hv0, show (v / 8 % 2 == 1) = bi v 8 from bi_k _ 8 hv0]
    · by_cases h2 : o = 2
      · subst h2
        go_enter Try.func36, Try.ntmps36
        go_wp2_with (first | (go_at_call 43; with_reducible refine (R06.of_any _ (by omega) (by omega) _).mono ?_; rintro e w' ⟨rfl, o1, rfl⟩) | (go_at_call 19; with_reducible refine (R06.byte_any _ _ _ _ _ _ _ _  _).mono ?_; rintro e w' ⟨rfl, o3, rfl⟩))
        go_ret2
        refine ⟨ret_int2 ?_ ?_, by go_grown⟩
        · unfold flV; rw [if_neg (by decide)]
        · unfold flF
          rw [if_neg (by decide), if_neg (by decide), if_pos rfl, show (v / 32 % 2 == 1) = bi v 32 from bi_k _ 32 hv0, show (v / 8 % 2 == 1) = bi v 8 from bi_k _ 8 hv0]
      · have e0 : (o == 0) = false := beq_eq_false_iff_ne.2 h0
        have e1 : (o == 1) = false := beq_eq_false_iff_ne.2 h1
        have e2 : (o == 2) = false := beq_eq_false_iff_ne.2 h2
        have K0 := Lib.hid h0
        have K1 := Lib.hid h1
        have K2 := Lib.hid h2
        clear h0 h1 h2
        go_enter Try.func36, Try.ntmps36
        go_wp2_with (first | (go_at_call 43; with_reducible refine (R06.of_any _ (by omega) (by omega) _).mono ?_; rintro e w' ⟨rfl, o1, rfl⟩) | (go_at_call 19; with_reducible refine (R06.byte_any _ _ _ _ _ _ _ _  _).mono ?_; rintro e w' ⟨rfl, o3, rfl⟩))
        go_ret2
        refine ⟨ret_int2 ?_ ?_, by go_grown⟩
        · unfold flV; rw [if_neg K0.out]
        · unfold flF; rw [if_neg K0.out, if_neg K1.out, if_neg K2.out]
end RSums
end Go.Proofs.Ytibahlpphnokkaa
