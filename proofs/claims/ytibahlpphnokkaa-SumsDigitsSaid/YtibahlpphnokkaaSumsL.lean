/- The walks of the statements on sums of bytes (layer 6): each returns true for every input. No conditions but that numbers are of their kinds. -/
import Derived.Test.YtibahlpphnokkaaRSums
import Derived.Deep.RegionHeld3
import Derived.Deep.RegionHeld3
import Derived.Deep.RegionHeld3
import Derived.Deep.RegionHeld3
import Derived.Deep.RegionHeld3
import Derived.Deep.RegionHeld3
import Derived.Deep.RegionHeld3
import Derived.Deep.RegionHeld3
import Derived.Deep.RegionHeld3
import Derived.Deep.RegionHeld3
import Derived.Deep.RegionHeld3
namespace Go.Proofs.Ytibahlpphnokkaa
open Go.RowKit
open Kit R06 Pop Sums
set_option linter.unusedSimpArgs false
set_option linter.unusedVariables false
theorem alive_any (w : World) : Calls Try.prog 11 #[] w fun e w' => e = .returned (.bool true) ∧ w = w' := by
  have e1 : add8F 127 1 (c01 false) = 148 := by decide +kernel
  have e2 : c01 false = 0 := rfl
  go_enter Try.func11, Try.ntmps11
  go_wp2_with (go_at_call 12; with_reducible refine (Sums.add_any _ _ _ (by omega) (by omega) (by omega) (by omega) _).mono ?_; rintro e w' ⟨rfl, rfl⟩)
  go_ret
  exact ⟨ret_bool (by simp [show add8F 127 1 0 = 148 from by decide +kernel]), rfl⟩
theorem add_to (a b : Int) (c : Bool) (x y : Int) (ha0 : 0 ≤ a) (ha1 : a < 256) (hb0 : 0 ≤ b) (hb1 : b < 256) (hx : (a + b + c01 c) % 256 = x) (hy : add8F a b (c01 c) = y) (w : World) : Calls Try.prog 12 #[.int .u8 a, .int .u8 b, .bool c] w fun e w' => e = .returned (.tuple #[.int .u8 x, .int .u8 y]) ∧ w = w' := by
  subst hx hy
  exact Sums.add_any a b c ha0 ha1 hb0 hb1 w
theorem sub_to (a b : Int) (c : Bool) (x y : Int) (ha0 : 0 ≤ a) (ha1 : a < 256) (hb0 : 0 ≤ b) (hb1 : b < 256) (hx : (a - b - c01 c) % 256 = x) (hy : sub8F a b (c01 c) = y) (w : World) : Calls Try.prog 14 #[.int .u8 a, .int .u8 b, .bool c] w fun e w' => e = .returned (.tuple #[.int .u8 x, .int .u8 y]) ∧ w = w' := by
  subst hx hy
  exact Sums.sub_any a b c ha0 ha1 hb0 hb1 w
theorem inc_to (v g : Int) (x y : Int) (hv0 : 0 ≤ v) (hv1 : v < 256) (hg0 : 0 ≤ g) (hg1 : g < 256) (hx : (v + 1) % 256 = x) (hy : incF v g = y) (w : World) : Calls Try.prog 26 #[.int .u8 v, .int .u8 g] w fun e w' => e = .returned (.tuple #[.int .u8 x, .int .u8 y]) ∧ w = w' := by
  subst hx hy
  exact Sums.inc_any v g hv0 hv1 hg0 hg1 w
theorem dec_to (v g : Int) (x y : Int) (hv0 : 0 ≤ v) (hv1 : v < 256) (hg0 : 0 ≤ g) (hg1 : g < 256) (hx : (v - 1) % 256 = x) (hy : decF v g = y) (w : World) : Calls Try.prog 27 #[.int .u8 v, .int .u8 g] w fun e w' => e = .returned (.tuple #[.int .u8 x, .int .u8 y]) ∧ w = w' := by
  subst hx hy
  exact Sums.dec_any v g hv0 hv1 hg0 hg1 w
theorem daa_to (v g : Int) (x y : Int) (hv0 : 0 ≤ v) (hv1 : v < 256) (hg0 : 0 ≤ g) (hg1 : g < 256) (hx : daaVi v g = x) (hy : daaFi v g = y) (w : World) : Calls Try.prog 25 #[.int .u8 v, .int .u8 g] w fun e w' => e = .returned (.tuple #[.int .u8 x, .int .u8 y]) ∧ w = w' := by
  subst hx hy
  exact Sums.daa_any v g hv0 hv1 hg0 hg1 w
theorem flip_to (o v g : Int) (x y : Int) (hv0 : 0 ≤ v) (hv1 : v < 256) (hg0 : 0 ≤ g) (hg1 : g < 256) (hx : flV o v = x) (hy : flF o v g = y) (w : World) : Calls Try.prog 28 #[.int .i64 o, .int .u8 v, .int .u8 g] w fun e w' => e = .returned (.tuple #[.int .u8 x, .int .u8 y]) ∧ w = w' := by
  subst hx hy
  exact Sums.flip_any o v g hv0 hv1 hg0 hg1 w
theorem do_to (o a b g : Int) (x y : Int) (ha0 : 0 ≤ a) (ha1 : a < 256) (hb0 : 0 ≤ b) (hb1 : b < 256) (hg0 : 0 ≤ g) (hg1 : g < 256) (hx : doV (o % 8) a b g = x) (hy : doF (o % 8) a b g = y) (w : World) : Calls Try.prog 29 #[.int .i64 o, .int .u8 a, .int .u8 b, .int .u8 g] w fun e w' => e = .returned (.tuple #[.int .u8 x, .int .u8 y]) ∧ w = w' := by
  subst hx hy
  exact Sums.do_any o a b g ha0 ha1 hb0 hb1 hg0 hg1 w
theorem rinc_to (v g : Int) (x y : Int) (hv0 : 0 ≤ v) (hv1 : v < 256) (hg0 : 0 ≤ g) (hg1 : g < 256) (hx : (v + 1) % 256 = x) (hy : incF v g = y) (w : World) : Calls Try.prog 33 #[.int .u8 v, .int .u8 g] w fun e w' => e = .returned (.tuple #[.int .u8 x, .int .u8 y]) ∧ Below w.heap.size w w' := by
  subst hx hy
  exact RSums.inc_any v g hv0 hv1 hg0 hg1 w
theorem rdec_to (v g : Int) (x y : Int) (hv0 : 0 ≤ v) (hv1 : v < 256) (hg0 : 0 ≤ g) (hg1 : g < 256) (hx : (v - 1) % 256 = x) (hy : decF v g = y) (w : World) : Calls Try.prog 34 #[.int .u8 v, .int .u8 g] w fun e w' => e = .returned (.tuple #[.int .u8 x, .int .u8 y]) ∧ Below w.heap.size w w' := by
  subst hx hy
  exact RSums.dec_any v g hv0 hv1 hg0 hg1 w
theorem rdaa_to (v g : Int) (x y : Int) (hv0 : 0 ≤ v) (hv1 : v < 256) (hg0 : 0 ≤ g) (hg1 : g < 256) (hx : daaVi v g = x) (hy : daaFi v g = y) (w : World) : Calls Try.prog 35 #[.int .u8 v, .int .u8 g] w fun e w' => e = .returned (.tuple #[.int .u8 x, .int .u8 y]) ∧ Below w.heap.size w w' := by
  subst hx hy
  exact RSums.daa_any v g hv0 hv1 hg0 hg1 w
theorem rflip_to (o v g : Int) (x y : Int) (hv0 : 0 ≤ v) (hv1 : v < 256) (hg0 : 0 ≤ g) (hg1 : g < 256) (hx : flV o v = x) (hy : flF o v g = y) (w : World) : Calls Try.prog 36 #[.int .i64 o, .int .u8 v, .int .u8 g] w fun e w' => e = .returned (.tuple #[.int .u8 x, .int .u8 y]) ∧ Below w.heap.size w w' := by
  subst hx hy
  exact RSums.flip_any o v g hv0 hv1 hg0 hg1 w
theorem rdo_to (o a b g : Int) (x y : Int) (ha0 : 0 ≤ a) (ha1 : a < 256) (hb0 : 0 ≤ b) (hb1 : b < 256) (hg0 : 0 ≤ g) (hg1 : g < 256) (hx : doV (o % 8) a b g = x) (hy : doF (o % 8) a b g = y) (w : World) : Calls Try.prog 30 #[.int .i64 o, .int .u8 a, .int .u8 b, .int .u8 g] w fun e w' => e = .returned (.tuple #[.int .u8 x, .int .u8 y]) ∧ Below w.heap.size w w' := by
  subst hx hy
  exact RSums.do_any o a b g ha0 ha1 hb0 hb1 hg0 hg1 w
theorem and_to (a b : Int) (x y : Int) (ha0 : 0 ≤ a) (ha1 : a < 256) (hb0 : 0 ≤ b) (hb1 : b < 256) (hx : Go.bits .and .u8 a b = x) (hy : lgF (Go.bits .and .u8 a b) true = y) (w : World) : Calls Try.prog 22 #[.int .u8 a, .int .u8 b] w fun e w' => e = .returned (.tuple #[.int .u8 x, .int .u8 y]) ∧ w = w' := by
  subst hx hy
  exact Sums.and_any a b ha0 ha1 hb0 hb1 w
theorem rand_to (a b : Int) (x y : Int) (ha0 : 0 ≤ a) (ha1 : a < 256) (hb0 : 0 ≤ b) (hb1 : b < 256) (hx : Go.bits .and .u8 a b = x) (hy : lgF (Go.bits .and .u8 a b) true = y) (w : World) : Calls Try.prog 31 #[.int .i64 4, .int .u8 a, .int .u8 b] w fun e w' => e = .returned (.tuple #[.int .u8 x, .int .u8 y]) ∧ Below w.heap.size w w' := by
  subst hx hy
  exact RSums.log_and a b ha0 ha1 hb0 hb1 w
theorem xor_to (a b : Int) (x y : Int) (ha0 : 0 ≤ a) (ha1 : a < 256) (hb0 : 0 ≤ b) (hb1 : b < 256) (hx : Go.bits .xor .u8 a b = x) (hy : lgF (Go.bits .xor .u8 a b) false = y) (w : World) : Calls Try.prog 24 #[.int .u8 a, .int .u8 b] w fun e w' => e = .returned (.tuple #[.int .u8 x, .int .u8 y]) ∧ w = w' := by
  subst hx hy
  exact Sums.xor_any a b ha0 ha1 hb0 hb1 w
theorem rxor_to (a b : Int) (x y : Int) (ha0 : 0 ≤ a) (ha1 : a < 256) (hb0 : 0 ≤ b) (hb1 : b < 256) (hx : Go.bits .xor .u8 a b = x) (hy : lgF (Go.bits .xor .u8 a b) false = y) (w : World) : Calls Try.prog 31 #[.int .i64 5, .int .u8 a, .int .u8 b] w fun e w' => e = .returned (.tuple #[.int .u8 x, .int .u8 y]) ∧ Below w.heap.size w w' := by
  subst hx hy
  exact RSums.log_xor a b ha0 ha1 hb0 hb1 w
theorem or_to (a b : Int) (x y : Int) (ha0 : 0 ≤ a) (ha1 : a < 256) (hb0 : 0 ≤ b) (hb1 : b < 256) (hx : Go.bits .or .u8 a b = x) (hy : lgF (Go.bits .or .u8 a b) false = y) (w : World) : Calls Try.prog 23 #[.int .u8 a, .int .u8 b] w fun e w' => e = .returned (.tuple #[.int .u8 x, .int .u8 y]) ∧ w = w' := by
  subst hx hy
  exact Sums.or_any a b ha0 ha1 hb0 hb1 w
theorem ror_to (a b : Int) (x y : Int) (ha0 : 0 ≤ a) (ha1 : a < 256) (hb0 : 0 ≤ b) (hb1 : b < 256) (hx : Go.bits .or .u8 a b = x) (hy : lgF (Go.bits .or .u8 a b) false = y) (w : World) : Calls Try.prog 31 #[.int .i64 6, .int .u8 a, .int .u8 b] w fun e w' => e = .returned (.tuple #[.int .u8 x, .int .u8 y]) ∧ Below w.heap.size w w' := by
  subst hx hy
  exact RSums.log_or a b ha0 ha1 hb0 hb1 w
theorem cmp_to (a b : Int) (x : Int) (ha0 : 0 ≤ a) (ha1 : a < 256) (hb0 : 0 ≤ b) (hb1 : b < 256) (hx : cmpF a b = x) (w : World) : Calls Try.prog 21 #[.int .u8 a, .int .u8 b] w fun e w' => e = .returned (.int .u8 x) ∧ w = w' := by
  subst hx
  exact Sums.cmp_any a b ha0 ha1 hb0 hb1 w
theorem rcmp_to (a b : Int) (x : Int) (ha0 : 0 ≤ a) (ha1 : a < 256) (hb0 : 0 ≤ b) (hb1 : b < 256) (hx : cmpF a b = x) (w : World) : Calls Try.prog 32 #[.int .u8 a, .int .u8 b] w fun e w' => e = .returned (.int .u8 x) ∧ Below w.heap.size w w' := by
  subst hx
  exact RSums.cmp_any a b ha0 ha1 hb0 hb1 w
theorem rcmp_held (w0 : World) (a b x : Int) (ha0 : 0 ≤ a) (ha1 : a < 256) (hb0 : 0 ≤ b) (hb1 : b < 256) (hx : cmpF a b = x) (w : World) (h0 : w.cell? ⟨w0.heap.size, 0, none⟩ = some (.int .u8 a)) (h1 : w.cell? ⟨w0.heap.size, 1, none⟩ = some (.int .u8 b)) (hB : Below w0.heap.size w0 w) :
    Calls Try.prog 32 #[.int .u8 a, .int .u8 b] w fun e w' => e = .returned (.int .u8 x) ∧ w'.cell? ⟨w0.heap.size, 0, none⟩ = some (.int .u8 a) ∧ w'.cell? ⟨w0.heap.size, 1, none⟩ = some (.int .u8 b) ∧ Below w0.heap.size w0 w' := by
  refine (rcmp_to a b x ha0 ha1 hb0 hb1 hx w).mono ?_
  rintro e w' ⟨rfl, hb⟩
  have hlt : w0.heap.size < w.heap.size := by
    rcases Nat.lt_or_ge w0.heap.size w.heap.size with h | h
    · exact h
    · have : w.heap[w0.heap.size]? = none := Array.getElem?_eq_none h
      simp [World.cell?, this] at h0
  exact ⟨rfl, (hb.cell (p := ⟨w0.heap.size, 0, none⟩) hlt).trans h0, (hb.cell (p := ⟨w0.heap.size, 1, none⟩) hlt).trans h1, hB.trans (hb.mono hB.size)⟩
theorem bcell {W w1 : World} (hb : Below W.heap.size W w1) : (∀ b o, b < W.heap.size → w1.cell? ⟨b, o, none⟩ = W.cell? ⟨b, o, none⟩) ∧ (∀ b o, b < W.heap.size → w1.frozen? ⟨b, o, none⟩ = W.frozen? ⟨b, o, none⟩) :=
  ⟨fun b o h => hb.cell (p := ⟨b, o, none⟩) h, fun b o h => hb.frozen (p := ⟨b, o, none⟩) h⟩
set_option maxRecDepth 100000 in
set_option maxHeartbeats 2000000 in
theorem sumsNames_walk   (w : World) :
    Calls Try.prog 5 #[] w fun e w' => e = .returned (.bool true) ∧ Below w.heap.size w w' := by
  have e1 : sub8F 0 1 (c01 false) = 187 := by decide +kernel
  have e2 : lgF (Go.bits .and .u8 240 15) true = 84 := by decide +kernel
  have e3 : Go.bits .and .u8 240 15 = 0 := by decide +kernel
  have e4 : lgF 0 true = 84 := by decide +kernel
  have e5 : cmpF 0 40 = 187 := by decide +kernel
  have e6 : shF 0 = 64 := by decide +kernel
  have e7 : sub8F 0 1 0 = 187 := by decide +kernel
  have e8 : c01 false = 0 := rfl
  go_enter Try.func5, Try.ntmps5
  go_wp2_with (first | (go_at_call 11; with_reducible refine (alive_any _).mono ?_; rintro e w' ⟨rfl, rfl⟩) | (go_at_call 14; with_reducible refine (Sums.sub_any _ _ _ (by omega) (by omega) (by omega) (by omega) _).mono ?_; rintro e w' ⟨rfl, rfl⟩) | (go_at_call 22; with_reducible refine (Sums.and_any _ _ (by omega) (by omega) (by omega) (by omega) _).mono ?_; rintro e w' ⟨rfl, rfl⟩) | (go_at_call 21; with_reducible refine (Sums.cmp_any _ _ (by omega) (by omega) (by omega) (by omega) _).mono ?_; rintro e w' ⟨rfl, rfl⟩) | (go_at_call 18; with_reducible refine (Sums.shape_any _ (by omega) (by omega) _).mono ?_; rintro e w' ⟨rfl, rfl⟩))
  go_ret
  exact ⟨ret_bool (by simp), Below.refl _ _⟩
set_option maxRecDepth 100000 in
set_option maxHeartbeats 2000000 in
theorem sumsAdd_walk (a0 : Int) (a1 : Int) (a2 : Bool) (wa0 : (Lit.int .u8 a0).wf = true) (wa1 : (Lit.int .u8 a1).wf = true) (w : World) :
    Calls Try.prog 3 #[.int .u8 a0, .int .u8 a1, .bool a2] w fun e w' => e = .returned (.bool true) ∧ Below w.heap.size w w' := by
  obtain ⟨ha00, ha01⟩ := u8_bd wa0
  obtain ⟨ha10, ha11⟩ := u8_bd wa1
  clear wa0 wa1
  go_enter Try.func3, Try.ntmps3
  go_wp2_with (first | (go_at_call 11; with_reducible refine (alive_any _).mono ?_; rintro e w' ⟨rfl, rfl⟩) | (go_at_call 12; with_reducible refine (Sums.add_any _ _ _ (by omega) (by omega) (by omega) (by omega) _).mono ?_; rintro e w' ⟨rfl, rfl⟩) | (go_at_call 14; with_reducible refine (Sums.sub_any _ _ _ (by omega) (by omega) (by omega) (by omega) _).mono ?_; rintro e w' ⟨rfl, rfl⟩) | (go_at_call 16; with_reducible refine (Pop.parity_any _ (by omega) (by omega) _).mono ?_; rintro e w' ⟨rfl, rfl⟩) | (go_at_call 18; with_reducible refine (Sums.shape_any _ (by omega) (by omega) _).mono ?_; rintro e w' ⟨rfl, rfl⟩) | (go_at_call 13; with_reducible refine (R06.add_any _ _ (by omega) (by omega) (by omega) (by omega) _ _).mono ?_; rintro e w1 ⟨rfl, hb1⟩) | (go_at_call 15; with_reducible refine (R06.sub_any _ _ (by omega) (by omega) (by omega) (by omega) _ _).mono ?_; rintro e w2 ⟨rfl, hb2⟩) | (go_at_call 17; with_reducible refine (rparity_any _ (by omega) (by omega) _).mono ?_; rintro e w' ⟨rfl, rfl⟩) | (go_at_call 20; with_reducible refine (R06.shape_any _ (by omega) (by omega) _).mono ?_; rintro e w' ⟨rfl, o1, rfl⟩) | (go_at_call 19; with_reducible refine (R06.byte_any _ _ _ _ _ _ _ _ _).mono ?_; rw [show ((flagsOf (bi a0 128) (a0 == 0) (bi a0 32) false (bi a0 8) false false false : Nat) : Int) = shF a0 from rfl]; rintro e w' ⟨rfl, o2, rfl⟩))
  go_ret
  exact ⟨ret_bool (by simp), below_trans hb1 (below_trans hb2 (by go_grown))⟩
set_option maxRecDepth 100000 in
set_option maxHeartbeats 2000000 in
theorem sumsOne_walk (a0 : Int) (a1 : Int) (a2 : Int) (wa0 : (Lit.int .i64 a0).wf = true) (wa1 : (Lit.int .u8 a1).wf = true) (wa2 : (Lit.int .u8 a2).wf = true) (w : World) :
    Calls Try.prog 10 #[.int .i64 a0, .int .u8 a1, .int .u8 a2] w fun e w' => e = .returned (.bool true) ∧ Below w.heap.size w w' := by
  obtain ⟨ha10, ha11⟩ := u8_bd wa1
  obtain ⟨ha20, ha21⟩ := u8_bd wa2
  clear wa1 wa2
  clear wa0
  obtain ⟨p, hp⟩ : ∃ p, (a1 + 1) % 256 = p := ⟨_, rfl⟩
  have Hp := Lib.hid hp
  clear hp
  obtain ⟨q, hq⟩ : ∃ q, incF a1 a2 = q := ⟨_, rfl⟩
  have Hq := Lib.hid hq
  clear hq
  obtain ⟨r, hr⟩ : ∃ r, (a1 - 1) % 256 = r := ⟨_, rfl⟩
  have Hr := Lib.hid hr
  clear hr
  obtain ⟨s, hs⟩ : ∃ s, decF a1 a2 = s := ⟨_, rfl⟩
  have Hs := Lib.hid hs
  clear hs
  obtain ⟨t, ht⟩ : ∃ t, daaVi a1 a2 = t := ⟨_, rfl⟩
  have Ht := Lib.hid ht
  clear ht
  obtain ⟨u, hu⟩ : ∃ u, daaFi a1 a2 = u := ⟨_, rfl⟩
  have Hu := Lib.hid hu
  clear hu
  obtain ⟨x, hx⟩ : ∃ x, flV a0 a1 = x := ⟨_, rfl⟩
  have Hx := Lib.hid hx
  clear hx
  obtain ⟨y, hy⟩ : ∃ y, flF a0 a1 a2 = y := ⟨_, rfl⟩
  have Hy := Lib.hid hy
  clear hy
  go_enter Try.func10, Try.ntmps10
  go_wp2_with (first | (go_at_call 11; with_reducible refine (alive_any _).mono ?_; rintro e w' ⟨rfl, rfl⟩) | (go_at_call 26; with_reducible refine (inc_to _ _ _ _ ha10 ha11 ha20 ha21 Hp.out Hq.out _).mono ?_; rintro e w' ⟨rfl, rfl⟩) | (go_at_call 27; with_reducible refine (dec_to _ _ _ _ ha10 ha11 ha20 ha21 Hr.out Hs.out _).mono ?_; rintro e w' ⟨rfl, rfl⟩) | (go_at_call 25; with_reducible refine (daa_to _ _ _ _ ha10 ha11 ha20 ha21 Ht.out Hu.out _).mono ?_; rintro e w' ⟨rfl, rfl⟩) | (go_at_call 28; with_reducible refine (flip_to _ _ _ _ _ ha10 ha11 ha20 ha21 Hx.out Hy.out _).mono ?_; rintro e w' ⟨rfl, rfl⟩) | (go_at_call 33; with_reducible refine (rinc_to _ _ _ _ ha10 ha11 ha20 ha21 Hp.out Hq.out _).mono ?_; rintro e w1 ⟨rfl, hb1⟩) | (go_at_call 34; with_reducible refine (rdec_to _ _ _ _ ha10 ha11 ha20 ha21 Hr.out Hs.out _).mono ?_; rintro e w2 ⟨rfl, hb2⟩) | (go_at_call 35; with_reducible refine (rdaa_to _ _ _ _ ha10 ha11 ha20 ha21 Ht.out Hu.out _).mono ?_; rintro e w3 ⟨rfl, hb3⟩) | (go_at_call 36; with_reducible refine (rflip_to _ _ _ _ _ ha10 ha11 ha20 ha21 Hx.out Hy.out _).mono ?_; rintro e w4 ⟨rfl, hb4⟩))
  go_ret
  exact ⟨ret_bool (by simp), below_trans hb1 (below_trans hb2 (below_trans hb3 hb4))⟩
set_option maxRecDepth 100000 in
set_option maxHeartbeats 2000000 in
theorem sumsDo_walk (a0 : Int) (a1_0 : Int) (a1_1 : Int) (a1_2 : Int) (wa0 : (Lit.int .i64 a0).wf = true) (wa1_0 : (Lit.int .u8 a1_0).wf = true) (wa1_1 : (Lit.int .u8 a1_1).wf = true) (wa1_2 : (Lit.int .u8 a1_2).wf = true) (w : World) :
    Calls Try.prog 9 #[.int .i64 a0, .agg #[.int .u8 a1_0, .int .u8 a1_1, .int .u8 a1_2]] w fun e w' => e = .returned (.bool true) ∧ Below w.heap.size w w' := by
  obtain ⟨ha1_00, ha1_01⟩ := u8_bd wa1_0
  obtain ⟨ha1_10, ha1_11⟩ := u8_bd wa1_1
  obtain ⟨ha1_20, ha1_21⟩ := u8_bd wa1_2
  clear wa1_0 wa1_1 wa1_2
  clear wa0
  obtain ⟨p, hp⟩ : ∃ p, doV (a0 % 8) a1_0 a1_1 a1_2 = p := ⟨_, rfl⟩
  have Hp := Lib.hid hp
  clear hp
  obtain ⟨q, hq⟩ : ∃ q, doF (a0 % 8) a1_0 a1_1 a1_2 = q := ⟨_, rfl⟩
  have Hq := Lib.hid hq
  clear hq
  obtain ⟨r, hr⟩ : ∃ r, Go.bits .and .u8 a1_0 a1_1 = r := ⟨_, rfl⟩
  have Hr := Lib.hid hr
  clear hr
  obtain ⟨s, hs⟩ : ∃ s, lgF (Go.bits .and .u8 a1_0 a1_1) true = s := ⟨_, rfl⟩
  have Hs := Lib.hid hs
  clear hs
  obtain ⟨t, ht⟩ : ∃ t, Go.bits .xor .u8 a1_0 a1_1 = t := ⟨_, rfl⟩
  have Ht := Lib.hid ht
  clear ht
  obtain ⟨u, hu⟩ : ∃ u, lgF (Go.bits .xor .u8 a1_0 a1_1) false = u := ⟨_, rfl⟩
  have Hu := Lib.hid hu
  clear hu
  obtain ⟨x, hx⟩ : ∃ x, Go.bits .or .u8 a1_0 a1_1 = x := ⟨_, rfl⟩
  have Hx := Lib.hid hx
  clear hx
  obtain ⟨y, hy⟩ : ∃ y, lgF (Go.bits .or .u8 a1_0 a1_1) false = y := ⟨_, rfl⟩
  have Hy := Lib.hid hy
  clear hy
  obtain ⟨z, hz⟩ : ∃ z, cmpF a1_0 a1_1 = z := ⟨_, rfl⟩
  have Hz := Lib.hid hz
  clear hz
  go_enter Try.func9, Try.ntmps9
  go_wp2_with (first | (go_at_call 11; with_reducible refine (alive_any _).mono ?_; rintro e w' ⟨rfl, rfl⟩) | (go_at_call 29; with_reducible refine (do_to _ _ _ _ _ _ ha1_00 ha1_01 ha1_10 ha1_11 ha1_20 ha1_21 Hp.out Hq.out _).mono ?_; rintro e w' ⟨rfl, rfl⟩) | (go_at_call 22; with_reducible refine (and_to _ _ _ _ ha1_00 ha1_01 ha1_10 ha1_11 Hr.out Hs.out _).mono ?_; rintro e w' ⟨rfl, rfl⟩) | (go_at_call 24; with_reducible refine (xor_to _ _ _ _ ha1_00 ha1_01 ha1_10 ha1_11 Ht.out Hu.out _).mono ?_; rintro e w' ⟨rfl, rfl⟩) | (go_at_call 23; with_reducible refine (or_to _ _ _ _ ha1_00 ha1_01 ha1_10 ha1_11 Hx.out Hy.out _).mono ?_; rintro e w' ⟨rfl, rfl⟩) | (go_at_call 21; with_reducible refine (cmp_to _ _ _ ha1_00 ha1_01 ha1_10 ha1_11 Hz.out _).mono ?_; rintro e w' ⟨rfl, rfl⟩) | (go_at_call 30; with_reducible refine (rdo_to _ _ _ _ _ _ ha1_00 ha1_01 ha1_10 ha1_11 ha1_20 ha1_21 Hp.out Hq.out _).mono ?_; rintro e w1 ⟨rfl, hb1⟩; obtain ⟨hc1, hf1⟩ := bcell hb1; have z1 : w.heap.size < w1.heap.size := by (have hz := hb1.size; simp at hz; omega)) | (go_at_call 31; with_reducible refine (rand_to _ _ _ _ ha1_00 ha1_01 ha1_10 ha1_11 Hr.out Hs.out _).mono ?_; rintro e w2 ⟨rfl, hb2⟩; obtain ⟨hc2, hf2⟩ := bcell hb2; have z2 : w.heap.size < w2.heap.size := by (have hz := hb2.size; omega)) | (go_at_call 31; with_reducible refine (rxor_to _ _ _ _ ha1_00 ha1_01 ha1_10 ha1_11 Ht.out Hu.out _).mono ?_; rintro e w3 ⟨rfl, hb3⟩; obtain ⟨hc3, hf3⟩ := bcell hb3; have z3 : w.heap.size < w3.heap.size := by (have hz := hb3.size; omega)) | (go_at_call 31; with_reducible refine (ror_to _ _ _ _ ha1_00 ha1_01 ha1_10 ha1_11 Hx.out Hy.out _).mono ?_; rintro e w4 ⟨rfl, hb4⟩; obtain ⟨hc4, hf4⟩ := bcell hb4; have z4 : w.heap.size < w4.heap.size := by (have hz := hb4.size; omega)))
  have hB : Below w.heap.size w w4 := ((Below.refl w.heap.size w).alloc (Nat.le_refl _) _).trans ((below_trans hb1 (below_trans hb2 (below_trans hb3 hb4))).mono (by simp))
  have c0 : w4.cell? ⟨w.heap.size, 0, none⟩ = some (.int .u8 a1_0) := by simp [hc4, hc3, hc2, hc1, z1, z2, z3]
  have c1 : w4.cell? ⟨w.heap.size, 1, none⟩ = some (.int .u8 a1_1) := by simp [hc4, hc3, hc2, hc1, z1, z2, z3]
  clear hc1 hc2 hc3 hc4 hf1 hf2 hf3 hf4 hb1 hb2 hb3 hb4 z1 z2 z3 z4
  go_region_held3 (fun w' => w'.cell? ⟨w.heap.size, 0, none⟩ = some (.int .u8 a1_0) ∧ w'.cell? ⟨w.heap.size, 1, none⟩ = some (.int .u8 a1_1) ∧ Below w.heap.size w w') (first | (exact ⟨by simp [*], by simp [*], hB.drew⟩) | (exact ⟨by assumption, by assumption, by assumption⟩) | go_keep)
    (first | (go_at_call 21; with_reducible refine (cmp_to _ _ _ ha1_00 ha1_01 ha1_10 ha1_11 Hz.out _).mono ?_; rintro e w' ⟨rfl, rfl⟩) | (go_at_call 32; refine (rcmp_held w a1_0 a1_1 _ ha1_00 ha1_01 ha1_10 ha1_11 Hz.out w4.drew c0 c1 hB.drew).mono ?_; rintro e w' ⟨rfl, k0, k1, k2⟩))
  go_wp2
  go_ret
  exact ⟨ret_bool (by simp), k2⟩
theorem add8F_comm (a b : Int) (c : Bool) : add8F a b (c01 c) = add8F b a (c01 c) := by
  unfold add8F
  refine flags_eq ?_ ?_ ?_ ?_ ?_ ?_ rfl ?_
  · rw [Int.add_comm a b]
  · rw [Int.add_comm a b]
  · rw [Int.add_comm a b]
  · rw [Int.add_comm (a % 16)]
  · rw [Int.add_comm a b]
  · rw [Int.add_comm (sg8 a)]
  · rw [Int.add_comm a b]
set_option maxRecDepth 100000 in
set_option maxHeartbeats 2000000 in
theorem sumsBack_walk (a0 : Int) (a1 : Int) (a2 : Bool) (wa0 : (Lit.int .u8 a0).wf = true) (wa1 : (Lit.int .u8 a1).wf = true) (w : World) :
    Calls Try.prog 8 #[.int .u8 a0, .int .u8 a1, .bool a2] w fun e w' => e = .returned (.bool true) ∧ Below w.heap.size w w' := by
  obtain ⟨ha00, ha01⟩ := u8_bd wa0
  obtain ⟨ha10, ha11⟩ := u8_bd wa1
  clear wa0 wa1
  obtain ⟨p, hp⟩ : ∃ p, (a0 + a1 + c01 a2) % 256 = p := ⟨_, rfl⟩
  obtain ⟨x, hx⟩ : ∃ x, add8F a0 a1 (c01 a2) = x := ⟨_, rfl⟩
  have hp' : (a1 + a0 + c01 a2) % 256 = p := by rw [Int.add_comm a1, hp]
  have hx' : add8F a1 a0 (c01 a2) = x := by rw [add8F_comm, hx]
  have hq : (p - a1 - c01 a2) % 256 = a0 := by omega
  have p0 : 0 ≤ p := by omega
  have p1 : p < 256 := by omega
  obtain ⟨x0, x1⟩ : 0 ≤ x ∧ x < 256 := by rw [← hx]; exact add8F_lt ..
  obtain ⟨s, hs⟩ : ∃ s, (a0 + 1) % 256 = s := ⟨_, rfl⟩
  have s0 : 0 ≤ s := by omega
  have s1 : s < 256 := by omega
  have ht : (s - 1) % 256 = a0 := by omega
  obtain ⟨u, hu⟩ : ∃ u, flV 0 a0 = u := ⟨_, rfl⟩
  have hu2 : u = 255 - a0 := by rw [← hu]; unfold flV; rw [if_pos rfl]
  have u0 : 0 ≤ u := by omega
  have u1 : u < 256 := by omega
  obtain ⟨y, hy⟩ : ∃ y, flF 0 a0 x = y := ⟨_, rfl⟩
  obtain ⟨y0, y1⟩ : 0 ≤ y ∧ y < 256 := by rw [← hy]; unfold flF; rw [if_pos rfl]; exact fi_lt ..
  have hv : flV 0 u = a0 := by unfold flV; rw [if_pos rfl]; omega
  have Hp := Lib.hid hp
  have Hx := Lib.hid hx
  have Hp' := Lib.hid hp'
  have Hx' := Lib.hid hx'
  have Hq := Lib.hid hq
  have Hs := Lib.hid hs
  have Ht := Lib.hid ht
  have Hu := Lib.hid hu
  have Hy := Lib.hid hy
  have Hv := Lib.hid hv
  clear hp hx hp' hx' hq hs ht hu hu2 hy hv
  go_enter Try.func8, Try.ntmps8
  go_wp2_with (first | (go_at_call 11; with_reducible refine (alive_any _).mono ?_; rintro e w' ⟨rfl, rfl⟩) | (go_at_call 12; with_reducible refine (add_to a0 a1 a2 _ _ ha00 ha01 ha10 ha11 Hp.out Hx.out _).mono ?_; rintro e w' ⟨rfl, rfl⟩) | (go_at_call 12; with_reducible refine (add_to a1 a0 a2 _ _ ha10 ha11 ha00 ha01 Hp'.out Hx'.out _).mono ?_; rintro e w' ⟨rfl, rfl⟩) | (go_at_call 14; with_reducible refine (sub_to p a1 a2 _ _ p0 p1 ha10 ha11 Hq.out rfl _).mono ?_; rintro e w' ⟨rfl, rfl⟩) | (go_at_call 26; with_reducible refine (inc_to a0 x _ _ ha00 ha01 x0 x1 Hs.out rfl _).mono ?_; rintro e w' ⟨rfl, rfl⟩) | (go_at_call 27; with_reducible refine (dec_to s x _ _ s0 s1 x0 x1 Ht.out rfl _).mono ?_; rintro e w' ⟨rfl, rfl⟩) | (go_at_call 28; with_reducible refine (flip_to 0 a0 x _ _ ha00 ha01 x0 x1 Hu.out Hy.out _).mono ?_; rintro e w' ⟨rfl, rfl⟩) | (go_at_call 28; with_reducible refine (flip_to 0 u y _ _ u0 u1 y0 y1 Hv.out rfl _).mono ?_; rintro e w' ⟨rfl, rfl⟩))
  go_ret
  exact ⟨ret_bool (by simp), Below.refl _ _⟩
theorem xor_zero (a b : Nat) (ha : a < 256) (hb : b < 256) (h : a ^^^ b = 0) : a = b := by
  have g : allB 256 (fun a => allB 256 fun b => cond (Nat.beq (a ^^^ b) 0) (Nat.beq a b) true) = true := by decide +kernel
  have g' := allB_at (allB_at g ha) hb
  rw [h] at g'
  exact Nat.eq_of_beq_eq_true g'
theorem c_of : ∀ s z y h x p n c : Bool, (Go.bits .and .u8 ((flagsOf s z y h x p n c : Nat) : Int) 1 != 0) = c := by decide +kernel
theorem z_of : ∀ s z y h x p n c : Bool, (Go.bits .and .u8 ((flagsOf s z y h x p n c : Nat) : Int) 64 != 0) = z := by decide +kernel
theorem s_of : ∀ s z y h x p n c : Bool, (Go.bits .and .u8 ((flagsOf s z y h x p n c : Nat) : Int) 128 != 0) = s := by decide +kernel
theorem p_of : ∀ s z y h x p n c : Bool, (Go.bits .and .u8 ((flagsOf s z y h x p n c : Nat) : Int) 4 != 0) = p := by decide +kernel
theorem yx_of : ∀ s z y h x p n c y' x' : Bool, Go.bits .andNot .u8 (Go.bits .xor .u8 ((flagsOf s z y h x p n c : Nat) : Int) ((flagsOf s z y' h x' p n c : Nat) : Int)) 40 = 0 := by decide +kernel
theorem and_or (a b : Nat) (ha : a < 256) (hb : b < 256) : (a &&& b) + (a ||| b) = a + b := by
  have g : allB 256 (fun a => allB 256 fun b => Nat.beq ((a &&& b) + (a ||| b)) (a + b)) = true := by decide +kernel
  exact Nat.eq_of_beq_eq_true (allB_at (allB_at g ha) hb)
theorem and_xor (a b : Nat) (ha : a < 256) (hb : b < 256) : (a &&& b) + (a ^^^ b) = (a ||| b) := by
  have g : allB 256 (fun a => allB 256 fun b => Nat.beq ((a &&& b) + (a ^^^ b)) (a ||| b)) = true := by decide +kernel
  exact Nat.eq_of_beq_eq_true (allB_at (allB_at g ha) hb)
theorem par_xor (a b : Nat) (ha : a < 256) (hb : b < 256) : parN (a ^^^ b) = (parN a == parN b) := by
  have g : allB 256 (fun a => allB 256 fun b => parN (a ^^^ b) == (parN a == parN b)) = true := by decide +kernel
  exact eq_of_beq (allB_at (allB_at g ha) hb)
theorem sg8_i8 (a : Int) (h0 : 0 ≤ a) (h1 : a < 256) : IntKind.i8.wrap a = sg8 a := by
  rw [i8_wrap]; unfold sg8; split <;> omega
theorem bi_128 (v : Int) (h0 : 0 ≤ v) (h1 : v < 256) : bi v 128 = decide (128 ≤ v) := by
  rw [← RSums.bi_k v 128 h0, Bool.eq_iff_iff, beq_iff_eq, decide_eq_true_eq]; omega
theorem sign_less (a b : Int) (ha0 : 0 ≤ a) (ha1 : a < 256) (hb0 : 0 ≤ b) (hb1 : b < 256) : (bi ((a - b) % 256) 128 == ov8 (sg8 a - sg8 b)) = !decide (sg8 a < sg8 b) := by
  rw [bi_128 _ (by omega) (by omega), Bool.eq_iff_iff, beq_iff_eq, Bool.not_eq_true', decide_eq_false_iff_not]
  unfold ov8 sg8
  rw [Bool.eq_iff_iff, decide_eq_true_eq, Bool.or_eq_true, decide_eq_true_eq, decide_eq_true_eq]
  repeat' split
  all_goals omega
theorem sign_below (a b : Int) (ha0 : 0 ≤ a) (ha1 : a < 256) (hb0 : 0 ≤ b) (hb1 : b < 256) : (bi ((a + b) % 256) 128 == ov8 (sg8 a + sg8 b)) = !decide (sg8 a + sg8 b < 0) := by
  rw [bi_128 _ (by omega) (by omega), Bool.eq_iff_iff, beq_iff_eq, Bool.not_eq_true', decide_eq_false_iff_not]
  unfold ov8 sg8
  rw [Bool.eq_iff_iff, decide_eq_true_eq, Bool.or_eq_true, decide_eq_true_eq, decide_eq_true_eq]
  repeat' split
  all_goals omega
set_option maxRecDepth 100000 in
set_option maxHeartbeats 2000000 in
theorem sumsTell_walk (a0 : Int) (a1 : Int) (wa0 : (Lit.int .u8 a0).wf = true) (wa1 : (Lit.int .u8 a1).wf = true) (w : World) :
    Calls Try.prog 6 #[.int .u8 a0, .int .u8 a1] w fun e w' => e = .returned (.bool true) ∧ Below w.heap.size w w' := by
  obtain ⟨ha00, ha01⟩ := u8_bd wa0
  obtain ⟨ha10, ha11⟩ := u8_bd wa1
  clear wa0 wa1
  obtain ⟨q0, q1⟩ := and_bd .and a0 a1
  obtain ⟨s0, s1⟩ := and_bd .or a0 a1
  have t1 : (Go.bits .and .u8 (cmpF a0 a1) 1 != 0) = decide (a0 < a1) := by
    unfold cmpF; rw [c_of, decide_eq_decide]; omega
  have t2 : (Go.bits .and .u8 (cmpF a0 a1) 64 != 0) = (a0 == a1) := by
    unfold cmpF; rw [z_of, Bool.eq_iff_iff, beq_iff_eq, beq_iff_eq]; omega
  have e0 : a0 = (a0.toNat : Int) := by omega
  have e1 : a1 = (a1.toNat : Int) := by omega
  have t4 : Go.bits .and .u8 a0 a1 + Go.bits .or .u8 a0 a1 = a0 + a1 := by
    have h := and_or a0.toNat a1.toNat (by omega) (by omega)
    rw [e0, e1, and8, or8, Nat.mod_eq_of_lt (show a0.toNat < 256 by omega), Nat.mod_eq_of_lt (show a1.toNat < 256 by omega)]; omega
  have t5 : Go.bits .or .u8 a0 a1 - Go.bits .and .u8 a0 a1 = Go.bits .xor .u8 a0 a1 := by
    have h := and_xor a0.toNat a1.toNat (by omega) (by omega)
    rw [e0, e1, and8, or8, xor8, Nat.mod_eq_of_lt (show a0.toNat < 256 by omega), Nat.mod_eq_of_lt (show a1.toNat < 256 by omega)]; omega
  have t3 : (Go.bits .and .u8 (lgF (Go.bits .xor .u8 a0 a1) false) 64 != 0) = (a0 == a1) := by
    unfold lgF; rw [z_of, Bool.eq_iff_iff, beq_iff_eq, beq_iff_eq]
    constructor
    · intro h
      have h2 : a0.toNat ^^^ a1.toNat = 0 := by
        rw [e0, e1, xor8, Nat.mod_eq_of_lt (show a0.toNat < 256 by omega), Nat.mod_eq_of_lt (show a1.toNat < 256 by omega)] at h; omega
      have := xor_zero a0.toNat a1.toNat (by omega) (by omega) h2
      omega
    · intro h; rw [h, e1, xor8, Nat.xor_self]; rfl
  have t6 : Go.bits .andNot .u8 (Go.bits .xor .u8 (sub8F a0 a1 (c01 false)) (cmpF a0 a1)) 40 = 0 := by
    unfold sub8F cmpF
    simp only [show c01 false = 0 from rfl, Int.sub_zero]
    exact yx_of ..
  have t7 : ((a0 - a1 - c01 false) % 256 == 0) = (a0 == a1) := by
    rw [show c01 false = 0 from rfl, Int.sub_zero, Bool.eq_iff_iff, beq_iff_eq, beq_iff_eq]; omega
  have u0 : 0 ≤ Go.bits .xor .u8 a0 a1 := (and_bd _ _ _).1
  have u1 : Go.bits .xor .u8 a0 a1 < 256 := (and_bd _ _ _).2
  clear e0 e1
  generalize hp : cmpF a0 a1 = p at t1 t2 t6
  generalize hq : Go.bits .and .u8 a0 a1 = q at q0 q1 t4 t5
  generalize hs : Go.bits .or .u8 a0 a1 = s at s0 s1 t4 t5
  generalize hv : lgF (Go.bits .xor .u8 a0 a1) false = v at t3
  generalize hu : Go.bits .xor .u8 a0 a1 = u at t5 u0 u1
  generalize hx : (a0 - a1 - c01 false) % 256 = x at t7
  generalize hy : sub8F a0 a1 (c01 false) = y at t6
  have Hp := Lib.hid hp
  have Hq := Lib.hid hq
  have Hs := Lib.hid hs
  have Hu := Lib.hid hu
  have Hv := Lib.hid hv
  have Hx := Lib.hid hx
  have Hy := Lib.hid hy
  have t4' : q + s = a0 + a1 := t4
  have T4 := Lib.hid t4
  clear hp hq hs hu hv hx hy t4
  go_enter Try.func6, Try.ntmps6
  go_wp2_with (first | (go_at_call 11; with_reducible refine (alive_any _).mono ?_; rintro e w' ⟨rfl, rfl⟩) | (go_at_call 21; with_reducible refine (cmp_to _ _ _ ha00 ha01 ha10 ha11 Hp.out _).mono ?_; rintro e w' ⟨rfl, rfl⟩) | (go_at_call 22; with_reducible refine (and_to _ _ _ _ ha00 ha01 ha10 ha11 Hq.out rfl _).mono ?_; rintro e w' ⟨rfl, rfl⟩) | (go_at_call 23; with_reducible refine (or_to _ _ _ _ ha00 ha01 ha10 ha11 Hs.out rfl _).mono ?_; rintro e w' ⟨rfl, rfl⟩) | (go_at_call 24; with_reducible refine (xor_to _ _ _ _ ha00 ha01 ha10 ha11 Hu.out Hv.out _).mono ?_; rintro e w' ⟨rfl, rfl⟩) | (go_at_call 14; with_reducible refine (sub_to _ _ _ _ _ ha00 ha01 ha10 ha11 Hx.out Hy.out _).mono ?_; rintro e w' ⟨rfl, rfl⟩))
  go_ret
  exact ⟨ret_bool (by simp), Below.refl _ _⟩
set_option maxRecDepth 100000 in
set_option maxHeartbeats 2000000 in
theorem sumsSigns_walk (a0 : Int) (a1 : Int) (wa0 : (Lit.int .u8 a0).wf = true) (wa1 : (Lit.int .u8 a1).wf = true) (w : World) :
    Calls Try.prog 4 #[.int .u8 a0, .int .u8 a1] w fun e w' => e = .returned (.bool true) ∧ Below w.heap.size w w' := by
  obtain ⟨ha00, ha01⟩ := u8_bd wa0
  obtain ⟨ha10, ha11⟩ := u8_bd wa1
  clear wa0 wa1
  have i0 := sg8_i8 a0 ha00 ha01
  have i1 := sg8_i8 a1 ha10 ha11
  have t1 : ((Go.bits .and .u8 (cmpF a0 a1) 128 != 0) == (Go.bits .and .u8 (cmpF a0 a1) 4 != 0)) = !decide (sg8 a0 < sg8 a1) := by
    unfold cmpF; rw [s_of, p_of]; exact sign_less a0 a1 ha00 ha01 ha10 ha11
  have t2 : ((Go.bits .and .u8 (add8F a0 a1 (c01 false)) 128 != 0) == (Go.bits .and .u8 (add8F a0 a1 (c01 false)) 4 != 0)) = !decide (sg8 a0 + sg8 a1 < 0) := by
    unfold add8F; rw [s_of, p_of]
    simp only [show c01 false = 0 from rfl, Int.add_zero]
    exact sign_below a0 a1 ha00 ha01 ha10 ha11
  have t3 : par (Go.bits .xor .u8 a0 a1) = (par a0 == par a1) := by
    have e0 : a0 = (a0.toNat : Int) := by omega
    have e1 : a1 = (a1.toNat : Int) := by omega
    rw [e0, e1, xor8, Nat.mod_eq_of_lt (show a0.toNat < 256 by omega), Nat.mod_eq_of_lt (show a1.toNat < 256 by omega)]
    exact par_xor _ _ (by omega) (by omega)
  have b0 : -128 ≤ sg8 a0 ∧ sg8 a0 ≤ 127 := by unfold sg8; split <;> omega
  have b1 : -128 ≤ sg8 a1 ∧ sg8 a1 ≤ 127 := by unfold sg8; split <;> omega
  obtain ⟨b2, b3⟩ := b0
  obtain ⟨b4, b5⟩ := b1
  generalize sg8 a0 = z0 at i0 t1 t2 b2 b3
  generalize sg8 a1 = z1 at i1 t1 t2 b4 b5
  generalize hp : cmpF a0 a1 = p at t1
  generalize hy : add8F a0 a1 (c01 false) = y at t2
  have Hp := Lib.hid hp
  have Hy := Lib.hid hy
  clear hp hy
  go_enter Try.func4, Try.ntmps4
  go_wp2_with (first | (go_at_call 11; with_reducible refine (alive_any _).mono ?_; rintro e w' ⟨rfl, rfl⟩) | (go_at_call 21; with_reducible refine (cmp_to _ _ _ ha00 ha01 ha10 ha11 Hp.out _).mono ?_; rintro e w' ⟨rfl, rfl⟩) | (go_at_call 12; with_reducible refine (add_to _ _ _ _ _ ha00 ha01 ha10 ha11 rfl Hy.out _).mono ?_; rintro e w' ⟨rfl, rfl⟩) | (go_at_call 16; with_reducible refine (parity_any _ ha00 ha01 _).mono ?_; rintro e w' ⟨rfl, rfl⟩) | (go_at_call 16; with_reducible refine (parity_any _ ha10 ha11 _).mono ?_; rintro e w' ⟨rfl, rfl⟩) | (go_at_call 16; with_reducible refine (parity_any _ (and_bd _ _ _).1 (and_bd _ _ _).2 _).mono ?_; rintro e w' ⟨rfl, rfl⟩))
  go_ret
  exact ⟨ret_bool (by simp), Below.refl _ _⟩
end Go.Proofs.Ytibahlpphnokkaa
