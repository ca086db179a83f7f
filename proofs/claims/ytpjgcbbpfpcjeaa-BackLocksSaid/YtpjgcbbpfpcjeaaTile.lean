/- Tiles (layer 16): what the program's and the reference's functions do, over any bytes. No conditions but that numbers are of their kinds and slices are slices. -/
import Derived.Test.YtpjgcbbpfpcjeaaKit2
import Derived.Test.YtpjgcbbpfpcjeaaRow
import Derived.LoopTactic
import Derived.RegionTactic
namespace Go.Proofs.Ytpjgcbbpfpcjeaa
open Go.RowKit
open Kit
set_option linter.unusedSimpArgs false
set_option linter.unusedVariables false
namespace Tile
/-- A slice of bytes. -/
def Bytes (w : World) (v : Value) (zs : List Int) : Prop := IntsOf w v .u8 zs
theorem Bytes.below {w w1 : World} {v : Value} {zs : List Int} (h : Bytes w v zs) (hb : Below w.heap.size w w1) : Bytes w1 v zs := by
  obtain ⟨p, cap, rfl, hl, hm, hc, hw⟩ := h
  refine ⟨p, cap, rfl, hl, hm, fun h0 => ?_, hw⟩
  obtain ⟨b, o, rfl, hbl, hcell⟩ := hc h0
  exact ⟨b, o, rfl, Nat.lt_of_lt_of_le hbl hb.size, fun i hi => by rw [hb.cell (p := ⟨b, o + i, none⟩) hbl]; exact hcell i hi⟩
theorem Bytes.alloc {w : World} {v : Value} {zs : List Int} (h : Bytes w v zs) (o : Obj) : Bytes (w.alloc o) v zs := h.below ((Below.refl _ _).alloc (Nat.le_refl _) _)
theorem Bytes.drew {w : World} {v : Value} {zs : List Int} (h : Bytes w v zs) : Bytes w.drew v zs := h.below (Below.refl _ _).drew
theorem byte_bd {w : World} {v : Value} {zs : List Int} (h : Bytes w v zs) (j : Nat) : 0 ≤ zs.getD j 0 ∧ zs.getD j 0 < 256 := by
  obtain ⟨p, cap, rfl, hl, hm, hc, hw⟩ := h
  by_cases hj : j < zs.length
  · exact u8_bd (hw _ (by rw [List.getD_eq_getElem?_getD, List.getElem?_eq_getElem hj]; exact List.getElem_mem hj))
  · rw [List.getD_eq_getElem?_getD, List.getElem?_eq_none (by omega)]; decide
def atV (zs : List Int) (a : Int) : Int := zs.getD (a % 16384).toNat 0
theorem at_bd {w : World} {v : Value} {zs : List Int} (h : Bytes w v zs) (a : Int) : 0 ≤ atV zs a ∧ atV zs a < 256 := byte_bd h _
theorem at_any (v : Value) (zs : List Int) (a : Int) (w : World) (hs : Bytes w v zs) : Calls Try.prog 19 #[v, .int .i64 a] w fun e w' => e = .returned (.int .u8 (atV zs a)) ∧ w = w' := by
  obtain ⟨n, hn⟩ : ∃ n : Nat, (n : Int) = a % 16384 := ⟨(a % 16384).toNat, by omega⟩
  have ea : atV zs a = zs.getD n 0 := by unfold atV; rw [← hn]; rfl
  rw [ea]
  obtain ⟨p, cap, rfl, hl, hm, hc, hw⟩ := hs
  unfold maxLen at hm
  have e := and64_16383 a
  rw [← hn] at e
  have hn2 : n < 16384 := by omega
  have HC := Lib.hid hc
  clear hc hw hn ea
  by_cases h : n < zs.length
  · obtain ⟨b, o, rfl, hbl, hcell⟩ := HC.out (by omega)
    have cz := hcell n h
    generalize zs.getD n 0 = z at *
    have i0 : (0 : Int) ≤ (n : Int) := by omega
    have i1 : (n : Int) < (zs.length : Int) := by omega
    clear hcell HC
    go_enter Try.func19, Try.ntmps19
    go_wp2
    go_ret
    exact ⟨rfl, rfl⟩
  · have e0 : zs.getD n 0 = 0 := by rw [List.getD_eq_getElem?_getD, List.getElem?_eq_none (by omega)]; rfl
    have d1 : decide (n < zs.length) = false := by simp; omega
    have d2 : zs.length ≤ n := by omega
    rw [e0]
    clear e0
    go_enter Try.func19, Try.ntmps19
    go_wp2
    go_ret
    exact ⟨rfl, rfl⟩
theorem mod_any (n m : Int) (hm : 0 < m) (hm2 : m ≤ 100000) (w : World) : Calls Try.prog 18 #[.int .i64 n, .int .i64 m] w fun e w' => e = .returned (.int .i64 (n % m)) ∧ w = w' := by
  have h1 := tmod_cases n m hm
  have z : (m == 0) = false := by simp; omega
  have z2 : (m == -1) = false := by simp; omega
  have b0 := Int.emod_nonneg n (show m ≠ 0 by omega)
  have b1 := Int.emod_lt_of_pos n hm
  obtain ⟨t, ht⟩ : ∃ t, n.tmod m = t := ⟨_, rfl⟩
  obtain ⟨r, hr⟩ : ∃ r, n % m = r := ⟨_, rfl⟩
  rw [ht, hr] at h1
  rw [hr] at b0 b1
  rw [hr]
  have HR := Lib.hid hr
  clear hr
  rcases h1 with ⟨h2, h3⟩ | ⟨h2, h3⟩
  · have t0 : -100000 ≤ t := by omega
    have t1 : t ≤ 100000 := by omega
    have H3 := Lib.hid h3
    clear h3
    go_enter Try.func18, Try.ntmps18
    go_wp2
    all_goals
      go_ret
      exact ⟨ret_int (by have := H3.out; omega), rfl⟩
  · have t0 : -100000 ≤ t := by omega
    have t1 : t ≤ 100000 := by omega
    have H3 := Lib.hid h3
    clear h3
    go_enter Try.func18, Try.ntmps18
    go_wp2
    all_goals
      go_ret
      exact ⟨ret_int (by have := H3.out; omega), rfl⟩
theorem rat_any (v : Value) (zs : List Int) (a : Int) (w : World) (hs : Bytes w v zs) : Calls Try.prog 20 #[v, .int .i64 a] w fun e w' => e = .returned (.int .u8 (atV zs a)) ∧ w = w' := by
  obtain ⟨n, hn⟩ : ∃ n : Nat, (n : Int) = a % 16384 := ⟨(a % 16384).toNat, by omega⟩
  have ea : atV zs a = zs.getD n 0 := by unfold atV; rw [← hn]; rfl
  rw [ea]
  obtain ⟨p, cap, rfl, hl, hm, hc, hw⟩ := hs
  unfold maxLen at hm
  have hmod := fun W => mod_any a 16384 (by decide) (by decide) W
  rw [← hn] at hmod
  have hn2 : n < 16384 := by omega
  have HC := Lib.hid hc
  have HMOD := Lib.hid hmod
  clear hc hw hn ea hmod
  by_cases h : n < zs.length
  · obtain ⟨b, o, rfl, hbl, hcell⟩ := HC.out (by omega)
    have cz := hcell n h
    generalize zs.getD n 0 = z at *
    have i0 : (0 : Int) ≤ (n : Int) := by omega
    have i1 : (n : Int) < (zs.length : Int) := by omega
    have d1 : decide (zs.length ≤ n) = false := by simp; omega
    clear hcell HC
    go_enter Try.func20, Try.ntmps20
    go_wp2_with (go_at_call 18; refine (HMOD.out _).mono ?_; rintro e w' ⟨rfl, rfl⟩)
    go_ret
    exact ⟨rfl, rfl⟩
  · have e0 : zs.getD n 0 = 0 := by rw [List.getD_eq_getElem?_getD, List.getElem?_eq_none (by omega)]; rfl
    have d1 : decide (zs.length ≤ n) = true := by simp; omega
    have d2 : zs.length ≤ n := by omega
    rw [e0]
    clear e0
    go_enter Try.func20, Try.ntmps20
    go_wp2_with (go_at_call 18; refine (HMOD.out _).mono ?_; rintro e w' ⟨rfl, rfl⟩)
    go_ret
    exact ⟨rfl, rfl⟩
def enN (zs : List Int) (b l c : Int) : Int := (atV zs (b % 16384 + l % 16384 * 64 + c % 16384 * 2) + 256 * atV zs (b % 16384 + l % 16384 * 64 + c % 16384 * 2 + 1)) % 512
def enH (zs : List Int) (b l c : Int) : Int := (atV zs (b % 16384 + l % 16384 * 64 + c % 16384 * 2) + 256 * atV zs (b % 16384 + l % 16384 * 64 + c % 16384 * 2 + 1)) / 512 % 16
theorem or_join (x y : Int) (x0 : 0 ≤ x) (x1 : x < 256) (y0 : 0 ≤ y) (y1 : y < 256) : Go.bits .or .i64 x (y * 256) = x + 256 * y := by
  obtain ⟨x, rfl⟩ := Int.eq_ofNat_of_zero_le x0
  obtain ⟨y, rfl⟩ := Int.eq_ofNat_of_zero_le y0
  have hx : x < 2 ^ 8 := by omega
  show IntKind.i64.wrap (((BitVec.ofInt 64 (x : Int) ||| BitVec.ofInt 64 ((y : Int) * 256)).toNat : Nat) : Int) = _
  rw [show ((y : Int) * 256) = ((y * 256 : Nat) : Int) from rfl, BitVec.ofInt_natCast, BitVec.ofInt_natCast, BitVec.toNat_or, BitVec.toNat_ofNat, BitVec.toNat_ofNat,
    Nat.mod_eq_of_lt (show x < 2 ^ 64 by omega), Nat.mod_eq_of_lt (show y * 256 < 2 ^ 64 by omega), Nat.or_comm, Nat.mul_comm, ← Nat.two_pow_add_eq_or_of_lt hx, IntKind.wrap_i64]
  omega
theorem and64_15 (x : Int) : Go.bits .and .i64 x 15 = x % 16 := and64_mask x 4 (by decide)
theorem entry_any (v : Value) (zs : List Int) (b l c : Int) (w : World) (hs : Bytes w v zs) : Calls Try.prog 14 #[v, .int .i64 b, .int .i64 l, .int .i64 c] w fun e w' => e = .returned (.tuple #[.int .i64 (enN zs b l c), .int .u8 (enH zs b l c)]) ∧ w = w' := by
  have e1 := and64_16383 b
  have e2 := and64_16383 l
  have e3 := and64_16383 c
  have r1 : 0 ≤ b % 16384 ∧ b % 16384 < 16384 := by omega
  have r2 : 0 ≤ l % 16384 ∧ l % 16384 < 16384 := by omega
  have r3 : 0 ≤ c % 16384 ∧ c % 16384 < 16384 := by omega
  unfold enN enH
  generalize b % 16384 = b' at *
  generalize l % 16384 = l' at *
  generalize c % 16384 = c' at *
  obtain ⟨s0, s1⟩ := r1
  obtain ⟨s2, s3⟩ := r2
  obtain ⟨s4, s5⟩ := r3
  have h1 := fun W hW => at_any v zs (b' + l' * 64 + c' * 2) W hW
  have h2 := fun W hW => at_any v zs (b' + l' * 64 + c' * 2 + 1) W hW
  obtain ⟨x0, x1⟩ := at_bd hs (b' + l' * 64 + c' * 2)
  obtain ⟨y0, y1⟩ := at_bd hs (b' + l' * 64 + c' * 2 + 1)
  generalize atV zs (b' + l' * 64 + c' * 2) = x at *
  generalize atV zs (b' + l' * 64 + c' * 2 + 1) = y at *
  have e4 := or_join x y x0 x1 y0 y1
  have e5 := and64_511 (x + 256 * y)
  have e6 := and64_15 ((x + 256 * y) / 512)
  have r4 : 0 ≤ (x + 256 * y) / 512 % 16 ∧ (x + 256 * y) / 512 % 16 < 16 := by omega
  obtain ⟨s6, s7⟩ := r4
  have H1 := Lib.hid h1
  have H2 := Lib.hid h2
  have HS := Lib.hid hs
  clear h1 h2 hs
  go_enter Try.func14, Try.ntmps14
  go_wp2_with fail
  refine (H1.out _ HS.out).mono ?_
  rintro e w' ⟨rfl, rfl⟩
  go_wp2_with fail
  refine (H2.out _ HS.out).mono ?_
  rintro e w' ⟨rfl, rfl⟩
  go_wp2_with fail
  go_ret2
  exact ⟨by simp, rfl⟩
theorem rentry_any (v : Value) (zs : List Int) (b l c : Int) (w : World) (hs : Bytes w v zs) : Calls Try.prog 16 #[v, .int .i64 b, .int .i64 l, .int .i64 c] w fun e w' => e = .returned (.tuple #[.int .i64 (enN zs b l c), .int .u8 (enH zs b l c)]) ∧ w = w' := by
  have r1 : 0 ≤ b % 16384 ∧ b % 16384 < 16384 := by omega
  have r2 : 0 ≤ l % 16384 ∧ l % 16384 < 16384 := by omega
  have r3 : 0 ≤ c % 16384 ∧ c % 16384 < 16384 := by omega
  unfold enN enH
  have m1 := fun W => mod_any b 16384 (by decide) (by decide) W
  have m2 := fun W => mod_any l 16384 (by decide) (by decide) W
  have m3 := fun W => mod_any c 16384 (by decide) (by decide) W
  generalize b % 16384 = b' at *
  generalize l % 16384 = l' at *
  generalize c % 16384 = c' at *
  obtain ⟨s0, s1⟩ := r1
  obtain ⟨s2, s3⟩ := r2
  obtain ⟨s4, s5⟩ := r3
  have ea : b' + 64 * l' + 2 * c' = b' + l' * 64 + c' * 2 := by omega
  have h1 := fun W hW => rat_any v zs (b' + l' * 64 + c' * 2) W hW
  have h2 := fun W hW => rat_any v zs (b' + l' * 64 + c' * 2 + 1) W hW
  obtain ⟨x0, x1⟩ := at_bd hs (b' + l' * 64 + c' * 2)
  obtain ⟨y0, y1⟩ := at_bd hs (b' + l' * 64 + c' * 2 + 1)
  generalize atV zs (b' + l' * 64 + c' * 2) = x at *
  generalize atV zs (b' + l' * 64 + c' * 2 + 1) = y at *
  rw [← ea] at h1 h2
  have r4 : 0 ≤ (x + 256 * y) / 512 % 16 ∧ (x + 256 * y) / 512 % 16 < 16 := by omega
  obtain ⟨s6, s7⟩ := r4
  have M1 := Lib.hid m1
  have M2 := Lib.hid m2
  have M3 := Lib.hid m3
  have H1 := Lib.hid h1
  have H2 := Lib.hid h2
  have HS := Lib.hid hs
  clear h1 h2 hs m1 m2 m3 ea
  go_enter Try.func16, Try.ntmps16
  go_wp2_with fail
  refine (M1.out _).mono ?_
  rintro e w' ⟨rfl, rfl⟩
  go_wp2_with fail
  refine (M2.out _).mono ?_
  rintro e w' ⟨rfl, rfl⟩
  go_wp2_with fail
  refine (M3.out _).mono ?_
  rintro e w' ⟨rfl, rfl⟩
  go_wp2_with fail
  refine (H1.out _ HS.out).mono ?_
  rintro e w' ⟨rfl, rfl⟩
  go_wp2_with fail
  refine (H2.out _ HS.out).mono ?_
  rintro e w' ⟨rfl, rfl⟩
  go_wp2_with fail
  go_ret2
  exact ⟨by simp, rfl⟩
/-- Where a tile's row begins. -/
def ofs (t r : Int) : Int := 32 * (t % 512) + 4 * (r % 8)
def bitK (b : Int) (k : Nat) : Int := b / 2 ^ k % 2
def dotV (zs : List Int) (t r : Int) (k : Nat) : Int := bitK (atV zs (ofs t r)) k + 2 * bitK (atV zs (ofs t r + 1)) k + 4 * bitK (atV zs (ofs t r + 2)) k + 8 * bitK (atV zs (ofs t r + 3)) k
theorem bitK_bd (b : Int) (k : Nat) : 0 ≤ bitK b k ∧ bitK b k ≤ 1 := by unfold bitK; omega
theorem dotV_bd (zs : List Int) (t r : Int) (k : Nat) : 0 ≤ dotV zs t r k ∧ dotV zs t r k < 16 := by
  have h0 := bitK_bd (atV zs (ofs t r)) k
  have h1 := bitK_bd (atV zs (ofs t r + 1)) k
  have h2 := bitK_bd (atV zs (ofs t r + 2)) k
  have h3 := bitK_bd (atV zs (ofs t r + 3)) k
  unfold dotV; omega
set_option maxHeartbeats 4000000 in
theorem rdot_any (v : Value) (zs : List Int) (t r : Int) (i : Nat) (hi : i < 8) (w : World) (hs : Bytes w v zs) : Calls Try.prog 17 #[v, .int .i64 t, .int .i64 r, .int .i64 i] w fun e w' => e = .returned (.int .u8 (dotV zs t r (7 - i))) ∧ w = w' := by
  have m1 := fun W => mod_any t 512 (by decide) (by decide) W
  have m2 := fun W => mod_any r 8 (by decide) (by decide) W
  have r1 : 0 ≤ t % 512 ∧ t % 512 < 512 := by omega
  have r2 : 0 ≤ r % 8 ∧ r % 8 < 8 := by omega
  unfold dotV ofs
  generalize t % 512 = t' at *
  generalize r % 8 = r' at *
  obtain ⟨s0, s1⟩ := r1
  obtain ⟨s2, s3⟩ := r2
  have h0 := fun W hW => rat_any v zs (32 * t' + 4 * r') W hW
  have h1 := fun W hW => rat_any v zs (32 * t' + 4 * r' + 1) W hW
  have h2 := fun W hW => rat_any v zs (32 * t' + 4 * r' + 2) W hW
  have h3 := fun W hW => rat_any v zs (32 * t' + 4 * r' + 3) W hW
  obtain ⟨x0, x1⟩ := at_bd hs (32 * t' + 4 * r')
  obtain ⟨y0, y1⟩ := at_bd hs (32 * t' + 4 * r' + 1)
  obtain ⟨z0, z1⟩ := at_bd hs (32 * t' + 4 * r' + 2)
  obtain ⟨q0, q1⟩ := at_bd hs (32 * t' + 4 * r' + 3)
  generalize atV zs (32 * t' + 4 * r') = b0 at *
  generalize atV zs (32 * t' + 4 * r' + 1) = b1 at *
  generalize atV zs (32 * t' + 4 * r' + 2) = b2 at *
  generalize atV zs (32 * t' + 4 * r' + 3) = b3 at *
  have M1 := Lib.hid m1
  have M2 := Lib.hid m2
  have H0 := Lib.hid h0
  have H1 := Lib.hid h1
  have H2 := Lib.hid h2
  have H3 := Lib.hid h3
  have HS := Lib.hid hs
  clear h0 h1 h2 h3 hs m1 m2
  rcases (by omega : i = 0 ∨ i = 1 ∨ i = 2 ∨ i = 3 ∨ i = 4 ∨ i = 5 ∨ i = 6 ∨ i = 7) with rfl | rfl | rfl | rfl | rfl | rfl | rfl | rfl
  all_goals
    go_enter Try.func17, Try.ntmps17
    go_wp2_with fail
    refine (M1.out _).mono ?_
    rintro e w' ⟨rfl, rfl⟩
    go_wp2_with fail
    refine (M2.out _).mono ?_
    rintro e w' ⟨rfl, rfl⟩
    go_wp2_with fail
    refine wp_loop_rounds 5 ?_
    rw [rounds_succ]
    go_wp2_with fail
    refine (H3.out _ HS.out).mono ?_
    rintro e w' ⟨rfl, rfl⟩
    go_wp2_with fail
    rw [rounds_succ]
    go_wp2_with fail
    refine (H2.out _ HS.out).mono ?_
    rintro e w' ⟨rfl, rfl⟩
    go_wp2_with fail
    rw [rounds_succ]
    go_wp2_with fail
    refine (H1.out _ HS.out).mono ?_
    rintro e w' ⟨rfl, rfl⟩
    go_wp2_with fail
    rw [rounds_succ]
    go_wp2_with fail
    refine (H0.out _ HS.out).mono ?_
    rintro e w' ⟨rfl, rfl⟩
    go_wp2_with fail
    rw [rounds_succ]
    go_wp2_with fail
    go_ret
    exact ⟨ret_int (by unfold bitK; simp; omega), rfl⟩
end Tile
end Go.Proofs.Ytpjgcbbpfpcjeaa
