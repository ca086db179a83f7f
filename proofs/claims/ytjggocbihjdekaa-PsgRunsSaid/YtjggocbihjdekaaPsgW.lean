/- A chip of three tones and a noise (layer 5): what the program's functions do, part 7. No conditions but that numbers are of their kinds. -/
import Derived.Test.YtjggocbihjdekaaPut4
import Derived.RegionTactic
import Derived.LoopTactic
import Derived.Deep.RegionHeld3
import Derived.Lib.Hide
namespace Go.Proofs.Ytjggocbihjdekaa
open Go.RowKit
open Kit
set_option linter.unusedSimpArgs false
set_option linter.unusedVariables false
attribute [local simp] blkAt_alloc blkNew_cells putRow_cells blkAt_drew BlkN.set BlkOne.setInt BlkOne.setBool blkPut_alloc blkPut_drew blkAt_blkPut_other size_blkPut nq2 nq3 nq4 nq5 nq6 nq7 nq8
namespace Psg
attribute [local simp ↓] sl_in ss_in vs_in
attribute [local simp] sl_run ss_run vs_run
attribute [local simp ↓] ns_in
attribute [local simp] ns_run2
theorem a128 : ∀ v, v < 256 → v &&& 128 = v / 128 * 128 := byte_all _ _ (by decide +kernel)
theorem a63 : ∀ v, v < 256 → v &&& 63 = v % 64 := byte_all _ _ (by decide +kernel)
theorem a7 : ∀ v, v < 256 → v &&& 7 = v % 8 := byte_all _ _ (by decide +kernel)
theorem and128i (v : Int) (v0 : 0 ≤ v) (v1 : v < 256) : Go.bits .and .u8 v 128 = v / 128 * 128 := by
  obtain ⟨v, rfl⟩ := Int.eq_ofNat_of_zero_le v0
  simp only [Kit.and8l, Kit.or8l, Kit.xor8l, Kit.andn8l, Kit.and16l, Kit.or16l, Kit.divl, Kit.modl, Kit.addn, Kit.muln, Kit.addl, Kit.mull, Kit.lmul, Kit.ladd, Kit.and8, Kit.or8, Kit.xor8, Kit.andn8, Kit.and16, Kit.or16, Kit.xor16, Kit.wrap16, Kit.wrap8, Kit.land8, Kit.lor8, Kit.lxor8, Kit.landn8, Kit.land16, Kit.lor16, Kit.lxor16]
  rw [Nat.mod_eq_of_lt (show v < 256 by omega), show 128 % 256 = 128 from rfl, a128 v (by omega)]
  try rfl
theorem and63i (v : Int) (v0 : 0 ≤ v) (v1 : v < 256) : Go.bits .and .u8 v 63 = v % 64 := by
  obtain ⟨v, rfl⟩ := Int.eq_ofNat_of_zero_le v0
  simp only [Kit.and8l, Kit.or8l, Kit.xor8l, Kit.andn8l, Kit.and16l, Kit.or16l, Kit.divl, Kit.modl, Kit.addn, Kit.muln, Kit.addl, Kit.mull, Kit.lmul, Kit.ladd, Kit.and8, Kit.or8, Kit.xor8, Kit.andn8, Kit.and16, Kit.or16, Kit.xor16, Kit.wrap16, Kit.wrap8, Kit.land8, Kit.lor8, Kit.lxor8, Kit.landn8, Kit.land16, Kit.lor16, Kit.lxor16]
  rw [Nat.mod_eq_of_lt (show v < 256 by omega), show 63 % 256 = 63 from rfl, a63 v (by omega)]
  try rfl
theorem and7i (v : Int) (v0 : 0 ≤ v) (v1 : v < 256) : Go.bits .and .u8 v 7 = v % 8 := by
  obtain ⟨v, rfl⟩ := Int.eq_ofNat_of_zero_le v0
  simp only [Kit.and8l, Kit.or8l, Kit.xor8l, Kit.andn8l, Kit.and16l, Kit.or16l, Kit.divl, Kit.modl, Kit.addn, Kit.muln, Kit.addl, Kit.mull, Kit.lmul, Kit.ladd, Kit.and8, Kit.or8, Kit.xor8, Kit.andn8, Kit.and16, Kit.or16, Kit.xor16, Kit.wrap16, Kit.wrap8, Kit.land8, Kit.lor8, Kit.lxor8, Kit.landn8, Kit.land16, Kit.lor16, Kit.lxor16]
  rw [Nat.mod_eq_of_lt (show v < 256 by omega), show 7 % 256 = 7 from rfl, a7 v (by omega)]
  try rfl
theorem andn_tab : allB 64 (fun a => allB 16 fun q => decide (Go.bits .andNot .i64 ((16 * a + q : Nat) : Int) 15 = 16 * (a : Int))) = true := by decide +kernel
theorem or_tab : allB 64 (fun a => allB 16 fun q => decide (Go.bits .or .i64 (16 * (a : Int)) (q : Int) = 16 * (a : Int) + q)) = true := by decide +kernel
theorem or_tab2 : allB 64 (fun a => allB 16 fun q => decide (Go.bits .or .i64 (q : Int) (16 * (a : Int)) = q + 16 * (a : Int))) = true := by decide +kernel
theorem per_hi (p q : Int) (p0 : 0 ≤ p) (p1 : p < 1024) (q0 : 0 ≤ q) (q1 : q < 16) : Go.bits .or .i64 (Go.bits .andNot .i64 p 15) q = p / 16 * 16 + q := by
  obtain ⟨p, rfl⟩ := Int.eq_ofNat_of_zero_le p0
  obtain ⟨q, rfl⟩ := Int.eq_ofNat_of_zero_le q0
  have h1 : Go.bits .andNot .i64 ((16 * (p / 16) + p % 16 : Nat) : Int) 15 = 16 * ((p / 16 : Nat) : Int) := by simpa using allB_at (allB_at andn_tab (show p / 16 < 64 by omega)) (show p % 16 < 16 by omega)
  have h2 : Go.bits .or .i64 (16 * ((p / 16 : Nat) : Int)) (q : Int) = 16 * ((p / 16 : Nat) : Int) + q := by simpa using allB_at (allB_at or_tab (show p / 16 < 64 by omega)) (show q < 16 by omega)
  rw [show 16 * (p / 16) + p % 16 = p by omega] at h1
  rw [h1, h2]; omega
theorem per_lo (p s : Int) (s0 : 0 ≤ s) (s1 : s < 64) : Go.bits .or .i64 (Go.bits .and .i64 p 15) (s * 16) = p % 16 + s * 16 := by
  rw [show Go.bits .and .i64 p 15 = p % 16 from and64_mask p 4 (by decide)]
  obtain ⟨q, hq⟩ := Int.eq_ofNat_of_zero_le (show 0 ≤ p % 16 by omega)
  obtain ⟨s, rfl⟩ := Int.eq_ofNat_of_zero_le s0
  have h2 : Go.bits .or .i64 (q : Int) (16 * (s : Int)) = q + 16 * (s : Int) := by simpa using allB_at (allB_at or_tab2 (show s < 64 by omega)) (show q < 16 by omega)
  rw [hq, show (s : Int) * 16 = 16 * s by omega, h2]
theorem sv8 (f : Nat → Int) (k : Nat) (x : Int) (h : k = 9 ∨ 13 ≤ k) (h2 : k < 18) : sv (upd f k x) k = .int .u8 x := by
  unfold sv upd; rw [if_neg (by omega), if_pos (by omega), if_pos rfl]
theorem sv64 (f : Nat → Int) (k : Nat) (x : Int) (h : k = 0 ∨ k = 3 ∨ k = 6 ∨ k = 10) : sv (upd f k x) k = .int .i64 x := by
  unfold sv upd; rw [if_neg (by omega), if_neg (by omega), if_neg (by omega), if_pos rfl]
theorem sv16 (f : Nat → Int) (x : Int) : sv (upd f 12 x) 12 = .int .u16 x := rfl
theorem svb (f : Nat → Int) (x : Int) : sv (upd f 11 x) 11 = .bool (x == 1) := rfl
set_option maxRecDepth 100000 in
set_option maxHeartbeats 4000000 in
theorem write_h0 (f : Nat → Int) (h : SB f) (hp : ∀ k, k < 3 → 0 ≤ f (3 * k) ∧ f (3 * k) < 1024) (v : Int) (v0 : 0 ≤ v) (v1 : v < 256) (hv : 128 ≤ v) (hl : v / 16 % 8 = 0) (w : World) : Calls Try.prog 14 #[.agg (S f), .int .u8 v] w fun e w' => e = .returned (.agg (S (upd (upd f 17 0) 0 (f 0 / 16 * 16 + v % 16)))) ∧ Below w.heap.size w w' := by
  have c0 := S_get f 0 (by omega)
  change (S f)[0]? = some (.int .i64 (f 0)) at c0
  have c1 := S_get f 1 (by omega)
  change (S f)[1]? = some (.int .i64 (f 1)) at c1
  have c2 := S_get f 2 (by omega)
  change (S f)[2]? = some (.bool (f 2 == 1)) at c2
  have c3 := S_get f 3 (by omega)
  change (S f)[3]? = some (.int .i64 (f 3)) at c3
  have c4 := S_get f 4 (by omega)
  change (S f)[4]? = some (.int .i64 (f 4)) at c4
  have c5 := S_get f 5 (by omega)
  change (S f)[5]? = some (.bool (f 5 == 1)) at c5
  have c6 := S_get f 6 (by omega)
  change (S f)[6]? = some (.int .i64 (f 6)) at c6
  have c7 := S_get f 7 (by omega)
  change (S f)[7]? = some (.int .i64 (f 7)) at c7
  have c8 := S_get f 8 (by omega)
  change (S f)[8]? = some (.bool (f 8 == 1)) at c8
  have c9 := S_get f 9 (by omega)
  change (S f)[9]? = some (.int .u8 (f 9)) at c9
  have c10 := S_get f 10 (by omega)
  change (S f)[10]? = some (.int .i64 (f 10)) at c10
  have c11 := S_get f 11 (by omega)
  change (S f)[11]? = some (.bool (f 11 == 1)) at c11
  have c12 := S_get f 12 (by omega)
  change (S f)[12]? = some (.int .u16 (f 12)) at c12
  have c13 := S_get f 13 (by omega)
  change (S f)[13]? = some (.int .u8 (f 13)) at c13
  have c14 := S_get f 14 (by omega)
  change (S f)[14]? = some (.int .u8 (f 14)) at c14
  have c15 := S_get f 15 (by omega)
  change (S f)[15]? = some (.int .u8 (f 15)) at c15
  have c16 := S_get f 16 (by omega)
  change (S f)[16]? = some (.int .u8 (f 16)) at c16
  have c17 := S_get f 17 (by omega)
  change (S f)[17]? = some (.int .u8 (f 17)) at c17
  have sA : BlkN (S f) 18 := S_size _
  have oA : BlkOne (S f) := S_one _
  have zn := zN
  unfold Z18 at zn
  have hs17 : ∀ x, ((S f).setIfInBounds 17 x)[17]? = some x := fun x => by rw [Array.getElem?_setIfInBounds]; simp [S_size]
  have o2 : ∀ (k1 k2 : Nat) (i1 i2 : IntKind) (x y : Int), BlkOne (((S f).setIfInBounds k1 (.int i1 x)).setIfInBounds k2 (.int i2 y)) := fun _ _ _ _ _ _ => (oA.setInt _ _ _).setInt _ _ _
  have o4 : ∀ (x y z : Int) (b : Bool), BlkOne (((((S f).setIfInBounds 9 (.int .u8 x)).setIfInBounds 10 (.int .i64 y)).setIfInBounds 11 (.bool b)).setIfInBounds 12 (.int .u16 z)) := fun _ _ _ _ => (((oA.setInt _ _ _).setInt _ _ _).setBool _ _).setInt _ _ _
  have o5 : ∀ (l x y z : Int) (b : Bool), BlkOne ((((((S f).setIfInBounds 17 (.int .u8 l)).setIfInBounds 9 (.int .u8 x)).setIfInBounds 10 (.int .i64 y)).setIfInBounds 11 (.bool b)).setIfInBounds 12 (.int .u16 z)) := fun _ _ _ _ _ => ((((oA.setInt _ _ _).setInt _ _ _).setInt _ _ _).setBool _ _).setInt _ _ _
  have b1 := and128i v v0 v1
  rw [show v / 128 * 128 = 128 by omega] at b1
  have b2 := and7i (v / 16) (by omega) (by omega)
  rw [hl] at b2
  have b3 : Go.bits .and .u8 0 3 = 0 := by decide
  have b4 : Go.bits .and .u8 0 1 = 0 := by decide
  have b5 := and15i v v0 v1
  have b6 := and63i v v0 v1
  have pp := hp 0 (by omega)
  simp only [Nat.reduceMul] at pp
  have b7 := per_hi (f 0) (v % 16) pp.1 pp.2 (by omega) (by omega)
  generalize hA : S f = A at *
  have HA := Lib.hid hA
  clear hA
  go_enter Try.func14, Try.ntmps14
  go_wp2_with fail
  exact bodyPost_ret (v := .agg _) (results_cell_row rfl _ _ (w.heap.size + 1) 30 _ (0, 0) _ rfl (by repeat (first | (refine heap_at _ _ _ ?_; first | (simp; done) | (simp; omega; done)) | (refine (heap_past _ _ _ ?_).trans ?_; focus (first | (simp; done) | (simp; omega; done))) | (refine (heap_drew _ _).trans ?_))) Try.underlying30 rfl (iS (by first | exact sA | (simp only [BlkN.set]; exact sA)))) rfl ⟨by rw [← HA.out]; rw [S_set f 17 0 _ (sv8 _ _ _ (by omega) (by omega)), S_set _ 0 (f 0 / 16 * 16 + v % 16) _ (sv64 _ _ _ (by omega))], by go_grown⟩
set_option maxRecDepth 100000 in
set_option maxHeartbeats 4000000 in
theorem write_h1 (f : Nat → Int) (h : SB f) (hp : ∀ k, k < 3 → 0 ≤ f (3 * k) ∧ f (3 * k) < 1024) (v : Int) (v0 : 0 ≤ v) (v1 : v < 256) (hv : 128 ≤ v) (hl : v / 16 % 8 = 1) (w : World) : Calls Try.prog 14 #[.agg (S f), .int .u8 v] w fun e w' => e = .returned (.agg (S (upd (upd f 17 1) 13 (v % 16)))) ∧ Below w.heap.size w w' := by
  have c0 := S_get f 0 (by omega)
  change (S f)[0]? = some (.int .i64 (f 0)) at c0
  have c1 := S_get f 1 (by omega)
  change (S f)[1]? = some (.int .i64 (f 1)) at c1
  have c2 := S_get f 2 (by omega)
  change (S f)[2]? = some (.bool (f 2 == 1)) at c2
  have c3 := S_get f 3 (by omega)
  change (S f)[3]? = some (.int .i64 (f 3)) at c3
  have c4 := S_get f 4 (by omega)
  change (S f)[4]? = some (.int .i64 (f 4)) at c4
  have c5 := S_get f 5 (by omega)
  change (S f)[5]? = some (.bool (f 5 == 1)) at c5
  have c6 := S_get f 6 (by omega)
  change (S f)[6]? = some (.int .i64 (f 6)) at c6
  have c7 := S_get f 7 (by omega)
  change (S f)[7]? = some (.int .i64 (f 7)) at c7
  have c8 := S_get f 8 (by omega)
  change (S f)[8]? = some (.bool (f 8 == 1)) at c8
  have c9 := S_get f 9 (by omega)
  change (S f)[9]? = some (.int .u8 (f 9)) at c9
  have c10 := S_get f 10 (by omega)
  change (S f)[10]? = some (.int .i64 (f 10)) at c10
  have c11 := S_get f 11 (by omega)
  change (S f)[11]? = some (.bool (f 11 == 1)) at c11
  have c12 := S_get f 12 (by omega)
  change (S f)[12]? = some (.int .u16 (f 12)) at c12
  have c13 := S_get f 13 (by omega)
  change (S f)[13]? = some (.int .u8 (f 13)) at c13
  have c14 := S_get f 14 (by omega)
  change (S f)[14]? = some (.int .u8 (f 14)) at c14
  have c15 := S_get f 15 (by omega)
  change (S f)[15]? = some (.int .u8 (f 15)) at c15
  have c16 := S_get f 16 (by omega)
  change (S f)[16]? = some (.int .u8 (f 16)) at c16
  have c17 := S_get f 17 (by omega)
  change (S f)[17]? = some (.int .u8 (f 17)) at c17
  have sA : BlkN (S f) 18 := S_size _
  have oA : BlkOne (S f) := S_one _
  have zn := zN
  unfold Z18 at zn
  have hs17 : ∀ x, ((S f).setIfInBounds 17 x)[17]? = some x := fun x => by rw [Array.getElem?_setIfInBounds]; simp [S_size]
  have o2 : ∀ (k1 k2 : Nat) (i1 i2 : IntKind) (x y : Int), BlkOne (((S f).setIfInBounds k1 (.int i1 x)).setIfInBounds k2 (.int i2 y)) := fun _ _ _ _ _ _ => (oA.setInt _ _ _).setInt _ _ _
  have o4 : ∀ (x y z : Int) (b : Bool), BlkOne (((((S f).setIfInBounds 9 (.int .u8 x)).setIfInBounds 10 (.int .i64 y)).setIfInBounds 11 (.bool b)).setIfInBounds 12 (.int .u16 z)) := fun _ _ _ _ => (((oA.setInt _ _ _).setInt _ _ _).setBool _ _).setInt _ _ _
  have o5 : ∀ (l x y z : Int) (b : Bool), BlkOne ((((((S f).setIfInBounds 17 (.int .u8 l)).setIfInBounds 9 (.int .u8 x)).setIfInBounds 10 (.int .i64 y)).setIfInBounds 11 (.bool b)).setIfInBounds 12 (.int .u16 z)) := fun _ _ _ _ _ => ((((oA.setInt _ _ _).setInt _ _ _).setInt _ _ _).setBool _ _).setInt _ _ _
  have b1 := and128i v v0 v1
  rw [show v / 128 * 128 = 128 by omega] at b1
  have b2 := and7i (v / 16) (by omega) (by omega)
  rw [hl] at b2
  have b3 : Go.bits .and .u8 0 3 = 0 := by decide
  have b4 : Go.bits .and .u8 1 1 = 1 := by decide
  have b5 := and15i v v0 v1
  have b6 := and63i v v0 v1
  generalize hA : S f = A at *
  have HA := Lib.hid hA
  clear hA
  go_enter Try.func14, Try.ntmps14
  go_wp2_with fail
  exact bodyPost_ret (v := .agg _) (results_cell_row rfl _ _ (w.heap.size + 1) 30 _ (0, 0) _ rfl (by repeat (first | (refine heap_at _ _ _ ?_; first | (simp; done) | (simp; omega; done)) | (refine (heap_past _ _ _ ?_).trans ?_; focus (first | (simp; done) | (simp; omega; done))) | (refine (heap_drew _ _).trans ?_))) Try.underlying30 rfl (iS (by first | exact sA | (simp only [BlkN.set]; exact sA)))) rfl ⟨by rw [← HA.out]; rw [S_set f 17 1 _ (sv8 _ _ _ (by omega) (by omega)), S_set _ 13 (v % 16) _ (sv8 _ _ _ (by omega) (by omega))], by go_grown⟩
set_option maxRecDepth 100000 in
set_option maxHeartbeats 4000000 in
theorem write_h2 (f : Nat → Int) (h : SB f) (hp : ∀ k, k < 3 → 0 ≤ f (3 * k) ∧ f (3 * k) < 1024) (v : Int) (v0 : 0 ≤ v) (v1 : v < 256) (hv : 128 ≤ v) (hl : v / 16 % 8 = 2) (w : World) : Calls Try.prog 14 #[.agg (S f), .int .u8 v] w fun e w' => e = .returned (.agg (S (upd (upd f 17 2) 3 (f 3 / 16 * 16 + v % 16)))) ∧ Below w.heap.size w w' := by
  have c0 := S_get f 0 (by omega)
  change (S f)[0]? = some (.int .i64 (f 0)) at c0
  have c1 := S_get f 1 (by omega)
  change (S f)[1]? = some (.int .i64 (f 1)) at c1
  have c2 := S_get f 2 (by omega)
  change (S f)[2]? = some (.bool (f 2 == 1)) at c2
  have c3 := S_get f 3 (by omega)
  change (S f)[3]? = some (.int .i64 (f 3)) at c3
  have c4 := S_get f 4 (by omega)
  change (S f)[4]? = some (.int .i64 (f 4)) at c4
  have c5 := S_get f 5 (by omega)
  change (S f)[5]? = some (.bool (f 5 == 1)) at c5
  have c6 := S_get f 6 (by omega)
  change (S f)[6]? = some (.int .i64 (f 6)) at c6
  have c7 := S_get f 7 (by omega)
  change (S f)[7]? = some (.int .i64 (f 7)) at c7
  have c8 := S_get f 8 (by omega)
  change (S f)[8]? = some (.bool (f 8 == 1)) at c8
  have c9 := S_get f 9 (by omega)
  change (S f)[9]? = some (.int .u8 (f 9)) at c9
  have c10 := S_get f 10 (by omega)
  change (S f)[10]? = some (.int .i64 (f 10)) at c10
  have c11 := S_get f 11 (by omega)
  change (S f)[11]? = some (.bool (f 11 == 1)) at c11
  have c12 := S_get f 12 (by omega)
  change (S f)[12]? = some (.int .u16 (f 12)) at c12
  have c13 := S_get f 13 (by omega)
  change (S f)[13]? = some (.int .u8 (f 13)) at c13
  have c14 := S_get f 14 (by omega)
  change (S f)[14]? = some (.int .u8 (f 14)) at c14
  have c15 := S_get f 15 (by omega)
  change (S f)[15]? = some (.int .u8 (f 15)) at c15
  have c16 := S_get f 16 (by omega)
  change (S f)[16]? = some (.int .u8 (f 16)) at c16
  have c17 := S_get f 17 (by omega)
  change (S f)[17]? = some (.int .u8 (f 17)) at c17
  have sA : BlkN (S f) 18 := S_size _
  have oA : BlkOne (S f) := S_one _
  have zn := zN
  unfold Z18 at zn
  have hs17 : ∀ x, ((S f).setIfInBounds 17 x)[17]? = some x := fun x => by rw [Array.getElem?_setIfInBounds]; simp [S_size]
  have o2 : ∀ (k1 k2 : Nat) (i1 i2 : IntKind) (x y : Int), BlkOne (((S f).setIfInBounds k1 (.int i1 x)).setIfInBounds k2 (.int i2 y)) := fun _ _ _ _ _ _ => (oA.setInt _ _ _).setInt _ _ _
  have o4 : ∀ (x y z : Int) (b : Bool), BlkOne (((((S f).setIfInBounds 9 (.int .u8 x)).setIfInBounds 10 (.int .i64 y)).setIfInBounds 11 (.bool b)).setIfInBounds 12 (.int .u16 z)) := fun _ _ _ _ => (((oA.setInt _ _ _).setInt _ _ _).setBool _ _).setInt _ _ _
  have o5 : ∀ (l x y z : Int) (b : Bool), BlkOne ((((((S f).setIfInBounds 17 (.int .u8 l)).setIfInBounds 9 (.int .u8 x)).setIfInBounds 10 (.int .i64 y)).setIfInBounds 11 (.bool b)).setIfInBounds 12 (.int .u16 z)) := fun _ _ _ _ _ => ((((oA.setInt _ _ _).setInt _ _ _).setInt _ _ _).setBool _ _).setInt _ _ _
  have b1 := and128i v v0 v1
  rw [show v / 128 * 128 = 128 by omega] at b1
  have b2 := and7i (v / 16) (by omega) (by omega)
  rw [hl] at b2
  have b3 : Go.bits .and .u8 1 3 = 1 := by decide
  have b4 : Go.bits .and .u8 2 1 = 0 := by decide
  have b5 := and15i v v0 v1
  have b6 := and63i v v0 v1
  have pp := hp 1 (by omega)
  simp only [Nat.reduceMul] at pp
  have b7 := per_hi (f 3) (v % 16) pp.1 pp.2 (by omega) (by omega)
  generalize hA : S f = A at *
  have HA := Lib.hid hA
  clear hA
  go_enter Try.func14, Try.ntmps14
  go_wp2_with fail
  exact bodyPost_ret (v := .agg _) (results_cell_row rfl _ _ (w.heap.size + 1) 30 _ (0, 0) _ rfl (by repeat (first | (refine heap_at _ _ _ ?_; first | (simp; done) | (simp; omega; done)) | (refine (heap_past _ _ _ ?_).trans ?_; focus (first | (simp; done) | (simp; omega; done))) | (refine (heap_drew _ _).trans ?_))) Try.underlying30 rfl (iS (by first | exact sA | (simp only [BlkN.set]; exact sA)))) rfl ⟨by rw [← HA.out]; rw [S_set f 17 2 _ (sv8 _ _ _ (by omega) (by omega)), S_set _ 3 (f 3 / 16 * 16 + v % 16) _ (sv64 _ _ _ (by omega))], by go_grown⟩
set_option maxRecDepth 100000 in
set_option maxHeartbeats 4000000 in
theorem write_h3 (f : Nat → Int) (h : SB f) (hp : ∀ k, k < 3 → 0 ≤ f (3 * k) ∧ f (3 * k) < 1024) (v : Int) (v0 : 0 ≤ v) (v1 : v < 256) (hv : 128 ≤ v) (hl : v / 16 % 8 = 3) (w : World) : Calls Try.prog 14 #[.agg (S f), .int .u8 v] w fun e w' => e = .returned (.agg (S (upd (upd f 17 3) 14 (v % 16)))) ∧ Below w.heap.size w w' := by
  have c0 := S_get f 0 (by omega)
  change (S f)[0]? = some (.int .i64 (f 0)) at c0
  have c1 := S_get f 1 (by omega)
  change (S f)[1]? = some (.int .i64 (f 1)) at c1
  have c2 := S_get f 2 (by omega)
  change (S f)[2]? = some (.bool (f 2 == 1)) at c2
  have c3 := S_get f 3 (by omega)
  change (S f)[3]? = some (.int .i64 (f 3)) at c3
  have c4 := S_get f 4 (by omega)
  change (S f)[4]? = some (.int .i64 (f 4)) at c4
  have c5 := S_get f 5 (by omega)
  change (S f)[5]? = some (.bool (f 5 == 1)) at c5
  have c6 := S_get f 6 (by omega)
  change (S f)[6]? = some (.int .i64 (f 6)) at c6
  have c7 := S_get f 7 (by omega)
  change (S f)[7]? = some (.int .i64 (f 7)) at c7
  have c8 := S_get f 8 (by omega)
  change (S f)[8]? = some (.bool (f 8 == 1)) at c8
  have c9 := S_get f 9 (by omega)
  change (S f)[9]? = some (.int .u8 (f 9)) at c9
  have c10 := S_get f 10 (by omega)
  change (S f)[10]? = some (.int .i64 (f 10)) at c10
  have c11 := S_get f 11 (by omega)
  change (S f)[11]? = some (.bool (f 11 == 1)) at c11
  have c12 := S_get f 12 (by omega)
  change (S f)[12]? = some (.int .u16 (f 12)) at c12
  have c13 := S_get f 13 (by omega)
  change (S f)[13]? = some (.int .u8 (f 13)) at c13
  have c14 := S_get f 14 (by omega)
  change (S f)[14]? = some (.int .u8 (f 14)) at c14
  have c15 := S_get f 15 (by omega)
  change (S f)[15]? = some (.int .u8 (f 15)) at c15
  have c16 := S_get f 16 (by omega)
  change (S f)[16]? = some (.int .u8 (f 16)) at c16
  have c17 := S_get f 17 (by omega)
  change (S f)[17]? = some (.int .u8 (f 17)) at c17
  have sA : BlkN (S f) 18 := S_size _
  have oA : BlkOne (S f) := S_one _
  have zn := zN
  unfold Z18 at zn
  have hs17 : ∀ x, ((S f).setIfInBounds 17 x)[17]? = some x := fun x => by rw [Array.getElem?_setIfInBounds]; simp [S_size]
  have o2 : ∀ (k1 k2 : Nat) (i1 i2 : IntKind) (x y : Int), BlkOne (((S f).setIfInBounds k1 (.int i1 x)).setIfInBounds k2 (.int i2 y)) := fun _ _ _ _ _ _ => (oA.setInt _ _ _).setInt _ _ _
  have o4 : ∀ (x y z : Int) (b : Bool), BlkOne (((((S f).setIfInBounds 9 (.int .u8 x)).setIfInBounds 10 (.int .i64 y)).setIfInBounds 11 (.bool b)).setIfInBounds 12 (.int .u16 z)) := fun _ _ _ _ => (((oA.setInt _ _ _).setInt _ _ _).setBool _ _).setInt _ _ _
  have o5 : ∀ (l x y z : Int) (b : Bool), BlkOne ((((((S f).setIfInBounds 17 (.int .u8 l)).setIfInBounds 9 (.int .u8 x)).setIfInBounds 10 (.int .i64 y)).setIfInBounds 11 (.bool b)).setIfInBounds 12 (.int .u16 z)) := fun _ _ _ _ _ => ((((oA.setInt _ _ _).setInt _ _ _).setInt _ _ _).setBool _ _).setInt _ _ _
  have b1 := and128i v v0 v1
  rw [show v / 128 * 128 = 128 by omega] at b1
  have b2 := and7i (v / 16) (by omega) (by omega)
  rw [hl] at b2
  have b3 : Go.bits .and .u8 1 3 = 1 := by decide
  have b4 : Go.bits .and .u8 3 1 = 1 := by decide
  have b5 := and15i v v0 v1
  have b6 := and63i v v0 v1
  generalize hA : S f = A at *
  have HA := Lib.hid hA
  clear hA
  go_enter Try.func14, Try.ntmps14
  go_wp2_with fail
  exact bodyPost_ret (v := .agg _) (results_cell_row rfl _ _ (w.heap.size + 1) 30 _ (0, 0) _ rfl (by repeat (first | (refine heap_at _ _ _ ?_; first | (simp; done) | (simp; omega; done)) | (refine (heap_past _ _ _ ?_).trans ?_; focus (first | (simp; done) | (simp; omega; done))) | (refine (heap_drew _ _).trans ?_))) Try.underlying30 rfl (iS (by first | exact sA | (simp only [BlkN.set]; exact sA)))) rfl ⟨by rw [← HA.out]; rw [S_set f 17 3 _ (sv8 _ _ _ (by omega) (by omega)), S_set _ 14 (v % 16) _ (sv8 _ _ _ (by omega) (by omega))], by go_grown⟩
set_option maxRecDepth 100000 in
set_option maxHeartbeats 4000000 in
theorem write_h4 (f : Nat → Int) (h : SB f) (hp : ∀ k, k < 3 → 0 ≤ f (3 * k) ∧ f (3 * k) < 1024) (v : Int) (v0 : 0 ≤ v) (v1 : v < 256) (hv : 128 ≤ v) (hl : v / 16 % 8 = 4) (w : World) : Calls Try.prog 14 #[.agg (S f), .int .u8 v] w fun e w' => e = .returned (.agg (S (upd (upd f 17 4) 6 (f 6 / 16 * 16 + v % 16)))) ∧ Below w.heap.size w w' := by
  have c0 := S_get f 0 (by omega)
  change (S f)[0]? = some (.int .i64 (f 0)) at c0
  have c1 := S_get f 1 (by omega)
  change (S f)[1]? = some (.int .i64 (f 1)) at c1
  have c2 := S_get f 2 (by omega)
  change (S f)[2]? = some (.bool (f 2 == 1)) at c2
  have c3 := S_get f 3 (by omega)
  change (S f)[3]? = some (.int .i64 (f 3)) at c3
  have c4 := S_get f 4 (by omega)
  change (S f)[4]? = some (.int .i64 (f 4)) at c4
  have c5 := S_get f 5 (by omega)
  change (S f)[5]? = some (.bool (f 5 == 1)) at c5
  have c6 := S_get f 6 (by omega)
  change (S f)[6]? = some (.int .i64 (f 6)) at c6
  have c7 := S_get f 7 (by omega)
  change (S f)[7]? = some (.int .i64 (f 7)) at c7
  have c8 := S_get f 8 (by omega)
  change (S f)[8]? = some (.bool (f 8 == 1)) at c8
  have c9 := S_get f 9 (by omega)
  change (S f)[9]? = some (.int .u8 (f 9)) at c9
  have c10 := S_get f 10 (by omega)
  change (S f)[10]? = some (.int .i64 (f 10)) at c10
  have c11 := S_get f 11 (by omega)
  change (S f)[11]? = some (.bool (f 11 == 1)) at c11
  have c12 := S_get f 12 (by omega)
  change (S f)[12]? = some (.int .u16 (f 12)) at c12
  have c13 := S_get f 13 (by omega)
  change (S f)[13]? = some (.int .u8 (f 13)) at c13
  have c14 := S_get f 14 (by omega)
  change (S f)[14]? = some (.int .u8 (f 14)) at c14
  have c15 := S_get f 15 (by omega)
  change (S f)[15]? = some (.int .u8 (f 15)) at c15
  have c16 := S_get f 16 (by omega)
  change (S f)[16]? = some (.int .u8 (f 16)) at c16
  have c17 := S_get f 17 (by omega)
  change (S f)[17]? = some (.int .u8 (f 17)) at c17
  have sA : BlkN (S f) 18 := S_size _
  have oA : BlkOne (S f) := S_one _
  have zn := zN
  unfold Z18 at zn
  have hs17 : ∀ x, ((S f).setIfInBounds 17 x)[17]? = some x := fun x => by rw [Array.getElem?_setIfInBounds]; simp [S_size]
  have o2 : ∀ (k1 k2 : Nat) (i1 i2 : IntKind) (x y : Int), BlkOne (((S f).setIfInBounds k1 (.int i1 x)).setIfInBounds k2 (.int i2 y)) := fun _ _ _ _ _ _ => (oA.setInt _ _ _).setInt _ _ _
  have o4 : ∀ (x y z : Int) (b : Bool), BlkOne (((((S f).setIfInBounds 9 (.int .u8 x)).setIfInBounds 10 (.int .i64 y)).setIfInBounds 11 (.bool b)).setIfInBounds 12 (.int .u16 z)) := fun _ _ _ _ => (((oA.setInt _ _ _).setInt _ _ _).setBool _ _).setInt _ _ _
  have o5 : ∀ (l x y z : Int) (b : Bool), BlkOne ((((((S f).setIfInBounds 17 (.int .u8 l)).setIfInBounds 9 (.int .u8 x)).setIfInBounds 10 (.int .i64 y)).setIfInBounds 11 (.bool b)).setIfInBounds 12 (.int .u16 z)) := fun _ _ _ _ _ => ((((oA.setInt _ _ _).setInt _ _ _).setInt _ _ _).setBool _ _).setInt _ _ _
  have b1 := and128i v v0 v1
  rw [show v / 128 * 128 = 128 by omega] at b1
  have b2 := and7i (v / 16) (by omega) (by omega)
  rw [hl] at b2
  have b3 : Go.bits .and .u8 2 3 = 2 := by decide
  have b4 : Go.bits .and .u8 4 1 = 0 := by decide
  have b5 := and15i v v0 v1
  have b6 := and63i v v0 v1
  have pp := hp 2 (by omega)
  simp only [Nat.reduceMul] at pp
  have b7 := per_hi (f 6) (v % 16) pp.1 pp.2 (by omega) (by omega)
  generalize hA : S f = A at *
  have HA := Lib.hid hA
  clear hA
  go_enter Try.func14, Try.ntmps14
  go_wp2_with fail
  exact bodyPost_ret (v := .agg _) (results_cell_row rfl _ _ (w.heap.size + 1) 30 _ (0, 0) _ rfl (by repeat (first | (refine heap_at _ _ _ ?_; first | (simp; done) | (simp; omega; done)) | (refine (heap_past _ _ _ ?_).trans ?_; focus (first | (simp; done) | (simp; omega; done))) | (refine (heap_drew _ _).trans ?_))) Try.underlying30 rfl (iS (by first | exact sA | (simp only [BlkN.set]; exact sA)))) rfl ⟨by rw [← HA.out]; rw [S_set f 17 4 _ (sv8 _ _ _ (by omega) (by omega)), S_set _ 6 (f 6 / 16 * 16 + v % 16) _ (sv64 _ _ _ (by omega))], by go_grown⟩
set_option maxRecDepth 100000 in
set_option maxHeartbeats 4000000 in
theorem write_h5 (f : Nat → Int) (h : SB f) (hp : ∀ k, k < 3 → 0 ≤ f (3 * k) ∧ f (3 * k) < 1024) (v : Int) (v0 : 0 ≤ v) (v1 : v < 256) (hv : 128 ≤ v) (hl : v / 16 % 8 = 5) (w : World) : Calls Try.prog 14 #[.agg (S f), .int .u8 v] w fun e w' => e = .returned (.agg (S (upd (upd f 17 5) 15 (v % 16)))) ∧ Below w.heap.size w w' := by
  have c0 := S_get f 0 (by omega)
  change (S f)[0]? = some (.int .i64 (f 0)) at c0
  have c1 := S_get f 1 (by omega)
  change (S f)[1]? = some (.int .i64 (f 1)) at c1
  have c2 := S_get f 2 (by omega)
  change (S f)[2]? = some (.bool (f 2 == 1)) at c2
  have c3 := S_get f 3 (by omega)
  change (S f)[3]? = some (.int .i64 (f 3)) at c3
  have c4 := S_get f 4 (by omega)
  change (S f)[4]? = some (.int .i64 (f 4)) at c4
  have c5 := S_get f 5 (by omega)
  change (S f)[5]? = some (.bool (f 5 == 1)) at c5
  have c6 := S_get f 6 (by omega)
  change (S f)[6]? = some (.int .i64 (f 6)) at c6
  have c7 := S_get f 7 (by omega)
  change (S f)[7]? = some (.int .i64 (f 7)) at c7
  have c8 := S_get f 8 (by omega)
  change (S f)[8]? = some (.bool (f 8 == 1)) at c8
  have c9 := S_get f 9 (by omega)
  change (S f)[9]? = some (.int .u8 (f 9)) at c9
  have c10 := S_get f 10 (by omega)
  change (S f)[10]? = some (.int .i64 (f 10)) at c10
  have c11 := S_get f 11 (by omega)
  change (S f)[11]? = some (.bool (f 11 == 1)) at c11
  have c12 := S_get f 12 (by omega)
  change (S f)[12]? = some (.int .u16 (f 12)) at c12
  have c13 := S_get f 13 (by omega)
  change (S f)[13]? = some (.int .u8 (f 13)) at c13
  have c14 := S_get f 14 (by omega)
  change (S f)[14]? = some (.int .u8 (f 14)) at c14
  have c15 := S_get f 15 (by omega)
  change (S f)[15]? = some (.int .u8 (f 15)) at c15
  have c16 := S_get f 16 (by omega)
  change (S f)[16]? = some (.int .u8 (f 16)) at c16
  have c17 := S_get f 17 (by omega)
  change (S f)[17]? = some (.int .u8 (f 17)) at c17
  have sA : BlkN (S f) 18 := S_size _
  have oA : BlkOne (S f) := S_one _
  have zn := zN
  unfold Z18 at zn
  have hs17 : ∀ x, ((S f).setIfInBounds 17 x)[17]? = some x := fun x => by rw [Array.getElem?_setIfInBounds]; simp [S_size]
  have o2 : ∀ (k1 k2 : Nat) (i1 i2 : IntKind) (x y : Int), BlkOne (((S f).setIfInBounds k1 (.int i1 x)).setIfInBounds k2 (.int i2 y)) := fun _ _ _ _ _ _ => (oA.setInt _ _ _).setInt _ _ _
  have o4 : ∀ (x y z : Int) (b : Bool), BlkOne (((((S f).setIfInBounds 9 (.int .u8 x)).setIfInBounds 10 (.int .i64 y)).setIfInBounds 11 (.bool b)).setIfInBounds 12 (.int .u16 z)) := fun _ _ _ _ => (((oA.setInt _ _ _).setInt _ _ _).setBool _ _).setInt _ _ _
  have o5 : ∀ (l x y z : Int) (b : Bool), BlkOne ((((((S f).setIfInBounds 17 (.int .u8 l)).setIfInBounds 9 (.int .u8 x)).setIfInBounds 10 (.int .i64 y)).setIfInBounds 11 (.bool b)).setIfInBounds 12 (.int .u16 z)) := fun _ _ _ _ _ => ((((oA.setInt _ _ _).setInt _ _ _).setInt _ _ _).setBool _ _).setInt _ _ _
  have b1 := and128i v v0 v1
  rw [show v / 128 * 128 = 128 by omega] at b1
  have b2 := and7i (v / 16) (by omega) (by omega)
  rw [hl] at b2
  have b3 : Go.bits .and .u8 2 3 = 2 := by decide
  have b4 : Go.bits .and .u8 5 1 = 1 := by decide
  have b5 := and15i v v0 v1
  have b6 := and63i v v0 v1
  generalize hA : S f = A at *
  have HA := Lib.hid hA
  clear hA
  go_enter Try.func14, Try.ntmps14
  go_wp2_with fail
  exact bodyPost_ret (v := .agg _) (results_cell_row rfl _ _ (w.heap.size + 1) 30 _ (0, 0) _ rfl (by repeat (first | (refine heap_at _ _ _ ?_; first | (simp; done) | (simp; omega; done)) | (refine (heap_past _ _ _ ?_).trans ?_; focus (first | (simp; done) | (simp; omega; done))) | (refine (heap_drew _ _).trans ?_))) Try.underlying30 rfl (iS (by first | exact sA | (simp only [BlkN.set]; exact sA)))) rfl ⟨by rw [← HA.out]; rw [S_set f 17 5 _ (sv8 _ _ _ (by omega) (by omega)), S_set _ 15 (v % 16) _ (sv8 _ _ _ (by omega) (by omega))], by go_grown⟩
set_option maxRecDepth 100000 in
set_option maxHeartbeats 4000000 in
theorem write_h6 (f : Nat → Int) (h : SB f) (hp : ∀ k, k < 3 → 0 ≤ f (3 * k) ∧ f (3 * k) < 1024) (v : Int) (v0 : 0 ≤ v) (v1 : v < 256) (hv : 128 ≤ v) (hl : v / 16 % 8 = 6) (w : World) : Calls Try.prog 14 #[.agg (S f), .int .u8 v] w fun e w' => e = .returned (.agg (S (upd (upd (upd (upd (upd f 17 6) 9 (v % 8)) 10 (f 10)) 11 (f 11)) 12 32768))) ∧ Below w.heap.size w w' := by
  have c0 := S_get f 0 (by omega)
  change (S f)[0]? = some (.int .i64 (f 0)) at c0
  have c1 := S_get f 1 (by omega)
  change (S f)[1]? = some (.int .i64 (f 1)) at c1
  have c2 := S_get f 2 (by omega)
  change (S f)[2]? = some (.bool (f 2 == 1)) at c2
  have c3 := S_get f 3 (by omega)
  change (S f)[3]? = some (.int .i64 (f 3)) at c3
  have c4 := S_get f 4 (by omega)
  change (S f)[4]? = some (.int .i64 (f 4)) at c4
  have c5 := S_get f 5 (by omega)
  change (S f)[5]? = some (.bool (f 5 == 1)) at c5
  have c6 := S_get f 6 (by omega)
  change (S f)[6]? = some (.int .i64 (f 6)) at c6
  have c7 := S_get f 7 (by omega)
  change (S f)[7]? = some (.int .i64 (f 7)) at c7
  have c8 := S_get f 8 (by omega)
  change (S f)[8]? = some (.bool (f 8 == 1)) at c8
  have c9 := S_get f 9 (by omega)
  change (S f)[9]? = some (.int .u8 (f 9)) at c9
  have c10 := S_get f 10 (by omega)
  change (S f)[10]? = some (.int .i64 (f 10)) at c10
  have c11 := S_get f 11 (by omega)
  change (S f)[11]? = some (.bool (f 11 == 1)) at c11
  have c12 := S_get f 12 (by omega)
  change (S f)[12]? = some (.int .u16 (f 12)) at c12
  have c13 := S_get f 13 (by omega)
  change (S f)[13]? = some (.int .u8 (f 13)) at c13
  have c14 := S_get f 14 (by omega)
  change (S f)[14]? = some (.int .u8 (f 14)) at c14
  have c15 := S_get f 15 (by omega)
  change (S f)[15]? = some (.int .u8 (f 15)) at c15
  have c16 := S_get f 16 (by omega)
  change (S f)[16]? = some (.int .u8 (f 16)) at c16
  have c17 := S_get f 17 (by omega)
  change (S f)[17]? = some (.int .u8 (f 17)) at c17
  have sA : BlkN (S f) 18 := S_size _
  have oA : BlkOne (S f) := S_one _
  have zn := zN
  unfold Z18 at zn
  have hs17 : ∀ x, ((S f).setIfInBounds 17 x)[17]? = some x := fun x => by rw [Array.getElem?_setIfInBounds]; simp [S_size]
  have o2 : ∀ (k1 k2 : Nat) (i1 i2 : IntKind) (x y : Int), BlkOne (((S f).setIfInBounds k1 (.int i1 x)).setIfInBounds k2 (.int i2 y)) := fun _ _ _ _ _ _ => (oA.setInt _ _ _).setInt _ _ _
  have o4 : ∀ (x y z : Int) (b : Bool), BlkOne (((((S f).setIfInBounds 9 (.int .u8 x)).setIfInBounds 10 (.int .i64 y)).setIfInBounds 11 (.bool b)).setIfInBounds 12 (.int .u16 z)) := fun _ _ _ _ => (((oA.setInt _ _ _).setInt _ _ _).setBool _ _).setInt _ _ _
  have o5 : ∀ (l x y z : Int) (b : Bool), BlkOne ((((((S f).setIfInBounds 17 (.int .u8 l)).setIfInBounds 9 (.int .u8 x)).setIfInBounds 10 (.int .i64 y)).setIfInBounds 11 (.bool b)).setIfInBounds 12 (.int .u16 z)) := fun _ _ _ _ _ => ((((oA.setInt _ _ _).setInt _ _ _).setInt _ _ _).setBool _ _).setInt _ _ _
  have b1 := and128i v v0 v1
  rw [show v / 128 * 128 = 128 by omega] at b1
  have b2 := and7i (v / 16) (by omega) (by omega)
  rw [hl] at b2
  have b3 : Go.bits .and .u8 3 3 = 3 := by decide
  have b4 : Go.bits .and .u8 6 1 = 0 := by decide
  have b5 := and15i v v0 v1
  have b6 := and63i v v0 v1
  have hset := fun W => Noise.set_any (f 9) (f 10) (f 12) v (f 11 == 1) v0 v1 W
  have HSET := Lib.hid hset
  clear hset
  generalize hA : S f = A at *
  have HA := Lib.hid hA
  clear hA
  go_enter Try.func14, Try.ntmps14
  go_wp2_with (go_at_call 22; with_reducible refine (HSET.out _).mono ?_; rintro e w' ⟨rfl, o1, o2, rfl⟩)
  exact bodyPost_ret (v := .agg _) (results_cell_row rfl _ _ (w.heap.size + 1) 30 _ (0, 0) _ rfl (by repeat (first | (refine heap_at _ _ _ ?_; first | (simp; done) | (simp; omega; done)) | (refine (heap_past _ _ _ ?_).trans ?_; focus (first | (simp; done) | (simp; omega; done))) | (refine (heap_drew _ _).trans ?_))) Try.underlying30 rfl (iS (by first | exact sA | (simp only [BlkN.set]; exact sA)))) rfl ⟨by rw [← HA.out]; rw [S_set f 17 6 _ (sv8 _ _ _ (by omega) (by omega)), S_set _ 9 (v % 8) _ (sv8 _ _ _ (by omega) (by omega)), S_set _ 10 (f 10) _ (sv64 _ _ _ (by omega)), S_set _ 11 (f 11) _ (svb _ _), S_set _ 12 32768 _ (sv16 _ _)], by go_grown⟩
set_option maxRecDepth 100000 in
set_option maxHeartbeats 4000000 in
theorem write_h7 (f : Nat → Int) (h : SB f) (hp : ∀ k, k < 3 → 0 ≤ f (3 * k) ∧ f (3 * k) < 1024) (v : Int) (v0 : 0 ≤ v) (v1 : v < 256) (hv : 128 ≤ v) (hl : v / 16 % 8 = 7) (w : World) : Calls Try.prog 14 #[.agg (S f), .int .u8 v] w fun e w' => e = .returned (.agg (S (upd (upd f 17 7) 16 (v % 16)))) ∧ Below w.heap.size w w' := by
  have c0 := S_get f 0 (by omega)
  change (S f)[0]? = some (.int .i64 (f 0)) at c0
  have c1 := S_get f 1 (by omega)
  change (S f)[1]? = some (.int .i64 (f 1)) at c1
  have c2 := S_get f 2 (by omega)
  change (S f)[2]? = some (.bool (f 2 == 1)) at c2
  have c3 := S_get f 3 (by omega)
  change (S f)[3]? = some (.int .i64 (f 3)) at c3
  have c4 := S_get f 4 (by omega)
  change (S f)[4]? = some (.int .i64 (f 4)) at c4
  have c5 := S_get f 5 (by omega)
  change (S f)[5]? = some (.bool (f 5 == 1)) at c5
  have c6 := S_get f 6 (by omega)
  change (S f)[6]? = some (.int .i64 (f 6)) at c6
  have c7 := S_get f 7 (by omega)
  change (S f)[7]? = some (.int .i64 (f 7)) at c7
  have c8 := S_get f 8 (by omega)
  change (S f)[8]? = some (.bool (f 8 == 1)) at c8
  have c9 := S_get f 9 (by omega)
  change (S f)[9]? = some (.int .u8 (f 9)) at c9
  have c10 := S_get f 10 (by omega)
  change (S f)[10]? = some (.int .i64 (f 10)) at c10
  have c11 := S_get f 11 (by omega)
  change (S f)[11]? = some (.bool (f 11 == 1)) at c11
  have c12 := S_get f 12 (by omega)
  change (S f)[12]? = some (.int .u16 (f 12)) at c12
  have c13 := S_get f 13 (by omega)
  change (S f)[13]? = some (.int .u8 (f 13)) at c13
  have c14 := S_get f 14 (by omega)
  change (S f)[14]? = some (.int .u8 (f 14)) at c14
  have c15 := S_get f 15 (by omega)
  change (S f)[15]? = some (.int .u8 (f 15)) at c15
  have c16 := S_get f 16 (by omega)
  change (S f)[16]? = some (.int .u8 (f 16)) at c16
  have c17 := S_get f 17 (by omega)
  change (S f)[17]? = some (.int .u8 (f 17)) at c17
  have sA : BlkN (S f) 18 := S_size _
  have oA : BlkOne (S f) := S_one _
  have zn := zN
  unfold Z18 at zn
  have hs17 : ∀ x, ((S f).setIfInBounds 17 x)[17]? = some x := fun x => by rw [Array.getElem?_setIfInBounds]; simp [S_size]
  have o2 : ∀ (k1 k2 : Nat) (i1 i2 : IntKind) (x y : Int), BlkOne (((S f).setIfInBounds k1 (.int i1 x)).setIfInBounds k2 (.int i2 y)) := fun _ _ _ _ _ _ => (oA.setInt _ _ _).setInt _ _ _
  have o4 : ∀ (x y z : Int) (b : Bool), BlkOne (((((S f).setIfInBounds 9 (.int .u8 x)).setIfInBounds 10 (.int .i64 y)).setIfInBounds 11 (.bool b)).setIfInBounds 12 (.int .u16 z)) := fun _ _ _ _ => (((oA.setInt _ _ _).setInt _ _ _).setBool _ _).setInt _ _ _
  have o5 : ∀ (l x y z : Int) (b : Bool), BlkOne ((((((S f).setIfInBounds 17 (.int .u8 l)).setIfInBounds 9 (.int .u8 x)).setIfInBounds 10 (.int .i64 y)).setIfInBounds 11 (.bool b)).setIfInBounds 12 (.int .u16 z)) := fun _ _ _ _ _ => ((((oA.setInt _ _ _).setInt _ _ _).setInt _ _ _).setBool _ _).setInt _ _ _
  have b1 := and128i v v0 v1
  rw [show v / 128 * 128 = 128 by omega] at b1
  have b2 := and7i (v / 16) (by omega) (by omega)
  rw [hl] at b2
  have b3 : Go.bits .and .u8 3 3 = 3 := by decide
  have b4 : Go.bits .and .u8 7 1 = 1 := by decide
  have b5 := and15i v v0 v1
  have b6 := and63i v v0 v1
  generalize hA : S f = A at *
  have HA := Lib.hid hA
  clear hA
  go_enter Try.func14, Try.ntmps14
  go_wp2_with fail
  exact bodyPost_ret (v := .agg _) (results_cell_row rfl _ _ (w.heap.size + 1) 30 _ (0, 0) _ rfl (by repeat (first | (refine heap_at _ _ _ ?_; first | (simp; done) | (simp; omega; done)) | (refine (heap_past _ _ _ ?_).trans ?_; focus (first | (simp; done) | (simp; omega; done))) | (refine (heap_drew _ _).trans ?_))) Try.underlying30 rfl (iS (by first | exact sA | (simp only [BlkN.set]; exact sA)))) rfl ⟨by rw [← HA.out]; rw [S_set f 17 7 _ (sv8 _ _ _ (by omega) (by omega)), S_set _ 16 (v % 16) _ (sv8 _ _ _ (by omega) (by omega))], by go_grown⟩
set_option maxRecDepth 100000 in
set_option maxHeartbeats 4000000 in
theorem write_l0 (f : Nat → Int) (h : SB f) (hp : ∀ k, k < 3 → 0 ≤ f (3 * k) ∧ f (3 * k) < 1024) (v : Int) (v0 : 0 ≤ v) (v1 : v < 256) (hv : v < 128) (hl : f 17 = 0) (w : World) : Calls Try.prog 14 #[.agg (S f), .int .u8 v] w fun e w' => e = .returned (.agg (S (upd f 0 (f 0 % 16 + v % 64 * 16)))) ∧ Below w.heap.size w w' := by
  have c0 := S_get f 0 (by omega)
  change (S f)[0]? = some (.int .i64 (f 0)) at c0
  have c1 := S_get f 1 (by omega)
  change (S f)[1]? = some (.int .i64 (f 1)) at c1
  have c2 := S_get f 2 (by omega)
  change (S f)[2]? = some (.bool (f 2 == 1)) at c2
  have c3 := S_get f 3 (by omega)
  change (S f)[3]? = some (.int .i64 (f 3)) at c3
  have c4 := S_get f 4 (by omega)
  change (S f)[4]? = some (.int .i64 (f 4)) at c4
  have c5 := S_get f 5 (by omega)
  change (S f)[5]? = some (.bool (f 5 == 1)) at c5
  have c6 := S_get f 6 (by omega)
  change (S f)[6]? = some (.int .i64 (f 6)) at c6
  have c7 := S_get f 7 (by omega)
  change (S f)[7]? = some (.int .i64 (f 7)) at c7
  have c8 := S_get f 8 (by omega)
  change (S f)[8]? = some (.bool (f 8 == 1)) at c8
  have c9 := S_get f 9 (by omega)
  change (S f)[9]? = some (.int .u8 (f 9)) at c9
  have c10 := S_get f 10 (by omega)
  change (S f)[10]? = some (.int .i64 (f 10)) at c10
  have c11 := S_get f 11 (by omega)
  change (S f)[11]? = some (.bool (f 11 == 1)) at c11
  have c12 := S_get f 12 (by omega)
  change (S f)[12]? = some (.int .u16 (f 12)) at c12
  have c13 := S_get f 13 (by omega)
  change (S f)[13]? = some (.int .u8 (f 13)) at c13
  have c14 := S_get f 14 (by omega)
  change (S f)[14]? = some (.int .u8 (f 14)) at c14
  have c15 := S_get f 15 (by omega)
  change (S f)[15]? = some (.int .u8 (f 15)) at c15
  have c16 := S_get f 16 (by omega)
  change (S f)[16]? = some (.int .u8 (f 16)) at c16
  have c17 := S_get f 17 (by omega)
  change (S f)[17]? = some (.int .u8 (f 17)) at c17
  rw [hl] at c17
  have sA : BlkN (S f) 18 := S_size _
  have oA : BlkOne (S f) := S_one _
  have zn := zN
  unfold Z18 at zn
  have hs17 : ∀ x, ((S f).setIfInBounds 17 x)[17]? = some x := fun x => by rw [Array.getElem?_setIfInBounds]; simp [S_size]
  have o2 : ∀ (k1 k2 : Nat) (i1 i2 : IntKind) (x y : Int), BlkOne (((S f).setIfInBounds k1 (.int i1 x)).setIfInBounds k2 (.int i2 y)) := fun _ _ _ _ _ _ => (oA.setInt _ _ _).setInt _ _ _
  have o4 : ∀ (x y z : Int) (b : Bool), BlkOne (((((S f).setIfInBounds 9 (.int .u8 x)).setIfInBounds 10 (.int .i64 y)).setIfInBounds 11 (.bool b)).setIfInBounds 12 (.int .u16 z)) := fun _ _ _ _ => (((oA.setInt _ _ _).setInt _ _ _).setBool _ _).setInt _ _ _
  have o5 : ∀ (l x y z : Int) (b : Bool), BlkOne ((((((S f).setIfInBounds 17 (.int .u8 l)).setIfInBounds 9 (.int .u8 x)).setIfInBounds 10 (.int .i64 y)).setIfInBounds 11 (.bool b)).setIfInBounds 12 (.int .u16 z)) := fun _ _ _ _ _ => ((((oA.setInt _ _ _).setInt _ _ _).setInt _ _ _).setBool _ _).setInt _ _ _
  have b1 := and128i v v0 v1
  rw [show v / 128 * 128 = 0 by omega] at b1
  have b3 : Go.bits .and .u8 0 3 = 0 := by decide
  have b4 : Go.bits .and .u8 0 1 = 0 := by decide
  have b5 := and15i v v0 v1
  have b6 := and63i v v0 v1
  have pp := hp 0 (by omega)
  simp only [Nat.reduceMul] at pp
  have b7 := per_lo (f 0) (v % 64) (by omega) (by omega)
  generalize hA : S f = A at *
  have HA := Lib.hid hA
  clear hA
  go_enter Try.func14, Try.ntmps14
  go_wp2_with fail
  exact bodyPost_ret (v := .agg _) (results_cell_row rfl _ _ (w.heap.size + 1) 30 _ (0, 0) _ rfl (by repeat (first | (refine heap_at _ _ _ ?_; first | (simp; done) | (simp; omega; done)) | (refine (heap_past _ _ _ ?_).trans ?_; focus (first | (simp; done) | (simp; omega; done))) | (refine (heap_drew _ _).trans ?_))) Try.underlying30 rfl (iS (by first | exact sA | (simp only [BlkN.set]; exact sA)))) rfl ⟨by rw [← HA.out]; rw [S_set _ 0 (f 0 % 16 + v % 64 * 16) _ (sv64 _ _ _ (by omega))], by go_grown⟩
set_option maxRecDepth 100000 in
set_option maxHeartbeats 4000000 in
theorem write_l1 (f : Nat → Int) (h : SB f) (hp : ∀ k, k < 3 → 0 ≤ f (3 * k) ∧ f (3 * k) < 1024) (v : Int) (v0 : 0 ≤ v) (v1 : v < 256) (hv : v < 128) (hl : f 17 = 1) (w : World) : Calls Try.prog 14 #[.agg (S f), .int .u8 v] w fun e w' => e = .returned (.agg (S (upd f 13 (v % 16)))) ∧ Below w.heap.size w w' := by
  have c0 := S_get f 0 (by omega)
  change (S f)[0]? = some (.int .i64 (f 0)) at c0
  have c1 := S_get f 1 (by omega)
  change (S f)[1]? = some (.int .i64 (f 1)) at c1
  have c2 := S_get f 2 (by omega)
  change (S f)[2]? = some (.bool (f 2 == 1)) at c2
  have c3 := S_get f 3 (by omega)
  change (S f)[3]? = some (.int .i64 (f 3)) at c3
  have c4 := S_get f 4 (by omega)
  change (S f)[4]? = some (.int .i64 (f 4)) at c4
  have c5 := S_get f 5 (by omega)
  change (S f)[5]? = some (.bool (f 5 == 1)) at c5
  have c6 := S_get f 6 (by omega)
  change (S f)[6]? = some (.int .i64 (f 6)) at c6
  have c7 := S_get f 7 (by omega)
  change (S f)[7]? = some (.int .i64 (f 7)) at c7
  have c8 := S_get f 8 (by omega)
  change (S f)[8]? = some (.bool (f 8 == 1)) at c8
  have c9 := S_get f 9 (by omega)
  change (S f)[9]? = some (.int .u8 (f 9)) at c9
  have c10 := S_get f 10 (by omega)
  change (S f)[10]? = some (.int .i64 (f 10)) at c10
  have c11 := S_get f 11 (by omega)
  change (S f)[11]? = some (.bool (f 11 == 1)) at c11
  have c12 := S_get f 12 (by omega)
  change (S f)[12]? = some (.int .u16 (f 12)) at c12
  have c13 := S_get f 13 (by omega)
  change (S f)[13]? = some (.int .u8 (f 13)) at c13
  have c14 := S_get f 14 (by omega)
  change (S f)[14]? = some (.int .u8 (f 14)) at c14
  have c15 := S_get f 15 (by omega)
  change (S f)[15]? = some (.int .u8 (f 15)) at c15
  have c16 := S_get f 16 (by omega)
  change (S f)[16]? = some (.int .u8 (f 16)) at c16
  have c17 := S_get f 17 (by omega)
  change (S f)[17]? = some (.int .u8 (f 17)) at c17
  rw [hl] at c17
  have sA : BlkN (S f) 18 := S_size _
  have oA : BlkOne (S f) := S_one _
  have zn := zN
  unfold Z18 at zn
  have hs17 : ∀ x, ((S f).setIfInBounds 17 x)[17]? = some x := fun x => by rw [Array.getElem?_setIfInBounds]; simp [S_size]
  have o2 : ∀ (k1 k2 : Nat) (i1 i2 : IntKind) (x y : Int), BlkOne (((S f).setIfInBounds k1 (.int i1 x)).setIfInBounds k2 (.int i2 y)) := fun _ _ _ _ _ _ => (oA.setInt _ _ _).setInt _ _ _
  have o4 : ∀ (x y z : Int) (b : Bool), BlkOne (((((S f).setIfInBounds 9 (.int .u8 x)).setIfInBounds 10 (.int .i64 y)).setIfInBounds 11 (.bool b)).setIfInBounds 12 (.int .u16 z)) := fun _ _ _ _ => (((oA.setInt _ _ _).setInt _ _ _).setBool _ _).setInt _ _ _
  have o5 : ∀ (l x y z : Int) (b : Bool), BlkOne ((((((S f).setIfInBounds 17 (.int .u8 l)).setIfInBounds 9 (.int .u8 x)).setIfInBounds 10 (.int .i64 y)).setIfInBounds 11 (.bool b)).setIfInBounds 12 (.int .u16 z)) := fun _ _ _ _ _ => ((((oA.setInt _ _ _).setInt _ _ _).setInt _ _ _).setBool _ _).setInt _ _ _
  have b1 := and128i v v0 v1
  rw [show v / 128 * 128 = 0 by omega] at b1
  have b3 : Go.bits .and .u8 0 3 = 0 := by decide
  have b4 : Go.bits .and .u8 1 1 = 1 := by decide
  have b5 := and15i v v0 v1
  have b6 := and63i v v0 v1
  generalize hA : S f = A at *
  have HA := Lib.hid hA
  clear hA
  go_enter Try.func14, Try.ntmps14
  go_wp2_with fail
  exact bodyPost_ret (v := .agg _) (results_cell_row rfl _ _ (w.heap.size + 1) 30 _ (0, 0) _ rfl (by repeat (first | (refine heap_at _ _ _ ?_; first | (simp; done) | (simp; omega; done)) | (refine (heap_past _ _ _ ?_).trans ?_; focus (first | (simp; done) | (simp; omega; done))) | (refine (heap_drew _ _).trans ?_))) Try.underlying30 rfl (iS (by first | exact sA | (simp only [BlkN.set]; exact sA)))) rfl ⟨by rw [← HA.out]; rw [S_set _ 13 (v % 16) _ (sv8 _ _ _ (by omega) (by omega))], by go_grown⟩
set_option maxRecDepth 100000 in
set_option maxHeartbeats 4000000 in
theorem write_l2 (f : Nat → Int) (h : SB f) (hp : ∀ k, k < 3 → 0 ≤ f (3 * k) ∧ f (3 * k) < 1024) (v : Int) (v0 : 0 ≤ v) (v1 : v < 256) (hv : v < 128) (hl : f 17 = 2) (w : World) : Calls Try.prog 14 #[.agg (S f), .int .u8 v] w fun e w' => e = .returned (.agg (S (upd f 3 (f 3 % 16 + v % 64 * 16)))) ∧ Below w.heap.size w w' := by
  have c0 := S_get f 0 (by omega)
  change (S f)[0]? = some (.int .i64 (f 0)) at c0
  have c1 := S_get f 1 (by omega)
  change (S f)[1]? = some (.int .i64 (f 1)) at c1
  have c2 := S_get f 2 (by omega)
  change (S f)[2]? = some (.bool (f 2 == 1)) at c2
  have c3 := S_get f 3 (by omega)
  change (S f)[3]? = some (.int .i64 (f 3)) at c3
  have c4 := S_get f 4 (by omega)
  change (S f)[4]? = some (.int .i64 (f 4)) at c4
  have c5 := S_get f 5 (by omega)
  change (S f)[5]? = some (.bool (f 5 == 1)) at c5
  have c6 := S_get f 6 (by omega)
  change (S f)[6]? = some (.int .i64 (f 6)) at c6
  have c7 := S_get f 7 (by omega)
  change (S f)[7]? = some (.int .i64 (f 7)) at c7
  have c8 := S_get f 8 (by omega)
  change (S f)[8]? = some (.bool (f 8 == 1)) at c8
  have c9 := S_get f 9 (by omega)
  change (S f)[9]? = some (.int .u8 (f 9)) at c9
  have c10 := S_get f 10 (by omega)
  change (S f)[10]? = some (.int .i64 (f 10)) at c10
  have c11 := S_get f 11 (by omega)
  change (S f)[11]? = some (.bool (f 11 == 1)) at c11
  have c12 := S_get f 12 (by omega)
  change (S f)[12]? = some (.int .u16 (f 12)) at c12
  have c13 := S_get f 13 (by omega)
  change (S f)[13]? = some (.int .u8 (f 13)) at c13
  have c14 := S_get f 14 (by omega)
  change (S f)[14]? = some (.int .u8 (f 14)) at c14
  have c15 := S_get f 15 (by omega)
  change (S f)[15]? = some (.int .u8 (f 15)) at c15
  have c16 := S_get f 16 (by omega)
  change (S f)[16]? = some (.int .u8 (f 16)) at c16
  have c17 := S_get f 17 (by omega)
  change (S f)[17]? = some (.int .u8 (f 17)) at c17
  rw [hl] at c17
  have sA : BlkN (S f) 18 := S_size _
  have oA : BlkOne (S f) := S_one _
  have zn := zN
  unfold Z18 at zn
  have hs17 : ∀ x, ((S f).setIfInBounds 17 x)[17]? = some x := fun x => by rw [Array.getElem?_setIfInBounds]; simp [S_size]
  have o2 : ∀ (k1 k2 : Nat) (i1 i2 : IntKind) (x y : Int), BlkOne (((S f).setIfInBounds k1 (.int i1 x)).setIfInBounds k2 (.int i2 y)) := fun _ _ _ _ _ _ => (oA.setInt _ _ _).setInt _ _ _
  have o4 : ∀ (x y z : Int) (b : Bool), BlkOne (((((S f).setIfInBounds 9 (.int .u8 x)).setIfInBounds 10 (.int .i64 y)).setIfInBounds 11 (.bool b)).setIfInBounds 12 (.int .u16 z)) := fun _ _ _ _ => (((oA.setInt _ _ _).setInt _ _ _).setBool _ _).setInt _ _ _
  have o5 : ∀ (l x y z : Int) (b : Bool), BlkOne ((((((S f).setIfInBounds 17 (.int .u8 l)).setIfInBounds 9 (.int .u8 x)).setIfInBounds 10 (.int .i64 y)).setIfInBounds 11 (.bool b)).setIfInBounds 12 (.int .u16 z)) := fun _ _ _ _ _ => ((((oA.setInt _ _ _).setInt _ _ _).setInt _ _ _).setBool _ _).setInt _ _ _
  have b1 := and128i v v0 v1
  rw [show v / 128 * 128 = 0 by omega] at b1
  have b3 : Go.bits .and .u8 1 3 = 1 := by decide
  have b4 : Go.bits .and .u8 2 1 = 0 := by decide
  have b5 := and15i v v0 v1
  have b6 := and63i v v0 v1
  have pp := hp 1 (by omega)
  simp only [Nat.reduceMul] at pp
  have b7 := per_lo (f 3) (v % 64) (by omega) (by omega)
  generalize hA : S f = A at *
  have HA := Lib.hid hA
  clear hA
  go_enter Try.func14, Try.ntmps14
  go_wp2_with fail
  exact bodyPost_ret (v := .agg _) (results_cell_row rfl _ _ (w.heap.size + 1) 30 _ (0, 0) _ rfl (by repeat (first | (refine heap_at _ _ _ ?_; first | (simp; done) | (simp; omega; done)) | (refine (heap_past _ _ _ ?_).trans ?_; focus (first | (simp; done) | (simp; omega; done))) | (refine (heap_drew _ _).trans ?_))) Try.underlying30 rfl (iS (by first | exact sA | (simp only [BlkN.set]; exact sA)))) rfl ⟨by rw [← HA.out]; rw [S_set _ 3 (f 3 % 16 + v % 64 * 16) _ (sv64 _ _ _ (by omega))], by go_grown⟩
set_option maxRecDepth 100000 in
set_option maxHeartbeats 4000000 in
theorem write_l3 (f : Nat → Int) (h : SB f) (hp : ∀ k, k < 3 → 0 ≤ f (3 * k) ∧ f (3 * k) < 1024) (v : Int) (v0 : 0 ≤ v) (v1 : v < 256) (hv : v < 128) (hl : f 17 = 3) (w : World) : Calls Try.prog 14 #[.agg (S f), .int .u8 v] w fun e w' => e = .returned (.agg (S (upd f 14 (v % 16)))) ∧ Below w.heap.size w w' := by
  have c0 := S_get f 0 (by omega)
  change (S f)[0]? = some (.int .i64 (f 0)) at c0
  have c1 := S_get f 1 (by omega)
  change (S f)[1]? = some (.int .i64 (f 1)) at c1
  have c2 := S_get f 2 (by omega)
  change (S f)[2]? = some (.bool (f 2 == 1)) at c2
  have c3 := S_get f 3 (by omega)
  change (S f)[3]? = some (.int .i64 (f 3)) at c3
  have c4 := S_get f 4 (by omega)
  change (S f)[4]? = some (.int .i64 (f 4)) at c4
  have c5 := S_get f 5 (by omega)
  change (S f)[5]? = some (.bool (f 5 == 1)) at c5
  have c6 := S_get f 6 (by omega)
  change (S f)[6]? = some (.int .i64 (f 6)) at c6
  have c7 := S_get f 7 (by omega)
  change (S f)[7]? = some (.int .i64 (f 7)) at c7
  have c8 := S_get f 8 (by omega)
  change (S f)[8]? = some (.bool (f 8 == 1)) at c8
  have c9 := S_get f 9 (by omega)
  change (S f)[9]? = some (.int .u8 (f 9)) at c9
  have c10 := S_get f 10 (by omega)
  change (S f)[10]? = some (.int .i64 (f 10)) at c10
  have c11 := S_get f 11 (by omega)
  change (S f)[11]? = some (.bool (f 11 == 1)) at c11
  have c12 := S_get f 12 (by omega)
  change (S f)[12]? = some (.int .u16 (f 12)) at c12
  have c13 := S_get f 13 (by omega)
  change (S f)[13]? = some (.int .u8 (f 13)) at c13
  have c14 := S_get f 14 (by omega)
  change (S f)[14]? = some (.int .u8 (f 14)) at c14
  have c15 := S_get f 15 (by omega)
  change (S f)[15]? = some (.int .u8 (f 15)) at c15
  have c16 := S_get f 16 (by omega)
  change (S f)[16]? = some (.int .u8 (f 16)) at c16
  have c17 := S_get f 17 (by omega)
  change (S f)[17]? = some (.int .u8 (f 17)) at c17
  rw [hl] at c17
  have sA : BlkN (S f) 18 := S_size _
  have oA : BlkOne (S f) := S_one _
  have zn := zN
  unfold Z18 at zn
  have hs17 : ∀ x, ((S f).setIfInBounds 17 x)[17]? = some x := fun x => by rw [Array.getElem?_setIfInBounds]; simp [S_size]
  have o2 : ∀ (k1 k2 : Nat) (i1 i2 : IntKind) (x y : Int), BlkOne (((S f).setIfInBounds k1 (.int i1 x)).setIfInBounds k2 (.int i2 y)) := fun _ _ _ _ _ _ => (oA.setInt _ _ _).setInt _ _ _
  have o4 : ∀ (x y z : Int) (b : Bool), BlkOne (((((S f).setIfInBounds 9 (.int .u8 x)).setIfInBounds 10 (.int .i64 y)).setIfInBounds 11 (.bool b)).setIfInBounds 12 (.int .u16 z)) := fun _ _ _ _ => (((oA.setInt _ _ _).setInt _ _ _).setBool _ _).setInt _ _ _
  have o5 : ∀ (l x y z : Int) (b : Bool), BlkOne ((((((S f).setIfInBounds 17 (.int .u8 l)).setIfInBounds 9 (.int .u8 x)).setIfInBounds 10 (.int .i64 y)).setIfInBounds 11 (.bool b)).setIfInBounds 12 (.int .u16 z)) := fun _ _ _ _ _ => ((((oA.setInt _ _ _).setInt _ _ _).setInt _ _ _).setBool _ _).setInt _ _ _
  have b1 := and128i v v0 v1
  rw [show v / 128 * 128 = 0 by omega] at b1
  have b3 : Go.bits .and .u8 1 3 = 1 := by decide
  have b4 : Go.bits .and .u8 3 1 = 1 := by decide
  have b5 := and15i v v0 v1
  have b6 := and63i v v0 v1
  generalize hA : S f = A at *
  have HA := Lib.hid hA
  clear hA
  go_enter Try.func14, Try.ntmps14
  go_wp2_with fail
  exact bodyPost_ret (v := .agg _) (results_cell_row rfl _ _ (w.heap.size + 1) 30 _ (0, 0) _ rfl (by repeat (first | (refine heap_at _ _ _ ?_; first | (simp; done) | (simp; omega; done)) | (refine (heap_past _ _ _ ?_).trans ?_; focus (first | (simp; done) | (simp; omega; done))) | (refine (heap_drew _ _).trans ?_))) Try.underlying30 rfl (iS (by first | exact sA | (simp only [BlkN.set]; exact sA)))) rfl ⟨by rw [← HA.out]; rw [S_set _ 14 (v % 16) _ (sv8 _ _ _ (by omega) (by omega))], by go_grown⟩
set_option maxRecDepth 100000 in
set_option maxHeartbeats 4000000 in
theorem write_l4 (f : Nat → Int) (h : SB f) (hp : ∀ k, k < 3 → 0 ≤ f (3 * k) ∧ f (3 * k) < 1024) (v : Int) (v0 : 0 ≤ v) (v1 : v < 256) (hv : v < 128) (hl : f 17 = 4) (w : World) : Calls Try.prog 14 #[.agg (S f), .int .u8 v] w fun e w' => e = .returned (.agg (S (upd f 6 (f 6 % 16 + v % 64 * 16)))) ∧ Below w.heap.size w w' := by
  have c0 := S_get f 0 (by omega)
  change (S f)[0]? = some (.int .i64 (f 0)) at c0
  have c1 := S_get f 1 (by omega)
  change (S f)[1]? = some (.int .i64 (f 1)) at c1
  have c2 := S_get f 2 (by omega)
  change (S f)[2]? = some (.bool (f 2 == 1)) at c2
  have c3 := S_get f 3 (by omega)
  change (S f)[3]? = some (.int .i64 (f 3)) at c3
  have c4 := S_get f 4 (by omega)
  change (S f)[4]? = some (.int .i64 (f 4)) at c4
  have c5 := S_get f 5 (by omega)
  change (S f)[5]? = some (.bool (f 5 == 1)) at c5
  have c6 := S_get f 6 (by omega)
  change (S f)[6]? = some (.int .i64 (f 6)) at c6
  have c7 := S_get f 7 (by omega)
  change (S f)[7]? = some (.int .i64 (f 7)) at c7
  have c8 := S_get f 8 (by omega)
  change (S f)[8]? = some (.bool (f 8 == 1)) at c8
  have c9 := S_get f 9 (by omega)
  change (S f)[9]? = some (.int .u8 (f 9)) at c9
  have c10 := S_get f 10 (by omega)
  change (S f)[10]? = some (.int .i64 (f 10)) at c10
  have c11 := S_get f 11 (by omega)
  change (S f)[11]? = some (.bool (f 11 == 1)) at c11
  have c12 := S_get f 12 (by omega)
  change (S f)[12]? = some (.int .u16 (f 12)) at c12
  have c13 := S_get f 13 (by omega)
  change (S f)[13]? = some (.int .u8 (f 13)) at c13
  have c14 := S_get f 14 (by omega)
  change (S f)[14]? = some (.int .u8 (f 14)) at c14
  have c15 := S_get f 15 (by omega)
  change (S f)[15]? = some (.int .u8 (f 15)) at c15
  have c16 := S_get f 16 (by omega)
  change (S f)[16]? = some (.int .u8 (f 16)) at c16
  have c17 := S_get f 17 (by omega)
  change (S f)[17]? = some (.int .u8 (f 17)) at c17
  rw [hl] at c17
  have sA : BlkN (S f) 18 := S_size _
  have oA : BlkOne (S f) := S_one _
  have zn := zN
  unfold Z18 at zn
  have hs17 : ∀ x, ((S f).setIfInBounds 17 x)[17]? = some x := fun x => by rw [Array.getElem?_setIfInBounds]; simp [S_size]
  have o2 : ∀ (k1 k2 : Nat) (i1 i2 : IntKind) (x y : Int), BlkOne (((S f).setIfInBounds k1 (.int i1 x)).setIfInBounds k2 (.int i2 y)) := fun _ _ _ _ _ _ => (oA.setInt _ _ _).setInt _ _ _
  have o4 : ∀ (x y z : Int) (b : Bool), BlkOne (((((S f).setIfInBounds 9 (.int .u8 x)).setIfInBounds 10 (.int .i64 y)).setIfInBounds 11 (.bool b)).setIfInBounds 12 (.int .u16 z)) := fun _ _ _ _ => (((oA.setInt _ _ _).setInt _ _ _).setBool _ _).setInt _ _ _
  have o5 : ∀ (l x y z : Int) (b : Bool), BlkOne ((((((S f).setIfInBounds 17 (.int .u8 l)).setIfInBounds 9 (.int .u8 x)).setIfInBounds 10 (.int .i64 y)).setIfInBounds 11 (.bool b)).setIfInBounds 12 (.int .u16 z)) := fun _ _ _ _ _ => ((((oA.setInt _ _ _).setInt _ _ _).setInt _ _ _).setBool _ _).setInt _ _ _
  have b1 := and128i v v0 v1
  rw [show v / 128 * 128 = 0 by omega] at b1
  have b3 : Go.bits .and .u8 2 3 = 2 := by decide
  have b4 : Go.bits .and .u8 4 1 = 0 := by decide
  have b5 := and15i v v0 v1
  have b6 := and63i v v0 v1
  have pp := hp 2 (by omega)
  simp only [Nat.reduceMul] at pp
  have b7 := per_lo (f 6) (v % 64) (by omega) (by omega)
  generalize hA : S f = A at *
  have HA := Lib.hid hA
  clear hA
  go_enter Try.func14, Try.ntmps14
  go_wp2_with fail
  exact bodyPost_ret (v := .agg _) (results_cell_row rfl _ _ (w.heap.size + 1) 30 _ (0, 0) _ rfl (by repeat (first | (refine heap_at _ _ _ ?_; first | (simp; done) | (simp; omega; done)) | (refine (heap_past _ _ _ ?_).trans ?_; focus (first | (simp; done) | (simp; omega; done))) | (refine (heap_drew _ _).trans ?_))) Try.underlying30 rfl (iS (by first | exact sA | (simp only [BlkN.set]; exact sA)))) rfl ⟨by rw [← HA.out]; rw [S_set _ 6 (f 6 % 16 + v % 64 * 16) _ (sv64 _ _ _ (by omega))], by go_grown⟩
set_option maxRecDepth 100000 in
set_option maxHeartbeats 4000000 in
theorem write_l5 (f : Nat → Int) (h : SB f) (hp : ∀ k, k < 3 → 0 ≤ f (3 * k) ∧ f (3 * k) < 1024) (v : Int) (v0 : 0 ≤ v) (v1 : v < 256) (hv : v < 128) (hl : f 17 = 5) (w : World) : Calls Try.prog 14 #[.agg (S f), .int .u8 v] w fun e w' => e = .returned (.agg (S (upd f 15 (v % 16)))) ∧ Below w.heap.size w w' := by
  have c0 := S_get f 0 (by omega)
  change (S f)[0]? = some (.int .i64 (f 0)) at c0
  have c1 := S_get f 1 (by omega)
  change (S f)[1]? = some (.int .i64 (f 1)) at c1
  have c2 := S_get f 2 (by omega)
  change (S f)[2]? = some (.bool (f 2 == 1)) at c2
  have c3 := S_get f 3 (by omega)
  change (S f)[3]? = some (.int .i64 (f 3)) at c3
  have c4 := S_get f 4 (by omega)
  change (S f)[4]? = some (.int .i64 (f 4)) at c4
  have c5 := S_get f 5 (by omega)
  change (S f)[5]? = some (.bool (f 5 == 1)) at c5
  have c6 := S_get f 6 (by omega)
  change (S f)[6]? = some (.int .i64 (f 6)) at c6
  have c7 := S_get f 7 (by omega)
  change (S f)[7]? = some (.int .i64 (f 7)) at c7
  have c8 := S_get f 8 (by omega)
  change (S f)[8]? = some (.bool (f 8 == 1)) at c8
  have c9 := S_get f 9 (by omega)
  change (S f)[9]? = some (.int .u8 (f 9)) at c9
  have c10 := S_get f 10 (by omega)
  change (S f)[10]? = some (.int .i64 (f 10)) at c10
  have c11 := S_get f 11 (by omega)
  change (S f)[11]? = some (.bool (f 11 == 1)) at c11
  have c12 := S_get f 12 (by omega)
  change (S f)[12]? = some (.int .u16 (f 12)) at c12
  have c13 := S_get f 13 (by omega)
  change (S f)[13]? = some (.int .u8 (f 13)) at c13
  have c14 := S_get f 14 (by omega)
  change (S f)[14]? = some (.int .u8 (f 14)) at c14
  have c15 := S_get f 15 (by omega)
  change (S f)[15]? = some (.int .u8 (f 15)) at c15
  have c16 := S_get f 16 (by omega)
  change (S f)[16]? = some (.int .u8 (f 16)) at c16
  have c17 := S_get f 17 (by omega)
  change (S f)[17]? = some (.int .u8 (f 17)) at c17
  rw [hl] at c17
  have sA : BlkN (S f) 18 := S_size _
  have oA : BlkOne (S f) := S_one _
  have zn := zN
  unfold Z18 at zn
  have hs17 : ∀ x, ((S f).setIfInBounds 17 x)[17]? = some x := fun x => by rw [Array.getElem?_setIfInBounds]; simp [S_size]
  have o2 : ∀ (k1 k2 : Nat) (i1 i2 : IntKind) (x y : Int), BlkOne (((S f).setIfInBounds k1 (.int i1 x)).setIfInBounds k2 (.int i2 y)) := fun _ _ _ _ _ _ => (oA.setInt _ _ _).setInt _ _ _
  have o4 : ∀ (x y z : Int) (b : Bool), BlkOne (((((S f).setIfInBounds 9 (.int .u8 x)).setIfInBounds 10 (.int .i64 y)).setIfInBounds 11 (.bool b)).setIfInBounds 12 (.int .u16 z)) := fun _ _ _ _ => (((oA.setInt _ _ _).setInt _ _ _).setBool _ _).setInt _ _ _
  have o5 : ∀ (l x y z : Int) (b : Bool), BlkOne ((((((S f).setIfInBounds 17 (.int .u8 l)).setIfInBounds 9 (.int .u8 x)).setIfInBounds 10 (.int .i64 y)).setIfInBounds 11 (.bool b)).setIfInBounds 12 (.int .u16 z)) := fun _ _ _ _ _ => ((((oA.setInt _ _ _).setInt _ _ _).setInt _ _ _).setBool _ _).setInt _ _ _
  have b1 := and128i v v0 v1
  rw [show v / 128 * 128 = 0 by omega] at b1
  have b3 : Go.bits .and .u8 2 3 = 2 := by decide
  have b4 : Go.bits .and .u8 5 1 = 1 := by decide
  have b5 := and15i v v0 v1
  have b6 := and63i v v0 v1
  generalize hA : S f = A at *
  have HA := Lib.hid hA
  clear hA
  go_enter Try.func14, Try.ntmps14
  go_wp2_with fail
  exact bodyPost_ret (v := .agg _) (results_cell_row rfl _ _ (w.heap.size + 1) 30 _ (0, 0) _ rfl (by repeat (first | (refine heap_at _ _ _ ?_; first | (simp; done) | (simp; omega; done)) | (refine (heap_past _ _ _ ?_).trans ?_; focus (first | (simp; done) | (simp; omega; done))) | (refine (heap_drew _ _).trans ?_))) Try.underlying30 rfl (iS (by first | exact sA | (simp only [BlkN.set]; exact sA)))) rfl ⟨by rw [← HA.out]; rw [S_set _ 15 (v % 16) _ (sv8 _ _ _ (by omega) (by omega))], by go_grown⟩
set_option maxRecDepth 100000 in
set_option maxHeartbeats 4000000 in
theorem write_l6 (f : Nat → Int) (h : SB f) (hp : ∀ k, k < 3 → 0 ≤ f (3 * k) ∧ f (3 * k) < 1024) (v : Int) (v0 : 0 ≤ v) (v1 : v < 256) (hv : v < 128) (hl : f 17 = 6) (w : World) : Calls Try.prog 14 #[.agg (S f), .int .u8 v] w fun e w' => e = .returned (.agg (S (upd (upd (upd (upd f 9 (v % 8)) 10 (f 10)) 11 (f 11)) 12 32768))) ∧ Below w.heap.size w w' := by
  have c0 := S_get f 0 (by omega)
  change (S f)[0]? = some (.int .i64 (f 0)) at c0
  have c1 := S_get f 1 (by omega)
  change (S f)[1]? = some (.int .i64 (f 1)) at c1
  have c2 := S_get f 2 (by omega)
  change (S f)[2]? = some (.bool (f 2 == 1)) at c2
  have c3 := S_get f 3 (by omega)
  change (S f)[3]? = some (.int .i64 (f 3)) at c3
  have c4 := S_get f 4 (by omega)
  change (S f)[4]? = some (.int .i64 (f 4)) at c4
  have c5 := S_get f 5 (by omega)
  change (S f)[5]? = some (.bool (f 5 == 1)) at c5
  have c6 := S_get f 6 (by omega)
  change (S f)[6]? = some (.int .i64 (f 6)) at c6
  have c7 := S_get f 7 (by omega)
  change (S f)[7]? = some (.int .i64 (f 7)) at c7
  have c8 := S_get f 8 (by omega)
  change (S f)[8]? = some (.bool (f 8 == 1)) at c8
  have c9 := S_get f 9 (by omega)
  change (S f)[9]? = some (.int .u8 (f 9)) at c9
  have c10 := S_get f 10 (by omega)
  change (S f)[10]? = some (.int .i64 (f 10)) at c10
  have c11 := S_get f 11 (by omega)
  change (S f)[11]? = some (.bool (f 11 == 1)) at c11
  have c12 := S_get f 12 (by omega)
  change (S f)[12]? = some (.int .u16 (f 12)) at c12
  have c13 := S_get f 13 (by omega)
  change (S f)[13]? = some (.int .u8 (f 13)) at c13
  have c14 := S_get f 14 (by omega)
  change (S f)[14]? = some (.int .u8 (f 14)) at c14
  have c15 := S_get f 15 (by omega)
  change (S f)[15]? = some (.int .u8 (f 15)) at c15
  have c16 := S_get f 16 (by omega)
  change (S f)[16]? = some (.int .u8 (f 16)) at c16
  have c17 := S_get f 17 (by omega)
  change (S f)[17]? = some (.int .u8 (f 17)) at c17
  rw [hl] at c17
  have sA : BlkN (S f) 18 := S_size _
  have oA : BlkOne (S f) := S_one _
  have zn := zN
  unfold Z18 at zn
  have hs17 : ∀ x, ((S f).setIfInBounds 17 x)[17]? = some x := fun x => by rw [Array.getElem?_setIfInBounds]; simp [S_size]
  have o2 : ∀ (k1 k2 : Nat) (i1 i2 : IntKind) (x y : Int), BlkOne (((S f).setIfInBounds k1 (.int i1 x)).setIfInBounds k2 (.int i2 y)) := fun _ _ _ _ _ _ => (oA.setInt _ _ _).setInt _ _ _
  have o4 : ∀ (x y z : Int) (b : Bool), BlkOne (((((S f).setIfInBounds 9 (.int .u8 x)).setIfInBounds 10 (.int .i64 y)).setIfInBounds 11 (.bool b)).setIfInBounds 12 (.int .u16 z)) := fun _ _ _ _ => (((oA.setInt _ _ _).setInt _ _ _).setBool _ _).setInt _ _ _
  have o5 : ∀ (l x y z : Int) (b : Bool), BlkOne ((((((S f).setIfInBounds 17 (.int .u8 l)).setIfInBounds 9 (.int .u8 x)).setIfInBounds 10 (.int .i64 y)).setIfInBounds 11 (.bool b)).setIfInBounds 12 (.int .u16 z)) := fun _ _ _ _ _ => ((((oA.setInt _ _ _).setInt _ _ _).setInt _ _ _).setBool _ _).setInt _ _ _
  have b1 := and128i v v0 v1
  rw [show v / 128 * 128 = 0 by omega] at b1
  have b3 : Go.bits .and .u8 3 3 = 3 := by decide
  have b4 : Go.bits .and .u8 6 1 = 0 := by decide
  have b5 := and15i v v0 v1
  have b6 := and63i v v0 v1
  have hset := fun W => Noise.set_any (f 9) (f 10) (f 12) v (f 11 == 1) v0 v1 W
  have HSET := Lib.hid hset
  clear hset
  generalize hA : S f = A at *
  have HA := Lib.hid hA
  clear hA
  go_enter Try.func14, Try.ntmps14
  go_wp2_with (go_at_call 22; with_reducible refine (HSET.out _).mono ?_; rintro e w' ⟨rfl, o1, o2, rfl⟩)
  exact bodyPost_ret (v := .agg _) (results_cell_row rfl _ _ (w.heap.size + 1) 30 _ (0, 0) _ rfl (by repeat (first | (refine heap_at _ _ _ ?_; first | (simp; done) | (simp; omega; done)) | (refine (heap_past _ _ _ ?_).trans ?_; focus (first | (simp; done) | (simp; omega; done))) | (refine (heap_drew _ _).trans ?_))) Try.underlying30 rfl (iS (by first | exact sA | (simp only [BlkN.set]; exact sA)))) rfl ⟨by rw [← HA.out]; rw [S_set _ 9 (v % 8) _ (sv8 _ _ _ (by omega) (by omega)), S_set _ 10 (f 10) _ (sv64 _ _ _ (by omega)), S_set _ 11 (f 11) _ (svb _ _), S_set _ 12 32768 _ (sv16 _ _)], by go_grown⟩
set_option maxRecDepth 100000 in
set_option maxHeartbeats 4000000 in
theorem write_l7 (f : Nat → Int) (h : SB f) (hp : ∀ k, k < 3 → 0 ≤ f (3 * k) ∧ f (3 * k) < 1024) (v : Int) (v0 : 0 ≤ v) (v1 : v < 256) (hv : v < 128) (hl : f 17 = 7) (w : World) : Calls Try.prog 14 #[.agg (S f), .int .u8 v] w fun e w' => e = .returned (.agg (S (upd f 16 (v % 16)))) ∧ Below w.heap.size w w' := by
  have c0 := S_get f 0 (by omega)
  change (S f)[0]? = some (.int .i64 (f 0)) at c0
  have c1 := S_get f 1 (by omega)
  change (S f)[1]? = some (.int .i64 (f 1)) at c1
  have c2 := S_get f 2 (by omega)
  change (S f)[2]? = some (.bool (f 2 == 1)) at c2
  have c3 := S_get f 3 (by omega)
  change (S f)[3]? = some (.int .i64 (f 3)) at c3
  have c4 := S_get f 4 (by omega)
  change (S f)[4]? = some (.int .i64 (f 4)) at c4
  have c5 := S_get f 5 (by omega)
  change (S f)[5]? = some (.bool (f 5 == 1)) at c5
  have c6 := S_get f 6 (by omega)
  change (S f)[6]? = some (.int .i64 (f 6)) at c6
  have c7 := S_get f 7 (by omega)
  change (S f)[7]? = some (.int .i64 (f 7)) at c7
  have c8 := S_get f 8 (by omega)
  change (S f)[8]? = some (.bool (f 8 == 1)) at c8
  have c9 := S_get f 9 (by omega)
  change (S f)[9]? = some (.int .u8 (f 9)) at c9
  have c10 := S_get f 10 (by omega)
  change (S f)[10]? = some (.int .i64 (f 10)) at c10
  have c11 := S_get f 11 (by omega)
  change (S f)[11]? = some (.bool (f 11 == 1)) at c11
  have c12 := S_get f 12 (by omega)
  change (S f)[12]? = some (.int .u16 (f 12)) at c12
  have c13 := S_get f 13 (by omega)
  change (S f)[13]? = some (.int .u8 (f 13)) at c13
  have c14 := S_get f 14 (by omega)
  change (S f)[14]? = some (.int .u8 (f 14)) at c14
  have c15 := S_get f 15 (by omega)
  change (S f)[15]? = some (.int .u8 (f 15)) at c15
  have c16 := S_get f 16 (by omega)
  change (S f)[16]? = some (.int .u8 (f 16)) at c16
  have c17 := S_get f 17 (by omega)
  change (S f)[17]? = some (.int .u8 (f 17)) at c17
  rw [hl] at c17
  have sA : BlkN (S f) 18 := S_size _
  have oA : BlkOne (S f) := S_one _
  have zn := zN
  unfold Z18 at zn
  have hs17 : ∀ x, ((S f).setIfInBounds 17 x)[17]? = some x := fun x => by rw [Array.getElem?_setIfInBounds]; simp [S_size]
  have o2 : ∀ (k1 k2 : Nat) (i1 i2 : IntKind) (x y : Int), BlkOne (((S f).setIfInBounds k1 (.int i1 x)).setIfInBounds k2 (.int i2 y)) := fun _ _ _ _ _ _ => (oA.setInt _ _ _).setInt _ _ _
  have o4 : ∀ (x y z : Int) (b : Bool), BlkOne (((((S f).setIfInBounds 9 (.int .u8 x)).setIfInBounds 10 (.int .i64 y)).setIfInBounds 11 (.bool b)).setIfInBounds 12 (.int .u16 z)) := fun _ _ _ _ => (((oA.setInt _ _ _).setInt _ _ _).setBool _ _).setInt _ _ _
  have o5 : ∀ (l x y z : Int) (b : Bool), BlkOne ((((((S f).setIfInBounds 17 (.int .u8 l)).setIfInBounds 9 (.int .u8 x)).setIfInBounds 10 (.int .i64 y)).setIfInBounds 11 (.bool b)).setIfInBounds 12 (.int .u16 z)) := fun _ _ _ _ _ => ((((oA.setInt _ _ _).setInt _ _ _).setInt _ _ _).setBool _ _).setInt _ _ _
  have b1 := and128i v v0 v1
  rw [show v / 128 * 128 = 0 by omega] at b1
  have b3 : Go.bits .and .u8 3 3 = 3 := by decide
  have b4 : Go.bits .and .u8 7 1 = 1 := by decide
  have b5 := and15i v v0 v1
  have b6 := and63i v v0 v1
  generalize hA : S f = A at *
  have HA := Lib.hid hA
  clear hA
  go_enter Try.func14, Try.ntmps14
  go_wp2_with fail
  exact bodyPost_ret (v := .agg _) (results_cell_row rfl _ _ (w.heap.size + 1) 30 _ (0, 0) _ rfl (by repeat (first | (refine heap_at _ _ _ ?_; first | (simp; done) | (simp; omega; done)) | (refine (heap_past _ _ _ ?_).trans ?_; focus (first | (simp; done) | (simp; omega; done))) | (refine (heap_drew _ _).trans ?_))) Try.underlying30 rfl (iS (by first | exact sA | (simp only [BlkN.set]; exact sA)))) rfl ⟨by rw [← HA.out]; rw [S_set _ 16 (v % 16) _ (sv8 _ _ _ (by omega) (by omega))], by go_grown⟩
end Psg
end Go.Proofs.Ytjggocbihjdekaa
