/- Registers (layer 10): what the program's functions do. No conditions but that numbers are of their kinds. -/
import Derived.Test.YthghpgnnbdimaaaR06
import Derived.Test.YthghpgnnbdimaaaRow
namespace Go.Proofs.Ythghpgnnbdimaaa
open Go.RowKit
open Kit
set_option linter.unusedSimpArgs false
set_option linter.unusedVariables false
attribute [local go_sem] setCells_new setCells_past setCells_drew
namespace Regs
/-- Registers' cells: a function of their places. -/
def rv (f : Nat → Int) (j : Nat) : Value := if j < 16 then .int .u8 (f j) else if j < 21 then .int .u16 (f j) else if j < 25 then .int .u8 (f j) else .bool (f j == 1)
def RB (f : Nat → Int) : Prop := (∀ j, j < 16 → 0 ≤ f j ∧ f j < 256) ∧ (∀ j, 16 ≤ j → j < 21 → 0 ≤ f j ∧ f j < 65536) ∧ (∀ j, 21 ≤ j → j < 25 → 0 ≤ f j ∧ f j < 256)
def R (f : Nat → Int) : Array Value := row 29 (rv f)
def upd (f : Nat → Int) (k : Nat) (x : Int) : Nat → Int := fun j => if j = k then x else f j
theorem R_size (f : Nat → Int) : (R f).size = 29 := row_size _ _
theorem R_get (f : Nat → Int) (k : Nat) (hk : k < 29) : (R f)[k]? = some (rv f k) := row_get _ _ _ hk
theorem R_set (f : Nat → Int) (k : Nat) (x : Int) (v : Value) (hv : rv (upd f k x) k = v) : (R f).setIfInBounds k v = R (upd f k x) := by
  refine row_set _ _ _ _ _ fun j hj => ?_
  by_cases e : j = k
  · subst e; rw [if_pos rfl, hv]
  · rw [if_neg e]; unfold rv upd; rw [if_neg e]
theorem R_set8 (f : Nat → Int) (k : Nat) (x : Int) (hk : k < 16) : (R f).setIfInBounds k (.int .u8 x) = R (upd f k x) := R_set f k x _ (by unfold rv upd; rw [if_pos hk, if_pos rfl])
theorem R_set16 (f : Nat → Int) (k : Nat) (x : Int) (hk : 16 ≤ k) (hk2 : k < 21) : (R f).setIfInBounds k (.int .u16 x) = R (upd f k x) := R_set f k x _ (by unfold rv upd; rw [if_neg (by omega), if_pos hk2, if_pos rfl])
theorem R_set8b (f : Nat → Int) (k : Nat) (x : Int) (hk : 21 ≤ k) (hk2 : k < 25) : (R f).setIfInBounds k (.int .u8 x) = R (upd f k x) := R_set f k x _ (by unfold rv upd; rw [if_neg (by omega), if_neg (by omega), if_pos hk2, if_pos rfl])
theorem rv_one (f : Nat → Int) (j : Nat) : (rv f j).oneCell' = true := by unfold rv; split <;> (try split) <;> (try split) <;> rfl
theorem R_one (f : Nat → Int) : (R f).all (·.oneCell') = true := row_one _ _ fun j _ => rv_one f j
theorem RB.u8 {f : Nat → Int} (h : RB f) (k : Nat) (hk : k < 16) : 0 ≤ f k ∧ f k < 256 := h.1 k hk
theorem RB.u16 {f : Nat → Int} (h : RB f) (k : Nat) (hk : 16 ≤ k) (hk2 : k < 21) : 0 ≤ f k ∧ f k < 65536 := h.2.1 k hk hk2
theorem RB.set8 {f : Nat → Int} (h : RB f) (k : Nat) (x : Int) (hk : k < 16) (h0 : 0 ≤ x) (h1 : x < 256) : RB (upd f k x) :=
  ⟨fun j hj => by unfold upd; split; exact ⟨h0, h1⟩; exact h.1 j hj, fun j a b => by unfold upd; rw [if_neg (by omega)]; exact h.2.1 j a b, fun j a b => by unfold upd; rw [if_neg (by omega)]; exact h.2.2 j a b⟩
theorem RB.set16 {f : Nat → Int} (h : RB f) (k : Nat) (x : Int) (hk : 16 ≤ k) (hk2 : k < 21) (h0 : 0 ≤ x) (h1 : x < 65536) : RB (upd f k x) :=
  ⟨fun j hj => by unfold upd; rw [if_neg (by omega)]; exact h.1 j hj, fun j a b => by unfold upd; split; exact ⟨h0, h1⟩; exact h.2.1 j a b, fun j a b => by unfold upd; rw [if_neg (by omega)]; exact h.2.2 j a b⟩
theorem RB.set8b {f : Nat → Int} (h : RB f) (k : Nat) (x : Int) (hk : 21 ≤ k) (hk2 : k < 25) (h0 : 0 ≤ x) (h1 : x < 256) : RB (upd f k x) :=
  ⟨fun j hj => by unfold upd; rw [if_neg (by omega)]; exact h.1 j hj, fun j a b => by unfold upd; rw [if_neg (by omega)]; exact h.2.1 j a b, fun j a b => by unfold upd; split; exact ⟨h0, h1⟩; exact h.2.2 j a b⟩
def Z29 : Array Value := #[.int .u8 0, .int .u8 0, .int .u8 0, .int .u8 0, .int .u8 0, .int .u8 0, .int .u8 0, .int .u8 0, .int .u8 0, .int .u8 0, .int .u8 0, .int .u8 0, .int .u8 0, .int .u8 0, .int .u8 0, .int .u8 0, .int .u16 0, .int .u16 0, .int .u16 0, .int .u16 0, .int .u16 0, .int .u8 0, .int .u8 0, .int .u8 0, .int .u8 0, .bool false, .bool false, .bool false, .bool false]
theorem i29 : (Try.prog.info? 25).map (·.size) = some 29 := by kernel_rfl
theorem iR {A : Array Value} (h : A.size = 29) : (Try.prog.info? 25).map (·.size) = some A.size := by rw [h]; exact i29
theorem tmod_nn {n : Int} (h : 0 ≤ n) (k : Int) : n.tmod k = n % k := Int.tmod_eq_emod_of_nonneg h
theorem tdiv_nn {n : Int} (h : 0 ≤ n) (k : Int) : n.tdiv k = n / k := Int.tdiv_eq_ediv_of_nonneg h
theorem join_eq (h l : Int) (h0 : 0 ≤ h) (h1 : h < 256) (l0 : 0 ≤ l) (l1 : l < 256) : Go.bits .or .u16 (h * 256) l = h * 256 + l := by
  obtain ⟨h, rfl⟩ := Int.eq_ofNat_of_zero_le h0
  obtain ⟨l, rfl⟩ := Int.eq_ofNat_of_zero_le l0
  simp only [Kit.and8l, Kit.or8l, Kit.xor8l, Kit.andn8l, Kit.and16l, Kit.or16l, Kit.divl, Kit.modl, Kit.addn, Kit.muln, Kit.addl, Kit.mull, Kit.lmul, Kit.ladd, Kit.and8, Kit.or8, Kit.xor8, Kit.andn8, Kit.and16, Kit.or16, Kit.xor16, Kit.wrap16, Kit.wrap8, Kit.land8, Kit.lor8, Kit.lxor8, Kit.landn8, Kit.land16, Kit.lor16, Kit.lxor16]
  rw [Nat.mod_eq_of_lt (show h * 256 < 65536 by omega), Nat.mod_eq_of_lt (show l < 65536 by omega)]
  have := Nat.two_pow_add_eq_or_of_lt (i := 8) (show l < 2 ^ 8 by omega) h
  rw [show h * 256 = 2 ^ 8 * h from by omega, ← this]
theorem split_any (v : Int) (h0 : 0 ≤ v) (h1 : v < 65536) (w : World) : Calls Try.prog 30 #[.int .u16 v] w fun e w' => e = .returned (.tuple #[.int .u8 (v / 256), .int .u8 (v % 256)]) ∧ w = w' := by
  go_enter Try.func30, Try.ntmps30
  go_wp2
  go_ret2
  exact ⟨ret_int2 rfl rfl, rfl⟩
theorem join_any (h l : Int) (h0 : 0 ≤ h) (h1 : h < 256) (l0 : 0 ≤ l) (l1 : l < 256) (w : World) : Calls Try.prog 29 #[.int .u8 h, .int .u8 l] w fun e w' => e = .returned (.int .u16 (h * 256 + l)) ∧ w = w' := by
  go_enter Try.func29, Try.ntmps29
  go_wp2
  go_ret
  exact ⟨ret_int (join_eq h l h0 h1 l0 l1), rfl⟩
def pairV (f : Nat → Int) (n : Int) : Int := if n = 0 then f 2 * 256 + f 3 else if n = 1 then f 4 * 256 + f 5 else if n = 2 then f 6 * 256 + f 7 else if n = 3 then f 18 else if n = 4 then f 0 * 256 + f 1 else if n = 5 then f 16 else if n = 6 then f 17 else 0
theorem pairV_bd {f : Nat → Int} (h : RB f) (n : Int) : 0 ≤ pairV f n ∧ pairV f n < 65536 := by
  have h0 := h.u8 0 (by omega); have h1 := h.u8 1 (by omega); have h2 := h.u8 2 (by omega); have h3 := h.u8 3 (by omega); have h4 := h.u8 4 (by omega); have h5 := h.u8 5 (by omega); have h6 := h.u8 6 (by omega); have h7 := h.u8 7 (by omega)
  have h16 := h.u16 16 (by omega) (by omega); have h17 := h.u16 17 (by omega) (by omega); have h18 := h.u16 18 (by omega) (by omega)
  unfold pairV
  (repeat' split) <;> constructor <;> omega
theorem cases8 (n : Int) : n = 0 ∨ n = 1 ∨ n = 2 ∨ n = 3 ∨ n = 4 ∨ n = 5 ∨ n = 6 ∨ (n ≠ 0 ∧ n ≠ 1 ∧ n ≠ 2 ∧ n ≠ 3 ∧ n ≠ 4 ∧ n ≠ 5 ∧ n ≠ 6) := by omega
set_option maxRecDepth 100000 in
set_option maxHeartbeats 4000000 in
theorem pair_any (f : Nat → Int) (h : RB f) (n : Int) (w : World) : Calls Try.prog 13 #[.agg (R f), .int .i64 n] w fun e w' => e = .returned (.int .u16 (pairV f n)) ∧ ∃ o, w' = w.alloc o := by
  have c0 := R_get f 0 (by omega)
  have c1 := R_get f 1 (by omega)
  have c2 := R_get f 2 (by omega)
  have c3 := R_get f 3 (by omega)
  have c4 := R_get f 4 (by omega)
  have c5 := R_get f 5 (by omega)
  have c6 := R_get f 6 (by omega)
  have c7 := R_get f 7 (by omega)
  have c16 := R_get f 16 (by omega)
  have c17 := R_get f 17 (by omega)
  have c18 := R_get f 18 (by omega)
  change (R f)[0]? = some (.int .u8 (f 0)) at c0
  change (R f)[1]? = some (.int .u8 (f 1)) at c1
  change (R f)[2]? = some (.int .u8 (f 2)) at c2
  change (R f)[3]? = some (.int .u8 (f 3)) at c3
  change (R f)[4]? = some (.int .u8 (f 4)) at c4
  change (R f)[5]? = some (.int .u8 (f 5)) at c5
  change (R f)[6]? = some (.int .u8 (f 6)) at c6
  change (R f)[7]? = some (.int .u8 (f 7)) at c7
  change (R f)[16]? = some (.int .u16 (f 16)) at c16
  change (R f)[17]? = some (.int .u16 (f 17)) at c17
  change (R f)[18]? = some (.int .u16 (f 18)) at c18
  have b0 := h.u8 0 (by omega)
  have b1 := h.u8 1 (by omega)
  have b2 := h.u8 2 (by omega)
  have b3 := h.u8 3 (by omega)
  have b4 := h.u8 4 (by omega)
  have b5 := h.u8 5 (by omega)
  have b6 := h.u8 6 (by omega)
  have b7 := h.u8 7 (by omega)
  have b16 := h.u16 16 (by omega) (by omega)
  have b17 := h.u16 17 (by omega) (by omega)
  have b18 := h.u16 18 (by omega) (by omega)
  generalize hA : R f = A at *
  rcases cases8 n with rfl | rfl | rfl | rfl | rfl | rfl | rfl | ⟨n0, n1, n2, n3, n4, n5, n6⟩
  all_goals
    go_enter Try.func13, Try.ntmps13
    go_wp2_with (go_at_call 29; with_reducible refine (join_any _ _ (by omega) (by omega) (by omega) (by omega) _).mono ?_; rintro e w' ⟨rfl, rfl⟩)
    go_ret
    exact ⟨ret_int (by simp [pairV, *]), _, rfl⟩
theorem sz29 {A : Array Value} (h : A.size = 29) : A.size = Z29.size := h.trans rfl
theorem one_set {A : Array Value} (h : A.all (·.oneCell') = true) (k : Nat) (v : Value) (hv : v.oneCell' = true) : (A.setIfInBounds k v).all (·.oneCell') = true := by
  apply Array.all_eq_true_iff_forall_mem.2
  intro x hx
  rw [Array.mem_iff_getElem?] at hx
  obtain ⟨i, hi⟩ := hx
  rw [Array.getElem?_setIfInBounds] at hi
  split at hi
  · split at hi
    · injection hi with hi; rw [← hi]; exact hv
    · cases hi
  · exact Array.all_eq_true_iff_forall_mem.1 h x (Array.mem_iff_getElem?.2 ⟨i, hi⟩)
def setV (f : Nat → Int) (n v : Int) : Nat → Int := if n = 0 then upd (upd f 2 (v / 256)) 3 (v % 256) else if n = 1 then upd (upd f 4 (v / 256)) 5 (v % 256) else if n = 2 then upd (upd f 6 (v / 256)) 7 (v % 256) else if n = 3 then upd f 18 v else if n = 4 then upd (upd f 0 (v / 256)) 1 (v % 256) else if n = 5 then upd f 16 v else if n = 6 then upd f 17 v else f
set_option maxRecDepth 100000 in
set_option maxHeartbeats 4000000 in
theorem setPair_any (f : Nat → Int) (h : RB f) (n v : Int) (v0 : 0 ≤ v) (v1 : v < 65536) (w : World) : Calls Try.prog 20 #[.agg (R f), .int .i64 n, .int .u16 v] w fun e w' => e = .returned (.agg (R (setV f n v))) ∧ ∃ o1 o2, w' = (w.alloc o1).alloc o2 := by
  have c0 := R_get f 0 (by omega)
  have c1 := R_get f 1 (by omega)
  have c2 := R_get f 2 (by omega)
  have c3 := R_get f 3 (by omega)
  have c4 := R_get f 4 (by omega)
  have c5 := R_get f 5 (by omega)
  have c6 := R_get f 6 (by omega)
  have c7 := R_get f 7 (by omega)
  have c16 := R_get f 16 (by omega)
  have c17 := R_get f 17 (by omega)
  have c18 := R_get f 18 (by omega)
  change (R f)[0]? = some (.int .u8 (f 0)) at c0
  change (R f)[1]? = some (.int .u8 (f 1)) at c1
  change (R f)[2]? = some (.int .u8 (f 2)) at c2
  change (R f)[3]? = some (.int .u8 (f 3)) at c3
  change (R f)[4]? = some (.int .u8 (f 4)) at c4
  change (R f)[5]? = some (.int .u8 (f 5)) at c5
  change (R f)[6]? = some (.int .u8 (f 6)) at c6
  change (R f)[7]? = some (.int .u8 (f 7)) at c7
  change (R f)[16]? = some (.int .u16 (f 16)) at c16
  change (R f)[17]? = some (.int .u16 (f 17)) at c17
  change (R f)[18]? = some (.int .u16 (f 18)) at c18
  have sA : (R f).size = 29 := R_size f
  have oA := R_one f
  generalize hA : R f = A at *
  rcases cases8 n with rfl | rfl | rfl | rfl | rfl | rfl | rfl | ⟨n0, n1, n2, n3, n4, n5, n6⟩
  all_goals
    go_enter Try.func20, Try.ntmps20
    go_wp2_with (first | (go_at_call 30; with_reducible refine (split_any _ v0 v1 _).mono ?_; rintro e w' ⟨rfl, rfl⟩) | ((with_reducible refine at_load 25 (.tmp 3) ?_); refine load_row 25 (.tmp 3) (w.heap.size) 25 _ _ (by repeat (first | (refine heap_at _ _ _ ?_; (simp; done)) | (refine (heap_past _ _ _ ?_).trans ?_; focus (simp; done)) | (refine (heap_drew _ _).trans ?_))) Try.underlying25 rfl (iR (by simp [sA])) rfl rfl rfl ?_) | ((with_reducible refine at_store 25 (.tmp 6) (.tmp 51) ?_); refine store_row 25 (.tmp 6) (.tmp 51) (w.heap.size + 1) 25 Z29 _ (by repeat (first | (refine heap_at _ _ _ ?_; (simp; done)) | (refine (heap_past _ _ _ ?_).trans ?_; focus (simp; done)) | (refine (heap_drew _ _).trans ?_))) (sz29 (by simp [sA])) (by repeat (first | exact oA | refine one_set ?_ _ _ rfl)) (iR (by simp [sA])) rfl rfl rfl rfl ?_))
    rw [setCells_new _ _ _ _ _ (by simp) (by simp [sA])]
    simp only [Array.toArray_toList]
    exact bodyPost_ret (v := .agg _) (results_cell_row rfl _ _ (w.heap.size + 1) 25 _ (0, 0) _ rfl (by repeat (first | (refine heap_at _ _ _ ?_; (simp; done)) | (refine (heap_past _ _ _ ?_).trans ?_; focus (simp; done)) | (refine (heap_drew _ _).trans ?_))) Try.underlying25 rfl (iR (by simp [sA]))) rfl ⟨by first | (rw [← hA]; simp [setV, R_set8, R_set16]; done) | (rw [← hA]; simp [setV, R_set8, R_set16, *]; done), _, _, rfl⟩
end Regs
end Go.Proofs.Ythghpgnnbdimaaa
