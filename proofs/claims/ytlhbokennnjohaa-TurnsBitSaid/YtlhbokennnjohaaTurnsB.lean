/- The walk of the statement on bits that are asked and set (layer 8): it returns true for every input. No conditions but that numbers are of their kinds. -/
import Derived.Test.YtlhbokennnjohaaTurnsL
import Derived.Test.YtlhbokennnjohaaRPut
namespace Go.Proofs.Ytlhbokennnjohaa
open Go.RowKit
open Kit R06 Pop Turns
set_option linter.unusedSimpArgs false
set_option linter.unusedVariables false
theorem rbit_held (w0 : World) (o a b c x : Int) (ha0 : 0 ≤ a) (ha1 : a < 256) (hb0 : 0 ≤ b) (hb1 : b < 256) (hc0 : 0 ≤ c) (hc1 : c < 256) (hx : bitF (o % 8) a b c = x) (w : World) (h0 : w.cell? ⟨w0.heap.size, 0, none⟩ = some (.int .u8 a)) (h1 : w.cell? ⟨w0.heap.size, 1, none⟩ = some (.int .u8 b)) (h2 : w.cell? ⟨w0.heap.size, 2, none⟩ = some (.int .u8 c)) (hB : Below w0.heap.size w0 w) :
    Calls Try.prog 11 #[.int .i64 o, .int .u8 a, .int .u8 b, .int .u8 c] w fun e w' => e = .returned (.int .u8 x) ∧ w'.cell? ⟨w0.heap.size, 0, none⟩ = some (.int .u8 a) ∧ w'.cell? ⟨w0.heap.size, 1, none⟩ = some (.int .u8 b) ∧ w'.cell? ⟨w0.heap.size, 2, none⟩ = some (.int .u8 c) ∧ Below w0.heap.size w0 w' := by
  subst hx
  refine (RTurns.rbit_any o a b c ha0 ha1 hb0 hb1 hc0 hc1 w).mono ?_
  rintro e w' ⟨rfl, hb⟩
  have hlt : w0.heap.size < w.heap.size := by
    rcases Nat.lt_or_ge w0.heap.size w.heap.size with h | h
    · exact h
    · have : w.heap[w0.heap.size]? = none := Array.getElem?_eq_none h
      simp [World.cell?, this] at h0
  exact ⟨rfl, (hb.cell (p := ⟨w0.heap.size, 0, none⟩) hlt).trans h0, (hb.cell (p := ⟨w0.heap.size, 1, none⟩) hlt).trans h1, (hb.cell (p := ⟨w0.heap.size, 2, none⟩) hlt).trans h2, hB.trans (hb.mono hB.size)⟩
set_option maxRecDepth 100000 in
set_option maxHeartbeats 2000000 in
theorem turnsBit_walk (a0 : Int) (a1_0 : Int) (a1_1 : Int) (a1_2 : Int) (a2 : Bool) (wa0 : (Lit.int .i64 a0).wf = true) (wa1_0 : (Lit.int .u8 a1_0).wf = true) (wa1_1 : (Lit.int .u8 a1_1).wf = true) (wa1_2 : (Lit.int .u8 a1_2).wf = true) (w : World) :
    Calls Try.prog 3 #[.int .i64 a0, .agg #[.int .u8 a1_0, .int .u8 a1_1, .int .u8 a1_2], .bool a2] w fun e w' => e = .returned (.bool true) ∧ Below w.heap.size w w' := by
  obtain ⟨ha00, ha01⟩ := u8_bd wa1_0
  obtain ⟨ha10, ha11⟩ := u8_bd wa1_1
  obtain ⟨ha20, ha21⟩ := u8_bd wa1_2
  clear wa0 wa1_0 wa1_1 wa1_2
  obtain ⟨x, hx⟩ : ∃ x, bitF (a0 % 8) a1_0 a1_1 a1_2 = x := ⟨_, rfl⟩
  obtain ⟨y, hy⟩ : ∃ y, putV (a0 % 8) a1_0 a2 = y := ⟨_, rfl⟩
  have HX := Lib.hid hx
  have HY := Lib.hid hy
  clear hx hy
  go_enter Try.func3, Try.ntmps3
  go_wp2_with (first | (go_at_call 9; with_reducible refine (alive_any _).mono ?_; rintro e w' ⟨rfl, rfl⟩))
  have hB := (Below.refl w.heap.size w).alloc (Nat.le_refl _) (Obj.cells #[Value.int IntKind.u8 a1_0, Value.int IntKind.u8 a1_1, Value.int IntKind.u8 a1_2] 22)
  go_region_held3 (fun w' => w'.cell? ⟨w.heap.size, 0, none⟩ = some (.int .u8 a1_0) ∧ w'.cell? ⟨w.heap.size, 1, none⟩ = some (.int .u8 a1_1) ∧ w'.cell? ⟨w.heap.size, 2, none⟩ = some (.int .u8 a1_2) ∧ Below w.heap.size w w') (first | (exact ⟨by simp, by simp, by simp, hB.drew⟩) | (exact ⟨by assumption, by assumption, by assumption, by assumption⟩) | go_keep)
    (first | (go_at_call 10; with_reducible refine (bit_any _ _ _ _ ha00 ha01 ha10 ha11 ha20 ha21 _).mono ?_; rw [HX.out]; rintro e w' ⟨rfl, rfl⟩) | (go_at_call 11; refine (rbit_held w _ a1_0 a1_1 a1_2 _ ha00 ha01 ha10 ha11 ha20 ha21 HX.out _ (by simp) (by simp) (by simp) hB.drew).mono ?_; rintro e w' ⟨rfl, k0, k1, k2, k3⟩) | (go_at_call 12; with_reducible refine (put_any _ _ _ ha00 ha01 _).mono ?_; rw [HY.out]; rintro e w' ⟨rfl, rfl⟩) | (go_at_call 13; with_reducible refine (RTurns.rput_any _ _ _ ha00 ha01 _).mono ?_; rw [HY.out]; rintro e w' ⟨rfl, rfl⟩))
  go_wp2
  go_ret
  exact ⟨ret_bool (by simp), k3⟩
end Go.Proofs.Ytlhbokennnjohaa
