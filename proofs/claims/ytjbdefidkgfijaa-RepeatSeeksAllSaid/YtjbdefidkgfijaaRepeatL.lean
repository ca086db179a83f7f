/- The walks of the statements on steps over many bytes (layer 9): each returns true for every input. No conditions but that numbers are of their kinds. -/
import Derived.Test.YtjbdefidkgfijaaRRepeat
import Derived.Deep.RegionHeld3
namespace Go.Proofs.Ytjbdefidkgfijaa
open Go.RowKit
open Kit R06 Pop Repeat
set_option linter.unusedSimpArgs false
set_option linter.unusedVariables false
theorem bcell {W w1 : World} (hb : Below W.heap.size W w1) : (∀ b o, b < W.heap.size → w1.cell? ⟨b, o, none⟩ = W.cell? ⟨b, o, none⟩) ∧ (∀ b o, b < W.heap.size → w1.frozen? ⟨b, o, none⟩ = W.frozen? ⟨b, o, none⟩) :=
  ⟨fun b o h => hb.cell (p := ⟨b, o, none⟩) h, fun b o h => hb.frozen (p := ⟨b, o, none⟩) h⟩
theorem alive_any (w : World) : Calls Try.prog 9 #[] w fun e w' => e = .returned (.bool true) ∧ w = w' := by
  have e1 : seekF 5 5 0 1 = 70 := by decide +kernel
  have e2 : loadF 2 0 0 0 = 32 := by decide +kernel
  go_enter Try.func9, Try.ntmps9
  go_wp2_with (first | (go_at_call 10; with_reducible refine (load_any _ _ _ _ (by omega) (by omega) (by omega) (by omega) (by omega) (by omega) _).mono ?_; rintro e w' ⟨rfl, rfl⟩) | (go_at_call 12; with_reducible refine (seek_any _ _ _ _ (by omega) (by omega) (by omega) (by omega) (by omega) (by omega) _).mono ?_; rintro e w' ⟨rfl, rfl⟩))
  go_ret
  exact ⟨ret_bool (by simp), rfl⟩
theorem repeatNames_walk (w : World) :
    Calls Try.prog 6 #[] w fun e w' => e = .returned (.bool true) ∧ Below w.heap.size w w' := by
  have e1 : seekF 0 1 1 0 = 187 := by decide +kernel
  have e2 : portF 128 128 0 = 87 := by decide +kernel
  have e3 : loadF 8 0 255 1 = 205 := by decide +kernel
  go_enter Try.func6, Try.ntmps6
  go_wp2_with (first | (go_at_call 9; with_reducible refine (alive_any _).mono ?_; rintro e w' ⟨rfl, rfl⟩) | (go_at_call 10; with_reducible refine (load_any _ _ _ _ (by omega) (by omega) (by omega) (by omega) (by omega) (by omega) _).mono ?_; rintro e w' ⟨rfl, rfl⟩) | (go_at_call 12; with_reducible refine (seek_any _ _ _ _ (by omega) (by omega) (by omega) (by omega) (by omega) (by omega) _).mono ?_; rintro e w' ⟨rfl, rfl⟩) | (go_at_call 14; with_reducible refine (port_any _ _ _ (by omega) (by omega) (by omega) (by omega) (by omega) (by omega) _).mono ?_; rintro e w' ⟨rfl, rfl⟩))
  go_ret
  exact ⟨ret_bool (by simp), Below.refl _ _⟩
set_option maxRecDepth 100000 in
theorem repeatPorts_walk (a0 : Int) (a1 : Int) (a2 : Int) (w0 : (Lit.int .u8 a0).wf = true) (w1 : (Lit.int .u8 a1).wf = true) (w2 : (Lit.int .u8 a2).wf = true) (w : World) :
    Calls Try.prog 7 #[.int .u8 a0, .int .u8 a1, .int .u8 a2] w fun e w' => e = .returned (.bool true) ∧ Below w.heap.size w w' := by
  obtain ⟨h00, h01⟩ := u8_bd w0
  obtain ⟨h10, h11⟩ := u8_bd w1
  obtain ⟨h20, h21⟩ := u8_bd w2
  clear w0 w1 w2
  go_enter Try.func7, Try.ntmps7
  go_wp2_with (first | (go_at_call 9; with_reducible refine (alive_any _).mono ?_; rintro e w' ⟨rfl, rfl⟩) | (go_at_call 14; with_reducible refine (port_any _ _ _ (by omega) (by omega) (by omega) (by omega) (by omega) (by omega) _).mono ?_; rintro e w' ⟨rfl, rfl⟩) | (go_at_call 15; with_reducible refine (rport_any _ _ _ (by omega) (by omega) (by omega) (by omega) (by omega) (by omega) _).mono ?_; rintro e w1 ⟨rfl, hb1⟩))
  go_ret
  exact ⟨ret_bool (by simp), hb1⟩
theorem keep3 (w0 w w' : World) (a b c : Value) (h0 : w.cell? ⟨w0.heap.size, 0, none⟩ = some a) (h1 : w.cell? ⟨w0.heap.size, 1, none⟩ = some b) (h2 : w.cell? ⟨w0.heap.size, 2, none⟩ = some c) (hB : Below w0.heap.size w0 w) (hb : Below w.heap.size w w') :
    w'.cell? ⟨w0.heap.size, 0, none⟩ = some a ∧ w'.cell? ⟨w0.heap.size, 1, none⟩ = some b ∧ w'.cell? ⟨w0.heap.size, 2, none⟩ = some c ∧ Below w0.heap.size w0 w' := by
  have hlt : w0.heap.size < w.heap.size := by
    rcases Nat.lt_or_ge w0.heap.size w.heap.size with h | h
    · exact h
    · have : w.heap[w0.heap.size]? = none := Array.getElem?_eq_none h
      simp [World.cell?, this] at h0
  exact ⟨(hb.cell (p := ⟨w0.heap.size, 0, none⟩) hlt).trans h0, (hb.cell (p := ⟨w0.heap.size, 1, none⟩) hlt).trans h1, (hb.cell (p := ⟨w0.heap.size, 2, none⟩) hlt).trans h2, hB.trans (hb.mono hB.size)⟩
theorem rload_held (w0 : World) (a v g l : Int) (ha0 : 0 ≤ a) (ha1 : a < 256) (hv0 : 0 ≤ v) (hv1 : v < 256) (hg0 : 0 ≤ g) (hg1 : g < 256) (hl0 : 0 ≤ l) (hl1 : l < 65536) (w : World)
    (h0 : w.cell? ⟨w0.heap.size, 0, none⟩ = some (.int .u8 a)) (h1 : w.cell? ⟨w0.heap.size, 1, none⟩ = some (.int .u8 v)) (h2 : w.cell? ⟨w0.heap.size, 2, none⟩ = some (.int .u8 g)) (hB : Below w0.heap.size w0 w) :
    Calls Try.prog 11 #[.int .u8 a, .int .u8 v, .int .u8 g, .int .u16 l] w fun e w' => e = .returned (.int .u8 (loadF a v g l)) ∧
      w'.cell? ⟨w0.heap.size, 0, none⟩ = some (.int .u8 a) ∧ w'.cell? ⟨w0.heap.size, 1, none⟩ = some (.int .u8 v) ∧ w'.cell? ⟨w0.heap.size, 2, none⟩ = some (.int .u8 g) ∧ Below w0.heap.size w0 w' := by
  refine (rload_any a v g l ha0 ha1 hv0 hv1 hg0 hg1 hl0 hl1 w).mono ?_
  rintro e w' ⟨rfl, hb⟩
  exact ⟨rfl, keep3 w0 w w' _ _ _ h0 h1 h2 hB hb⟩
set_option maxRecDepth 100000 in
theorem repeatLoads_walk (a0_0 a0_1 a0_2 : Int) (a1 : Int) (w0_0 : (Lit.int .u8 a0_0).wf = true) (w0_1 : (Lit.int .u8 a0_1).wf = true) (w0_2 : (Lit.int .u8 a0_2).wf = true) (w1 : (Lit.int .u16 a1).wf = true) (w : World) :
    Calls Try.prog 3 #[.agg #[.int .u8 a0_0, .int .u8 a0_1, .int .u8 a0_2], .int .u16 a1] w fun e w' => e = .returned (.bool true) ∧ Below w.heap.size w w' := by
  obtain ⟨h0_00, h0_01⟩ := u8_bd w0_0
  obtain ⟨h0_10, h0_11⟩ := u8_bd w0_1
  obtain ⟨h0_20, h0_21⟩ := u8_bd w0_2
  clear w0_0 w0_1 w0_2
  obtain ⟨h10, h11⟩ := u16_bd w1
  clear w1
  go_enter Try.func3, Try.ntmps3
  go_wp2_with (first | (go_at_call 9; with_reducible refine (alive_any _).mono ?_; rintro e w' ⟨rfl, rfl⟩) | (go_at_call 10; with_reducible refine (load_any _ _ _ _ (by omega) (by omega) (by omega) (by omega) (by omega) (by omega) _).mono ?_; rintro e w' ⟨rfl, rfl⟩))
  obtain ⟨w1, hw1⟩ : ∃ w1, w1 = w.alloc (.cells #[.int .u8 a0_0, .int .u8 a0_1, .int .u8 a0_2] 22) := ⟨_, rfl⟩
  have hB : Below w.heap.size w w1 := by rw [hw1]; exact (Below.refl w.heap.size w).alloc (Nat.le_refl _) _
  have c0 : w1.cell? ⟨w.heap.size, 0, none⟩ = some (.int .u8 a0_0) := by rw [hw1]; simp
  have c1 : w1.cell? ⟨w.heap.size, 1, none⟩ = some (.int .u8 a0_1) := by rw [hw1]; simp
  have c2 : w1.cell? ⟨w.heap.size, 2, none⟩ = some (.int .u8 a0_2) := by rw [hw1]; simp
  rw [← hw1]
  clear hw1
  go_region_held3 (fun w' => w'.cell? ⟨w.heap.size, 0, none⟩ = some (.int .u8 a0_0) ∧ w'.cell? ⟨w.heap.size, 1, none⟩ = some (.int .u8 a0_1) ∧ w'.cell? ⟨w.heap.size, 2, none⟩ = some (.int .u8 a0_2) ∧ Below w.heap.size w w') (first | (exact ⟨by simp [*], by simp [*], by simp [*], hB.drew⟩) | (exact ⟨by assumption, by assumption, by assumption, by assumption⟩) | go_keep)
    (first | (go_at_call 9; with_reducible refine (alive_any _).mono ?_; rintro e w' ⟨rfl, rfl⟩) | (go_at_call 10; with_reducible refine (load_any _ _ _ _ h0_00 h0_01 h0_10 h0_11 h0_20 h0_21 _).mono ?_; rintro e w' ⟨rfl, rfl⟩) | (go_at_call 11; refine (rload_held w a0_0 a0_1 a0_2 a1 h0_00 h0_01 h0_10 h0_11 h0_20 h0_21 h10 h11 w1.drew c0 c1 c2 hB.drew).mono ?_; rintro e w' ⟨rfl, k0, k1, k2, k3⟩))
  go_wp2
  go_ret
  exact ⟨ret_bool (by simp), k3⟩
set_option maxRecDepth 100000 in
theorem repeatSeeks_walk (a0_0 a0_1 a0_2 : Int) (a1 : Int) (w0_0 : (Lit.int .u8 a0_0).wf = true) (w0_1 : (Lit.int .u8 a0_1).wf = true) (w0_2 : (Lit.int .u8 a0_2).wf = true) (w1 : (Lit.int .u16 a1).wf = true) (w : World) :
    Calls Try.prog 4 #[.agg #[.int .u8 a0_0, .int .u8 a0_1, .int .u8 a0_2], .int .u16 a1] w fun e w' => e = .returned (.bool true) ∧ Below w.heap.size w w' := by
  obtain ⟨h0_00, h0_01⟩ := u8_bd w0_0
  obtain ⟨h0_10, h0_11⟩ := u8_bd w0_1
  obtain ⟨h0_20, h0_21⟩ := u8_bd w0_2
  clear w0_0 w0_1 w0_2
  obtain ⟨h10, h11⟩ := u16_bd w1
  clear w1
  go_enter Try.func4, Try.ntmps4
  go_wp2_with (first | (go_at_call 9; with_reducible refine (alive_any _).mono ?_; rintro e w' ⟨rfl, rfl⟩) | (go_at_call 12; with_reducible refine (seek_any _ _ _ _ (by omega) (by omega) (by omega) (by omega) (by omega) (by omega) _).mono ?_; rintro e w' ⟨rfl, rfl⟩) | (go_at_call 13; with_reducible refine (rseek_any _ _ _ _ (by omega) (by omega) (by omega) (by omega) (by omega) (by omega) (by omega) (by omega) _).mono ?_; rintro e w1 ⟨rfl, hb1⟩))
  go_ret
  exact ⟨ret_bool (by simp), ((Below.refl w.heap.size w).alloc (Nat.le_refl _) _).trans (hb1.mono (by simp))⟩
theorem f1 : ∀ s z y h x p n c : Bool, Go.bits .and .u8 ((flagsOf s z y h x p n c : Nat) : Int) 1 = cond c 1 0 := by decide +kernel
theorem f4 : ∀ s z y h x p n c : Bool, (Go.bits .and .u8 ((flagsOf s z y h x p n c : Nat) : Int) 4 != 0) = p := by decide +kernel
theorem f64 : ∀ s z y h x p n c : Bool, (Go.bits .and .u8 ((flagsOf s z y h x p n c : Nat) : Int) 64 != 0) = z := by decide +kernel
theorem f2 : ∀ s z y h x p n c : Bool, (Go.bits .and .u8 ((flagsOf s z y h x p n c : Nat) : Int) 2 != 0) = n := by decide +kernel
theorem f193 : ∀ s z y h x p n c : Bool, Go.bits .and .u8 ((flagsOf s z y h x p n c : Nat) : Int) 193 = ((fl s 128 + (fl z 64 + fl c 1) : Nat) : Int) := by decide +kernel
theorem f18 : ∀ s z y x p c : Bool, Go.bits .and .u8 ((flagsOf s z y false x p false c : Nat) : Int) 18 = 0 := by decide +kernel
theorem f16 : ∀ s z y h x p n : Bool, (Go.bits .and .u8 ((flagsOf s z y h x p n h : Nat) : Int) 16 != 0) = (Go.bits .and .u8 ((flagsOf s z y h x p n h : Nat) : Int) 1 != 0) := by decide +kernel
theorem g193 (g : Int) (h0 : 0 ≤ g) (h1 : g < 256) : Go.bits .and .u8 g 193 = ((fl (bi g 128) 128 + (fl (bi g 64) 64 + fl (bi g 1) 1) : Nat) : Int) := by
  obtain ⟨g, rfl⟩ := Int.eq_ofNat_of_zero_le h0
  have hg : g < 256 := by omega
  simp only [Kit.and8l, Kit.or8l, Kit.xor8l, Kit.andn8l, Kit.and16l, Kit.or16l, Kit.divl, Kit.modl, Kit.addn, Kit.muln, Kit.addl, Kit.mull, Kit.lmul, Kit.ladd, Kit.and8, Kit.or8, Kit.xor8, Kit.andn8, Kit.and16, Kit.or16, Kit.xor16, Kit.wrap16, Kit.wrap8, Kit.land8, Kit.lor8, Kit.lxor8, Kit.landn8, Kit.land16, Kit.lor16, Kit.lxor16, bi_cast]; rw [Nat.mod_eq_of_lt hg, show (193 % 256) = 193 from rfl, m193 g hg]
set_option maxHeartbeats 2000000 in
set_option maxRecDepth 100000 in
theorem repeatKeeps_walk (a0_0 a0_1 a0_2 : Int) (a1 : Int) (w0_0 : (Lit.int .u8 a0_0).wf = true) (w0_1 : (Lit.int .u8 a0_1).wf = true) (w0_2 : (Lit.int .u8 a0_2).wf = true) (w1 : (Lit.int .u16 a1).wf = true) (w : World) :
    Calls Try.prog 8 #[.agg #[.int .u8 a0_0, .int .u8 a0_1, .int .u8 a0_2], .int .u16 a1] w fun e w' => e = .returned (.bool true) ∧ Below w.heap.size w w' := by
  obtain ⟨h0_00, h0_01⟩ := u8_bd w0_0
  obtain ⟨h0_10, h0_11⟩ := u8_bd w0_1
  obtain ⟨h0_20, h0_21⟩ := u8_bd w0_2
  clear w0_0 w0_1 w0_2
  obtain ⟨h10, h11⟩ := u16_bd w1
  clear w1
  have t1 : Go.bits .and .u8 (loadF a0_0 a0_1 a0_2 a1) 193 = Go.bits .and .u8 a0_2 193 := by rw [g193 _ h0_20 h0_21]; exact f193 ..
  have t2 : Go.bits .and .u8 (seekF a0_0 a0_1 a0_2 a1) 1 = Go.bits .and .u8 a0_2 1 := by rw [g_1 _ h0_20 h0_21]; exact f1 ..
  have t3 : (Go.bits .and .u8 (loadF a0_0 a0_1 a0_2 a1) 4 != 0) = decide (0 < a1) := by rw [pos_ne a1 h10]; exact f4 ..
  have t4 : (Go.bits .and .u8 (seekF a0_0 a0_1 a0_2 a1) 4 != 0) = decide (0 < a1) := by rw [pos_ne a1 h10]; exact f4 ..
  have t5 : (Go.bits .and .u8 (seekF a0_0 a0_1 a0_2 a1) 64 != 0) = (a0_0 == a0_1) := by rw [← zero_same a0_0 a0_1 h0_00 h0_01 h0_10 h0_11]; exact f64 ..
  have t6 : (Go.bits .and .u8 (portF a0_0 a0_1 a0_2) 64 != 0) = (a0_2 == 0) := f64 ..
  have t7 : Go.bits .and .u8 (loadF a0_0 a0_1 a0_2 a1) 18 = 0 := f18 ..
  have t8 : (Go.bits .and .u8 (seekF a0_0 a0_1 a0_2 a1) 2 != 0) = true := f2 ..
  have t9 : (Go.bits .and .u8 (portF a0_0 a0_1 a0_2) 16 != 0) = (Go.bits .and .u8 (portF a0_0 a0_1 a0_2) 1 != 0) := f16 ..
  have t10 : (a1 != 0) = decide (0 < a1) := (pos_ne a1 h10).symm
  generalize hp : loadF a0_0 a0_1 a0_2 a1 = p at t1 t3 t7
  generalize hq : seekF a0_0 a0_1 a0_2 a1 = q at t2 t4 t5 t8
  generalize hr : portF a0_0 a0_1 a0_2 = r at t6 t9
  have Hp := Lib.hid hp
  have Hq := Lib.hid hq
  have Hr := Lib.hid hr
  clear hp hq hr
  go_enter Try.func8, Try.ntmps8
  go_wp2_with (first | (go_at_call 9; with_reducible refine (alive_any _).mono ?_; rintro e w' ⟨rfl, rfl⟩) | (go_at_call 10; with_reducible refine (load_any _ _ _ _ (by omega) (by omega) (by omega) (by omega) (by omega) (by omega) _).mono ?_; rw [Hp.out]; rintro e w' ⟨rfl, rfl⟩) | (go_at_call 12; with_reducible refine (seek_any _ _ _ _ (by omega) (by omega) (by omega) (by omega) (by omega) (by omega) _).mono ?_; rw [Hq.out]; rintro e w' ⟨rfl, rfl⟩) | (go_at_call 14; with_reducible refine (port_any _ _ _ (by omega) (by omega) (by omega) (by omega) (by omega) (by omega) _).mono ?_; rw [Hr.out]; rintro e w' ⟨rfl, rfl⟩))
  all_goals
    go_ret
    exact ⟨ret_bool (by first | rfl | (simp; done) | (simp [*]; done) | (simp; omega)), (Below.refl w.heap.size w).alloc (Nat.le_refl _) _⟩
end Go.Proofs.Ytjbdefidkgfijaa
