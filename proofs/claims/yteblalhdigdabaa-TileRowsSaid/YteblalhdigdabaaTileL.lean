/- The walks of the statements on tiles (layer 16): each returns true for every input. No conditions but that numbers are of their kinds and slices are slices. -/
import Derived.Test.YteblalhdigdabaaTileB
import Derived.Test.YteblalhdigdabaaEq
import Derived.Deep.RegionHeld3
namespace Go.Proofs.Yteblalhdigdabaa
open Go.RowKit
open Kit Tile TileR TileB
set_option linter.unusedSimpArgs false
set_option linter.unusedVariables false
namespace TileL
theorem bcell {W w1 : World} {B : Nat} (hb : Below B W w1) : (∀ b o, b < B → w1.cell? ⟨b, o, none⟩ = W.cell? ⟨b, o, none⟩) ∧ (∀ b o, b < B → w1.frozen? ⟨b, o, none⟩ = W.frozen? ⟨b, o, none⟩) :=
  ⟨fun b o h => hb.cell (p := ⟨b, o, none⟩) h, fun b o h => hb.frozen (p := ⟨b, o, none⟩) h⟩
theorem below_in {W w1 : World} (hb : Below W.heap.size W w1) : ∃ B, B = W.heap.size ∧ B ≤ w1.heap.size ∧ (∀ b o, b < B → w1.cell? ⟨b, o, none⟩ = W.cell? ⟨b, o, none⟩) ∧ (∀ b o, b < B → w1.frozen? ⟨b, o, none⟩ = W.frozen? ⟨b, o, none⟩) :=
  ⟨_, rfl, hb.size, (bcell hb).1, (bcell hb).2⟩
theorem szs {H S : Nat} (h : H < S) : H < S + 1 ∧ H < S + 1 + 1 ∧ H < S + 1 + 1 + 1 ∧ H < S + 1 + 1 + 1 + 1 ∧ H < S + 1 + 1 + 1 + 1 + 1 := by omega
theorem bytes_made (w : World) (zs : List Int) (t : TypeId) (h : ∀ z ∈ zs, 0 ≤ z ∧ z < 256) (hl : zs.length ≤ 100) : Bytes (w.alloc (.cells (zs.map (Value.int .u8)).toArray t)) (.slice (some ⟨w.heap.size, 0, none⟩) zs.length zs.length) zs := by
  refine ⟨_, _, rfl, Nat.le_refl _, by unfold maxLen; omega, fun _ => ⟨w.heap.size, 0, rfl, by simp, fun i hi => ?_⟩, fun m hm => ?_⟩
  · rw [Nat.zero_add, cell_of _ _ _ (heap_at w _ _ rfl)]
    simp [List.getD, hi]
  · obtain ⟨a, b⟩ := h m hm
    simp [Lit.wf, IntKind.min, IntKind.max, IntKind.signed, IntKind.bits]
    omega
theorem u8_mk {z : Int} (h0 : 0 ≤ z) (h1 : z < 256) : (Lit.int .u8 z).wf = true := by
  simp [Lit.wf, IntKind.min, IntKind.max, IntKind.signed, IntKind.bits]; omega
theorem leaves_map (n : Nat) (k : IntKind) (f : Nat → Value) (s : Nat) : (∀ j, s ≤ j → j < s + n → ∃ z, f j = .int k z ∧ (Lit.int k z).wf = true) → leavesOk (List.replicate n (some k)) ((List.range' s n).map f) := by
  induction n generalizing s with
  | zero => intro _; trivial
  | succ n ih =>
    intro h
    rw [List.range'_succ, List.map_cons, List.replicate_succ]
    exact ⟨h s (Nat.le_refl _) (by omega), ih (s + 1) fun j h1 h2 => h j (by omega) (by omega)⟩
theorem leaves_row (n : Nat) (k : IntKind) (f : Nat → Value) (h : ∀ j, j < n → ∃ z, f j = .int k z ∧ (Lit.int k z).wf = true) : leavesOk (List.replicate n (some k)) (row n f).toList := by
  have := leaves_map n k f 0 fun j _ hj => h j (by omega)
  simpa [row, List.range_eq_range'] using this
theorem eq8 (A : Array Value) (hA : leavesOk (List.replicate 8 (some .u8)) A.toList) (w : World) : (Op.equalIn 10000 28 (.agg A) (.agg A)).run Try.prog w = .ok true w :=
  eq_self 6 6 28 (List.replicate 8 (some .u8)) (by kernel_rfl) (by kernel_rfl) (by decide) (by kernel_rfl) A hA (by kernel_rfl) w
theorem eq_row (zs : List Int) (t r : Int) (tu : Bool) (w : World) : (Op.equalIn 10000 28 (.agg (row 8 fun j => .int .u8 (dotV zs t r (posK tu j)))) (.agg (row 8 fun j => .int .u8 (dotV zs t r (posK tu j))))).run Try.prog w = .ok true w :=
  eq8 _ (leaves_row 8 .u8 _ fun j _ => ⟨_, rfl, u8_mk (dotV_bd ..).1 (by have := (dotV_bd zs t r (posK tu j)).2; omega)⟩) w
set_option maxRecDepth 100000 in
set_option maxHeartbeats 1000000 in
theorem alive_any (w : World) : Calls Try.prog 7 #[] w fun e w' => e = .returned (.bool true) ∧ Below w.heap.size w w' := by
  have b1 := fun W => bytes_made W [128] 5 (by simp) (by simp)
  have b2 := fun W => bytes_made W [5] 5 (by simp) (by simp)
  have h1 := fun W hW => row_any (.slice (some ⟨w.heap.size, 0, none⟩) 1 1) [128] 0 0 false W hW
  rw [show row 8 (fun j => Value.int .u8 (dotV [128] 0 0 (posK false j))) = #[.int .u8 1, .int .u8 0, .int .u8 0, .int .u8 0, .int .u8 0, .int .u8 0, .int .u8 0, .int .u8 0] from rfl] at h1
  have q1 := fun W => eq8 #[.int .u8 1, .int .u8 0, .int .u8 0, .int .u8 0, .int .u8 0, .int .u8 0, .int .u8 0, .int .u8 0] ⟨⟨1, rfl, rfl⟩, ⟨0, rfl, rfl⟩, ⟨0, rfl, rfl⟩, ⟨0, rfl, rfl⟩, ⟨0, rfl, rfl⟩, ⟨0, rfl, rfl⟩, ⟨0, rfl, rfl⟩, ⟨0, rfl, rfl⟩, trivial⟩ W
  have B1 := Lib.hid b1
  have B2 := Lib.hid b2
  have H1 := Lib.hid h1
  clear b1 b2 h1
  go_enter Try.func7, Try.ntmps7
  go_wp2_with fail
  refine (H1.out _ (B1.out _)).mono ?_
  rintro e w' ⟨rfl, o1, o2, n, rfl⟩
  go_wp2_with fail
  refine (at_any _ [5] 16384 _ ?_).mono ?_
  · exact (show ∀ (W : World) (s : Nat), s = W.heap.size → Bytes (W.alloc (.cells #[Value.int .u8 5] 5)) (.slice (some { block := s, off := 0 }) 1 1) [5] from fun W s h => h ▸ B2.out W) _ _ (by simp [World.drewN])
  rintro e w' ⟨rfl, rfl⟩
  rw [show atV [5] 16384 = 5 from rfl]
  go_wp2_with fail
  go_ret
  refine ⟨ret_bool (by simp), ?_⟩
  have h1 : w.heap.size ≤ (w.alloc (.cells #[Value.int .u8 128] 5)).heap.size := by simp
  have h2 : w.heap.size ≤ ((w.alloc (.cells #[Value.int .u8 128] 5)).alloc o1).heap.size := by simp; omega
  have h3 : w.heap.size ≤ ((((w.alloc (.cells #[Value.int .u8 128] 5)).alloc o1).alloc o2).drewN n).heap.size := by simp [World.drewN]; omega
  exact (below_drewN ((((Below.refl w.heap.size w).alloc (Nat.le_refl _) _).alloc h1 _).alloc h2 _) _).alloc h3 _
/- MKTL -/
theorem wf_i64 {z : Int} (h : (Lit.int .i64 z).wf = true) : -9223372036854775808 ≤ z ∧ z ≤ 9223372036854775807 := by
  simp [Lit.wf, IntKind.min, IntKind.max, IntKind.signed, IntKind.bits] at h; omega
set_option maxRecDepth 100000 in
set_option maxHeartbeats 4000000 in
theorem tileEntries_walk (v1 v2 : Value) (z1 z2 : List Int) (m a : Int) (b c0 c1 : Int) (w0_2 : (Lit.int .i64 m).wf = true) (w0_3 : (Lit.int .i64 a).wf = true) (w : World) (hs1 : IntsOf w v1 .u8 z1) (hs2 : IntsOf w v2 .u8 z2) :
    Calls Try.prog 6 #[.agg #[v1, v2, .int .i64 m, .int .i64 a], .int .i64 b, .agg #[.int .i64 c0, .int .i64 c1]] w fun e w' => e = .returned (.bool true) ∧ Below w.heap.size w w' := by
  obtain ⟨a0, a1⟩ := wf_i64 w0_3
  have hB := fun (n2 : z2.length ≤ 300) (W : World) (q : Below w.heap.size w W) => build_any v1 v2 m a z1 z2 W a0 a1 n2 (Bytes.below hs1 q) (Bytes.below hs2 q)
  have HB := Lib.hid hB
  clear hB a0 a1 w0_2 w0_3
  obtain ⟨p1, k1, rfl, hl1, hm1, -, -⟩ := hs1
  obtain ⟨p2, k2, rfl, hl2, hm2, -, -⟩ := hs2
  unfold maxLen at hm1 hm2
  go_enter Try.func6, Try.ntmps6
  go_wp2_with fail
  refine (alive_any _).mono ?_
  rintro e w1 ⟨rfl, hb1⟩
  obtain ⟨B1, e1, y1, hc1, hf1⟩ := below_in hb1
  have m1_0 : w.heap.size < B1 := by rw [e1]; simp; omega
  have m1_1 : w.heap.size + 1 < B1 := by rw [e1]; simp
  clear e1
  have c1_0_0 : w1.cell? ⟨w.heap.size, 0, none⟩ = some (.slice p1 z1.length k1) := by rw [hc1 _ _ m1_0]; go_simp
  have c1_0_1 : w1.cell? ⟨w.heap.size, 1, none⟩ = some (.slice p2 z2.length k2) := by rw [hc1 _ _ m1_0]; go_simp
  have c1_0_2 : w1.cell? ⟨w.heap.size, 2, none⟩ = some (.int .i64 m) := by rw [hc1 _ _ m1_0]; go_simp
  have c1_0_3 : w1.cell? ⟨w.heap.size, 3, none⟩ = some (.int .i64 a) := by rw [hc1 _ _ m1_0]; go_simp
  have c1_1_0 : w1.cell? ⟨w.heap.size + 1, 0, none⟩ = some (.int .i64 c0) := by rw [hc1 _ _ m1_1]; go_simp
  have c1_1_1 : w1.cell? ⟨w.heap.size + 1, 1, none⟩ = some (.int .i64 c1) := by rw [hc1 _ _ m1_1]; go_simp
  have v1_0 : w.heap.size < w1.heap.size := by omega
  have v1_1 : w.heap.size + 1 < w1.heap.size := by omega
  have q1 : Below w.heap.size w w1 := below_trans (w := w) (by go_grown) hb1
  clear hc1 hf1
  by_cases n1 : z1.length ≤ 300
  case neg =>
    have t1 : decide (300 < z1.length) = true := decide_eq_true (by omega)
    have t1' : 300 < z1.length := by omega
    go_wp2_with fail
    go_ret
    exact ⟨ret_bool (by simp), by go_grown⟩
  have t1 : decide (300 < z1.length) = false := decide_eq_false (by omega)
  have t1' : ¬ 300 < z1.length := by omega
  by_cases n2 : z2.length ≤ 300
  case neg =>
    have t2 : decide (300 < z2.length) = true := decide_eq_true (by omega)
    have t2' : 300 < z2.length := by omega
    go_wp2_with fail
    go_ret
    exact ⟨ret_bool (by simp), by go_grown⟩
  have t2 : decide (300 < z2.length) = false := decide_eq_false (by omega)
  have t2' : ¬ 300 < z2.length := by omega
  go_wp2_with fail
  refine (HB.out n2 _ q1).mono ?_
  rintro e w2 ⟨g, n, zs, rfl, hz, hb2⟩
  obtain ⟨B2, e2, y2, hc2, hf2⟩ := below_in hb2
  have m2_0 : w.heap.size < B2 := by rw [e2]; omega
  have m2_1 : w.heap.size + 1 < B2 := by rw [e2]; omega
  clear e2
  have c2_1_0 : w2.cell? ⟨w.heap.size + 1, 0, none⟩ = some (.int .i64 c0) := (hc2 _ _ m2_1).trans c1_1_0
  have c2_1_1 : w2.cell? ⟨w.heap.size + 1, 1, none⟩ = some (.int .i64 c1) := (hc2 _ _ m2_1).trans c1_1_1
  have v2_1 : w.heap.size + 1 < w2.heap.size := by omega
  have q2 : Below w.heap.size w w2 := below_trans (w := w) q1 hb2
  clear hc2 hf2
  have HZ := Lib.hid hz
  clear hz
  go_wp2_with fail
  refine (entry_any _ zs _ _ _ _ HZ.out).mono ?_
  rintro e w' ⟨rfl, rfl⟩
  have h4 := fun W hW => rentry_any (.slice (some ⟨g, 0, none⟩) n n) zs b c0 c1 W hW
  generalize enN zs b c0 c1 = en at *
  generalize enH zs b c0 c1 = eh at *
  have H4 := Lib.hid h4
  clear h4
  go_wp2_with fail
  refine (H4.out _ HZ.out).mono ?_
  rintro e w' ⟨rfl, rfl⟩
  go_wp2_with fail
  go_ret
  exact ⟨ret_bool (by simp), by go_grown⟩
def RS (w : World) (H : Nat) (v : Value) (zs : List Int) (c0 c1 : Int) (W : World) : Prop := W.cell? ⟨H, 0, none⟩ = some (.int .i64 c0) ∧ W.cell? ⟨H, 1, none⟩ = some (.int .i64 c1) ∧ Bytes W v zs ∧ Below w.heap.size w W
theorem RS.below {w : World} {H : Nat} {v : Value} {zs : List Int} {c0 c1 : Int} {W W' : World} (h : RS w H v zs c0 c1 W) (hb : Below W.heap.size W W') : RS w H v zs c0 c1 W' := by
  obtain ⟨h0, h1, hz, hB⟩ := h
  have hlt := cell_lt h0
  exact ⟨(hb.cell (p := ⟨H, 0, none⟩) hlt).trans h0, (hb.cell (p := ⟨H, 1, none⟩) hlt).trans h1, hz.below hb, hB.trans (hb.mono hB.size)⟩
theorem row_held (w : World) (H : Nat) (v : Value) (zs : List Int) (c0 c1 : Int) (tu : Bool) (A : Array Value) (hA : (row 8 fun j => Value.int .u8 (dotV zs c0 c1 (posK tu j))) = A) (W : World) (h : RS w H v zs c0 c1 W) : Calls Try.prog 9 #[v, .int .i64 c0, .int .i64 c1, .bool tu] W fun e w' => e = .returned (.agg A) ∧ RS w H v zs c0 c1 w' := by
  subst hA
  refine (row_any v zs c0 c1 tu W h.2.2.1).mono ?_
  rintro e w' ⟨rfl, o1, o2, n, rfl⟩
  exact ⟨rfl, h.below (below_drewN (((Below.refl _ _).alloc (Nat.le_refl _) _).alloc (by simp) _) _)⟩
theorem rrow_held (w : World) (H : Nat) (v : Value) (zs : List Int) (c0 c1 : Int) (tu : Bool) (A : Array Value) (hA : (row 8 fun j => Value.int .u8 (dotV zs c0 c1 (posK tu j))) = A) (W : World) (h : RS w H v zs c0 c1 W) : Calls Try.prog 10 #[v, .int .i64 c0, .int .i64 c1, .bool tu] W fun e w' => e = .returned (.agg A) ∧ RS w H v zs c0 c1 w' := by
  subst hA
  refine (rrow_any v zs c0 c1 tu W h.2.2.1).mono ?_
  rintro e w' ⟨rfl, o1, o2, rfl⟩
  exact ⟨rfl, h.below (((Below.refl _ _).alloc (Nat.le_refl _) _).alloc (by simp) _)⟩
set_option maxRecDepth 100000 in
set_option maxHeartbeats 4000000 in
theorem tileRows_walk (v1 v2 : Value) (z1 z2 : List Int) (m a : Int) (c0 c1 : Int) (tu : Bool) (w0_2 : (Lit.int .i64 m).wf = true) (w0_3 : (Lit.int .i64 a).wf = true) (w : World) (hs1 : IntsOf w v1 .u8 z1) (hs2 : IntsOf w v2 .u8 z2) :
    Calls Try.prog 3 #[.agg #[v1, v2, .int .i64 m, .int .i64 a], .agg #[.int .i64 c0, .int .i64 c1], .bool tu] w fun e w' => e = .returned (.bool true) ∧ Below w.heap.size w w' := by
  obtain ⟨a0, a1⟩ := wf_i64 w0_3
  have hB := fun (n2 : z2.length ≤ 300) (W : World) (q : Below w.heap.size w W) => build_any v1 v2 m a z1 z2 W a0 a1 n2 (Bytes.below hs1 q) (Bytes.below hs2 q)
  have HB := Lib.hid hB
  clear hB a0 a1 w0_2 w0_3
  obtain ⟨p1, k1, rfl, hl1, hm1, -, -⟩ := hs1
  obtain ⟨p2, k2, rfl, hl2, hm2, -, -⟩ := hs2
  unfold maxLen at hm1 hm2
  go_enter Try.func3, Try.ntmps3
  go_wp2_with fail
  refine (alive_any _).mono ?_
  rintro e w1 ⟨rfl, hb1⟩
  obtain ⟨B1, e1, y1, hc1, hf1⟩ := below_in hb1
  have m1_0 : w.heap.size < B1 := by rw [e1]; simp; omega
  have m1_1 : w.heap.size + 1 < B1 := by rw [e1]; simp
  clear e1
  have c1_0_0 : w1.cell? ⟨w.heap.size, 0, none⟩ = some (.slice p1 z1.length k1) := by rw [hc1 _ _ m1_0]; go_simp
  have c1_0_1 : w1.cell? ⟨w.heap.size, 1, none⟩ = some (.slice p2 z2.length k2) := by rw [hc1 _ _ m1_0]; go_simp
  have c1_0_2 : w1.cell? ⟨w.heap.size, 2, none⟩ = some (.int .i64 m) := by rw [hc1 _ _ m1_0]; go_simp
  have c1_0_3 : w1.cell? ⟨w.heap.size, 3, none⟩ = some (.int .i64 a) := by rw [hc1 _ _ m1_0]; go_simp
  have c1_1_0 : w1.cell? ⟨w.heap.size + 1, 0, none⟩ = some (.int .i64 c0) := by rw [hc1 _ _ m1_1]; go_simp
  have c1_1_1 : w1.cell? ⟨w.heap.size + 1, 1, none⟩ = some (.int .i64 c1) := by rw [hc1 _ _ m1_1]; go_simp
  have v1_0 : w.heap.size < w1.heap.size := by omega
  have v1_1 : w.heap.size + 1 < w1.heap.size := by omega
  have q1 : Below w.heap.size w w1 := below_trans (w := w) (by go_grown) hb1
  clear hc1 hf1
  by_cases n1 : z1.length ≤ 300
  case neg =>
    have t1 : decide (300 < z1.length) = true := decide_eq_true (by omega)
    have t1' : 300 < z1.length := by omega
    go_wp2_with fail
    go_ret
    exact ⟨ret_bool (by simp), by go_grown⟩
  have t1 : decide (300 < z1.length) = false := decide_eq_false (by omega)
  have t1' : ¬ 300 < z1.length := by omega
  by_cases n2 : z2.length ≤ 300
  case neg =>
    have t2 : decide (300 < z2.length) = true := decide_eq_true (by omega)
    have t2' : 300 < z2.length := by omega
    go_wp2_with fail
    go_ret
    exact ⟨ret_bool (by simp), by go_grown⟩
  have t2 : decide (300 < z2.length) = false := decide_eq_false (by omega)
  have t2' : ¬ 300 < z2.length := by omega
  go_wp2_with fail
  refine (HB.out n2 _ q1).mono ?_
  rintro e w2 ⟨g, n, zs, rfl, hz, hb2⟩
  obtain ⟨B2, e2, y2, hc2, hf2⟩ := below_in hb2
  have m2_0 : w.heap.size < B2 := by rw [e2]; omega
  have m2_1 : w.heap.size + 1 < B2 := by rw [e2]; omega
  clear e2
  have c2_1_0 : w2.cell? ⟨w.heap.size + 1, 0, none⟩ = some (.int .i64 c0) := (hc2 _ _ m2_1).trans c1_1_0
  have c2_1_1 : w2.cell? ⟨w.heap.size + 1, 1, none⟩ = some (.int .i64 c1) := (hc2 _ _ m2_1).trans c1_1_1
  have v2_1 : w.heap.size + 1 < w2.heap.size := by omega
  have q2 : Below w.heap.size w w2 := below_trans (w := w) q1 hb2
  clear hc2 hf2
  obtain ⟨A, hA⟩ : ∃ A, (row 8 fun j => Value.int .u8 (dotV zs c0 c1 (posK tu j))) = A := ⟨_, rfl⟩
  have hq := fun W => eq_row zs c0 c1 tu W
  have hr := fun W h => row_held w (w.heap.size + 1) (.slice (some ⟨g, 0, none⟩) n n) zs c0 c1 tu A hA W h
  have hrr := fun W h => rrow_held w (w.heap.size + 1) (.slice (some ⟨g, 0, none⟩) n n) zs c0 c1 tu A hA W h
  have ha := fun W h => at_any (.slice (some ⟨g, 0, none⟩) n n) zs c0 W h
  have hra := fun W h => rat_any (.slice (some ⟨g, 0, none⟩) n n) zs c0 W h
  rw [hA] at hq
  generalize atV zs c0 = az at *
  have HR := Lib.hid hr
  have HRR := Lib.hid hrr
  have HAT := Lib.hid ha
  have HRAT := Lib.hid hra
  clear hr hrr ha hra hA q1 c1_0_0 c1_0_1 c1_0_2 c1_0_3 c1_1_0 c1_1_1
  go_wp2_with fail
  go_region_held3 (fun w' => w'.cell? ⟨w.heap.size + 1, 0, none⟩ = some (.int .i64 c0) ∧ w'.cell? ⟨w.heap.size + 1, 1, none⟩ = some (.int .i64 c1) ∧ Bytes w' (.slice (some ⟨g, 0, none⟩) n n) zs ∧ Below w.heap.size w w') (first | (exact ⟨(by (first | assumption | go_keep)), (by (first | assumption | go_keep)), (by (first | assumption | (exact Bytes.drew (by assumption)))), (by (first | assumption | (exact Below.drew (by assumption))))⟩) | go_keep)
    (first | (go_at_call 9; (with_reducible refine (HR.out _ ?_).mono ?_); (exact ⟨(by (first | assumption | go_keep)), (by (first | assumption | go_keep)), (by (first | assumption | (exact Bytes.drew (by assumption)))), (by (first | assumption | (exact Below.drew (by assumption))))⟩); rintro e w' ⟨rfl, k0, k1, k2, k3⟩) | (go_at_call 10; (with_reducible refine (HRR.out _ ?_).mono ?_); (exact ⟨(by (first | assumption | go_keep)), (by (first | assumption | go_keep)), (by (first | assumption | (exact Bytes.drew (by assumption)))), (by (first | assumption | (exact Below.drew (by assumption))))⟩); rintro e w' ⟨rfl, k0, k1, k2, k3⟩) | (go_at_call 11; (with_reducible refine (HAT.out _ ?_).mono ?_); (first | assumption | (exact Bytes.drew (by assumption))); rintro e w' ⟨rfl, rfl⟩) | (go_at_call 12; (with_reducible refine (HRAT.out _ ?_).mono ?_); (first | assumption | (exact Bytes.drew (by assumption))); rintro e w' ⟨rfl, rfl⟩))
  go_wp2_with fail
  go_ret
  exact ⟨ret_bool (by simp), by go_grown⟩
end TileL
end Go.Proofs.Yteblalhdigdabaa
