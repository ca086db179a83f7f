/- The walks of the statements on noises (layer 4) but those over many steps: each returns true for every input. No conditions but that numbers are of their kinds. -/
import Derived.Test.YtpgfdnakiemecaaRNoise
import Derived.Deep.RegionHeld3
namespace Go.Proofs.Ytpgfdnakiemecaa
open Go.RowKit
open Kit NoiseM Noise
set_option linter.unusedSimpArgs false
set_option linter.unusedVariables false
namespace NoiseL
set_option maxHeartbeats 1000000 in
theorem alive_any (w : World) : Calls Try.prog 8 #[] w fun e w' => e = .returned (.bool true) ∧ w = w' := by
  have h1 := fun W => move_any 32768 false (by decide) W
  have h2 := fun W => move_any 9 true (by decide) W
  have h3 := fun W => period_any false 32768 16 (by decide) (by decide) per_16 W
  rw [show ((mv 32768 false : Nat) : Int) = 16384 from rfl, show ((32768 : Nat) : Int) = 32768 from rfl] at h1
  rw [show ((mv 9 true : Nat) : Int) = 4 from rfl, show ((9 : Nat) : Int) = 9 from rfl] at h2
  rw [show ((16 : Nat) : Int) = 16 from rfl, show ((32768 : Nat) : Int) = 32768 from rfl] at h3
  have e16 : it false 16 32768 = 32768 := per_16.2.2.1
  have H1 := Lib.hid h1
  have H2 := Lib.hid h2
  have H3 := Lib.hid h3
  have E16 := Lib.hid e16
  clear h1 h2 h3 e16
  go_enter Try.func8, Try.ntmps8
  go_wp2
  go_loop [1, 2] (fun x i => ∃ k : Nat, k ≤ 16 ∧ i = .int .i64 k ∧ x = .int .u16 (it false k 32768 : Nat)) (fun _ i => (16 - intOf i).toNat)
  case atStart => exact ⟨0, by omega, rfl, rfl⟩
  case round =>
    obtain ⟨k, hk, rfl, rfl⟩ := hrel
    by_cases hlt : k < 16
    · have hb := it_lt false k 32768 (by decide)
      have hs := it_succ false k 32768
      generalize it false k 32768 = y at *
      have h4 := fun W => move_any y false hb W
      rw [← hs] at h4
      have H4 := Lib.hid h4
      clear h4 hs
      go_wp2_with (go_at_call 9; with_reducible refine (H4.out _).mono ?_; rintro e w' ⟨rfl, rfl⟩)
      go_round
      case rel => exact ⟨k + 1, by omega, by go_num, rfl⟩
      case measure => simp [intOf] <;> omega
    · have hk16 : k = 16 := by omega
      subst hk16
      rw [E16.out, show ((32768 : Nat) : Int) = 32768 from rfl]
      go_wp2_with fail
      refine (H1.out _).mono ?_
      rintro e w' ⟨rfl, rfl⟩
      go_wp2_with fail
      refine (H2.out _).mono ?_
      rintro e w' ⟨rfl, rfl⟩
      go_wp2_with fail
      refine (H3.out _).mono ?_
      rintro e w' ⟨rfl, rfl⟩
      go_wp2_with fail
      go_ret
      exact ⟨ret_bool (by simp), rfl⟩
end NoiseL
open NoiseL
set_option maxHeartbeats 1000000 in
theorem noiseGoes_walk (a0 a1 : Int) (wh : Bool) (w0 : (Lit.int .u16 a0).wf = true) (w1 : (Lit.int .u16 a1).wf = true) (w : World) :
    Calls Try.prog 4 #[.int .u16 a0, .int .u16 a1, .bool wh] w fun e w' => e = .returned (.bool true) ∧ Below w.heap.size w w' := by
  obtain ⟨a, rfl, ha⟩ := u16_wf w0
  obtain ⟨b, rfl, hb⟩ := u16_wf w1
  clear w0 w1
  have e1 : (((mv a wh : Nat) : Int) == ((mv b wh : Nat) : Int)) = ((a : Int) == (b : Int)) := by
    rw [Bool.eq_iff_iff]; simp only [beq_iff_eq]
    constructor
    · intro h; have := mv_inj a b wh ha hb (by omega); omega
    · intro h; have : a = b := by omega
      rw [this]
  have e2 : (((mv a wh : Nat) : Int) == 0) = ((a : Int) == 0) := by
    have := mv_zero a wh ha
    rw [Bool.eq_iff_iff]; simp only [beq_iff_eq]
    omega
  obtain ⟨x, hx⟩ : ∃ x, mv a wh = x := ⟨_, rfl⟩
  obtain ⟨y, hy⟩ : ∃ y, mv b wh = y := ⟨_, rfl⟩
  have h1 := fun W => move_any a wh ha W
  have h2 := fun W => move_any b wh hb W
  rw [hx] at e1 e2 h1
  rw [hy] at e1 h2
  have H1 := Lib.hid h1
  have H2 := Lib.hid h2
  have E1 := Lib.hid e1
  have E2 := Lib.hid e2
  clear h1 h2 hx hy e1 e2
  go_enter Try.func4, Try.ntmps4
  go_wp2_with fail
  refine (alive_any _).mono ?_
  rintro e w' ⟨rfl, rfl⟩
  go_wp2_with fail
  refine (H1.out _).mono ?_
  rintro e w' ⟨rfl, rfl⟩
  go_wp2_with fail
  refine (H2.out _).mono ?_
  rintro e w' ⟨rfl, rfl⟩
  have e1 := E1.out
  have e2 := E2.out
  go_wp2_with fail
  all_goals
    go_ret
    exact ⟨ret_bool (by first | rfl | (simp; done) | (simp_all; done)), Below.refl _ _⟩
set_option maxRecDepth 100000 in
set_option maxHeartbeats 2000000 in
theorem noiseMoves_walk (a0 : Int) (wh : Bool) (w0 : (Lit.int .u16 a0).wf = true) (w : World) :
    Calls Try.prog 3 #[.int .u16 a0, .bool wh] w fun e w' => e = .returned (.bool true) ∧ Below w.heap.size w w' := by
  obtain ⟨x, rfl, hx⟩ := u16_wf w0
  clear w0
  have h1 := fun W => move_any x wh hx W
  have h2 := fun W => RNoise.move_any x wh hx W
  obtain ⟨v, hv⟩ : ∃ v : Nat, mv x wh = v := ⟨_, rfl⟩
  rw [hv] at h1 h2
  have H1 := Lib.hid h1
  have H2 := Lib.hid h2
  clear h1 h2 hv
  by_cases hx0 : x = 0
  · subst hx0
    go_enter Try.func3, Try.ntmps3
    go_wp2_with fail
    refine (alive_any _).mono ?_
    rintro e w' ⟨rfl, rfl⟩
    go_wp2_with fail
    refine (H1.out _).mono ?_
    rintro e w' ⟨rfl, rfl⟩
    go_wp2_with fail
    refine (H2.out _).mono ?_
    rintro e w' ⟨rfl, o1, o2, o3, o4, o5, rfl⟩
    go_wp2_with fail
    refine (period_zero _ _).mono ?_
    rintro e w' ⟨rfl, rfl⟩
    go_wp2_with fail
    go_ret
    exact ⟨ret_bool (by simp), by go_grown⟩
  · obtain ⟨n, hn⟩ := per_ex wh x hx hx0
    have n1 := hn.1
    have n2 := hn.2.1
    have h3 := fun W => period_any wh x n hx hx0 hn W
    have z0 : ((x : Int) == 0) = false := by simp; omega
    have H3 := Lib.hid h3
    have P := Lib.hid hn
    clear h3 hn
    go_enter Try.func3, Try.ntmps3
    go_wp2_with fail
    refine (alive_any _).mono ?_
    rintro e w' ⟨rfl, rfl⟩
    go_wp2_with fail
    refine (H1.out _).mono ?_
    rintro e w' ⟨rfl, rfl⟩
    go_wp2_with fail
    refine (H2.out _).mono ?_
    rintro e w' ⟨rfl, o1, o2, o3, o4, o5, rfl⟩
    go_wp2_with fail
    refine (H3.out _).mono ?_
    rintro e w' ⟨rfl, rfl⟩
    go_wp2_with fail
    go_loop [6, 7] (fun y i => ∃ k : Nat, 1 ≤ k ∧ k ≤ n + 1 ∧ i = .int .i64 k ∧ y = .int .u16 (it wh (k - 1) x : Nat)) (fun _ i => (n + 1 - intOf i).toNat)
    case atStart => exact ⟨1, by omega, by omega, rfl, rfl⟩
    case round =>
      obtain ⟨k, hk1, hk2, rfl, rfl⟩ := hrel
      have hb := it_lt wh (k - 1) x hx
      by_cases hle : k ≤ n
      · have hs : it wh k x = mv (it wh (k - 1) x) wh := by rw [← it_succ, show k - 1 + 1 = k by omega]
        have hr := per_round wh x n k P.out hk1 hle
        have h4 := fun W => move_any (it wh (k - 1) x) wh hb W
        rw [← hs] at h4
        generalize it wh (k - 1) x = y0 at *
        obtain ⟨y, hy⟩ : ∃ y, it wh k x = y := ⟨_, rfl⟩
        rw [hy] at h4 hr
        have HY := Lib.hid hy
        have H4 := Lib.hid h4
        have t : ((y : Int) == (x : Int)) = ((k : Int) == (n : Int)) := by
          rw [Bool.eq_iff_iff]; simp only [beq_iff_eq]; omega
        have g1 : (k : Int) ≤ 70000 := by omega
        have T := Lib.hid t
        clear hs h4 hr hy t
        go_wp2_with (go_at_call 9; with_reducible refine (H4.out _).mono ?_; rintro e w' ⟨rfl, rfl⟩; have t := T.out)
        go_round
        case rel => exact ⟨k + 1, by omega, by omega, by go_num, by rw [← HY.out]; rfl⟩
        case measure => simp [intOf] <;> omega
      · have hk : n < k := by omega
        have e : it wh (k - 1) x = x := by rw [show k - 1 = n by omega]; exact P.out.2.2.1
        have g7 : (k : Int) ≤ 70000 := by omega
        rw [e]
        clear e hb hle hk1 hk2
        have g1 : (0 : Int) < (n : Int) := by omega
        have g2 : (n : Int) < 65536 := by omega
        clear H1 H2 H3
        have d1 : decide (k ≤ n) = false := by simp; omega
        have d2 : 0 < n := by omega
        have d3 : decide (0 < n) = true := by simp; omega
        go_wp2_with fail
        go_ret
        exact ⟨ret_bool (by simp), by go_grown⟩
set_option maxRecDepth 100000 in
set_option maxHeartbeats 2000000 in
theorem noiseNames_walk (w : World) : Calls Try.prog 5 #[] w fun e w' => e = .returned (.bool true) ∧ Below w.heap.size w w' := by
  have h1 := fun W => set_any 0 5 0 252 true (by decide) (by decide) W
  rw [show (252 : Int) % 8 = 4 from rfl] at h1
  have h2 := fun W => right_any 7 64 1 false W
  rw [show nR 7 64 1 = true from rfl] at h2
  have h3 := fun W => right_any 8 0 1 false W
  rw [show nR 8 0 1 = false from rfl] at h3
  have h4 := fun W => right_any 1 65 1 false W
  rw [show nR 1 65 1 = false from rfl] at h4
  have h5 := fun W => right_any 0 0 0 false W
  rw [show nR 0 0 0 = false from rfl] at h5
  have h6 := fun W => out_any 0 0 3 false (by decide) W
  rw [show (3 % 2 == 1) = true from rfl, show ((3 : Nat) : Int) = 3 from rfl] at h6
  have h7 := fun W => out_any 0 0 2 false (by decide) W
  rw [show (2 % 2 == 1) = false from rfl, show ((2 : Nat) : Int) = 2 from rfl] at h7
  have H1 := Lib.hid h1
  have H2 := Lib.hid h2
  have H3 := Lib.hid h3
  have H4 := Lib.hid h4
  have H5 := Lib.hid h5
  have H6 := Lib.hid h6
  have H7 := Lib.hid h7
  clear h1 h2 h3 h4 h5 h6 h7
  go_enter Try.func5, Try.ntmps5
  go_wp2_with fail
  refine (H1.out _).mono ?_
  rintro e w' ⟨rfl, o1, o2, rfl⟩
  go_wp2_with fail
  refine (alive_any _).mono ?_
  rintro e w' ⟨rfl, rfl⟩
  go_wp2_with fail
  refine (H2.out _).mono ?_
  rintro e w' ⟨rfl, o3, rfl⟩
  go_wp2_with fail
  refine (H3.out _).mono ?_
  rintro e w' ⟨rfl, o4, rfl⟩
  go_wp2_with fail
  refine (H4.out _).mono ?_
  rintro e w' ⟨rfl, o5, rfl⟩
  go_wp2_with fail
  refine (H5.out _).mono ?_
  rintro e w' ⟨rfl, o6, rfl⟩
  go_wp2_with fail
  refine (period_zero _ _).mono ?_
  rintro e w' ⟨rfl, rfl⟩
  go_wp2_with fail
  refine (H6.out _).mono ?_
  rintro e w' ⟨rfl, o7, rfl⟩
  go_wp2_with fail
  refine (H7.out _).mono ?_
  rintro e w' ⟨rfl, o8, rfl⟩
  go_wp2_with fail
  go_ret
  exact ⟨ret_bool (by simp), by go_grown⟩
/-- A noise lies in block b, which may be written. -/
def noiseAt (w : World) (b : Nat) (m c x : Int) (h : Bool) : Prop := w.heap[b]? = some (.cells #[.int .u8 m, .int .i64 c, .bool h, .int .u16 x] 29)
theorem noise_cells {w : World} {b : Nat} {m c x : Int} {h : Bool} (g : noiseAt w b m c x h) : w.cell? ⟨b, 0, none⟩ = some (.int .u8 m) ∧ w.cell? ⟨b, 1, none⟩ = some (.int .i64 c) ∧ w.cell? ⟨b, 2, none⟩ = some (.bool h) ∧ w.cell? ⟨b, 3, none⟩ = some (.int .u16 x) ∧
    w.frozen? ⟨b, 0, none⟩ = false ∧ w.frozen? ⟨b, 1, none⟩ = false ∧ w.frozen? ⟨b, 2, none⟩ = false ∧ w.frozen? ⟨b, 3, none⟩ = false :=
  ⟨by rw [cell_of w b 0 g]; rfl, by rw [cell_of w b 1 g]; rfl, by rw [cell_of w b 2 g]; rfl, by rw [cell_of w b 3 g]; rfl, free_of w b 0 g, free_of w b 1 g, free_of w b 2 g, free_of w b 3 g⟩
theorem noise_set {w : World} {b : Nat} {m c x m' c' x' : Int} {h h' : Bool} (g : noiseAt w b m c x h) : noiseAt ((((w.setCell ⟨b, 0, none⟩ (.int .u8 m')).setCell ⟨b, 1, none⟩ (.int .i64 c')).setCell ⟨b, 2, none⟩ (.bool h')).setCell ⟨b, 3, none⟩ (.int .u16 x')) b m' c' x' h' :=
  heap_set_same _ _ _ _ (heap_set_same _ _ _ _ (heap_set_same _ _ _ _ (heap_set_same _ _ _ _ g)))
theorem noise_other {w : World} {b d : Nat} {m c x m' c' x' : Int} {h h' : Bool} (g : noiseAt w b m c x h) (hd : b ≠ d) : noiseAt ((((w.setCell ⟨d, 0, none⟩ (.int .u8 m')).setCell ⟨d, 1, none⟩ (.int .i64 c')).setCell ⟨d, 2, none⟩ (.bool h')).setCell ⟨d, 3, none⟩ (.int .u16 x')) b m c x h := by
  unfold noiseAt at *
  rw [heap_set_other _ _ _ _ _ hd, heap_set_other _ _ _ _ _ hd, heap_set_other _ _ _ _ _ hd, heap_set_other _ _ _ _ _ hd]; exact g
theorem noise_alloc {w : World} {b : Nat} {m c x : Int} {h : Bool} (g : noiseAt w b m c x h) (o : Obj) : noiseAt (w.alloc o) b m c x h := (heap_past w o b (heap_lt g)).trans g
theorem noise_drew {w : World} {b : Nat} {m c x : Int} {h : Bool} (g : noiseAt w b m c x h) : noiseAt w.drew b m c x h := g
theorem noise_below {w w1 : World} {b : Nat} {m c x : Int} {h : Bool} (g : noiseAt w b m c x h) (hb : Below w.heap.size w w1) : noiseAt w1 b m c x h := (hb.block b (heap_lt g)).trans g
def WRel (w : World) (m : Int) (c x r : Nat) (h : Bool) (mo i : Value) (wr : World) : Prop :=
  ∃ k y : Nat, k ≤ 128 ∧ i = .int .i64 k ∧ mo = .int .i64 ((wst r c h k).m : Nat) ∧ y < 65536 ∧ y ≠ 0 ∧ (r = 3 → y = x) ∧ noiseAt wr w.heap.size m c x h ∧ noiseAt wr (w.heap.size + 2) m ((wst r c h k).c : Nat) y (wst r c h k).h ∧ Below w.heap.size w wr ∧ w.heap.size + 2 < wr.heap.size
set_option maxRecDepth 100000 in
set_option maxHeartbeats 2000000 in
theorem noiseWaits_walk (m c : Int) (h : Bool) (x : Int) (w0_0 : (Lit.int .u8 m).wf = true) (w0_1 : (Lit.int .i64 c).wf = true) (w0_3 : (Lit.int .u16 x).wf = true) (w : World) :
    Calls Try.prog 6 #[.agg #[.int .u8 m, .int .i64 c, .bool h, .int .u16 x]] w fun e w' => e = .returned (.bool true) ∧ Below w.heap.size w w' := by
  obtain ⟨m0, m1⟩ := u8_bd w0_0
  obtain ⟨x0, x1⟩ := u16_bd w0_3
  clear w0_0 w0_1 w0_3
  cases hR : nR m c x
  · have h1 := fun W => right_any m c x h W
    rw [hR] at h1
    have H1 := Lib.hid h1
    clear h1 hR
    go_enter Try.func6, Try.ntmps6
    go_wp2_with fail
    refine (alive_any _).mono ?_
    rintro e w' ⟨rfl, rfl⟩
    go_wp2_with fail
    refine (H1.out _).mono ?_
    rintro e w' ⟨rfl, o1, rfl⟩
    go_wp2_with fail
    go_ret
    exact ⟨ret_bool (by simp), by go_grown⟩
  · obtain ⟨r0, r1, r2, r3⟩ := nR_bd hR
    have h1 := fun W => right_any m c x h W
    rw [hR] at h1
    have H1 := Lib.hid h1
    clear h1 hR
    obtain ⟨c, rfl⟩ := Int.eq_ofNat_of_zero_le r1
    obtain ⟨x, rfl⟩ := Int.eq_ofNat_of_zero_le x0
    have hc : c ≤ 64 := by omega
    have hx : x < 65536 := by omega
    have hx0 : x ≠ 0 := by omega
    clear r1 r2 r3 x0 x1
    go_enter Try.func6, Try.ntmps6
    go_wp2_with fail
    refine (alive_any _).mono ?_
    rintro e w' ⟨rfl, rfl⟩
    go_wp2_with fail
    refine (H1.out _).mono ?_
    rintro e w' ⟨rfl, o1, rfl⟩
    go_wp2_with fail
    go_region
    go_wp2_with fail
    obtain ⟨r, hr⟩ : ∃ r, m.toNat % 4 = r := ⟨_, rfl⟩
    have hr4 : r < 4 := by omega
    go_loopw [3, 5] (fun mo i wr => WRel w m c x r h mo i wr) (fun _ i _ => (128 - intOf i).toNat)
    case atStart =>
      refine ⟨0, x, by omega, rfl, rfl, hx, hx0, fun _ => rfl, ?_, ?_, by go_grown, by simp⟩
      · exact noise_drew (noise_alloc (noise_alloc (heap_at _ _ _ rfl) _) _)
      · exact noise_drew (heap_at _ _ _ (by simp))
    case round =>
      obtain ⟨k, y, hk, rfl, rfl, hy, hy0, hy3, n1, n2, hb, hz⟩ := hrel
      have hcc := wst_c r c h k hr4 hc
      have hmm := wst_m r c h k
      by_cases hlt : k < 128
      · have hst := fun W => step_any m (wst r c h k).c y (wst r c h k).h false m0 r0 hcc hy W
        rw [hr] at hst
        have hs := wst_succ r c h k
        have hb2 := nS_bd m.toNat (wst r c h k).c y false (wst r c h k).h hy hy0
        have hy4 : r = 3 → nS m.toNat (wst r c h k).c y false (wst r c h k).h = x := by
          intro e
          unfold nS tk
          rw [hr, if_pos e, if_neg (by simp)]
          exact hy3 e
        obtain ⟨y', hy'⟩ : ∃ y', nS m.toNat (wst r c h k).c y false (wst r c h k).h = y' := ⟨_, rfl⟩
        obtain ⟨c', hc'⟩ : ∃ c', nC r (wst r c h k).c = c' := ⟨_, rfl⟩
        obtain ⟨h', hh'⟩ : ∃ h', nH r (wst r c h k).c false (wst r c h k).h = h' := ⟨_, rfl⟩
        rw [hy'] at hst hb2 hy4
        rw [hc'] at hst hs
        rw [hh'] at hst hs
        generalize hcur : wst r c h k = cur at *
        obtain ⟨cc, ch, cm⟩ := cur
        obtain ⟨k0, k1, k2, k3, _, _, _, _⟩ := noise_cells n1
        obtain ⟨l0, l1, l2, l3, f0, f1, f2, f3⟩ := noise_cells n2
        obtain ⟨b1, b2⟩ := hb2
        have z1 : w.heap.size < wr.heap.size := by omega
        have z2 : w.heap.size + 1 + 1 < wr.heap.size := hz
        have z3 : w.heap.size + 1 + 1 < wr.heap.size + 1 := by omega
        have z4 : w.heap.size + 1 + 1 < wr.heap.size + 1 + 1 := by omega
        have z5 : w.heap.size + 1 + 1 < wr.heap.size + 1 + 1 + 1 := by omega
        have HST := Lib.hid hst
        have HS := Lib.hid hs
        have N1 := Lib.hid n1
        have N2 := Lib.hid n2
        have HY4 := Lib.hid hy4
        have HCC := Lib.hid hcc
        have HR := Lib.hid hr
        clear hst hs n1 n2 hy4 hcur hy' hc' hh' hy3 hcc hr
        dsimp only at HST HS N2 l0 l1 l2 l3 hmm
        cases h' <;> cases ch
        all_goals
          go_wp2_with (go_at_call 15; refine (HST.out _).mono ?_; rintro e w' ⟨rfl, o2, o3, rfl⟩)
          go_roundw
          case rel => exact ⟨k + 1, y', by omega, by go_num, by rw [HS.out]; first | rfl | go_num, b1, b2, HY4.out, noise_alloc (noise_alloc (noise_alloc (noise_other N1.out (by omega)) _) _) _, by rw [HS.out]; exact noise_alloc (noise_alloc (noise_alloc (noise_set N2.out) _) _) _, by go_grown, by simp; omega⟩
          case measure => simp [intOf] <;> omega
      · have hk128 : k = 128 := by omega
        subst hk128
        have hw := waits r c h
        obtain ⟨k0, k1, k2, k3, _, _, _, _⟩ := noise_cells n1
        obtain ⟨l0, l1, l2, l3, _, _, _, _⟩ := noise_cells n2
        have e3 : r = 3 → wst r c h 128 = ⟨c, h, 0⟩ := fun e => by rw [e]; exact wst_3 c h 128
        generalize wst r c h 128 = cur at *
        obtain ⟨cc, ch, M⟩ := cur
        have z1 : w.heap.size < wr.heap.size := by omega
        have z2 : w.heap.size + 1 + 1 < wr.heap.size := hz
        have HY3 := Lib.hid hy3
        have E3 := Lib.hid e3
        have HW := Lib.hid hw
        clear n1 n2 hw e3 hy3
        dsimp only at l0 l1 l2 l3 hmm hcc
        rcases (by omega : m = 0 ∨ m = 1 ∨ m = 2 ∨ m = 3 ∨ m = 4 ∨ m = 5 ∨ m = 6 ∨ m = 7) with rfl | rfl | rfl | rfl | rfl | rfl | rfl | rfl
        · obtain rfl : r = 0 := by rw [← hr]; rfl
          clear hr hr4
          have b1 : Go.bits .and .u8 0 3 = 0 := by decide
          have hw := HW.out (by decide) hc
          have hw2 : 2 ≤ M ∧ M ≤ 4 := by simpa [okM] using hw
          obtain ⟨g1, g2⟩ := hw2
          have g3 : (2 : Int) ≤ (M : Int) := by omega
          have g4 : (M : Int) ≤ 4 := by omega
          clear hw HW E3 HY3
          go_wp2_with fail
          all_goals
            go_ret
            exact ⟨ret_bool (by simp), by go_grown⟩
        · obtain rfl : r = 1 := by rw [← hr]; rfl
          clear hr hr4
          have b1 : Go.bits .and .u8 1 3 = 1 := by decide
          have hw := HW.out (by decide) hc
          have hw2 : 1 ≤ M ∧ M ≤ 3 := by simpa [okM] using hw
          obtain ⟨g1, g2⟩ := hw2
          have g3 : (1 : Int) ≤ (M : Int) := by omega
          have g4 : (M : Int) ≤ 3 := by omega
          clear hw HW E3 HY3
          go_wp2_with fail
          all_goals
            go_ret
            exact ⟨ret_bool (by simp), by go_grown⟩
        · obtain rfl : r = 2 := by rw [← hr]; rfl
          clear hr hr4
          have b1 : Go.bits .and .u8 2 3 = 2 := by decide
          have hw := HW.out (by decide) hc
          have g2 : M ≤ 2 := by simpa [okM] using hw
          have g4 : (M : Int) ≤ 2 := by omega
          clear hw HW E3 HY3
          go_wp2_with fail
          all_goals
            go_ret
            exact ⟨ret_bool (by simp), by go_grown⟩
        · obtain rfl : r = 3 := by rw [← hr]; rfl
          clear hr hr4
          have b1 : Go.bits .and .u8 3 3 = 3 := by decide
          have e := E3.out rfl
          injection e with e1 e2 e4
          have e5 := HY3.out rfl
          subst e1 e2 e4 e5
          clear HW E3 HY3
          go_wp2_with fail
          all_goals
            go_ret
            exact ⟨ret_bool (by simp), by go_grown⟩
        · obtain rfl : r = 0 := by rw [← hr]; rfl
          clear hr hr4
          have b1 : Go.bits .and .u8 4 3 = 0 := by decide
          have hw := HW.out (by decide) hc
          have hw2 : 2 ≤ M ∧ M ≤ 4 := by simpa [okM] using hw
          obtain ⟨g1, g2⟩ := hw2
          have g3 : (2 : Int) ≤ (M : Int) := by omega
          have g4 : (M : Int) ≤ 4 := by omega
          clear hw HW E3 HY3
          go_wp2_with fail
          all_goals
            go_ret
            exact ⟨ret_bool (by simp), by go_grown⟩
        · obtain rfl : r = 1 := by rw [← hr]; rfl
          clear hr hr4
          have b1 : Go.bits .and .u8 5 3 = 1 := by decide
          have hw := HW.out (by decide) hc
          have hw2 : 1 ≤ M ∧ M ≤ 3 := by simpa [okM] using hw
          obtain ⟨g1, g2⟩ := hw2
          have g3 : (1 : Int) ≤ (M : Int) := by omega
          have g4 : (M : Int) ≤ 3 := by omega
          clear hw HW E3 HY3
          go_wp2_with fail
          all_goals
            go_ret
            exact ⟨ret_bool (by simp), by go_grown⟩
        · obtain rfl : r = 2 := by rw [← hr]; rfl
          clear hr hr4
          have b1 : Go.bits .and .u8 6 3 = 2 := by decide
          have hw := HW.out (by decide) hc
          have g2 : M ≤ 2 := by simpa [okM] using hw
          have g4 : (M : Int) ≤ 2 := by omega
          clear hw HW E3 HY3
          go_wp2_with fail
          all_goals
            go_ret
            exact ⟨ret_bool (by simp), by go_grown⟩
        · obtain rfl : r = 3 := by rw [← hr]; rfl
          clear hr hr4
          have b1 : Go.bits .and .u8 7 3 = 3 := by decide
          have e := E3.out rfl
          injection e with e1 e2 e4
          have e5 := HY3.out rfl
          subst e1 e2 e4 e5
          clear HW E3 HY3
          go_wp2_with fail
          all_goals
            go_ret
            exact ⟨ret_bool (by simp), by go_grown⟩
end Go.Proofs.Ytpgfdnakiemecaa
