/- The walk of the statement on noises, step by step (layer 4): it returns true for every input. No conditions but that numbers are of their kinds and the slice is one. -/
import Derived.Test.YtpgfdnakiemecaaNoiseL
import Derived.Test.YtpgfdnakiemecaaKit2
namespace Go.Proofs.Ytpgfdnakiemecaa
open Go.RowKit
open Kit NoiseM Noise NoiseL
set_option linter.unusedSimpArgs false
set_option linter.unusedVariables false
def RRel (w : World) (m : Int) (n : Nat) (i : Value) (wr : World) : Prop :=
  ∃ (k c x : Nat) (h : Bool), k ≤ n ∧ i = .int .i64 k ∧ c ≤ 64 ∧ x < 65536 ∧ x ≠ 0 ∧ noiseAt wr w.heap.size m c x h ∧ noiseAt wr (w.heap.size + 4) m c x h ∧ Below w.heap.size w wr ∧ w.heap.size + 4 < wr.heap.size
set_option maxRecDepth 100000 in
set_option maxHeartbeats 4000000 in
theorem noiseRuns_walk (m c : Int) (h : Bool) (x : Int) (v : Value) (zs : List Bool) (w0_0 : (Lit.int .u8 m).wf = true) (w0_1 : (Lit.int .i64 c).wf = true) (w0_3 : (Lit.int .u16 x).wf = true) (w : World) (hs : BoolsOf w v zs) :
    Calls Try.prog 7 #[.agg #[.int .u8 m, .int .i64 c, .bool h, .int .u16 x], v] w fun e w' => e = .returned (.bool true) ∧ Below w.heap.size w w' := by
  obtain ⟨m0, m1⟩ := u8_bd w0_0
  obtain ⟨x0, x1⟩ := u16_bd w0_3
  obtain ⟨p, cap, rfl, hl, hcap, hcell⟩ := hs
  clear w0_0 w0_1 w0_3
  unfold maxLen at hcap
  have HC := Lib.hid hcell
  clear hcell
  cases hR : nR m c x
  · have h1 := fun W => right_any m c x h W
    have h2 := fun W => RNoise.right_any m c x h x0 W
    rw [hR] at h1 h2
    have H1 := Lib.hid h1
    have H2 := Lib.hid h2
    clear h1 h2 hR
    go_enter Try.func7, Try.ntmps7
    go_wp2_with fail
    refine (alive_any _).mono ?_
    rintro e w' ⟨rfl, rfl⟩
    go_wp2_with fail
    go_region_held3 (fun w' => w'.cell? ⟨w.heap.size, 0, none⟩ = some (.int .u8 m) ∧ w'.cell? ⟨w.heap.size, 1, none⟩ = some (.int .i64 c) ∧ w'.cell? ⟨w.heap.size, 2, none⟩ = some (.bool h) ∧ w'.cell? ⟨w.heap.size, 3, none⟩ = some (.int .u16 x)) (first | go_keep | (refine ⟨?_, ?_, ?_, ?_⟩ <;> go_simp))
      ((first | (go_at_call 13; refine (H1.out _).mono ?_; rintro e w' ⟨rfl, o1, rfl⟩) | (go_at_call 16; refine (H2.out _).mono ?_; rintro e w' ⟨rfl, o2, rfl⟩)))
    go_wp2_with fail
    refine (H2.out _).mono ?_
    rintro e w' ⟨rfl, o3, rfl⟩
    go_wp2_with fail
    go_ret
    exact ⟨ret_bool (by simp), by go_grown⟩
  · obtain ⟨r0, r1, r2, r3⟩ := nR_bd hR
    have h1 := fun W => right_any m c x h W
    have h2 := fun W => RNoise.right_any m c x h x0 W
    rw [hR] at h1 h2
    have H1 := Lib.hid h1
    have H2 := Lib.hid h2
    clear h1 h2 hR
    by_cases hlen : 3000 < zs.length
    · have d1 : decide ((3000 : Int) < (zs.length : Int)) = true := by simp; omega
      go_enter Try.func7, Try.ntmps7
      go_wp2_with fail
      refine (alive_any _).mono ?_
      rintro e w' ⟨rfl, rfl⟩
      go_wp2_with fail
      go_region_held3 (fun w' => w'.cell? ⟨w.heap.size, 0, none⟩ = some (.int .u8 m) ∧ w'.cell? ⟨w.heap.size, 1, none⟩ = some (.int .i64 c) ∧ w'.cell? ⟨w.heap.size, 2, none⟩ = some (.bool h) ∧ w'.cell? ⟨w.heap.size, 3, none⟩ = some (.int .u16 x)) (first | go_keep | (refine ⟨?_, ?_, ?_, ?_⟩ <;> go_simp))
        ((first | (go_at_call 13; refine (H1.out _).mono ?_; rintro e w' ⟨rfl, o1, rfl⟩) | (go_at_call 16; refine (H2.out _).mono ?_; rintro e w' ⟨rfl, o2, rfl⟩)))
      go_wp2_with fail
      refine (H2.out _).mono ?_
      rintro e w' ⟨rfl, o3, rfl⟩
      go_wp2_with fail
      go_ret
      exact ⟨ret_bool (by simp), by go_grown⟩
    · have d1 : decide ((3000 : Int) < (zs.length : Int)) = false := by simp; omega
      obtain ⟨c, rfl⟩ := Int.eq_ofNat_of_zero_le r1
      obtain ⟨x, rfl⟩ := Int.eq_ofNat_of_zero_le x0
      have hc : c ≤ 64 := by omega
      have hx : x < 65536 := by omega
      have hx0 : x ≠ 0 := by omega
      clear r1 r2 r3 x0 x1
      go_enter Try.func7, Try.ntmps7
      go_wp2_with fail
      refine (alive_any _).mono ?_
      rintro e w' ⟨rfl, rfl⟩
      go_wp2_with fail
      go_region_held3 (fun w' => w'.cell? ⟨w.heap.size, 0, none⟩ = some (.int .u8 m) ∧ w'.cell? ⟨w.heap.size, 1, none⟩ = some (.int .i64 c) ∧ w'.cell? ⟨w.heap.size, 2, none⟩ = some (.bool h) ∧ w'.cell? ⟨w.heap.size, 3, none⟩ = some (.int .u16 x)) (first | go_keep | (refine ⟨?_, ?_, ?_, ?_⟩ <;> go_simp))
        ((first | (go_at_call 13; refine (H1.out _).mono ?_; rintro e w' ⟨rfl, o1, rfl⟩) | (go_at_call 16; refine (H2.out _).mono ?_; rintro e w' ⟨rfl, o2, rfl⟩)))
      go_wp2_with fail
      refine (H2.out _).mono ?_
      rintro e w' ⟨rfl, o3, rfl⟩
      go_wp2_with fail
      go_loopw [26] (fun i wr => RRel w m zs.length i wr) (fun i _ => (zs.length - intOf i).toNat)
      case atStart =>
        refine ⟨0, c, x, h, by omega, rfl, hc, hx, hx0, ?_, ?_, by go_grown, by simp⟩
        · exact noise_drew (noise_alloc (noise_alloc (noise_alloc (noise_alloc (heap_at _ _ _ rfl) _) _) _) _)
        · exact noise_drew (heap_at _ _ _ (by simp))
      case round =>
        obtain ⟨k, c, x, h, hk, rfl, hc, hx, hx0, n1, n2, hb, hz⟩ := hrel
        by_cases hlt : k < zs.length
        · obtain ⟨b, o, rfl, hbl, hcell⟩ := HC.out (by omega)
          have cz : wr.cell? ⟨b, o + k, none⟩ = some (.bool (zs.getD k false)) := by rw [hb.cell (p := ⟨b, o + k, none⟩) hbl]; exact hcell k hlt
          obtain ⟨t, ht⟩ : ∃ t, zs.getD k false = t := ⟨_, rfl⟩
          rw [ht] at cz
          have hst := fun W => step_any m c x h t m0 r0 hc hx W
          have hrst := fun W => RNoise.step_any m c x h t m0 r0 hc hx W
          have hcc := nC_le (m.toNat % 4) c (by omega) hc
          have hb2 := nS_bd m.toNat c x t h hx hx0
          generalize nC (m.toNat % 4) c = c' at *
          generalize nH (m.toNat % 4) c t h = h' at *
          generalize nS m.toNat c x t h = x' at *
          obtain ⟨hx', hx0'⟩ := hb2
          have ho := fun W => out_any m c' x' h' hx' W
          have hri := fun W => right_any m c' x' h' W
          rw [nR_of r0 (by omega) (by omega) (by omega)] at hri
          have e2 : (((x' : Nat) : Int).tmod 2 == 1) = (x' % 2 == 1) := by
            rw [Int.tmod_eq_emod_of_nonneg (by omega), Bool.eq_iff_iff]; simp; omega
          obtain ⟨ob, hob⟩ : ∃ ob, (x' % 2 == 1) = ob := ⟨_, rfl⟩
          rw [hob] at ho e2
          have HST := Lib.hid hst
          have HRST := Lib.hid hrst
          have HO := Lib.hid ho
          have HRI := Lib.hid hri
          have N1 := Lib.hid n1
          have N2 := Lib.hid n2
          obtain ⟨k0, k1, k2, k3, kf0, kf1, kf2, kf3⟩ := noise_cells n1
          obtain ⟨l0, l1, l2, l3, lf0, lf1, lf2, lf3⟩ := noise_cells n2
          have z0 : b < wr.heap.size := by omega
          have z1 : w.heap.size < wr.heap.size := by omega
          have z1a : w.heap.size < wr.heap.size + 1 := by omega
          have z2 : w.heap.size + 1 + 1 + 1 + 1 < wr.heap.size := hz
          have z2a : w.heap.size + 1 + 1 + 1 + 1 < wr.heap.size + 1 := by omega
          clear hst hrst ho hri n1 n2 ht hcell hob
          have E2 := Lib.hid e2
          clear e2
          have i0 : (0 : Int) ≤ (k : Int) := by omega
          go_wp2_with (go_at_call 15; refine (HST.out _).mono ?_; rintro e w' ⟨rfl, o4, o5, rfl⟩)
          refine (HRST.out _).mono ?_
          rintro e w2 ⟨rfl, hb2⟩
          have m1 : noiseAt w2 w.heap.size m c' x' h' := noise_below (noise_alloc (noise_alloc (noise_set N1.out) _) _) hb2
          have m2 : noiseAt w2 (w.heap.size + 4) m c x h := noise_below (noise_alloc (noise_alloc (noise_other N2.out (by omega)) _) _) hb2
          have q2 : Below w.heap.size w w2 := below_trans (w := w) (by go_grown) hb2
          have y2 : w.heap.size + 1 + 1 + 1 + 1 < w2.heap.size := by have := hb2.size; simp at this; omega
          have y1 : w.heap.size < w2.heap.size := by omega
          obtain ⟨p0, p1, p2, p3, pf0, pf1, pf2, pf3⟩ := noise_cells m1
          obtain ⟨r0, r1, r2, r3, rf0, rf1, rf2, rf3⟩ := noise_cells m2
          have M1 := Lib.hid m1
          have M2 := Lib.hid m2
          clear m1 m2 k0 k1 k2 k3 kf0 kf1 kf2 kf3 l0 l1 l2 l3 lf0 lf1 lf2 lf3 cz
          go_wp2_with fail
          obtain ⟨W3, hW3, g1, g2, q3, y3⟩ : ∃ W3 : World, W3 = ((((w2.setCell ⟨w.heap.size + 1 + 1 + 1 + 1, 0, none⟩ (.int .u8 m)).setCell ⟨w.heap.size + 1 + 1 + 1 + 1, 1, none⟩ (.int .i64 (c' : Nat))).setCell ⟨w.heap.size + 1 + 1 + 1 + 1, 2, none⟩ (.bool h')).setCell ⟨w.heap.size + 1 + 1 + 1 + 1, 3, none⟩ (.int .u16 (x' : Nat))) ∧ noiseAt W3 w.heap.size m c' x' h' ∧ noiseAt W3 (w.heap.size + 4) m c' x' h' ∧ Below w.heap.size w W3 ∧ w.heap.size + 1 + 1 + 1 + 1 < W3.heap.size :=
            ⟨_, rfl, noise_other M1.out (by omega), noise_set M2.out, by go_grown, by simp [World.setCell]; omega⟩
          rw [← hW3]
          obtain ⟨k0, k1, k2, k3, kf0, kf1, kf2, kf3⟩ := noise_cells g1
          obtain ⟨l0, l1, l2, l3, lf0, lf1, lf2, lf3⟩ := noise_cells g2
          have z1 : w.heap.size < W3.heap.size := by omega
          have z2 : w.heap.size + 1 + 1 + 1 + 1 < W3.heap.size + 1 := by omega
          have z3 : w.heap.size < W3.heap.size + 1 := by omega
          have e2 := E2.out
          have G1 := Lib.hid g1
          have G2 := Lib.hid g2
          clear hW3 g1 g2 p0 p1 p2 p3 pf0 pf1 pf2 pf3 r0 r1 r2 r3 rf0 rf1 rf2 rf3
          go_region_held3 (fun w' => w'.cell? ⟨w.heap.size, 0, none⟩ = some (.int .u8 m) ∧ w'.cell? ⟨w.heap.size, 1, none⟩ = some (.int .i64 (c' : Nat)) ∧ w'.cell? ⟨w.heap.size, 2, none⟩ = some (.bool h') ∧ w'.cell? ⟨w.heap.size, 3, none⟩ = some (.int .u16 (x' : Nat)) ∧ w'.cell? ⟨w.heap.size + 1 + 1 + 1 + 1, 0, none⟩ = some (.int .u8 m) ∧ w'.cell? ⟨w.heap.size + 1 + 1 + 1 + 1, 1, none⟩ = some (.int .i64 (c' : Nat)) ∧ w'.cell? ⟨w.heap.size + 1 + 1 + 1 + 1, 2, none⟩ = some (.bool h') ∧ w'.cell? ⟨w.heap.size + 1 + 1 + 1 + 1, 3, none⟩ = some (.int .u16 (x' : Nat))) (first | go_keep | (refine ⟨?_, ?_, ?_, ?_, ?_, ?_, ?_, ?_⟩ <;> go_simp))
            ((first | (go_at_call 14; refine (HO.out _).mono ?_; rintro e w' ⟨rfl, o6, rfl⟩) | (go_at_call 13; refine (HRI.out _).mono ?_; rintro e w' ⟨rfl, o7, rfl⟩)))
          go_wp2_with fail
          go_roundw
          case rel => exact ⟨k + 1, c', x', h', by omega, by go_num, hcc, hx', hx0', noise_drew (noise_alloc (noise_alloc G1.out _) _), noise_drew (noise_alloc (noise_alloc G2.out _) _), by go_grown, by simp; omega⟩
          case measure => simp [intOf] <;> omega
        · have hk2 : zs.length ≤ k := by omega
          have d2 : decide (k < zs.length) = false := by simp; omega
          go_wp2_with fail
          go_ret
          exact ⟨ret_bool (by simp), by go_grown⟩
end Go.Proofs.Ytpgfdnakiemecaa
