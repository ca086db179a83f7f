/- The walks of the statements on tones (layer 3): each returns true for every input. No conditions but that numbers are of their kinds. -/
import Derived.Test.YtbnpilbnkofgiaaRTone
import Derived.Deep.RegionHeld3
namespace Go.Proofs.Ytbnpilbnkofgiaa
open Go.RowKit
open Kit ToneM Tone
set_option linter.unusedSimpArgs false
set_option linter.unusedVariables false
namespace ToneL
/-- A world that has grown, behind a bound of its own. -/
theorem below_in {W w1 : World} (hb : Below W.heap.size W w1) : ∃ B, B = W.heap.size ∧ B ≤ w1.heap.size ∧ (∀ b o, b < B → w1.cell? ⟨b, o, none⟩ = W.cell? ⟨b, o, none⟩) ∧ (∀ b o, b < B → w1.frozen? ⟨b, o, none⟩ = W.frozen? ⟨b, o, none⟩) :=
  ⟨_, rfl, hb.size, (bcell hb).1, (bcell hb).2⟩
theorem below1 {w w1 : World} {o : Obj} (h : Below (w.alloc o).heap.size (w.alloc o) w1) : Below w.heap.size w w1 := ((Below.refl _ _).alloc (Nat.le_refl _) _).trans (h.mono (by simp))
theorem szs {H S : Nat} (h : H < S) : H < S + 1 ∧ H < S + 1 + 1 ∧ H < S + 1 + 1 + 1 ∧ H < S + 1 + 1 + 1 + 1 ∧ H < S + 1 + 1 + 1 + 1 + 1 ∧ H < S + 1 + 1 + 1 + 1 + 1 + 1 ∧ H < S + 1 + 1 + 1 + 1 + 1 + 1 + 1 ∧ H < S + 1 + 1 + 1 + 1 + 1 + 1 + 1 + 1 ∧ H < S + 1 + 1 + 1 + 1 + 1 + 1 + 1 + 1 + 1 := by omega
theorem alive_any (w : World) : Calls Try.prog 7 #[] w fun e w' => e = .returned (.bool true) ∧ Below w.heap.size w w' := by
  have h1 := fun W => step_any 2 1 false (by decide) (by decide) W
  rw [show stC 2 1 = 2 from rfl, show stO 2 1 false = true from rfl, show stT 2 1 = true from rfl] at h1
  have h2 := fun W => step_any 2 2 true (by decide) (by decide) W
  rw [show stC 2 2 = 1 from rfl, show stO 2 2 true = true from rfl, show stT 2 2 = false from rfl] at h2
  have h3 := fun W => step_any 2 1 true (by decide) (by decide) W
  rw [show stC 2 1 = 2 from rfl, show stO 2 1 true = false from rfl, show stT 2 1 = true from rfl] at h3
  have H1 := Lib.hid h1
  have H2 := Lib.hid h2
  have H3 := Lib.hid h3
  clear h1 h2 h3
  go_enter Try.func7, Try.ntmps7
  go_wp2_with fail
  refine (H1.out _).mono ?_
  rintro e w1 ⟨rfl, o1, o2, rfl⟩
  go_wp2_with fail
  refine (H2.out _).mono ?_
  rintro e w1 ⟨rfl, o3, o4, rfl⟩
  go_wp2_with fail
  refine (H3.out _).mono ?_
  rintro e w1 ⟨rfl, o5, o6, rfl⟩
  go_wp2_with fail
  go_ret
  exact ⟨ret_bool (by simp), by go_grown⟩
end ToneL
open ToneL
theorem toneNames_walk (w : World) : Calls Try.prog 3 #[] w fun e w' => e = .returned (.bool true) ∧ Below w.heap.size w w' := by
  go_enter Try.func3, Try.ntmps3
  go_wp2_with fail
  refine (alive_any _).mono ?_
  rintro e w1 ⟨rfl, hb1⟩
  go_wp2_with fail
  refine (right_any 1023 1023 false _).mono ?_
  rw [show tR 1023 1023 = true from rfl]
  rintro e w' ⟨rfl, o1, rfl⟩
  go_wp2_with fail
  refine (right_any 1024 0 false _).mono ?_
  rw [show tR 1024 0 = false from rfl]
  rintro e w' ⟨rfl, o2, rfl⟩
  go_wp2_with fail
  refine (right_any 0 (-1) false _).mono ?_
  rw [show tR 0 (-1) = false from rfl]
  rintro e w' ⟨rfl, o3, rfl⟩
  go_wp2_with fail
  refine (until_any 1 9 false _).mono ?_
  rw [show unV 1 9 = 0 from rfl]
  rintro e w' ⟨rfl, o4, rfl⟩
  go_wp2_with fail
  refine (until_any 5 3 false _).mono ?_
  rw [show unV 5 3 = 3 from rfl]
  rintro e w' ⟨rfl, o5, rfl⟩
  go_wp2_with fail
  go_ret
  have hz := hb1.size
  exact ⟨ret_bool (by simp), by go_grown⟩
set_option maxRecDepth 100000 in
set_option maxHeartbeats 2000000 in
theorem toneRuns_walk (p c : Int) (o : Bool) (n : Int) (w0_0 : (Lit.int .i64 p).wf = true) (w0_1 : (Lit.int .i64 c).wf = true) (w1 : (Lit.int .i64 n).wf = true) (w : World) :
    Calls Try.prog 4 #[.agg #[.int .i64 p, .int .i64 c, .bool o], .int .i64 n] w fun e w' => e = .returned (.bool true) ∧ Below w.heap.size w w' := by
  obtain ⟨n0, n1⟩ := i64_wf w1
  clear w0_0 w0_1 w1
  cases hR : tR p c
  · have h1 := fun W => right_any p c o W
    have h2 := fun W => RTone.right_any p c o W
    rw [hR] at h1 h2
    have H1 := Lib.hid h1
    have H2 := Lib.hid h2
    clear h1 h2 hR
    go_enter Try.func4, Try.ntmps4
    go_wp2_with fail
    refine (alive_any _).mono ?_
    rintro e w1 ⟨rfl, hb1⟩
    obtain ⟨B1, e1, z1, hc1, -⟩ := below_in hb1
    have l1 : w.heap.size < B1 := by rw [e1]; simp
    have l2 : w.heap.size < w1.heap.size := by omega
    obtain ⟨y1, y2, y3, y4, y5, y6, y7, y8, y9⟩ := szs l2
    have E1 := Lib.hid e1
    have c0 : w1.cell? ⟨w.heap.size, 0, none⟩ = some (.int .i64 p) := by rw [hc1 _ _ l1]; simp
    have c1 : w1.cell? ⟨w.heap.size, 1, none⟩ = some (.int .i64 c) := by rw [hc1 _ _ l1]; simp
    have c2 : w1.cell? ⟨w.heap.size, 2, none⟩ = some (.bool o) := by rw [hc1 _ _ l1]; simp
    have bw := below1 hb1
    clear e1 hc1
    go_wp2_with fail
    go_region_held3 (fun w' => w'.cell? ⟨w.heap.size, 0, none⟩ = some (.int .i64 p) ∧ w'.cell? ⟨w.heap.size, 1, none⟩ = some (.int .i64 c) ∧ w'.cell? ⟨w.heap.size, 2, none⟩ = some (.bool o)) (first | go_keep | (refine ⟨?_, ?_, ?_⟩ <;> go_simp))
      ((first | (go_at_call 8; refine (H1.out _).mono ?_; rintro e w' ⟨rfl, o1, rfl⟩) | (go_at_call 10; refine (H2.out _).mono ?_; rintro e w' ⟨rfl, o2, rfl⟩)))
    go_wp2_with (go_at_call 10; refine (H2.out _).mono ?_; rintro e w' ⟨rfl, o3, rfl⟩)
    go_ret
    exact ⟨ret_bool (by simp), by go_grown⟩
  · obtain ⟨p0, p1, q0, q1⟩ := tR_bd hR
    have h1 := fun W => right_any p c o W
    have h2 := fun W => RTone.right_any p c o W
    rw [hR] at h1 h2
    have H1 := Lib.hid h1
    have H2 := Lib.hid h2
    clear h1 h2 hR
    by_cases hn : 20000 < n
    · have hn' : decide (20000 < n) = true := by simpa using hn
      go_enter Try.func4, Try.ntmps4
      go_wp2_with fail
      refine (alive_any _).mono ?_
      rintro e w1 ⟨rfl, hb1⟩
      obtain ⟨B1, e1, z1, hc1, -⟩ := below_in hb1
      have l1 : w.heap.size < B1 := by rw [e1]; simp
      have l2 : w.heap.size < w1.heap.size := by omega
      obtain ⟨y1, y2, y3, y4, y5, y6, y7, y8, y9⟩ := szs l2
      have E1 := Lib.hid e1
      have c0 : w1.cell? ⟨w.heap.size, 0, none⟩ = some (.int .i64 p) := by rw [hc1 _ _ l1]; simp
      have c1 : w1.cell? ⟨w.heap.size, 1, none⟩ = some (.int .i64 c) := by rw [hc1 _ _ l1]; simp
      have c2 : w1.cell? ⟨w.heap.size, 2, none⟩ = some (.bool o) := by rw [hc1 _ _ l1]; simp
      have bw := below1 hb1
      clear e1 hc1
      go_wp2_with fail
      go_region_held3 (fun w' => w'.cell? ⟨w.heap.size, 0, none⟩ = some (.int .i64 p) ∧ w'.cell? ⟨w.heap.size, 1, none⟩ = some (.int .i64 c) ∧ w'.cell? ⟨w.heap.size, 2, none⟩ = some (.bool o)) (first | go_keep | (refine ⟨?_, ?_, ?_⟩ <;> go_simp))
        ((first | (go_at_call 8; refine (H1.out _).mono ?_; rintro e w' ⟨rfl, o1, rfl⟩) | (go_at_call 10; refine (H2.out _).mono ?_; rintro e w' ⟨rfl, o2, rfl⟩)))
      go_wp2_with (go_at_call 10; refine (H2.out _).mono ?_; rintro e w' ⟨rfl, o3, rfl⟩)
      go_ret
      exact ⟨ret_bool (by simp), by go_grown⟩
    · have hn' : decide (20000 < n) = false := by simpa using hn
      have h3 := fun W => step_any p c o (by omega) (by omega) W
      have h4 := fun W => RTone.step_any p c o p0 (by omega) (by omega) W
      have h5 := fun W => run_any p c n o p0 p1 q0 q1 n0 n1 W
      have h6 := fun W => RTone.run_any p c n o p0 p1 q0 q1 n0 (by omega) W
      generalize stC p c = sc at h3 h4
      generalize stO p c o = so at h3 h4
      generalize stT p c = st at h3 h4
      generalize rnC p c n = rc at h5 h6
      generalize rnO p c o n = ro at h5 h6
      generalize rnM p c n = rm at h5 h6
      have H3 := Lib.hid h3
      have H4 := Lib.hid h4
      have H5 := Lib.hid h5
      have H6 := Lib.hid h6
      clear h3 h4 h5 h6
      go_enter Try.func4, Try.ntmps4
      go_wp2_with fail
      refine (alive_any _).mono ?_
      rintro e w1 ⟨rfl, hb1⟩
      obtain ⟨B1, e1, z1, hc1, -⟩ := below_in hb1
      have l1 : w.heap.size < B1 := by rw [e1]; simp
      have l2 : w.heap.size < w1.heap.size := by omega
      obtain ⟨y1, y2, y3, y4, y5, y6, y7, y8, y9⟩ := szs l2
      have E1 := Lib.hid e1
      have c0 : w1.cell? ⟨w.heap.size, 0, none⟩ = some (.int .i64 p) := by rw [hc1 _ _ l1]; simp
      have c1 : w1.cell? ⟨w.heap.size, 1, none⟩ = some (.int .i64 c) := by rw [hc1 _ _ l1]; simp
      have c2 : w1.cell? ⟨w.heap.size, 2, none⟩ = some (.bool o) := by rw [hc1 _ _ l1]; simp
      have bw := below1 hb1
      clear e1 hc1
      go_wp2_with fail
      go_region_held3 (fun w' => w'.cell? ⟨w.heap.size, 0, none⟩ = some (.int .i64 p) ∧ w'.cell? ⟨w.heap.size, 1, none⟩ = some (.int .i64 c) ∧ w'.cell? ⟨w.heap.size, 2, none⟩ = some (.bool o)) (first | go_keep | (refine ⟨?_, ?_, ?_⟩ <;> go_simp))
        ((first | (go_at_call 8; refine (H1.out _).mono ?_; rintro e w' ⟨rfl, o1, rfl⟩) | (go_at_call 10; refine (H2.out _).mono ?_; rintro e w' ⟨rfl, o2, rfl⟩)))
      go_wp2_with (go_at_call 10; refine (H2.out _).mono ?_; rintro e w' ⟨rfl, o3, rfl⟩)
      refine (H3.out _).mono ?_
      rintro e w' ⟨rfl, o4, o5, rfl⟩
      go_wp2_with fail
      refine (H4.out _).mono ?_
      rintro e w' ⟨rfl, o6, o7, rfl⟩
      go_wp2_with fail
      refine (H5.out _).mono ?_
      rintro e w2 ⟨rfl, hb2⟩
      obtain ⟨B2, e2, z2, hc2, -⟩ := below_in hb2
      have m1 : w.heap.size < B2 := by rw [e2]; simp; omega
      have m2 : w1.heap.size + 1 + 1 + 1 + 1 + 1 < B2 := by rw [e2]; simp
      have m3 : w1.heap.size + 1 + 1 + 1 + 1 + 1 + 1 + 1 + 1 < B2 := by rw [e2]; simp
      clear e2
      have d0 : w2.cell? ⟨w.heap.size, 0, none⟩ = some (.int .i64 p) := by rw [hc2 _ _ m1]; go_simp
      have d1 : w2.cell? ⟨w.heap.size, 1, none⟩ = some (.int .i64 c) := by rw [hc2 _ _ m1]; go_simp
      have d2 : w2.cell? ⟨w.heap.size, 2, none⟩ = some (.bool o) := by rw [hc2 _ _ m1]; go_simp
      have f0 : w2.cell? ⟨w1.heap.size + 1 + 1 + 1 + 1 + 1, 0, none⟩ = some (.int .i64 p) := by rw [hc2 _ _ m2]; go_simp
      have f1 : w2.cell? ⟨w1.heap.size + 1 + 1 + 1 + 1 + 1, 1, none⟩ = some (.int .i64 sc) := by rw [hc2 _ _ m2]; go_simp
      have f2 : w2.cell? ⟨w1.heap.size + 1 + 1 + 1 + 1 + 1, 2, none⟩ = some (.bool so) := by rw [hc2 _ _ m2]; go_simp
      have g0 : w2.cell? ⟨w1.heap.size + 1 + 1 + 1 + 1 + 1 + 1 + 1 + 1, 0, none⟩ = some (.int .i64 p) := by rw [hc2 _ _ m3]; go_simp
      have g1 : w2.cell? ⟨w1.heap.size + 1 + 1 + 1 + 1 + 1 + 1 + 1 + 1, 1, none⟩ = some (.int .i64 sc) := by rw [hc2 _ _ m3]; go_simp
      have g2 : w2.cell? ⟨w1.heap.size + 1 + 1 + 1 + 1 + 1 + 1 + 1 + 1, 2, none⟩ = some (.bool so) := by rw [hc2 _ _ m3]; go_simp
      have v1 : w.heap.size < w2.heap.size := by omega
      have v2 : w1.heap.size + 1 + 1 + 1 + 1 + 1 < w2.heap.size := by omega
      have v3 : w1.heap.size + 1 + 1 + 1 + 1 + 1 + 1 + 1 + 1 < w2.heap.size := by omega
      clear hc2
      have b2 : Below w.heap.size w w2 := below_trans (w := w) (by go_grown) hb2
      go_wp2_with fail
      refine (H6.out _).mono ?_
      rintro e w3 ⟨rfl, hb3⟩
      obtain ⟨B3, e3, z3, hc3, -⟩ := below_in hb3
      have n2 : w1.heap.size + 1 + 1 + 1 + 1 + 1 < B3 := by rw [e3]; simp; omega
      have n3 : w1.heap.size + 1 + 1 + 1 + 1 + 1 + 1 + 1 + 1 < B3 := by rw [e3]; simp; omega
      have n4 : w2.heap.size < B3 := by rw [e3]; simp
      clear e3
      have i0 : w3.cell? ⟨w1.heap.size + 1 + 1 + 1 + 1 + 1, 0, none⟩ = some (.int .i64 p) := by rw [hc3 _ _ n2]; go_simp
      have i1 : w3.cell? ⟨w1.heap.size + 1 + 1 + 1 + 1 + 1, 1, none⟩ = some (.int .i64 sc) := by rw [hc3 _ _ n2]; go_simp
      have i2 : w3.cell? ⟨w1.heap.size + 1 + 1 + 1 + 1 + 1, 2, none⟩ = some (.bool so) := by rw [hc3 _ _ n2]; go_simp
      have j0 : w3.cell? ⟨w1.heap.size + 1 + 1 + 1 + 1 + 1 + 1 + 1 + 1, 0, none⟩ = some (.int .i64 p) := by rw [hc3 _ _ n3]; go_simp
      have j1 : w3.cell? ⟨w1.heap.size + 1 + 1 + 1 + 1 + 1 + 1 + 1 + 1, 1, none⟩ = some (.int .i64 sc) := by rw [hc3 _ _ n3]; go_simp
      have j2 : w3.cell? ⟨w1.heap.size + 1 + 1 + 1 + 1 + 1 + 1 + 1 + 1, 2, none⟩ = some (.bool so) := by rw [hc3 _ _ n3]; go_simp
      have k0 : w3.cell? ⟨w2.heap.size, 0, none⟩ = some (.int .i64 p) := by rw [hc3 _ _ n4]; go_simp
      have k1 : w3.cell? ⟨w2.heap.size, 1, none⟩ = some (.int .i64 rc) := by rw [hc3 _ _ n4]; go_simp
      have k2 : w3.cell? ⟨w2.heap.size, 2, none⟩ = some (.bool ro) := by rw [hc3 _ _ n4]; go_simp
      have x2 : w1.heap.size + 1 + 1 + 1 + 1 + 1 < w3.heap.size := by omega
      have x3 : w1.heap.size + 1 + 1 + 1 + 1 + 1 + 1 + 1 + 1 < w3.heap.size := by omega
      have x4 : w2.heap.size < w3.heap.size := by omega
      clear hc3
      have b3 : Below w.heap.size w w3 := below_trans (w := w) (by go_grown) hb3
      go_wp2_with fail
      go_ret
      exact ⟨ret_bool (by simp), by go_grown⟩
set_option maxRecDepth 100000 in
set_option maxHeartbeats 2000000 in
theorem toneUntil_walk (p c : Int) (o : Bool) (w0_0 : (Lit.int .i64 p).wf = true) (w0_1 : (Lit.int .i64 c).wf = true) (w : World) :
    Calls Try.prog 6 #[.agg #[.int .i64 p, .int .i64 c, .bool o]] w fun e w' => e = .returned (.bool true) ∧ Below w.heap.size w w' := by
  clear w0_0 w0_1
  cases hR : tR p c
  · have h1 := fun W => right_any p c o W
    rw [hR] at h1
    have H1 := Lib.hid h1
    clear h1 hR
    go_enter Try.func6, Try.ntmps6
    go_wp2_with fail
    refine (alive_any _).mono ?_
    rintro e w1 ⟨rfl, hb1⟩
    obtain ⟨B1, e1, z1, hc1, hf1⟩ := below_in hb1
    have m1_0 : w.heap.size < B1 := by rw [e1]; first | (go_simp; done) | (simp; done) | (simp; omega) | omega
    clear e1
    have c1_0_0 : w1.cell? ⟨w.heap.size, 0, none⟩ = some (.int .i64 p) := by rw [hc1 _ _ m1_0]; go_simp
    have c1_0_1 : w1.cell? ⟨w.heap.size, 1, none⟩ = some (.int .i64 c) := by rw [hc1 _ _ m1_0]; go_simp
    have c1_0_2 : w1.cell? ⟨w.heap.size, 2, none⟩ = some (.bool o) := by rw [hc1 _ _ m1_0]; go_simp
    have v1_0 : w.heap.size < w1.heap.size := by omega
    have q1 : Below w.heap.size w w1 := below_trans (w := w) (by go_grown) hb1
    clear hc1 hf1
    go_wp2_with (go_at_call 8; refine (H1.out _).mono ?_; rintro e w' ⟨rfl, o1, rfl⟩)
    go_ret
    exact ⟨ret_bool (by simp), by go_grown⟩
  · obtain ⟨p0, p1, q0, q1⟩ := tR_bd hR
    have h1 := fun W => right_any p c o W
    rw [hR] at h1
    have H1 := Lib.hid h1
    clear h1 hR
    by_cases hp : p < 2
    · have h2 := fun W => until_any p c o W
      have h3 := fun W => run_any p c 100000 o p0 p1 q0 q1 (by decide) (by decide) W
      rw [show unV p c = 0 by unfold unV; rw [if_pos hp]] at h2
      rw [until_never p c _ hp] at h3
      generalize rnC p c 100000 = rc at h3
      generalize rnO p c o 100000 = ro at h3
      have H2 := Lib.hid h2
      have H3 := Lib.hid h3
      clear h2 h3
      go_enter Try.func6, Try.ntmps6
      go_wp2_with fail
      refine (alive_any _).mono ?_
      rintro e w1 ⟨rfl, hb1⟩
      obtain ⟨B1, e1, z1, hc1, hf1⟩ := below_in hb1
      have m1_0 : w.heap.size < B1 := by rw [e1]; first | (go_simp; done) | (simp; done) | (simp; omega) | omega
      clear e1
      have c1_0_0 : w1.cell? ⟨w.heap.size, 0, none⟩ = some (.int .i64 p) := by rw [hc1 _ _ m1_0]; go_simp
      have c1_0_1 : w1.cell? ⟨w.heap.size, 1, none⟩ = some (.int .i64 c) := by rw [hc1 _ _ m1_0]; go_simp
      have c1_0_2 : w1.cell? ⟨w.heap.size, 2, none⟩ = some (.bool o) := by rw [hc1 _ _ m1_0]; go_simp
      have v1_0 : w.heap.size < w1.heap.size := by omega
      have q1 : Below w.heap.size w w1 := below_trans (w := w) (by go_grown) hb1
      clear hc1 hf1
      obtain ⟨y1, y2, y3, y4, y5, y6, y7, y8, y9⟩ := szs v1_0
      go_wp2_with (first | (go_at_call 8; refine (H1.out _).mono ?_; rintro e w' ⟨rfl, o1, rfl⟩) | (go_at_call 9; refine (H2.out _).mono ?_; rintro e w' ⟨rfl, o2, rfl⟩))
      refine (H3.out _).mono ?_
      rintro e w2 ⟨rfl, hb2⟩
      have q2 : Below w.heap.size w w2 := below_trans (w := w) (by go_grown) hb2
      have s2 : w.heap.size ≤ w2.heap.size := q2.size
      go_wp2_with fail
      go_ret
      exact ⟨ret_bool (by simp), by go_grown⟩
    · have h2 := fun W => until_any p c o W
      obtain ⟨n, hn⟩ : ∃ n, unV p c = n := ⟨_, rfl⟩
      have hn' : n = fi c := by rw [← hn]; unfold unV; rw [if_neg hp]
      have hn0 : 1 ≤ n := by rw [hn']; exact fi_pos c
      have hn1 : n ≤ 1023 := by rw [hn']; unfold fi; split <;> omega
      obtain ⟨u1, u2, u3⟩ := until_at p c o (by omega) n hn'
      have h3 := fun W => run_any p c (n - 1) o p0 p1 q0 q1 (by omega) (by omega) W
      have h4 := fun W => run_any p c n o p0 p1 q0 q1 (by omega) (by omega) W
      rw [hn] at h2
      rw [u1] at h3
      rw [u2, u3] at h4
      generalize rnC p c (n - 1) = rc at h3
      generalize rnO p c o (n - 1) = ro at h3
      generalize rnC p c n = sc at h4
      have H2 := Lib.hid h2
      have H3 := Lib.hid h3
      have H4 := Lib.hid h4
      clear h2 h3 h4 hn hn' u1 u2 u3
      go_enter Try.func6, Try.ntmps6
      go_wp2_with fail
      refine (alive_any _).mono ?_
      rintro e w1 ⟨rfl, hb1⟩
      obtain ⟨B1, e1, z1, hc1, hf1⟩ := below_in hb1
      have m1_0 : w.heap.size < B1 := by rw [e1]; first | (go_simp; done) | (simp; done) | (simp; omega) | omega
      clear e1
      have c1_0_0 : w1.cell? ⟨w.heap.size, 0, none⟩ = some (.int .i64 p) := by rw [hc1 _ _ m1_0]; go_simp
      have c1_0_1 : w1.cell? ⟨w.heap.size, 1, none⟩ = some (.int .i64 c) := by rw [hc1 _ _ m1_0]; go_simp
      have c1_0_2 : w1.cell? ⟨w.heap.size, 2, none⟩ = some (.bool o) := by rw [hc1 _ _ m1_0]; go_simp
      have v1_0 : w.heap.size < w1.heap.size := by omega
      have q1 : Below w.heap.size w w1 := below_trans (w := w) (by go_grown) hb1
      clear hc1 hf1
      obtain ⟨y1, y2, y3, y4, y5, y6, y7, y8, y9⟩ := szs v1_0
      have d0 : (n == 0) = false := by simp; omega
      go_wp2_with (first | (go_at_call 8; refine (H1.out _).mono ?_; rintro e w' ⟨rfl, o1, rfl⟩) | (go_at_call 9; refine (H2.out _).mono ?_; rintro e w' ⟨rfl, o2, rfl⟩))
      refine (H3.out _).mono ?_
      rintro e w2 ⟨rfl, hb2⟩
      obtain ⟨B2, e2, z2, hc2, hf2⟩ := below_in hb2
      have m2_0 : w.heap.size < B2 := by rw [e2]; first | (go_simp; done) | (simp; done) | (simp; omega) | omega
      clear e2
      have c2_0_0 : w2.cell? ⟨w.heap.size, 0, none⟩ = some (.int .i64 p) := by rw [hc2 _ _ m2_0]; go_simp
      have c2_0_1 : w2.cell? ⟨w.heap.size, 1, none⟩ = some (.int .i64 c) := by rw [hc2 _ _ m2_0]; go_simp
      have c2_0_2 : w2.cell? ⟨w.heap.size, 2, none⟩ = some (.bool o) := by rw [hc2 _ _ m2_0]; go_simp
      have v2_0 : w.heap.size < w2.heap.size := by omega
      have q2 : Below w.heap.size w w2 := below_trans (w := w) (by go_grown) hb2
      clear hc2 hf2
      go_wp2_with fail
      refine (H4.out _).mono ?_
      rintro e w3 ⟨rfl, hb3⟩
      obtain ⟨B3, e3, z3, hc3, hf3⟩ := below_in hb3
      have m3_0 : w.heap.size < B3 := by rw [e3]; first | (go_simp; done) | (simp; done) | (simp; omega) | omega
      clear e3
      have c3_0_0 : w3.cell? ⟨w.heap.size, 0, none⟩ = some (.int .i64 p) := by rw [hc3 _ _ m3_0]; go_simp
      have c3_0_1 : w3.cell? ⟨w.heap.size, 1, none⟩ = some (.int .i64 c) := by rw [hc3 _ _ m3_0]; go_simp
      have c3_0_2 : w3.cell? ⟨w.heap.size, 2, none⟩ = some (.bool o) := by rw [hc3 _ _ m3_0]; go_simp
      have v3_0 : w.heap.size < w3.heap.size := by omega
      have q3 : Below w.heap.size w w3 := below_trans (w := w) (by go_grown) hb3
      clear hc3 hf3
      go_wp2_with fail
      go_ret
      exact ⟨ret_bool (by simp), by go_grown⟩
set_option maxRecDepth 100000 in
set_option maxHeartbeats 2000000 in
theorem toneBeats_walk (p c : Int) (o : Bool) (w0_0 : (Lit.int .i64 p).wf = true) (w0_1 : (Lit.int .i64 c).wf = true) (w : World) :
    Calls Try.prog 5 #[.agg #[.int .i64 p, .int .i64 c, .bool o]] w fun e w' => e = .returned (.bool true) ∧ Below w.heap.size w w' := by
  clear w0_0 w0_1
  cases hR : tR p c
  · have h1 := fun W => right_any p c o W
    rw [hR] at h1
    have H1 := Lib.hid h1
    clear h1 hR
    go_enter Try.func5, Try.ntmps5
    go_wp2_with fail
    refine (alive_any _).mono ?_
    rintro e w1 ⟨rfl, hb1⟩
    obtain ⟨B1, e1, z1, hc1, hf1⟩ := below_in hb1
    have m1_0 : w.heap.size < B1 := by rw [e1]; first | (go_simp; done) | (simp; done) | (simp; omega) | omega
    clear e1
    have c1_0_0 : w1.cell? ⟨w.heap.size, 0, none⟩ = some (.int .i64 p) := by rw [hc1 _ _ m1_0]; go_simp
    have c1_0_1 : w1.cell? ⟨w.heap.size, 1, none⟩ = some (.int .i64 c) := by rw [hc1 _ _ m1_0]; go_simp
    have c1_0_2 : w1.cell? ⟨w.heap.size, 2, none⟩ = some (.bool o) := by rw [hc1 _ _ m1_0]; go_simp
    have v1_0 : w.heap.size < w1.heap.size := by omega
    have q1 : Below w.heap.size w w1 := below_trans (w := w) (by go_grown) hb1
    clear hc1 hf1
    go_wp2_with (go_at_call 8; refine (H1.out _).mono ?_; rintro e w' ⟨rfl, o1, rfl⟩)
    go_ret
    exact ⟨ret_bool (by simp), by go_grown⟩
  · obtain ⟨p0, p1, q0, q1⟩ := tR_bd hR
    have h1 := fun W => right_any p c o W
    rw [hR] at h1
    have H1 := Lib.hid h1
    clear h1 hR
    by_cases hg : 2 ≤ p ∧ 1 ≤ c ∧ c ≤ p
    · obtain ⟨g1, g2, g3⟩ := hg
      obtain ⟨u1, u2, u3, u4, u5, u6⟩ := beats p c o g1 g2 g3
      have h3 := fun W => run_any p c p o p0 p1 q0 q1 (by omega) (by omega) W
      have h4 := fun W => run_any p c (2 * p) o p0 p1 q0 q1 (by omega) (by omega) W
      rw [u1, u3, u5] at h3
      rw [u2, u4, u6] at h4
      have H3 := Lib.hid h3
      have H4 := Lib.hid h4
      clear h3 h4 u1 u2 u3 u4 u5 u6
      go_enter Try.func5, Try.ntmps5
      go_wp2_with fail
      refine (alive_any _).mono ?_
      rintro e w1 ⟨rfl, hb1⟩
      obtain ⟨B1, e1, z1, hc1, hf1⟩ := below_in hb1
      have m1_0 : w.heap.size < B1 := by rw [e1]; first | (go_simp; done) | (simp; done) | (simp; omega) | omega
      clear e1
      have c1_0_0 : w1.cell? ⟨w.heap.size, 0, none⟩ = some (.int .i64 p) := by rw [hc1 _ _ m1_0]; go_simp
      have c1_0_1 : w1.cell? ⟨w.heap.size, 1, none⟩ = some (.int .i64 c) := by rw [hc1 _ _ m1_0]; go_simp
      have c1_0_2 : w1.cell? ⟨w.heap.size, 2, none⟩ = some (.bool o) := by rw [hc1 _ _ m1_0]; go_simp
      have v1_0 : w.heap.size < w1.heap.size := by omega
      have q1 : Below w.heap.size w w1 := below_trans (w := w) (by go_grown) hb1
      clear hc1 hf1
      obtain ⟨y1, y2, y3, y4, y5, y6, y7, y8, y9⟩ := szs v1_0
      go_wp2_with (first | (go_at_call 8; refine (H1.out _).mono ?_; rintro e w' ⟨rfl, o1, rfl⟩))
      refine (H3.out _).mono ?_
      rintro e w2 ⟨rfl, hb2⟩
      obtain ⟨B2, e2, z2, hc2, hf2⟩ := below_in hb2
      have m2_0 : w.heap.size < B2 := by rw [e2]; first | (go_simp; done) | (simp; done) | (simp; omega) | omega
      clear e2
      have c2_0_0 : w2.cell? ⟨w.heap.size, 0, none⟩ = some (.int .i64 p) := by rw [hc2 _ _ m2_0]; go_simp
      have c2_0_1 : w2.cell? ⟨w.heap.size, 1, none⟩ = some (.int .i64 c) := by rw [hc2 _ _ m2_0]; go_simp
      have c2_0_2 : w2.cell? ⟨w.heap.size, 2, none⟩ = some (.bool o) := by rw [hc2 _ _ m2_0]; go_simp
      have v2_0 : w.heap.size < w2.heap.size := by omega
      have q2 : Below w.heap.size w w2 := below_trans (w := w) (by go_grown) hb2
      clear hc2 hf2
      go_wp2_with fail
      refine (H4.out _).mono ?_
      rintro e w3 ⟨rfl, hb3⟩
      obtain ⟨B3, e3, z3, hc3, hf3⟩ := below_in hb3
      have m3_0 : w.heap.size < B3 := by rw [e3]; first | (go_simp; done) | (simp; done) | (simp; omega) | omega
      have m3_1 : w2.heap.size < B3 := by rw [e3]; first | (go_simp; done) | (simp; done) | (simp; omega) | omega
      clear e3
      have c3_0_0 : w3.cell? ⟨w.heap.size, 0, none⟩ = some (.int .i64 p) := by rw [hc3 _ _ m3_0]; go_simp
      have c3_0_1 : w3.cell? ⟨w.heap.size, 1, none⟩ = some (.int .i64 c) := by rw [hc3 _ _ m3_0]; go_simp
      have c3_0_2 : w3.cell? ⟨w.heap.size, 2, none⟩ = some (.bool o) := by rw [hc3 _ _ m3_0]; go_simp
      have v3_0 : w.heap.size < w3.heap.size := by omega
      have c3_1_0 : w3.cell? ⟨w2.heap.size, 0, none⟩ = some (.int .i64 p) := by rw [hc3 _ _ m3_1]; go_simp
      have c3_1_1 : w3.cell? ⟨w2.heap.size, 1, none⟩ = some (.int .i64 c) := by rw [hc3 _ _ m3_1]; go_simp
      have c3_1_2 : w3.cell? ⟨w2.heap.size, 2, none⟩ = some (.bool (!o)) := by rw [hc3 _ _ m3_1]; go_simp
      have v3_1 : w2.heap.size < w3.heap.size := by omega
      have q3 : Below w.heap.size w w3 := below_trans (w := w) (by go_grown) hb3
      clear hc3 hf3
      go_wp2_with fail
      go_ret
      exact ⟨ret_bool (by simp), by go_grown⟩
    · by_cases g1 : p < 2
      · go_enter Try.func5, Try.ntmps5
        go_wp2_with fail
        refine (alive_any _).mono ?_
        rintro e w1 ⟨rfl, hb1⟩
        obtain ⟨B1, e1, z1, hc1, hf1⟩ := below_in hb1
        have m1_0 : w.heap.size < B1 := by rw [e1]; first | (go_simp; done) | (simp; done) | (simp; omega) | omega
        clear e1
        have c1_0_0 : w1.cell? ⟨w.heap.size, 0, none⟩ = some (.int .i64 p) := by rw [hc1 _ _ m1_0]; go_simp
        have c1_0_1 : w1.cell? ⟨w.heap.size, 1, none⟩ = some (.int .i64 c) := by rw [hc1 _ _ m1_0]; go_simp
        have c1_0_2 : w1.cell? ⟨w.heap.size, 2, none⟩ = some (.bool o) := by rw [hc1 _ _ m1_0]; go_simp
        have v1_0 : w.heap.size < w1.heap.size := by omega
        have q1 : Below w.heap.size w w1 := below_trans (w := w) (by go_grown) hb1
        clear hc1 hf1
        obtain ⟨y1, y2, y3, y4, y5, y6, y7, y8, y9⟩ := szs v1_0
        go_wp2_with (first | (go_at_call 8; refine (H1.out _).mono ?_; rintro e w' ⟨rfl, o1, rfl⟩))
        go_ret
        exact ⟨ret_bool (by simp), by go_grown⟩
      · by_cases g2 : c < 1
        · go_enter Try.func5, Try.ntmps5
          go_wp2_with fail
          refine (alive_any _).mono ?_
          rintro e w1 ⟨rfl, hb1⟩
          obtain ⟨B1, e1, z1, hc1, hf1⟩ := below_in hb1
          have m1_0 : w.heap.size < B1 := by rw [e1]; first | (go_simp; done) | (simp; done) | (simp; omega) | omega
          clear e1
          have c1_0_0 : w1.cell? ⟨w.heap.size, 0, none⟩ = some (.int .i64 p) := by rw [hc1 _ _ m1_0]; go_simp
          have c1_0_1 : w1.cell? ⟨w.heap.size, 1, none⟩ = some (.int .i64 c) := by rw [hc1 _ _ m1_0]; go_simp
          have c1_0_2 : w1.cell? ⟨w.heap.size, 2, none⟩ = some (.bool o) := by rw [hc1 _ _ m1_0]; go_simp
          have v1_0 : w.heap.size < w1.heap.size := by omega
          have q1 : Below w.heap.size w w1 := below_trans (w := w) (by go_grown) hb1
          clear hc1 hf1
          obtain ⟨y1, y2, y3, y4, y5, y6, y7, y8, y9⟩ := szs v1_0
          go_wp2_with (first | (go_at_call 8; refine (H1.out _).mono ?_; rintro e w' ⟨rfl, o1, rfl⟩))
          go_ret
          exact ⟨ret_bool (by simp), by go_grown⟩
        · have g3 : p < c := by omega
          go_enter Try.func5, Try.ntmps5
          go_wp2_with fail
          refine (alive_any _).mono ?_
          rintro e w1 ⟨rfl, hb1⟩
          obtain ⟨B1, e1, z1, hc1, hf1⟩ := below_in hb1
          have m1_0 : w.heap.size < B1 := by rw [e1]; first | (go_simp; done) | (simp; done) | (simp; omega) | omega
          clear e1
          have c1_0_0 : w1.cell? ⟨w.heap.size, 0, none⟩ = some (.int .i64 p) := by rw [hc1 _ _ m1_0]; go_simp
          have c1_0_1 : w1.cell? ⟨w.heap.size, 1, none⟩ = some (.int .i64 c) := by rw [hc1 _ _ m1_0]; go_simp
          have c1_0_2 : w1.cell? ⟨w.heap.size, 2, none⟩ = some (.bool o) := by rw [hc1 _ _ m1_0]; go_simp
          have v1_0 : w.heap.size < w1.heap.size := by omega
          have q1 : Below w.heap.size w w1 := below_trans (w := w) (by go_grown) hb1
          clear hc1 hf1
          obtain ⟨y1, y2, y3, y4, y5, y6, y7, y8, y9⟩ := szs v1_0
          go_wp2_with (first | (go_at_call 8; refine (H1.out _).mono ?_; rintro e w' ⟨rfl, o1, rfl⟩))
          go_ret
          exact ⟨ret_bool (by simp), by go_grown⟩
end Go.Proofs.Ytbnpilbnkofgiaa
