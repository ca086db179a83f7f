/- Registers (layer 10): what the program's functions do, the second part. No conditions but that numbers are of their kinds. -/
import Derived.Test.YthghpgnnbdimaaaRegsX
import Derived.Test.YthghpgnnbdimaaaRegs6
import Derived.Test.YthghpgnnbdimaaaIdx
import Derived.RegionTactic
import Derived.Deep.DeepCutAuto
import Derived.Lib.Hide
import Derived.Deep.CutRange
import Derived.LoopTactic
import Derived.Deep.RegionHeld3
namespace Go.Proofs.Ythghpgnnbdimaaa
open Go.RowKit
open Kit R06
set_option linter.unusedSimpArgs false
set_option linter.unusedVariables false
attribute [local simp] blkAt_alloc blkNew_cells putRow_cells blkAt_drew BlkN.set BlkOne.setInt BlkOne.setBool blkPut_alloc blkPut_drew nq2 nq3 nq4 nq5 nq6 nq7 nq8
namespace Regs
attribute [local simp ↓] rl_in rs_in
attribute [local simp] rl_run rs_run
set_option maxRecDepth 100000 in
set_option maxHeartbeats 4000000 in
theorem rswap_any (f : Nat → Int) (h : RB f) (all : Bool) (w : World) : Calls Try.prog 23 #[.agg (R f), .bool all] w fun e w' => e = .returned (.agg (R (swF f all 8))) ∧ Below w.heap.size w w' := by
  refine rswap_core f h all w ?_ ?_
  · intro k hk hs nm hnm
    have fk := h.u8 (8 + k) (by omega)
    have e : f (8 + k) % 256 = f (8 + k) := by omega
    have g := swF_rb h all k
    rcases (by omega : k = 0 ∨ k = 1 ∨ k = 2 ∨ k = 3 ∨ k = 4 ∨ k = 5 ∨ k = 6 ∨ k = 7) with rfl | rfl | rfl | rfl | rfl | rfl | rfl | rfl
    · have hn : nm = ⟨#[65]⟩ := by simpa [NM8] using hnm.symm
      subst hn
      have t := fun W => set_A _ g (f (8 + 0)) fk.1 (by omega) W
      rw [e] at t
      exact heldV (T := US w (R f) (R (swF f all 0))) (fun W W' h b => h.below b) (belowOf2 t)
    · have hn : nm = ⟨#[70]⟩ := by simpa [NM8] using hnm.symm
      subst hn
      have t := fun W => set_F _ g (f (8 + 1)) fk.1 (by omega) W
      rw [e] at t
      exact heldV (T := US w (R f) (R (swF f all 1))) (fun W W' h b => h.below b) (belowOf2 t)
    · have hn : nm = ⟨#[66]⟩ := by simpa [NM8] using hnm.symm
      subst hn
      have t := fun W => set_B _ g (f (8 + 2)) fk.1 (by omega) W
      rw [e] at t
      exact heldV (T := US w (R f) (R (swF f all 2))) (fun W W' h b => h.below b) (belowOf2 t)
    · have hn : nm = ⟨#[67]⟩ := by simpa [NM8] using hnm.symm
      subst hn
      have t := fun W => set_C _ g (f (8 + 3)) fk.1 (by omega) W
      rw [e] at t
      exact heldV (T := US w (R f) (R (swF f all 3))) (fun W W' h b => h.below b) (belowOf2 t)
    · have hn : nm = ⟨#[68]⟩ := by simpa [NM8] using hnm.symm
      subst hn
      have t := fun W => set_D _ g (f (8 + 4)) fk.1 (by omega) W
      rw [e] at t
      exact heldV (T := US w (R f) (R (swF f all 4))) (fun W W' h b => h.below b) (belowOf2 t)
    · have hn : nm = ⟨#[69]⟩ := by simpa [NM8] using hnm.symm
      subst hn
      have t := fun W => set_E _ g (f (8 + 5)) fk.1 (by omega) W
      rw [e] at t
      exact heldV (T := US w (R f) (R (swF f all 5))) (fun W W' h b => h.below b) (belowOf2 t)
    · have hn : nm = ⟨#[72]⟩ := by simpa [NM8] using hnm.symm
      subst hn
      have t := fun W => set_H _ g (f (8 + 6)) fk.1 (by omega) W
      rw [e] at t
      exact heldV (T := US w (R f) (R (swF f all 6))) (fun W W' h b => h.below b) (belowOf2 t)
    · have hn : nm = ⟨#[76]⟩ := by simpa [NM8] using hnm.symm
      subst hn
      have t := fun W => set_L _ g (f (8 + 7)) fk.1 (by omega) W
      rw [e] at t
      exact heldV (T := US w (R f) (R (swF f all 7))) (fun W W' h b => h.below b) (belowOf2 t)
  · intro k hk nm hnm G
    rcases (by omega : k = 0 ∨ k = 1 ∨ k = 2 ∨ k = 3 ∨ k = 4 ∨ k = 5 ∨ k = 6 ∨ k = 7) with rfl | rfl | rfl | rfl | rfl | rfl | rfl | rfl
    · have hn : nm = ⟨#[65]⟩ := by simpa [NM8] using hnm.symm
      subst hn
      exact heldV (T := US w (R f) G) (fun W W' h b => h.below b) (belowOf1 fun W => get_A f h W)
    · have hn : nm = ⟨#[70]⟩ := by simpa [NM8] using hnm.symm
      subst hn
      exact heldV (T := US w (R f) G) (fun W W' h b => h.below b) (belowOf1 fun W => get_F f h W)
    · have hn : nm = ⟨#[66]⟩ := by simpa [NM8] using hnm.symm
      subst hn
      exact heldV (T := US w (R f) G) (fun W W' h b => h.below b) (belowOf1 fun W => get_B f h W)
    · have hn : nm = ⟨#[67]⟩ := by simpa [NM8] using hnm.symm
      subst hn
      exact heldV (T := US w (R f) G) (fun W W' h b => h.below b) (belowOf1 fun W => get_C f h W)
    · have hn : nm = ⟨#[68]⟩ := by simpa [NM8] using hnm.symm
      subst hn
      exact heldV (T := US w (R f) G) (fun W W' h b => h.below b) (belowOf1 fun W => get_D f h W)
    · have hn : nm = ⟨#[69]⟩ := by simpa [NM8] using hnm.symm
      subst hn
      exact heldV (T := US w (R f) G) (fun W W' h b => h.below b) (belowOf1 fun W => get_E f h W)
    · have hn : nm = ⟨#[72]⟩ := by simpa [NM8] using hnm.symm
      subst hn
      exact heldV (T := US w (R f) G) (fun W W' h b => h.below b) (belowOf1 fun W => get_H f h W)
    · have hn : nm = ⟨#[76]⟩ := by simpa [NM8] using hnm.symm
      subst hn
      exact heldV (T := US w (R f) G) (fun W W' h b => h.below b) (belowOf1 fun W => get_L f h W)
def TT (w : World) (A : Array Value) (x : Int) (W : World) : Prop := blkAt W w.heap.size = A ∧ W.cell? ⟨w.heap.size, 1, none⟩ = some (.int .u8 x) ∧ w.heap.size < W.heap.size ∧ Below w.heap.size w W
theorem TT.below {w : World} {A : Array Value} {x : Int} {W W' : World} (h : TT w A x W) (hb : Below W.heap.size W W') : TT w A x W' := by
  obtain ⟨h0, h1, h2, h3⟩ := h
  refine ⟨?_, (hb.cell (p := ⟨w.heap.size, 1, none⟩) h2).trans h1, Nat.lt_of_lt_of_le h2 hb.size, h3.trans (hb.mono h3.size)⟩
  rw [← h0]; unfold blkAt; rw [hb.block _ h2]
theorem heldX {P : Program} {n : Nat} {args : Array Value} {r : Value} {T : World → Prop} (hT : ∀ W W', T W → Below W.heap.size W W' → T W') (h : ∀ W, Calls P n args W fun e w' => e = .returned r ∧ Below W.heap.size W w') (W : World) (hW : T W) : Calls P n args W fun e w' => e = .returned r ∧ T w' :=
  (h W).mono fun e w' ⟨e1, e2⟩ => ⟨e1, hT _ _ hW e2⟩
set_option maxRecDepth 100000 in
set_option maxHeartbeats 4000000 in
theorem turn_core (f : Nat → Int) (h : RB f) (all : Bool) (c k : Int) (k0 : 0 ≤ k) (k1 : k < 8) (hkc : c % 8 = k) (hc : (c.tmod 8 = k) ∨ (c.tmod 8 = k - 8)) (nm : ByteArray) (hix : ∀ w0, Sem.run Try.prog (Instr.index 41 (.agg #[.string ⟨#[78, 90]⟩, .string ⟨#[90]⟩, .string ⟨#[78, 67]⟩, .string ⟨#[67]⟩, .string ⟨#[80, 79]⟩, .string ⟨#[80, 69]⟩, .string ⟨#[80]⟩, .string ⟨#[77]⟩]) (.int .i64 k)) w0 = .ok (.string nm) w0) (hrm : ∀ W, Calls Try.prog 26 #[.int .u8 (f 1), .string nm] W fun e w' => e = .returned (.bool (metV (f 1) k)) ∧ Below W.heap.size W w') (w : World) : Calls Try.prog 6 #[.agg (R f), .bool all, .int .i64 c] w fun e w' => e = .returned (.bool true) ∧ Below w.heap.size w w' := by
  have x0 := (h.u8 1 (by omega)).1
  have x1 := (h.u8 1 (by omega)).2
  have g22 := h.2.2 22 (by omega) (by omega)
  have t22 := tickV_bd (f 22) g22.1 g22.2
  have q1 := eqR _ (swF_rb h all 8)
  have q2 := eqR _ (h.set8b 22 _ (by omega) (by omega) t22.1 t22.2)
  have hs := fun W => swap_any f h all W
  have hrs := fun W => rswap_any f h all W
  have ht := fun W => tick_any f h W
  have hrt := fun W => rtick_any f h W
  have hm := fun W => met_any (f 1) c x0 x1 W
  rw [hkc] at hm
  have c1 := R_get f 1 (by omega)
  change (R f)[1]? = some (.int .u8 (f 1)) at c1
  have sA : BlkN (R f) 29 := R_size _
  generalize metV (f 1) k = b at *
  generalize R (upd f 22 (tickV (f 22))) = C at *
  generalize R (swF f all 8) = D at *
  generalize R f = A at *
  generalize f 1 = x at *
  clear g22 t22 h
  have HA := Lib.hid (heldX (T := TT w A x) (fun W W' h b => h.below b) alive_any)
  have HS := Lib.hid (heldX (T := TT w A x) (fun W W' h b => h.below b) hs)
  have HRS := Lib.hid (heldX (T := TT w A x) (fun W W' h b => h.below b) hrs)
  have HT := Lib.hid (heldX (T := TT w A x) (fun W W' h b => h.below b) (belowOf2 ht))
  have HRT := Lib.hid (heldX (T := TT w A x) (fun W W' h b => h.below b) (belowOf2 hrt))
  have HM := Lib.hid (heldX (T := TT w A x) (fun W W' h b => h.below b) (belowOf1 hm))
  have HRM := Lib.hid (heldX (T := TT w A x) (fun W W' h b => h.below b) hrm)
  clear hs hrs ht hrt hm hrm
  have nk : ¬ (k < 0) := by omega
  have nk7 : k - 8 < 0 := by omega
  have ek : k - 8 + 8 = k := by omega
  rcases hc with hn | hn
  all_goals
    go_enter Try.func6, Try.ntmps6
    go_wp2_with (go_at_call 9; (with_reducible refine (HA.out _ ?_).mono ?_); (unfold TT; exact ⟨by first | assumption | (simp [*]; done) | (go_simp; done), by first | assumption | go_keep | (go_simp; done), by first | assumption | (simp; done) | (simp; omega) | omega, by first | assumption | (exact Below.drew (by assumption)) | (exact below_blkPut (by assumption) (by omega) _) | go_grown⟩); rintro e w' ⟨rfl, k0, k1, k2, k3⟩)
    go_region_held3 (fun w' => blkAt w' w.heap.size = A ∧ w'.cell? ⟨w.heap.size, 1, none⟩ = some (.int .u8 x) ∧ w.heap.size < w'.heap.size ∧ Below w.heap.size w w') (first | assumption | (exact ⟨by first | assumption | (simp [*]; done) | (go_simp; done), by first | assumption | go_keep | (go_simp; done), by first | assumption | (simp; done) | (simp; omega) | omega, by first | assumption | (exact Below.drew (by assumption)) | (exact below_blkPut (by assumption) (by omega) _) | go_grown⟩)) (first | (go_at_call 21; (with_reducible refine (HS.out _ ?_).mono ?_); (unfold TT; exact ⟨by first | assumption | (simp [*]; done) | (go_simp; done), by first | assumption | go_keep | (go_simp; done), by first | assumption | (simp; done) | (simp; omega) | omega, by first | assumption | (exact Below.drew (by assumption)) | (exact below_blkPut (by assumption) (by omega) _) | go_grown⟩); rintro e w' ⟨rfl, y0, y1, y2, y3⟩) | (go_at_call 23; (with_reducible refine (HRS.out _ ?_).mono ?_); (unfold TT; exact ⟨by first | assumption | (simp [*]; done) | (go_simp; done), by first | assumption | go_keep | (go_simp; done), by first | assumption | (simp; done) | (simp; omega) | omega, by first | assumption | (exact Below.drew (by assumption)) | (exact below_blkPut (by assumption) (by omega) _) | go_grown⟩); rintro e w' ⟨rfl, y0, y1, y2, y3⟩) | (go_at_call 24; (with_reducible refine (HT.out _ ?_).mono ?_); (unfold TT; exact ⟨by first | assumption | (simp [*]; done) | (go_simp; done), by first | assumption | go_keep | (go_simp; done), by first | assumption | (simp; done) | (simp; omega) | omega, by first | assumption | (exact Below.drew (by assumption)) | (exact below_blkPut (by assumption) (by omega) _) | go_grown⟩); rintro e w' ⟨rfl, y0, y1, y2, y3⟩) | (go_at_call 25; (with_reducible refine (HRT.out _ ?_).mono ?_); (unfold TT; exact ⟨by first | assumption | (simp [*]; done) | (go_simp; done), by first | assumption | go_keep | (go_simp; done), by first | assumption | (simp; done) | (simp; omega) | omega, by first | assumption | (exact Below.drew (by assumption)) | (exact below_blkPut (by assumption) (by omega) _) | go_grown⟩); rintro e w' ⟨rfl, y0, y1, y2, y3⟩) | (go_at_call 22; (with_reducible refine (HM.out _ ?_).mono ?_); (unfold TT; exact ⟨by first | assumption | (simp [*]; done) | (go_simp; done), by first | assumption | go_keep | (go_simp; done), by first | assumption | (simp; done) | (simp; omega) | omega, by first | assumption | (exact Below.drew (by assumption)) | (exact below_blkPut (by assumption) (by omega) _) | go_grown⟩); rintro e w' ⟨rfl, y0, y1, y2, y3⟩) | (go_at_call 26; (with_reducible refine (HRM.out _ ?_).mono ?_); (unfold TT; exact ⟨by first | assumption | (simp [*]; done) | (go_simp; done), by first | assumption | go_keep | (go_simp; done), by first | assumption | (simp; done) | (simp; omega) | omega, by first | assumption | (exact Below.drew (by assumption)) | (exact below_blkPut (by assumption) (by omega) _) | go_grown⟩); rintro e w' ⟨rfl, y0, y1, y2, y3⟩))
    all_goals
      go_wp2_with fail
      go_ret
      exact ⟨ret_bool (by simp), by first | assumption | go_grown⟩
set_option maxRecDepth 100000 in
set_option maxHeartbeats 4000000 in
theorem turn_all (f : Nat → Int) (h : RB f) (all : Bool) (c : Int) (w : World) : Calls Try.prog 6 #[.agg (R f), .bool all, .int .i64 c] w fun e w' => e = .returned (.bool true) ∧ Below w.heap.size w w' := by
  have hk : 0 ≤ c % 8 ∧ c % 8 < 8 := by omega
  have hc : (c.tmod 8 = c % 8) ∨ (c.tmod 8 = c % 8 - 8) := by
    rcases Int.lt_or_le c 0 with hn | hn
    · by_cases h0 : c % 8 = 0
      · left
        rw [show c = -(-c) by omega, Int.neg_tmod, Int.tmod_eq_emod_of_nonneg (by omega)]
        omega
      · right
        rw [show c = -(-c) by omega, Int.neg_tmod, Int.tmod_eq_emod_of_nonneg (by omega)]
        omega
    · left; exact Int.tmod_eq_emod_of_nonneg hn
  have x0 := (h.u8 1 (by omega)).1
  have x1 := (h.u8 1 (by omega)).2
  rcases (by omega : c % 8 = 0 ∨ c % 8 = 1 ∨ c % 8 = 2 ∨ c % 8 = 3 ∨ c % 8 = 4 ∨ c % 8 = 5 ∨ c % 8 = 6 ∨ c % 8 = 7) with e | e | e | e | e | e | e | e
  · rw [e] at hc
    exact turn_core f h all c 0 (by omega) (by omega) e hc ⟨#[78, 90]⟩ (fun w0 => index_run Try.underlying41 Try.underlying9 rfl (by kernel_rfl) _ _ _ _ (by omega) (by omega) (by rfl) w0) (belowOf2 fun W => rmet_0 (f 1) x0 x1 W) w
  · rw [e] at hc
    exact turn_core f h all c 1 (by omega) (by omega) e hc ⟨#[90]⟩ (fun w0 => index_run Try.underlying41 Try.underlying9 rfl (by kernel_rfl) _ _ _ _ (by omega) (by omega) (by rfl) w0) (belowOf2 fun W => rmet_1 (f 1) x0 x1 W) w
  · rw [e] at hc
    exact turn_core f h all c 2 (by omega) (by omega) e hc ⟨#[78, 67]⟩ (fun w0 => index_run Try.underlying41 Try.underlying9 rfl (by kernel_rfl) _ _ _ _ (by omega) (by omega) (by rfl) w0) (belowOf2 fun W => rmet_2 (f 1) x0 x1 W) w
  · rw [e] at hc
    exact turn_core f h all c 3 (by omega) (by omega) e hc ⟨#[67]⟩ (fun w0 => index_run Try.underlying41 Try.underlying9 rfl (by kernel_rfl) _ _ _ _ (by omega) (by omega) (by rfl) w0) (belowOf2 fun W => rmet_3 (f 1) x0 x1 W) w
  · rw [e] at hc
    exact turn_core f h all c 4 (by omega) (by omega) e hc ⟨#[80, 79]⟩ (fun w0 => index_run Try.underlying41 Try.underlying9 rfl (by kernel_rfl) _ _ _ _ (by omega) (by omega) (by rfl) w0) (belowOf2 fun W => rmet_4 (f 1) x0 x1 W) w
  · rw [e] at hc
    exact turn_core f h all c 5 (by omega) (by omega) e hc ⟨#[80, 69]⟩ (fun w0 => index_run Try.underlying41 Try.underlying9 rfl (by kernel_rfl) _ _ _ _ (by omega) (by omega) (by rfl) w0) (belowOf2 fun W => rmet_5 (f 1) x0 x1 W) w
  · rw [e] at hc
    exact turn_core f h all c 6 (by omega) (by omega) e hc ⟨#[80]⟩ (fun w0 => index_run Try.underlying41 Try.underlying9 rfl (by kernel_rfl) _ _ _ _ (by omega) (by omega) (by rfl) w0) (belowOf2 fun W => rmet_6 (f 1) x0 x1 W) w
  · rw [e] at hc
    exact turn_core f h all c 7 (by omega) (by omega) e hc ⟨#[77]⟩ (fun w0 => index_run Try.underlying41 Try.underlying9 rfl (by kernel_rfl) _ _ _ _ (by omega) (by omega) (by rfl) w0) (belowOf2 fun W => rmet_7 (f 1) x0 x1 W) w
set_option maxRecDepth 100000 in
set_option maxHeartbeats 4000000 in
theorem regsTurn_walk (a0_0 a0_1 a0_2 a0_3 a0_4 a0_5 a0_6 a0_7 a0_8 a0_9 a0_10 a0_11 a0_12 a0_13 a0_14 a0_15 a0_16 a0_17 a0_18 a0_19 a0_20 a0_21 a0_22 a0_23 a0_24 : Int) (a0_25 a0_26 a0_27 a0_28 : Bool) (all : Bool) (c : Int) (w0_0 : (Lit.int .u8 a0_0).wf = true) (w0_1 : (Lit.int .u8 a0_1).wf = true) (w0_2 : (Lit.int .u8 a0_2).wf = true) (w0_3 : (Lit.int .u8 a0_3).wf = true) (w0_4 : (Lit.int .u8 a0_4).wf = true) (w0_5 : (Lit.int .u8 a0_5).wf = true) (w0_6 : (Lit.int .u8 a0_6).wf = true) (w0_7 : (Lit.int .u8 a0_7).wf = true) (w0_8 : (Lit.int .u8 a0_8).wf = true) (w0_9 : (Lit.int .u8 a0_9).wf = true) (w0_10 : (Lit.int .u8 a0_10).wf = true) (w0_11 : (Lit.int .u8 a0_11).wf = true) (w0_12 : (Lit.int .u8 a0_12).wf = true) (w0_13 : (Lit.int .u8 a0_13).wf = true) (w0_14 : (Lit.int .u8 a0_14).wf = true) (w0_15 : (Lit.int .u8 a0_15).wf = true) (w0_16 : (Lit.int .u16 a0_16).wf = true) (w0_17 : (Lit.int .u16 a0_17).wf = true) (w0_18 : (Lit.int .u16 a0_18).wf = true) (w0_19 : (Lit.int .u16 a0_19).wf = true) (w0_20 : (Lit.int .u16 a0_20).wf = true) (w0_21 : (Lit.int .u8 a0_21).wf = true) (w0_22 : (Lit.int .u8 a0_22).wf = true) (w0_23 : (Lit.int .u8 a0_23).wf = true) (w0_24 : (Lit.int .u8 a0_24).wf = true) (w2 : (Lit.int .i64 c).wf = true) (w : World) : Calls Try.prog 6 #[.agg #[.int .u8 a0_0, .int .u8 a0_1, .int .u8 a0_2, .int .u8 a0_3, .int .u8 a0_4, .int .u8 a0_5, .int .u8 a0_6, .int .u8 a0_7, .int .u8 a0_8, .int .u8 a0_9, .int .u8 a0_10, .int .u8 a0_11, .int .u8 a0_12, .int .u8 a0_13, .int .u8 a0_14, .int .u8 a0_15, .int .u16 a0_16, .int .u16 a0_17, .int .u16 a0_18, .int .u16 a0_19, .int .u16 a0_20, .int .u8 a0_21, .int .u8 a0_22, .int .u8 a0_23, .int .u8 a0_24, .bool a0_25, .bool a0_26, .bool a0_27, .bool a0_28], .bool all, .int .i64 c] w fun e w' => e = .returned (.bool true) ∧ Below w.heap.size w w' := by
  rw [show (#[.int .u8 a0_0, .int .u8 a0_1, .int .u8 a0_2, .int .u8 a0_3, .int .u8 a0_4, .int .u8 a0_5, .int .u8 a0_6, .int .u8 a0_7, .int .u8 a0_8, .int .u8 a0_9, .int .u8 a0_10, .int .u8 a0_11, .int .u8 a0_12, .int .u8 a0_13, .int .u8 a0_14, .int .u8 a0_15, .int .u16 a0_16, .int .u16 a0_17, .int .u16 a0_18, .int .u16 a0_19, .int .u16 a0_20, .int .u8 a0_21, .int .u8 a0_22, .int .u8 a0_23, .int .u8 a0_24, .bool a0_25, .bool a0_26, .bool a0_27, .bool a0_28] : Array Value) = R (fOf [a0_0, a0_1, a0_2, a0_3, a0_4, a0_5, a0_6, a0_7, a0_8, a0_9, a0_10, a0_11, a0_12, a0_13, a0_14, a0_15, a0_16, a0_17, a0_18, a0_19, a0_20, a0_21, a0_22, a0_23, a0_24, cz a0_25, cz a0_26, cz a0_27, cz a0_28]) from regs_eq a0_0 a0_1 a0_2 a0_3 a0_4 a0_5 a0_6 a0_7 a0_8 a0_9 a0_10 a0_11 a0_12 a0_13 a0_14 a0_15 a0_16 a0_17 a0_18 a0_19 a0_20 a0_21 a0_22 a0_23 a0_24 a0_25 a0_26 a0_27 a0_28]
  exact turn_all _ (regs_rb a0_0 a0_1 a0_2 a0_3 a0_4 a0_5 a0_6 a0_7 a0_8 a0_9 a0_10 a0_11 a0_12 a0_13 a0_14 a0_15 a0_16 a0_17 a0_18 a0_19 a0_20 a0_21 a0_22 a0_23 a0_24 a0_25 a0_26 a0_27 a0_28 w0_0 w0_1 w0_2 w0_3 w0_4 w0_5 w0_6 w0_7 w0_8 w0_9 w0_10 w0_11 w0_12 w0_13 w0_14 w0_15 w0_16 w0_17 w0_18 w0_19 w0_20 w0_21 w0_22 w0_23 w0_24) all c w
end Regs
end Go.Proofs.Ythghpgnnbdimaaa
