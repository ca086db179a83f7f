/- Registers (layer 10): what the program's functions do, the second part. No conditions but that numbers are of their kinds. -/
import Derived.Test.YthghpgnnbdimaaaRegsA
import Derived.Test.YthghpgnnbdimaaaRegsW
import Derived.RegionTactic
import Derived.Deep.DeepCutAuto
import Derived.Lib.Hide
import Derived.Deep.CutRange
import Derived.LoopTactic
import Derived.Deep.RegionHeld3
namespace Go.Proofs.Ythghpgnnbdimaaa
open Go.RowKit
open Kit R06
set_option linter.unusedSimpArgs false
set_option linter.unusedVariables false
attribute [local simp] blkAt_alloc blkNew_cells putRow_cells blkAt_drew BlkN.set BlkOne.setInt BlkOne.setBool blkPut_alloc blkPut_drew nq2 nq3 nq4 nq5 nq6 nq7 nq8
namespace Regs
attribute [local simp ↓] rl_in rs_in
attribute [local simp] rl_run rs_run
theorem swF_twice (f : Nat → Int) (all : Bool) (j : Nat) : swF (swF f all 8) all 8 j = f j := by
  by_cases h8 : j < 8
  · have e1 : ¬ 8 + j < 8 := by omega
    have e2 : 8 + j < 16 := by omega
    have e3 : 8 + j - 8 = j := by omega
    cases hs : sw all 8 j <;> simp [swF, h8, hs, e1, e2, e3]
  · by_cases h16 : j < 16
    · have e1 : j - 8 < 8 := by omega
      have e3 : 8 + (j - 8) = j := by omega
      cases hs : sw all 8 (j - 8) <;> simp [swF, h8, h16, hs, e1, e3]
    · simp [swF, h8, h16]
theorem swR_twice (f : Nat → Int) (all : Bool) : R (swF (swF f all 8) all 8) = R f := R_congr _ _ fun j _ => swF_twice f all j
theorem heldU {P : Program} {n : Nat} {args : Array Value} {r : Value} {T : World → Prop} (hT : ∀ W W', T W → Below W.heap.size W W' → T W') (h : ∀ W, Calls P n args W fun e w' => e = .returned r ∧ Below W.heap.size W w') (W : World) (hW : T W) : Calls P n args W fun e w' => e = .returned r ∧ T w' :=
  (h W).mono fun e w' ⟨e1, e2⟩ => ⟨e1, hT _ _ hW e2⟩
theorem setV_rb2 {f : Nat → Int} (h : RB f) (n v : Int) (v0 : 0 ≤ v) (v1 : v < 65536) : RB (setV f n v) := by
  have e : 0 ≤ v / 256 ∧ v / 256 < 256 ∧ 0 ≤ v % 256 ∧ v % 256 < 256 := by omega
  obtain ⟨e0, e1, e2, e3⟩ := e
  unfold setV
  (repeat' split) <;> first | exact h | exact (h.set8 _ _ (by omega) e0 e1).set8 _ _ (by omega) e2 e3 | exact h.set16 _ _ (by omega) (by omega) v0 v1
theorem pair_set (f : Nat → Int) (k v : Int) (k0 : 0 ≤ k) (k1 : k < 7) (v0 : 0 ≤ v) (v1 : v < 65536) : pairV (setV f k v) k = v := by
  rcases (by omega : k = 0 ∨ k = 1 ∨ k = 2 ∨ k = 3 ∨ k = 4 ∨ k = 5 ∨ k = 6) with rfl | rfl | rfl | rfl | rfl | rfl | rfl <;> simp [pairV, setV, upd] <;> omega
theorem set_back {f : Nat → Int} (h : RB f) (k v : Int) (k0 : 0 ≤ k) (k1 : k < 7) : R (setV (setV f k v) k (pairV f k)) = R f := by
  have b0 := h.u8 0 (by omega)
  have b1 := h.u8 1 (by omega)
  have b2 := h.u8 2 (by omega)
  have b3 := h.u8 3 (by omega)
  have b4 := h.u8 4 (by omega)
  have b5 := h.u8 5 (by omega)
  have b6 := h.u8 6 (by omega)
  have b7 := h.u8 7 (by omega)
  have b16 := h.u16 16 (by omega) (by omega)
  have b17 := h.u16 17 (by omega) (by omega)
  have b18 := h.u16 18 (by omega) (by omega)
  refine R_congr _ _ fun j _ => ?_
  rcases (by omega : k = 0 ∨ k = 1 ∨ k = 2 ∨ k = 3 ∨ k = 4 ∨ k = 5 ∨ k = 6) with rfl | rfl | rfl | rfl | rfl | rfl | rfl <;> simp only [pairV, setV, upd, if_true, if_false, Int.reduceEq] <;> (repeat' split) <;> (first | rfl | (subst_vars; omega) | omega)
theorem met_two (x k : Int) (k0 : 0 ≤ k) (k1 : k < 7) : metV x (2 * k % 8) = !metV x ((2 * k + 1) % 8) := by
  rcases (by omega : k = 0 ∨ k = 1 ∨ k = 2 ∨ k = 3 ∨ k = 4 ∨ k = 5 ∨ k = 6) with rfl | rfl | rfl | rfl | rfl | rfl | rfl <;> simp [metV]
def T0 (w : World) (A : Array Value) (x : Int) (W : World) : Prop := blkAt W w.heap.size = A ∧ W.cell? ⟨w.heap.size, 1, none⟩ = some (.int .u8 x) ∧ w.heap.size < W.heap.size ∧ Below w.heap.size w W
theorem T0.below {w : World} {A : Array Value} {x : Int} {W W' : World} (h : T0 w A x W) (hb : Below W.heap.size W W') : T0 w A x W' := by
  obtain ⟨h0, h1, h2, h3⟩ := h
  refine ⟨?_, (hb.cell (p := ⟨w.heap.size, 1, none⟩) h2).trans h1, Nat.lt_of_lt_of_le h2 hb.size, h3.trans (hb.mono h3.size)⟩
  rw [← h0]; unfold blkAt; rw [hb.block _ h2]
def TB (ga : Nat) (B : Array Value) (W : World) : Prop := blkAt W ga = B ∧ ga < W.heap.size
theorem TB.below {ga : Nat} {B : Array Value} {W W' : World} (h : TB ga B W) (hb : Below W.heap.size W W') : TB ga B W' := by
  obtain ⟨h0, h1⟩ := h
  refine ⟨?_, Nat.lt_of_lt_of_le h1 hb.size⟩
  rw [← h0]; unfold blkAt; rw [hb.block _ h1]
def T1 (w : World) (A : Array Value) (x : Int) (ga : Nat) (B : Array Value) (W : World) : Prop := (blkAt W w.heap.size = A ∧ W.cell? ⟨w.heap.size, 1, none⟩ = some (.int .u8 x) ∧ w.heap.size < W.heap.size ∧ Below w.heap.size w W) ∧ (blkAt W ga = B ∧ ga < W.heap.size)
theorem T1.below {w : World} {A : Array Value} {x : Int} {ga : Nat} {B : Array Value} {W W' : World} (h : T1 w A x ga B W) (hb : Below W.heap.size W W') : T1 w A x ga B W' := ⟨T0.below h.1 hb, TB.below h.2 hb⟩
def T2 (w : World) (A : Array Value) (x : Int) (ga : Nat) (B : Array Value) (gb : Nat) (C : Array Value) (W : World) : Prop := (blkAt W w.heap.size = A ∧ W.cell? ⟨w.heap.size, 1, none⟩ = some (.int .u8 x) ∧ w.heap.size < W.heap.size ∧ Below w.heap.size w W) ∧ (blkAt W ga = B ∧ ga < W.heap.size) ∧ (blkAt W gb = C ∧ gb < W.heap.size)
theorem T2.below {w : World} {A : Array Value} {x : Int} {ga : Nat} {B : Array Value} {gb : Nat} {C : Array Value} {W W' : World} (h : T2 w A x ga B gb C W) (hb : Below W.heap.size W W') : T2 w A x ga B gb C W' := ⟨T0.below h.1 hb, TB.below h.2.1 hb, TB.below h.2.2 hb⟩
set_option maxRecDepth 100000 in
set_option maxHeartbeats 4000000 in
theorem back_core (f : Nat → Int) (h : RB f) (n v k : Int) (v0 : 0 ≤ v) (v1 : v < 65536) (k0 : 0 ≤ k) (k1 : k < 7) (hn : (n.tmod 7 = k) ∨ (n.tmod 7 = k - 7)) (w : World) : Calls Try.prog 5 #[.agg (R f), .int .i64 n, .int .u16 v] w fun e w' => e = .returned (.bool true) ∧ Below w.heap.size w w' := by
  have gB : RB (setV f k v) := setV_rb2 h k v v0 v1
  have gp := pairV_bd h k
  have x0 := (h.u8 1 (by omega)).1
  have x1 := (h.u8 1 (by omega)).2
  have hs := fun W => setPair_any f h k v v0 v1 W
  have hp := fun W => pair_any _ gB k W
  rw [pair_set f k v k0 k1 v0 v1] at hp
  have hp2 := fun W => pair_any f h k W
  have hs2 := fun W => setPair_any _ gB k (pairV f k) gp.1 gp.2 W
  rw [set_back h k v k0 k1] at hs2
  have g1 : RB (swF f true 8) := swF_rb h true 8
  have g2 : RB (swF (swF f true 8) false 8) := swF_rb g1 false 8
  have w1 := fun W => swap_any f h true W
  have w2 := fun W => swap_any _ g1 false W
  have w3 := fun W => swap_any _ g2 false W
  rw [swR_twice] at w3
  have w4 := fun W => swap_any _ g1 true W
  rw [swR_twice] at w4
  have hm1 := fun W => met_any (f 1) (2 * k) x0 x1 W
  have hm2 := fun W => met_any (f 1) (2 * k + 1) x0 x1 W
  rw [met_two _ _ k0 k1] at hm1
  have hq := eqR f h
  have c1 := R_get f 1 (by omega)
  change (R f)[1]? = some (.int .u8 (f 1)) at c1
  have sA : BlkN (R f) 29 := R_size _
  have sB : BlkN (R (setV f k v)) 29 := R_size _
  have oB : BlkOne (R (setV f k v)) := R_one _
  have sC : BlkN (R (swF (swF f true 8) false 8)) 29 := R_size _
  have oC : BlkOne (R (swF (swF f true 8) false 8)) := R_one _
  have zn := zN
  unfold Z29 at zn
  generalize pairV f k = q at *
  generalize metV (f 1) ((2 * k + 1) % 8) = b at *
  generalize R (swF (swF f true 8) false 8) = C at *
  generalize R (swF f true 8) = D at *
  generalize R (setV f k v) = B at *
  generalize R f = A at *
  generalize f 1 = x at *
  clear g1 g2 gB gp h
  have HA := Lib.hid (heldU (T := T0 w A x) (fun W W' h b => h.below b) alive_any)
  have HS := Lib.hid (heldU (T := T0 w A x) (fun W W' h b => h.below b) (belowOf2 hs))
  have W1 := Lib.hid (fun ga => heldU (T := T1 w A x ga B) (fun W W' h b => h.below b) w1)
  have W2 := Lib.hid (fun ga => heldU (T := T1 w A x ga B) (fun W W' h b => h.below b) w2)
  have HP_ := Lib.hid (fun ga gb => heldU (T := T2 w A x ga B gb C) (fun W W' h b => h.below b) (belowOf1 hp))
  have HPB := Lib.hid (fun ga gb => heldU (T := T2 w A x ga B gb C) (fun W W' h b => h.below b) (belowOf1 hp2))
  have HSB := Lib.hid (fun ga gb => heldU (T := T2 w A x ga B gb C) (fun W W' h b => h.below b) (belowOf2 hs2))
  have W3 := Lib.hid (fun ga gb => heldU (T := T2 w A x ga B gb C) (fun W W' h b => h.below b) w3)
  have W4 := Lib.hid (fun ga gb => heldU (T := T2 w A x ga B gb C) (fun W W' h b => h.below b) w4)
  have M1 := Lib.hid (fun ga gb => heldU (T := T2 w A x ga B gb C) (fun W W' h b => h.below b) (belowOf1 hm1))
  have M2 := Lib.hid (fun ga gb => heldU (T := T2 w A x ga B gb C) (fun W W' h b => h.below b) (belowOf1 hm2))
  have m2 : IntKind.i64.wrap (2 * k) = 2 * k := by rw [IntKind.wrap_i64]; omega
  have m3 : IntKind.i64.wrap (2 * k + 1) = 2 * k + 1 := by rw [IntKind.wrap_i64]; omega
  clear hs w1 w2 hp hp2 hs2 w3 w4 hm1 hm2
  have nk : ¬ (k < 0) := by omega
  have nk7 : k - 7 < 0 := by omega
  have ek : k - 7 + 7 = k := by omega
  rcases hn with hn | hn
  all_goals
    go_enter Try.func5, Try.ntmps5
    go_wp2_with (first | (go_at_call 9; (with_reducible refine (HA.out _ ?_).mono ?_); (unfold T0; exact ⟨by first | assumption | (simp [*]; done) | (go_simp; done), by first | assumption | go_keep | (go_simp; done), by first | assumption | (simp; done) | (simp; omega) | omega, by first | assumption | (exact Below.drew (by assumption)) | (exact below_blkPut (by assumption) (by omega) _) | go_grown⟩); rintro e w' ⟨rfl, k0, k1, k2, k3⟩) | (go_at_call 20; (with_reducible refine (HS.out _ ?_).mono ?_); (unfold T0; exact ⟨by first | assumption | (simp [*]; done) | (go_simp; done), by first | assumption | go_keep | (go_simp; done), by first | assumption | (simp; done) | (simp; omega) | omega, by first | assumption | (exact Below.drew (by assumption)) | (exact below_blkPut (by assumption) (by omega) _) | go_grown⟩); clear k0 k1 k2 k3; rintro e wA ⟨rfl, k0, k1, k2, k3⟩; (have nA : ¬ (w.heap.size = wA.heap.size) := by omega)))
    refine (W1.out wA.heap.size _ ?_).mono ?_
    · (unfold T1; exact ⟨⟨by first | assumption | (simp [*]; done) | (go_simp; done), by first | assumption | go_keep | (go_simp; done), by first | assumption | (simp; done) | (simp; omega) | omega, by first | assumption | (exact Below.drew (by assumption)) | (exact below_blkPut (by assumption) (by omega) _) | go_grown⟩, ⟨by first | assumption | (simp [*]; done) | (go_simp; done), by first | assumption | (simp; done) | (simp; omega) | omega⟩⟩)
    rintro e wB ⟨rfl, ⟨j0, j1, j2, j3⟩, j4, j5⟩
    clear k0 k1 k2 k3
    go_wp2_with fail
    refine (W2.out wA.heap.size _ ?_).mono ?_
    · (unfold T1; exact ⟨⟨by first | assumption | (simp [*]; done) | (go_simp; done), by first | assumption | go_keep | (go_simp; done), by first | assumption | (simp; done) | (simp; omega) | omega, by first | assumption | (exact Below.drew (by assumption)) | (exact below_blkPut (by assumption) (by omega) _) | go_grown⟩, ⟨by first | assumption | (simp [*]; done) | (go_simp; done), by first | assumption | (simp; done) | (simp; omega) | omega⟩⟩)
    rintro e wC ⟨rfl, ⟨k0, k1, k2, k3⟩, k4, k5⟩
    clear j0 j1 j2 j3 j4 j5
    have nC : ¬ (w.heap.size = wC.heap.size) := by omega
    have nD : ¬ (wA.heap.size = wC.heap.size) := by omega
    go_wp2_with fail
    have hT : T2 w A x wA.heap.size B wC.heap.size C (wC.alloc (.cells C 25)) := by
      (unfold T2; exact ⟨⟨by first | assumption | (simp [*]; done) | (go_simp; done), by first | assumption | go_keep | (go_simp; done), by first | assumption | (simp; done) | (simp; omega) | omega, by first | assumption | (exact Below.drew (by assumption)) | (exact below_blkPut (by assumption) (by omega) _) | go_grown⟩, ⟨by first | assumption | (simp [*]; done) | (go_simp; done), by first | assumption | (simp; done) | (simp; omega) | omega⟩, ⟨by first | assumption | (simp [*]; done) | (go_simp; done), by first | assumption | (simp; done) | (simp; omega) | omega⟩⟩)
    obtain ⟨ga, hga⟩ : ∃ g, wA.heap.size = g := ⟨_, rfl⟩
    obtain ⟨gb, hgb⟩ : ∃ g, wC.heap.size = g := ⟨_, rfl⟩
    rw [hga, hgb] at hT
    rw [hga, hgb]
    clear k0 k1 k2 k3 k4 k5
    generalize wC.alloc (.cells C 25) = wD at *
    obtain ⟨⟨k0, k1, k2, k3⟩, ⟨k4, k5⟩, k6, k7⟩ := hT
    rw [hga] at nA nD
    rw [hgb] at nC nD
    go_region_held3 (fun w' => (blkAt w' w.heap.size = A ∧ w'.cell? ⟨w.heap.size, 1, none⟩ = some (.int .u8 x) ∧ w.heap.size < w'.heap.size ∧ Below w.heap.size w w') ∧ (blkAt w' ga = B ∧ ga < w'.heap.size) ∧ (blkAt w' gb = C ∧ gb < w'.heap.size)) (first | assumption | (exact ⟨⟨by first | assumption | (simp [*]; done) | (go_simp; done), by first | assumption | go_keep | (go_simp; done), by first | assumption | (simp; done) | (simp; omega) | omega, by first | assumption | (exact Below.drew (by assumption)) | (exact below_blkPut (by assumption) (by omega) _) | go_grown⟩, ⟨by first | assumption | (simp [*]; done) | (go_simp; done), by first | assumption | (simp; done) | (simp; omega) | omega⟩, ⟨by first | assumption | (simp [*]; done) | (go_simp; done), by first | assumption | (simp; done) | (simp; omega) | omega⟩⟩)) (first | (go_at_call 13; (with_reducible refine (HP_.out ga gb _ ?_).mono ?_); (unfold T2; exact ⟨⟨by first | assumption | (simp [*]; done) | (go_simp; done), by first | assumption | go_keep | (go_simp; done), by first | assumption | (simp; done) | (simp; omega) | omega, by first | assumption | (exact Below.drew (by assumption)) | (exact below_blkPut (by assumption) (by omega) _) | go_grown⟩, ⟨by first | assumption | (simp [*]; done) | (go_simp; done), by first | assumption | (simp; done) | (simp; omega) | omega⟩, ⟨by first | assumption | (simp [*]; done) | (go_simp; done), by first | assumption | (simp; done) | (simp; omega) | omega⟩⟩); rintro e w' ⟨rfl, ⟨y0, y1, y2, y3⟩, ⟨y4, y5⟩, y6, y7⟩) | (go_at_call 13; (with_reducible refine (HPB.out ga gb _ ?_).mono ?_); (unfold T2; exact ⟨⟨by first | assumption | (simp [*]; done) | (go_simp; done), by first | assumption | go_keep | (go_simp; done), by first | assumption | (simp; done) | (simp; omega) | omega, by first | assumption | (exact Below.drew (by assumption)) | (exact below_blkPut (by assumption) (by omega) _) | go_grown⟩, ⟨by first | assumption | (simp [*]; done) | (go_simp; done), by first | assumption | (simp; done) | (simp; omega) | omega⟩, ⟨by first | assumption | (simp [*]; done) | (go_simp; done), by first | assumption | (simp; done) | (simp; omega) | omega⟩⟩); rintro e w' ⟨rfl, ⟨y0, y1, y2, y3⟩, ⟨y4, y5⟩, y6, y7⟩) | (go_at_call 20; (with_reducible refine (HSB.out ga gb _ ?_).mono ?_); (unfold T2; exact ⟨⟨by first | assumption | (simp [*]; done) | (go_simp; done), by first | assumption | go_keep | (go_simp; done), by first | assumption | (simp; done) | (simp; omega) | omega, by first | assumption | (exact Below.drew (by assumption)) | (exact below_blkPut (by assumption) (by omega) _) | go_grown⟩, ⟨by first | assumption | (simp [*]; done) | (go_simp; done), by first | assumption | (simp; done) | (simp; omega) | omega⟩, ⟨by first | assumption | (simp [*]; done) | (go_simp; done), by first | assumption | (simp; done) | (simp; omega) | omega⟩⟩); rintro e w' ⟨rfl, ⟨y0, y1, y2, y3⟩, ⟨y4, y5⟩, y6, y7⟩) | (go_at_call 21; (with_reducible refine (W3.out ga gb _ ?_).mono ?_); (unfold T2; exact ⟨⟨by first | assumption | (simp [*]; done) | (go_simp; done), by first | assumption | go_keep | (go_simp; done), by first | assumption | (simp; done) | (simp; omega) | omega, by first | assumption | (exact Below.drew (by assumption)) | (exact below_blkPut (by assumption) (by omega) _) | go_grown⟩, ⟨by first | assumption | (simp [*]; done) | (go_simp; done), by first | assumption | (simp; done) | (simp; omega) | omega⟩, ⟨by first | assumption | (simp [*]; done) | (go_simp; done), by first | assumption | (simp; done) | (simp; omega) | omega⟩⟩); rintro e w' ⟨rfl, ⟨y0, y1, y2, y3⟩, ⟨y4, y5⟩, y6, y7⟩) | (go_at_call 21; (with_reducible refine (W4.out ga gb _ ?_).mono ?_); (unfold T2; exact ⟨⟨by first | assumption | (simp [*]; done) | (go_simp; done), by first | assumption | go_keep | (go_simp; done), by first | assumption | (simp; done) | (simp; omega) | omega, by first | assumption | (exact Below.drew (by assumption)) | (exact below_blkPut (by assumption) (by omega) _) | go_grown⟩, ⟨by first | assumption | (simp [*]; done) | (go_simp; done), by first | assumption | (simp; done) | (simp; omega) | omega⟩, ⟨by first | assumption | (simp [*]; done) | (go_simp; done), by first | assumption | (simp; done) | (simp; omega) | omega⟩⟩); rintro e w' ⟨rfl, ⟨y0, y1, y2, y3⟩, ⟨y4, y5⟩, y6, y7⟩) | (go_at_call 22; (with_reducible refine (M1.out ga gb _ ?_).mono ?_); (unfold T2; exact ⟨⟨by first | assumption | (simp [*]; done) | (go_simp; done), by first | assumption | go_keep | (go_simp; done), by first | assumption | (simp; done) | (simp; omega) | omega, by first | assumption | (exact Below.drew (by assumption)) | (exact below_blkPut (by assumption) (by omega) _) | go_grown⟩, ⟨by first | assumption | (simp [*]; done) | (go_simp; done), by first | assumption | (simp; done) | (simp; omega) | omega⟩, ⟨by first | assumption | (simp [*]; done) | (go_simp; done), by first | assumption | (simp; done) | (simp; omega) | omega⟩⟩); rintro e w' ⟨rfl, ⟨y0, y1, y2, y3⟩, ⟨y4, y5⟩, y6, y7⟩) | (go_at_call 22; (with_reducible refine (M2.out ga gb _ ?_).mono ?_); (unfold T2; exact ⟨⟨by first | assumption | (simp [*]; done) | (go_simp; done), by first | assumption | go_keep | (go_simp; done), by first | assumption | (simp; done) | (simp; omega) | omega, by first | assumption | (exact Below.drew (by assumption)) | (exact below_blkPut (by assumption) (by omega) _) | go_grown⟩, ⟨by first | assumption | (simp [*]; done) | (go_simp; done), by first | assumption | (simp; done) | (simp; omega) | omega⟩, ⟨by first | assumption | (simp [*]; done) | (go_simp; done), by first | assumption | (simp; done) | (simp; omega) | omega⟩⟩); rintro e w' ⟨rfl, ⟨y0, y1, y2, y3⟩, ⟨y4, y5⟩, y6, y7⟩))
    all_goals
      go_wp2_with fail
      go_ret
      exact ⟨ret_bool (by simp), by first | assumption | go_grown⟩
set_option maxRecDepth 100000 in
set_option maxHeartbeats 4000000 in
theorem back_all (f : Nat → Int) (h : RB f) (n v : Int) (v0 : 0 ≤ v) (v1 : v < 65536) (w : World) : Calls Try.prog 5 #[.agg (R f), .int .i64 n, .int .u16 v] w fun e w' => e = .returned (.bool true) ∧ Below w.heap.size w w' := by
  have hk : 0 ≤ n % 7 ∧ n % 7 < 7 := by omega
  refine back_core f h n v (n % 7) v0 v1 hk.1 hk.2 ?_ w
  rcases Int.lt_or_le n 0 with hn | hn
  · by_cases h0 : n % 7 = 0
    · left
      rw [show n = -(-n) by omega, Int.neg_tmod, Int.tmod_eq_emod_of_nonneg (by omega)]
      omega
    · right
      rw [show n = -(-n) by omega, Int.neg_tmod, Int.tmod_eq_emod_of_nonneg (by omega)]
      omega
  · left; exact Int.tmod_eq_emod_of_nonneg hn
set_option maxRecDepth 100000 in
set_option maxHeartbeats 4000000 in
theorem regsBack_walk (a0_0 a0_1 a0_2 a0_3 a0_4 a0_5 a0_6 a0_7 a0_8 a0_9 a0_10 a0_11 a0_12 a0_13 a0_14 a0_15 a0_16 a0_17 a0_18 a0_19 a0_20 a0_21 a0_22 a0_23 a0_24 : Int) (a0_25 a0_26 a0_27 a0_28 : Bool) (n v : Int) (w0_0 : (Lit.int .u8 a0_0).wf = true) (w0_1 : (Lit.int .u8 a0_1).wf = true) (w0_2 : (Lit.int .u8 a0_2).wf = true) (w0_3 : (Lit.int .u8 a0_3).wf = true) (w0_4 : (Lit.int .u8 a0_4).wf = true) (w0_5 : (Lit.int .u8 a0_5).wf = true) (w0_6 : (Lit.int .u8 a0_6).wf = true) (w0_7 : (Lit.int .u8 a0_7).wf = true) (w0_8 : (Lit.int .u8 a0_8).wf = true) (w0_9 : (Lit.int .u8 a0_9).wf = true) (w0_10 : (Lit.int .u8 a0_10).wf = true) (w0_11 : (Lit.int .u8 a0_11).wf = true) (w0_12 : (Lit.int .u8 a0_12).wf = true) (w0_13 : (Lit.int .u8 a0_13).wf = true) (w0_14 : (Lit.int .u8 a0_14).wf = true) (w0_15 : (Lit.int .u8 a0_15).wf = true) (w0_16 : (Lit.int .u16 a0_16).wf = true) (w0_17 : (Lit.int .u16 a0_17).wf = true) (w0_18 : (Lit.int .u16 a0_18).wf = true) (w0_19 : (Lit.int .u16 a0_19).wf = true) (w0_20 : (Lit.int .u16 a0_20).wf = true) (w0_21 : (Lit.int .u8 a0_21).wf = true) (w0_22 : (Lit.int .u8 a0_22).wf = true) (w0_23 : (Lit.int .u8 a0_23).wf = true) (w0_24 : (Lit.int .u8 a0_24).wf = true) (w1 : (Lit.int .i64 n).wf = true) (w2 : (Lit.int .u16 v).wf = true) (w : World) : Calls Try.prog 5 #[.agg #[.int .u8 a0_0, .int .u8 a0_1, .int .u8 a0_2, .int .u8 a0_3, .int .u8 a0_4, .int .u8 a0_5, .int .u8 a0_6, .int .u8 a0_7, .int .u8 a0_8, .int .u8 a0_9, .int .u8 a0_10, .int .u8 a0_11, .int .u8 a0_12, .int .u8 a0_13, .int .u8 a0_14, .int .u8 a0_15, .int .u16 a0_16, .int .u16 a0_17, .int .u16 a0_18, .int .u16 a0_19, .int .u16 a0_20, .int .u8 a0_21, .int .u8 a0_22, .int .u8 a0_23, .int .u8 a0_24, .bool a0_25, .bool a0_26, .bool a0_27, .bool a0_28], .int .i64 n, .int .u16 v] w fun e w' => e = .returned (.bool true) ∧ Below w.heap.size w w' := by
  rw [show (#[.int .u8 a0_0, .int .u8 a0_1, .int .u8 a0_2, .int .u8 a0_3, .int .u8 a0_4, .int .u8 a0_5, .int .u8 a0_6, .int .u8 a0_7, .int .u8 a0_8, .int .u8 a0_9, .int .u8 a0_10, .int .u8 a0_11, .int .u8 a0_12, .int .u8 a0_13, .int .u8 a0_14, .int .u8 a0_15, .int .u16 a0_16, .int .u16 a0_17, .int .u16 a0_18, .int .u16 a0_19, .int .u16 a0_20, .int .u8 a0_21, .int .u8 a0_22, .int .u8 a0_23, .int .u8 a0_24, .bool a0_25, .bool a0_26, .bool a0_27, .bool a0_28] : Array Value) = R (fOf [a0_0, a0_1, a0_2, a0_3, a0_4, a0_5, a0_6, a0_7, a0_8, a0_9, a0_10, a0_11, a0_12, a0_13, a0_14, a0_15, a0_16, a0_17, a0_18, a0_19, a0_20, a0_21, a0_22, a0_23, a0_24, cz a0_25, cz a0_26, cz a0_27, cz a0_28]) from regs_eq a0_0 a0_1 a0_2 a0_3 a0_4 a0_5 a0_6 a0_7 a0_8 a0_9 a0_10 a0_11 a0_12 a0_13 a0_14 a0_15 a0_16 a0_17 a0_18 a0_19 a0_20 a0_21 a0_22 a0_23 a0_24 a0_25 a0_26 a0_27 a0_28]
  exact back_all _ (regs_rb a0_0 a0_1 a0_2 a0_3 a0_4 a0_5 a0_6 a0_7 a0_8 a0_9 a0_10 a0_11 a0_12 a0_13 a0_14 a0_15 a0_16 a0_17 a0_18 a0_19 a0_20 a0_21 a0_22 a0_23 a0_24 a0_25 a0_26 a0_27 a0_28 w0_0 w0_1 w0_2 w0_3 w0_4 w0_5 w0_6 w0_7 w0_8 w0_9 w0_10 w0_11 w0_12 w0_13 w0_14 w0_15 w0_16 w0_17 w0_18 w0_19 w0_20 w0_21 w0_22 w0_23 w0_24) n v (wf_u16 w2).1 (wf_u16 w2).2 w
end Regs
end Go.Proofs.Ythghpgnnbdimaaa
