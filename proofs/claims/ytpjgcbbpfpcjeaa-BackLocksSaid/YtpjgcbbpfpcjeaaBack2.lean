/- A line of the ground of a picture (layer 17): what the program's and the reference's functions do, part 2. No conditions but that numbers are of their kinds and slices are slices. -/
import Derived.Test.YtpjgcbbpfpcjeaaBack
import Derived.RegionTactic
import Derived.LoopTactic
import Derived.Deep.RegionHeld3
import Derived.Lib.Hide
namespace Go.Proofs.Ytpjgcbbpfpcjeaa
open Go.RowKit
open Kit Tile TileR
set_option linter.unusedSimpArgs false
set_option linter.unusedVariables false
attribute [local simp] blkAt_alloc blkNew_cells putRow_cells blkAt_drew BlkN.set BlkOne.setInt BlkOne.setBool blkPut_alloc blkPut_drew blkAt_blkPut_other size_blkPut nq2 nq3 nq4 nq5 nq6 nq7 nq8
namespace Back
attribute [local simp ↓] rl_in
attribute [local simp] rl_run
theorem heldP {P : Program} {n : Nat} {args : Array Value} {r : Value} {T : World → Prop} (hT : ∀ W W', T W → Below W.heap.size W W' → T W') (h : ∀ W, Calls P n args W fun e w' => e = .returned r ∧ Below W.heap.size W w') (W : World) (hW : T W) : Calls P n args W fun e w' => e = .returned r ∧ T w' :=
  (h W).mono fun e w' ⟨e1, e2⟩ => ⟨e1, hT _ _ hW e2⟩
/-- The registers' block, and the memory. -/
def LS (w : World) (A : Array Value) (v : Value) (zs : List Int) (W : World) : Prop := W.heap[w.heap.size]? = some (.cells A 24) ∧ Bytes W v zs ∧ Below w.heap.size w W
theorem LS.below {w : World} {A : Array Value} {v : Value} {zs : List Int} {W W' : World} (h : LS w A v zs W) (hb : Below W.heap.size W W') : LS w A v zs W' := ⟨(hb.block _ (heap_lt h.1)).trans h.1, h.2.1.below hb, h.2.2.trans (hb.mono h.2.2.size)⟩
theorem LS.start {w : World} (A : Array Value) {v : Value} {zs : List Int} (h : Bytes w v zs) : LS w A v zs (w.alloc (.cells A 24)) := ⟨heap_at _ _ _ rfl, h.alloc _, (Below.refl _ _).alloc (Nat.le_refl _) _⟩
theorem colV_bd (r : Nat → Int) (line x : Int) : 0 ≤ colV r line x ∧ colV r line x < 256 := by unfold colV; split <;> omega
theorem rowV_bd (r : Nat → Int) (line x : Int) (l0 : 0 ≤ line) (l1 : line < 192) : 0 ≤ rowV r line x ∧ rowV r line x < 224 := by unfold rowV; split <;> omega
def baseV (r : Nat → Int) : Int := 1024 * (r 2 / 2 % 8 * 2)
def tnV (zs : List Int) (r : Nat → Int) (ro co : Int) : Int := enN zs (baseV r) (ro / 8) (co / 8)
def hwV (zs : List Int) (r : Nat → Int) (ro co : Int) : Int := enH zs (baseV r) (ro / 8) (co / 8)
def drV (h ro : Int) : Int := if h / 2 % 2 = 1 then 7 - ro % 8 else ro % 8
def dkV (h co : Int) : Nat := posK (h % 2 == 1) (co % 8).toNat
def dotI (zs : List Int) (r : Nat → Int) (ro co : Int) : Int := dotV zs (tnV zs r ro co) (drV (hwV zs r ro co) ro) (dkV (hwV zs r ro co) co)
def colI (zs : List Int) (r : Nat → Int) (ro co : Int) : Int := dotI zs r ro co + 16 * (hwV zs r ro co / 4 % 2)
def frontI (zs : List Int) (r : Nat → Int) (ro co : Int) : Bool := hwV zs r ro co / 8 == 1 && decide (0 < dotI zs r ro co)
theorem hw_bd (zs : List Int) (r : Nat → Int) (ro co : Int) : 0 ≤ hwV zs r ro co ∧ hwV zs r ro co < 16 := by unfold hwV enH; omega
theorem tn_bd (zs : List Int) (r : Nat → Int) (ro co : Int) : 0 ≤ tnV zs r ro co ∧ tnV zs r ro co < 512 := by unfold tnV enN; omega
set_option maxRecDepth 100000 in
set_option maxHeartbeats 4000000 in
theorem rdot_no (r : Nat → Int) (v : Value) (line x : Int) (h : line < 0 ∨ 192 ≤ line) (w : World) : Calls Try.prog 12 #[v, .agg (R r), .int .i64 line, .int .i64 x] w fun e w' => e = .returned (.tuple #[.int .u8 0, .bool false]) ∧ Below w.heap.size w w' := by
  generalize R r = A at *
  rcases h with h | h
  · go_enter Try.func12, Try.ntmps12
    go_wp2_with fail
    go_ret2
    exact ⟨rfl, by go_grown⟩
  · have h1 : ¬ line < 0 := by omega
    have h2 : 191 < line := by omega
    go_enter Try.func12, Try.ntmps12
    go_wp2_with fail
    go_ret2
    exact ⟨rfl, by go_grown⟩
set_option maxRecDepth 100000 in
set_option maxHeartbeats 4000000 in
theorem rdot_yes (r : Nat → Int) (h : RB r) (v : Value) (zs : List Int) (line x : Int) (l0 : 0 ≤ line) (l1 : line < 192) (x0 : -9223372036854775808 ≤ x) (x1 : x ≤ 9223372036854775807) (w : World) (hs : Bytes w v zs) : Calls Try.prog 12 #[v, .agg (R r), .int .i64 line, .int .i64 x] w fun e w' => e = .returned (.tuple #[.int .u8 (colI zs r (rowV r line x) (colV r line x)), .bool (frontI zs r (rowV r line x) (colV r line x))]) ∧ Below w.heap.size w w' := by
  have hsrc := rsource_yes r h line x l0 l1 x0 x1
  have c2 := R_get r 2 (by omega)
  have sA : BlkN (R r) 11 := R_size _
  obtain ⟨s0, s1⟩ := h 2 (by omega)
  obtain ⟨co0, co1⟩ := colV_bd r line x
  obtain ⟨ro0, ro1⟩ := rowV_bd r line x l0 l1
  generalize colV r line x = co at *
  generalize rowV r line x = ro at *
  have hent := fun W hW => rentry_any v zs (baseV r) (ro / 8) (co / 8) W hW
  change ∀ W, Bytes W v zs → Calls Try.prog 16 #[v, .int .i64 (baseV r), .int .i64 (ro / 8), .int .i64 (co / 8)] W fun e w' => e = .returned (.tuple #[.int .i64 (tnV zs r ro co), .int .u8 (hwV zs r ro co)]) ∧ W = w' at hent
  obtain ⟨t0, t1⟩ := tn_bd zs r ro co
  obtain ⟨w0, w1⟩ := hw_bd zs r ro co
  unfold colI frontI dotI
  generalize tnV zs r ro co = tn at *
  generalize hwV zs r ro co = hw at *
  have hbase : baseV r = 1024 * (r 2 / 2 % 8 * 2) := rfl
  rw [hbase] at hent
  have b0 : 0 ≤ r 2 / 2 := by omega
  have b1 : 0 ≤ r 2 / 2 % 8 := by omega
  have b2 : r 2 / 2 % 8 < 8 := by omega
  have b3 : 0 ≤ r 2 / 2 % 8 * 2 := by omega
  have b4 : r 2 / 2 % 8 * 2 < 16 := by omega
  clear hbase h
  have p0 : 0 ≤ ro % 8 := by omega
  have p1 : ro % 8 < 8 := by omega
  have p2 : 0 ≤ co % 8 := by omega
  have p3 : co % 8 < 8 := by omega
  obtain ⟨j, hj⟩ := Int.eq_ofNat_of_zero_le p2
  have hj8 : j < 8 := by omega
  have hdot := fun (rr : Int) (i : Nat) (hi : i < 8) W hW => rdot_any v zs tn rr i hi W hW
  have hdk : dkV hw co = posK (hw % 2 == 1) j := by unfold dkV; rw [hj]; rfl
  have h20 : hw / 2 % 2 = 1 ∨ hw / 2 % 2 = 0 := by omega
  have h10 : hw % 2 = 1 ∨ hw % 2 = 0 := by omega
  have h80 : hw / 8 = 1 ∨ hw / 8 = 0 := by omega
  have u1 : 0 ≤ hw / 2 := by omega
  have u2 : 0 ≤ hw / 4 := by omega
  have u3 : 0 ≤ hw / 4 % 2 := by omega
  have u4 : hw / 4 % 2 < 2 := by omega
  have dbd := fun (rr : Int) (k : Nat) => dotV_bd zs tn rr k
  have HSRC := Lib.hid (heldP (T := LS w (R r) v zs) (fun W W' h b => h.below b) hsrc)
  generalize R r = A at *
  have HENT := Lib.hid hent
  have HDOT := Lib.hid hdot
  have HLS := Lib.hid (LS.start A hs)
  have HC2 := Lib.hid c2
  have HDBD := Lib.hid dbd
  clear hsrc hent hdot c2 dbd
  rw [hdk]
  unfold drV
  rcases h20 with h20 | h20
  · rcases h10 with h10 | h10
    · have hd := HDOT.out (7 - ro % 8) (7 - j) (by omega)
      rw [show 7 - (7 - j) = j by omega, show (((7 - j : Nat)) : Int) = 7 - (j : Int) by omega] at hd
      rw [h10, show ((1 : Int) == 1) = true from rfl, show posK true j = j from rfl]
      rw [if_pos h20]
      have bd := HDBD.out (7 - ro % 8) j
      generalize dotV zs tn (7 - ro % 8) j = d at *
      obtain ⟨d0, d1⟩ := bd
      have HD := Lib.hid hd
      clear hd
      rcases h80 with h80 | h80
      all_goals
        go_enter Try.func12, Try.ntmps12
        go_wp2_with (first | (go_at_call 13; (with_reducible refine (HSRC.out _ HLS.out).mono ?_); rintro e wq ⟨rfl, ks⟩; (have cq := (cell_of _ _ 2 ks.1).trans HC2.out); (have kb := ks.2.1)) | (go_at_call 16; (with_reducible refine (HENT.out _ kb).mono ?_); rintro e wx ⟨rfl, rfl⟩) | (go_at_call 17; (with_reducible refine (HD.out _ kb).mono ?_); rintro e wy ⟨rfl, rfl⟩))
        go_ret2
        exact ⟨by simp [h80], ks.2.2⟩
    · have hd := HDOT.out (7 - ro % 8) j (by omega)
      rw [h10, show ((0 : Int) == 1) = false from rfl, show posK false j = 7 - j from rfl]
      rw [if_pos h20]
      have bd := HDBD.out (7 - ro % 8) (7 - j)
      generalize dotV zs tn (7 - ro % 8) (7 - j) = d at *
      obtain ⟨d0, d1⟩ := bd
      have HD := Lib.hid hd
      clear hd
      rcases h80 with h80 | h80
      all_goals
        go_enter Try.func12, Try.ntmps12
        go_wp2_with (first | (go_at_call 13; (with_reducible refine (HSRC.out _ HLS.out).mono ?_); rintro e wq ⟨rfl, ks⟩; (have cq := (cell_of _ _ 2 ks.1).trans HC2.out); (have kb := ks.2.1)) | (go_at_call 16; (with_reducible refine (HENT.out _ kb).mono ?_); rintro e wx ⟨rfl, rfl⟩) | (go_at_call 17; (with_reducible refine (HD.out _ kb).mono ?_); rintro e wy ⟨rfl, rfl⟩))
        go_ret2
        exact ⟨by simp [h80], ks.2.2⟩
  · rcases h10 with h10 | h10
    · have hd := HDOT.out (ro % 8) (7 - j) (by omega)
      rw [show 7 - (7 - j) = j by omega, show (((7 - j : Nat)) : Int) = 7 - (j : Int) by omega] at hd
      rw [h10, show ((1 : Int) == 1) = true from rfl, show posK true j = j from rfl]
      rw [if_neg (by rw [h20]; decide)]
      have bd := HDBD.out (ro % 8) j
      generalize dotV zs tn (ro % 8) j = d at *
      obtain ⟨d0, d1⟩ := bd
      have HD := Lib.hid hd
      clear hd
      rcases h80 with h80 | h80
      all_goals
        go_enter Try.func12, Try.ntmps12
        go_wp2_with (first | (go_at_call 13; (with_reducible refine (HSRC.out _ HLS.out).mono ?_); rintro e wq ⟨rfl, ks⟩; (have cq := (cell_of _ _ 2 ks.1).trans HC2.out); (have kb := ks.2.1)) | (go_at_call 16; (with_reducible refine (HENT.out _ kb).mono ?_); rintro e wx ⟨rfl, rfl⟩) | (go_at_call 17; (with_reducible refine (HD.out _ kb).mono ?_); rintro e wy ⟨rfl, rfl⟩))
        go_ret2
        exact ⟨by simp [h80], ks.2.2⟩
    · have hd := HDOT.out (ro % 8) j (by omega)
      rw [h10, show ((0 : Int) == 1) = false from rfl, show posK false j = 7 - j from rfl]
      rw [if_neg (by rw [h20]; decide)]
      have bd := HDBD.out (ro % 8) (7 - j)
      generalize dotV zs tn (ro % 8) (7 - j) = d at *
      obtain ⟨d0, d1⟩ := bd
      have HD := Lib.hid hd
      clear hd
      rcases h80 with h80 | h80
      all_goals
        go_enter Try.func12, Try.ntmps12
        go_wp2_with (first | (go_at_call 13; (with_reducible refine (HSRC.out _ HLS.out).mono ?_); rintro e wq ⟨rfl, ks⟩; (have cq := (cell_of _ _ 2 ks.1).trans HC2.out); (have kb := ks.2.1)) | (go_at_call 16; (with_reducible refine (HENT.out _ kb).mono ?_); rintro e wx ⟨rfl, rfl⟩) | (go_at_call 17; (with_reducible refine (HD.out _ kb).mono ?_); rintro e wy ⟨rfl, rfl⟩))
        go_ret2
        exact ⟨by simp [h80], ks.2.2⟩
end Back
end Go.Proofs.Ytpjgcbbpfpcjeaa
