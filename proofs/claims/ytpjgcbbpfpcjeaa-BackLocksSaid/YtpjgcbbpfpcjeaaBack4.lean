/- A line of the ground of a picture (layer 17): what the program's and the reference's functions do, part 4. No conditions but that numbers are of their kinds and slices are slices. -/
import Derived.Test.YtpjgcbbpfpcjeaaBack3
import Derived.RegionTactic
import Derived.LoopTactic
import Derived.Deep.RegionHeld3
import Derived.Lib.Hide
namespace Go.Proofs.Ytpjgcbbpfpcjeaa
open Go.RowKit
open Kit Tile TileR
set_option linter.unusedSimpArgs false
set_option linter.unusedVariables false
attribute [local simp] blkAt_alloc blkNew_cells putRow_cells blkAt_drew BlkN.set BlkOne.setInt BlkOne.setBool blkPut_alloc blkPut_drew blkAt_blkPut_other size_blkPut nq2 nq3 nq4 nq5 nq6 nq7 nq8
namespace Back
attribute [local simp ↓] rl_in
attribute [local simp] rl_run
attribute [local simp ↓] gl_in gs_in ds_in ag_in
attribute [local simp] gl_run gs_run ds_run ag_run
theorem cell_put_same {w : World} {b n : Nat} {A : Array Value} (h : BlkN (blkAt w b) n) (hn : 0 < n) (j : Nat) : (blkPut w b A).cell? ⟨b, j, none⟩ = A[j]? := by
  obtain ⟨t, ht⟩ := blkAt_some h hn
  exact cell_of _ _ _ (heap_blkPut_same ht A)
/-- The four blocks of a line's work: the registers, the result, the line, the dots. -/
def LG (w : World) (A C D : Array Value) (W : World) : Prop := W.heap[w.heap.size]? = some (.cells A 24) ∧ W.heap[w.heap.size + 1]? = some (.cells Z512 29) ∧ W.heap[w.heap.size + 1 + 1]? = some (.cells C 29) ∧ W.heap[w.heap.size + 1 + 1 + 1]? = some (.cells D 42) ∧ Below w.heap.size w W
theorem LG.below {w : World} {A C D : Array Value} {W W' : World} (h : LG w A C D W) (hb : Below W.heap.size W W') : LG w A C D W' := ⟨(hb.block _ (heap_lt h.1)).trans h.1, (hb.block _ (heap_lt h.2.1)).trans h.2.1, (hb.block _ (heap_lt h.2.2.1)).trans h.2.2.1, (hb.block _ (heap_lt h.2.2.2.1)).trans h.2.2.2.1, h.2.2.2.2.trans (hb.mono h.2.2.2.2.size)⟩
theorem LG.put {w : World} {A C D : Array Value} {W : World} (h : LG w A C D W) (D' : Array Value) : LG w A C D' (blkPut W (w.heap.size + 1 + 1 + 1) D') := by
  refine ⟨?_, ?_, ?_, heap_blkPut_same h.2.2.2.1 D', below_blkPut h.2.2.2.2 (by omega) _⟩
  · rw [heap_blkPut_other _ _ _ _ (by omega)]; exact h.1
  · rw [heap_blkPut_other _ _ _ _ (by omega)]; exact h.2.1
  · rw [heap_blkPut_other _ _ _ _ (by omega)]; exact h.2.2.1
theorem LG.set {w : World} {A C D : Array Value} {W : World} (h : LG w A C D W) (k : Nat) (v : Value) : LG w A (C.setIfInBounds k v) D (W.setCell ⟨w.heap.size + 1 + 1, k, none⟩ v) := by
  refine ⟨?_, ?_, heap_set_same _ _ _ _ h.2.2.1, ?_, h.2.2.2.2.setCell (by simp; omega) _⟩
  · rw [heap_set_other _ _ _ _ _ (by omega)]; exact h.1
  · rw [heap_set_other _ _ _ _ _ (by omega)]; exact h.2.1
  · rw [heap_set_other _ _ _ _ _ (by omega)]; exact h.2.2.2.1
theorem LG.step1 {w : World} {A C D C' : Array Value} {W : World} (h : LG w A C D W) (k : Nat) (x y : Value) (e : (C.setIfInBounds k x).setIfInBounds (256 + k) y = C') : LG w A C' D ((W.setCell ⟨w.heap.size + 1 + 1, k, none⟩ x).setCell ⟨w.heap.size + 1 + 1, 256 + k, none⟩ y) := by
  have q := (h.set k x).set (256 + k) y
  rw [e] at q; exact q
theorem LG.step2 {w : World} {A C D C' : Array Value} {W : World} (h : LG w A C D W) (k : Nat) (z x y : Value) (e : (C.setIfInBounds k x).setIfInBounds (256 + k) y = C') : LG w A C' D (((W.setCell ⟨w.heap.size + 1 + 1, k, none⟩ z).setCell ⟨w.heap.size + 1 + 1, k, none⟩ x).setCell ⟨w.heap.size + 1 + 1, 256 + k, none⟩ y) := by
  have q := ((h.set k z).set k x).set (256 + k) y
  rw [set_twice, e] at q; exact q
def DR (zs : List Int) (r : Nat → Int) (ro co : Int) : Array Value := row 8 fun j => .int .u8 (dotV zs (tnV zs r ro co) (drV (hwV zs r ro co) ro) (posK (hwV zs r ro co % 2 == 1) j))
theorem DR_size (zs : List Int) (r : Nat → Int) (ro co : Int) : BlkN (DR zs r ro co) 8 := row_size _ _
theorem DR_get (zs : List Int) (r : Nat → Int) (ro co : Int) (j : Nat) (hj : (j : Int) = co % 8) : (DR zs r ro co)[j]? = some (.int .u8 (dotI zs r ro co)) := by
  unfold DR; rw [row_get _ _ _ (by omega)]; unfold dotI dkV; rw [← hj]; rfl
theorem hw_same (zs : List Int) (r : Nat → Int) (ro co co' : Int) (h : co / 8 = co' / 8) : hwV zs r ro co = hwV zs r ro co' ∧ DR zs r ro co = DR zs r ro co' := by
  unfold DR tnV hwV; rw [h]; exact ⟨rfl, rfl⟩
/-- What is known of the tile that was looked at last. -/
def Known (zs : List Int) (r : Nat → Int) (kn h : Int) (D : Array Value) : Prop := (kn = -1 ∨ ∃ ro co : Int, 0 ≤ ro ∧ ro < 224 ∧ 0 ≤ co ∧ co < 256 ∧ kn = ro * 256 + co / 8 ∧ h = hwV zs r ro co ∧ D = DR zs r ro co) ∧ BlkN D 8
theorem Known.at {zs : List Int} {r : Nat → Int} {kn h : Int} {D : Array Value} (hK : Known zs r kn h D) (ro co : Int) (r0 : 0 ≤ ro) (r1 : ro < 224) (c0 : 0 ≤ co) (c1 : co < 256) (he : ro * 256 + co / 8 = kn) : h = hwV zs r ro co ∧ D = DR zs r ro co := by
  rcases hK.1 with e | ⟨ro', co', a0, a1, b0, b1, e, rfl, rfl⟩
  · omega
  · have e1 : ro' = ro := by omega
    have e2 : co' / 8 = co / 8 := by omega
    subst e1
    exact hw_same zs r ro' co' co e2
def cF (zs : List Int) (r : Nat → Int) (line : Int) (j : Nat) : Int := colI zs r (rowV r line j) (colV r line j)
def fF (zs : List Int) (r : Nat → Int) (line : Int) (j : Nat) : Bool := frontI zs r (rowV r line j) (colV r line j)
set_option maxRecDepth 100000 in
set_option maxHeartbeats 4000000 in
theorem line_yes (r : Nat → Int) (h : RB r) (v : Value) (zs : List Int) (line : Int) (l0 : 0 ≤ line) (l1 : line < 192) (w : World) (hs : Bytes w v zs) : Calls Try.prog 10 #[v, .agg (R r), .int .i64 line] w fun e w' => e = .returned (.agg (G (cF zs r line) (fF zs r line))) ∧ Below w.heap.size w w' := by
  have c2 := R_get r 2 (by omega)
  have sA : BlkN (R r) 11 := R_size _
  obtain ⟨s0, s1⟩ := h 2 (by omega)
  have zN := z512N
  have zO := z512O
  have oN := fun k => (show BlkN (O (cF zs r line) (fF zs r line) k) 512 from O_size _ _ k)
  have oO := fun k => (show BlkOne (O (cF zs r line) (fF zs r line) k) from O_one _ _ k)
  have hz := O_zero (cF zs r line) (fF zs r line)
  have hsrc := fun (k : Nat) (hk : k < 256) => source_yes r h line k l0 l1 (by omega) (by omega)
  have b14 := and14i (r 2) s0 s1
  have q0 : 0 ≤ r 2 / 2 % 8 * 2 := by omega
  have q1 : r 2 / 2 % 8 * 2 < 16 := by omega
  have HSRC := Lib.hid (fun C D k hk => heldP (T := LG w (R r) C D) (fun W W' h b => h.below b) (hsrc k hk))
  have HB := Lib.hid hs
  have ON := Lib.hid oN
  have OO := Lib.hid oO
  have HZ := Lib.hid hz
  have hbase : r 2 / 2 % 8 * 2 * 1024 = baseV r := by unfold baseV; omega
  have HBASE := Lib.hid hbase
  have g1 : ¬ line < 0 := by omega
  have g2 : ¬ 192 ≤ line := by omega
  clear hsrc hs oN oO hz hbase h
  generalize R r = A at *
  go_enter Try.func10, Try.ntmps10
  go_wp2_with fail
  have hst : LG w A (O (cF zs r line) (fF zs r line) 0) Z8 ((((w.alloc (.cells A 24)).alloc (.cells Z512 29)).alloc (.cells Z512 29)).alloc (.cells Z8 42)) := by
    rw [HZ.out]
    exact ⟨(by repeat (first | (refine heap_at _ _ _ ?_; first | (simp; done) | (simp; omega; done)) | (refine (heap_past _ _ _ ?_).trans ?_; focus (first | (simp; done) | (simp; omega; done))) | (refine (heap_drew _ _).trans ?_))), (by repeat (first | (refine heap_at _ _ _ ?_; first | (simp; done) | (simp; omega; done)) | (refine (heap_past _ _ _ ?_).trans ?_; focus (first | (simp; done) | (simp; omega; done))) | (refine (heap_drew _ _).trans ?_))), (by repeat (first | (refine heap_at _ _ _ ?_; first | (simp; done) | (simp; omega; done)) | (refine (heap_past _ _ _ ?_).trans ?_; focus (first | (simp; done) | (simp; omega; done))) | (refine (heap_drew _ _).trans ?_))), (by repeat (first | (refine heap_at _ _ _ ?_; first | (simp; done) | (simp; omega; done)) | (refine (heap_past _ _ _ ?_).trans ?_; focus (first | (simp; done) | (simp; omega; done))) | (refine (heap_drew _ _).trans ?_))), by go_grown⟩
  unfold Z8 at hst
  generalize ((((w.alloc (.cells A 24)).alloc (.cells Z512 29)).alloc (.cells Z512 29)).alloc (.cells _ 42)) = ws at *
  have z8n : BlkN Z8 8 := rfl
  unfold Z8 at z8n
  rw [HBASE.out]
  go_loopw [10, 11, 32] (fun how kn i wr => ∃ (k : Nat) (n h : Int) (D : Array Value), k ≤ 256 ∧ i = .int .i64 k ∧ kn = .int .i64 n ∧ how = .int .u8 h ∧ Known zs r n h D ∧ LG w A (O (cF zs r line) (fF zs r line) k) D wr) (fun _ _ i _ => (256 - intOf i).toNat)
  case atStart => exact ⟨0, -1, 0, _, by omega, rfl, rfl, rfl, ⟨.inl rfl, z8n⟩, hst⟩
  case round =>
    obtain ⟨k, n, h, D, hk, rfl, rfl, rfl, hK, hG⟩ := hrel
    clear hst
    by_cases hlt : k < 256
    case neg =>
      have hk4 : k = 256 := by omega
      subst hk4
      have e1 := blkAt_heap hG.2.1
      have e2 := blkAt_heap hG.2.2.1
      have o1 := ON.out 256
      have o2 := OO.out 256
      have t1 := heap_lt hG.2.1
      have ne1 : ¬ (w.heap.size + 1 + 1 = w.heap.size + 1) := by omega
      show (Code.wp _ _ _ _ _)
      change BlkN (G (cF zs r line) (fF zs r line)) 512 at o1
      change BlkOne (G (cF zs r line) (fF zs r line)) at o2
      change blkAt wr (w.heap.size + 1 + 1) = G (cF zs r line) (fF zs r line) at e2
      have hG2 := hG
      change LG w A (G (cF zs r line) (fF zs r line)) D wr at hG2
      generalize hGG : G (cF zs r line) (fF zs r line) = GG at *
      have HGG := Lib.hid hGG
      clear hG hGG
      go_wp2_with fail
      have hR : (blkPut wr (w.heap.size + 1) GG).heap[w.heap.size + 1]? = some (.cells GG 29) := heap_blkPut_same hG2.2.1 GG
      exact bodyPost_ret (v := .agg _) (results_cell_row rfl _ _ (w.heap.size + 1) 29 _ (0, 0) _ rfl hR Try.underlying29 rfl (by rw [show GG.size = 512 from o1]; exact i512)) rfl ⟨by rw [HGG.out], below_blkPut hG2.2.2.2.2 (by omega) _⟩
    case pos =>
    have n0 : (0 : Int) ≤ (k : Int) := by omega
    have n1 : (k : Int) < 256 := by omega
    obtain ⟨co0, co1⟩ := colV_bd r line k
    obtain ⟨ro0, ro1⟩ := rowV_bd r line k l0 l1
    have hsrc := fun C D => HSRC.out C D k hlt
    have hstep := O_step (cF zs r line) (fF zs r line) k hlt
    have ecf : cF zs r line k = colI zs r (rowV r line k) (colV r line k) := rfl
    have eff : fF zs r line k = frontI zs r (rowV r line k) (colV r line k) := rfl
    rw [ecf, eff] at hstep
    clear ecf eff
    have c1 := O_c (cF zs r line) (fF zs r line) k k hlt
    have c2 := O_f (cF zs r line) (fF zs r line) k k hlt
    rw [if_neg (Nat.lt_irrefl k)] at c1 c2
    have hent := fun W hW => entry_any v zs (baseV r) (rowV r line k / 8) (colV r line k / 8) W hW
    change ∀ W, Bytes W v zs → Calls Try.prog 14 #[v, .int .i64 (baseV r), .int .i64 (rowV r line k / 8), .int .i64 (colV r line k / 8)] W fun e w' => e = .returned (.tuple #[.int .i64 (tnV zs r (rowV r line k) (colV r line k)), .int .u8 (hwV zs r (rowV r line k) (colV r line k))]) ∧ W = w' at hent
    generalize colV r line k = co at *
    generalize rowV r line k = ro at *
    have hnext : Hid (LG w A (O (cF zs r line) (fF zs r line) (k + 1)) D wr → True) := Lib.hid fun _ => trivial
    clear hnext
    generalize hC : O (cF zs r line) (fF zs r line) k = C at *
    have CX := Lib.hid c1
    have CY := Lib.hid c2
    have HST := Lib.hid hstep
    have HSR := Lib.hid hsrc
    have HENT := Lib.hid hent
    clear hC c1 c2 hstep hsrc hent
    obtain ⟨j, hj⟩ := Int.eq_ofNat_of_zero_le (show 0 ≤ co % 8 by omega)
    have hj8 : j < 8 := by omega
    have j0 : (0 : Int) ≤ (j : Int) := by omega
    have j1 : (j : Int) < 8 := by omega
    have kA := blkAt_heap hG.1
    have rl := heap_lt hG.2.2.2.1
    have m0 : 0 ≤ ro * 256 + co / 8 := by omega
    have m1 : ro * 256 + co / 8 < 60000 := by omega
    by_cases hp : ro * 256 + co / 8 = n
    · obtain ⟨rfl, rfl⟩ := hK.at ro co ro0 ro1 co0 co1 hp
      have hdot := DR_get zs r ro co j hj.symm
      obtain ⟨w0, w1⟩ := hw_bd zs r ro co
      have d01 : 0 ≤ dotI zs r ro co ∧ dotI zs r ro co < 16 := dotV_bd _ _ _ _
      have eC : colI zs r ro co = dotI zs r ro co + 16 * (hwV zs r ro co / 4 % 2) := rfl
      have eF : frontI zs r ro co = (hwV zs r ro co / 8 == 1 && decide (0 < dotI zs r ro co)) := rfl
      have HST2 := HST.out
      rw [eC, eF] at HST2
      have HST3 := Lib.hid HST2
      have a4 := and4i (hwV zs r ro co) w0 (by omega)
      have a8 := and8i (hwV zs r ro co) w0 (by omega)
      have HKK := Lib.hid hK
      clear HST2 eC eF hK
      generalize hwV zs r ro co = hw at *
      generalize dotI zs r ro co = d at *
      generalize DR zs r ro co = D at *
      subst hp
      obtain ⟨d0, d1⟩ := d01
      have DC := Lib.hid hdot
      clear hdot
      have h4 : hw / 4 % 2 = 1 ∨ hw / 4 % 2 = 0 := by omega
      have h8 : hw / 8 = 1 ∨ hw / 8 = 0 := by omega
      have h88 : hw / 8 % 2 = hw / 8 := by omega
      rw [h88] at a8
      have dd : (d != 0) = decide (0 < d) := by rw [Bool.eq_iff_iff]; simp; omega
      have dm : (d + 16) % 256 = d + 16 := by omega
      clear h88
      rcases h4 with h4 | h4
      · rcases h8 with h8 | h8
        all_goals
          rw [h4] at a4
          rw [h8] at a8
          have HS3 := HST3.out
          rw [h4, h8] at HS3
          simp only [Int.one_mul, Int.zero_mul, beq_self_eq_true, Bool.true_and, Bool.false_and, show ((0 : Int) == 1) = false from rfl, Int.mul_one, Int.mul_zero, Int.add_zero] at a4 a8 HS3
          have HS4 := Lib.hid HS3
          clear HS3
          go_wp2_with (go_at_call 8; (with_reducible refine (HSR.out C D _ ?_).mono ?_); (exact hG); rintro e wq ⟨rfl, kq⟩; (have dq := (cell_of _ _ j kq.2.2.2.1).trans DC.out); (have cq := (cell_of _ _ k kq.2.2.1).trans CX.out); (have fq := (cell_of _ _ (256 + k) kq.2.2.1).trans CY.out); (have rq := free_of _ _ k kq.2.2.1); (have rq2 := free_of _ _ (256 + k) kq.2.2.1))
          go_roundw
          case rel => exact ⟨k + 1, _, _, _, by omega, by go_num, rfl, rfl, HKK.out, kq.step2 k _ _ _ (HS4.out _ _ rfl rfl)⟩
          case measure => simp [intOf] <;> omega
      · rcases h8 with h8 | h8
        all_goals
          rw [h4] at a4
          rw [h8] at a8
          have HS3 := HST3.out
          rw [h4, h8] at HS3
          simp only [Int.one_mul, Int.zero_mul, beq_self_eq_true, Bool.true_and, Bool.false_and, show ((0 : Int) == 1) = false from rfl, Int.mul_one, Int.mul_zero, Int.add_zero] at a4 a8 HS3
          have HS4 := Lib.hid HS3
          clear HS3
          go_wp2_with (go_at_call 8; (with_reducible refine (HSR.out C D _ ?_).mono ?_); (exact hG); rintro e wq ⟨rfl, kq⟩; (have dq := (cell_of _ _ j kq.2.2.2.1).trans DC.out); (have cq := (cell_of _ _ k kq.2.2.1).trans CX.out); (have fq := (cell_of _ _ (256 + k) kq.2.2.1).trans CY.out); (have rq := free_of _ _ k kq.2.2.1); (have rq2 := free_of _ _ (256 + k) kq.2.2.1))
          go_roundw
          case rel => exact ⟨k + 1, _, _, _, by omega, by go_num, rfl, rfl, HKK.out, kq.step1 k _ _ (HS4.out _ _ rfl rfl)⟩
          case measure => simp [intOf] <;> omega
    · have hdot := DR_get zs r ro co j hj.symm
      have hds := DR_size zs r ro co
      have hdo : BlkOne (DR zs r ro co) := row_one _ _ fun j _ => rfl
      have hkn : Known zs r (ro * 256 + co / 8) (hwV zs r ro co) (DR zs r ro co) := ⟨.inr ⟨ro, co, ro0, ro1, co0, co1, rfl, rfl, rfl⟩, hds⟩
      obtain ⟨w0, w1⟩ := hw_bd zs r ro co
      obtain ⟨t0, t1⟩ := tn_bd zs r ro co
      have d01 : 0 ≤ dotI zs r ro co ∧ dotI zs r ro co < 16 := dotV_bd _ _ _ _
      have eC : colI zs r ro co = dotI zs r ro co + 16 * (hwV zs r ro co / 4 % 2) := rfl
      have eF : frontI zs r ro co = (hwV zs r ro co / 8 == 1 && decide (0 < dotI zs r ro co)) := rfl
      have HST2 := HST.out
      rw [eC, eF] at HST2
      have HST3 := Lib.hid HST2
      have hrow := fun W hW => row_any v zs (tnV zs r ro co) (drV (hwV zs r ro co) ro) (hwV zs r ro co % 2 == 1) W hW
      change ∀ W, Bytes W v zs → Calls Try.prog 15 #[v, .int .i64 (tnV zs r ro co), .int .i64 (drV (hwV zs r ro co) ro), .bool (hwV zs r ro co % 2 == 1)] W fun e w' => e = .returned (.agg (DR zs r ro co)) ∧ ∃ o1 o2 n, w' = ((W.alloc o1).alloc o2).drewN n at hrow
      have a1 := and1i (hwV zs r ro co) w0 (by omega)
      have a2 := and2i (hwV zs r ro co) w0 (by omega)
      have a4 := and4i (hwV zs r ro co) w0 (by omega)
      have a8 := and8i (hwV zs r ro co) w0 (by omega)
      have edr : drV (hwV zs r ro co) ro = if hwV zs r ro co / 2 % 2 = 1 then 7 - ro % 8 else ro % 8 := rfl
      rw [edr] at hrow
      have kn8 := hK.2
      clear HST2 eC eF hK edr
      have HENT2 := Lib.hid HENT.out
      clear HENT
      generalize hwV zs r ro co = hw at *
      generalize dotI zs r ro co = d at *
      generalize DR zs r ro co = D2 at *
      generalize tnV zs r ro co = tn at *
      obtain ⟨d0, d1⟩ := d01
      have DC := Lib.hid hdot
      have HKK := Lib.hid hkn
      have hn : (ro * 256 + co / 8 != n) = true := by simpa using hp
      clear hdot hkn hp
      have kD := blkAt_heap hG.2.2.2.1
      have h1 : hw % 2 = 1 ∨ hw % 2 = 0 := by omega
      have h2 : hw / 2 % 2 = 1 ∨ hw / 2 % 2 = 0 := by omega
      have h4 : hw / 4 % 2 = 1 ∨ hw / 4 % 2 = 0 := by omega
      have h8 : hw / 8 = 1 ∨ hw / 8 = 0 := by omega
      have h88 : hw / 8 % 2 = hw / 8 := by omega
      rw [h88] at a8
      have dd : (d != 0) = decide (0 < d) := by rw [Bool.eq_iff_iff]; simp; omega
      have dm : (d + 16) % 256 = d + 16 := by omega
      have p0 : 0 ≤ ro % 8 := by omega
      have p1 : ro % 8 < 8 := by omega
      have p2 : 0 ≤ ro / 8 := by omega
      have p3 : 0 ≤ co / 8 := by omega
      clear h88
      have HROW := Lib.hid hrow
      clear hrow
      rcases h2 with h2 | h2
      all_goals
        rcases h1 with h1 | h1
        all_goals
          have hrw := HROW.out
          first | rw [if_pos h2] at hrw | rw [if_neg (by rw [h2]; decide)] at hrw
          rw [h1] at hrw a1
          rw [h2] at a2
          simp only [Int.one_mul, Int.zero_mul, beq_self_eq_true, show ((0 : Int) == 1) = false from rfl] at a2 hrw
          have HRW := Lib.hid hrw
          clear hrw
          rcases h4 with h4 | h4
          · rcases h8 with h8 | h8
            all_goals
              rw [h4] at a4
              rw [h8] at a8
              have HS3 := HST3.out
              rw [h4, h8] at HS3
              simp only [Int.one_mul, Int.zero_mul, beq_self_eq_true, Bool.true_and, Bool.false_and, show ((0 : Int) == 1) = false from rfl, Int.mul_one, Int.mul_zero, Int.add_zero] at a4 a8 HS3
              have HS4 := Lib.hid HS3
              clear HS3
              go_wp2_with (first | (go_at_call 8; (with_reducible refine (HSR.out C D _ ?_).mono ?_); (exact hG); rintro e wq ⟨rfl, kq⟩; (have hby : Bytes wq v zs := HB.out.below kq.2.2.2.2)) | (go_at_call 14; (with_reducible refine (HENT2.out _ hby).mono ?_); rintro e wx ⟨rfl, rfl⟩) | (go_at_call 15; (with_reducible refine (HRW.out _ hby).mono ?_); rintro e wy ⟨rfl, o1, o2, nn, hwy⟩; (have ky : LG w A C D wy := kq.below (by rw [hwy]; exact below_drewN (((Below.refl _ _).alloc (Nat.le_refl _) _).alloc (by simp) _) nn)); (have bD := blkAt_heap ky.2.2.2.1); (have ky2 : LG w A C D2 (blkPut wy (w.heap.size + 1 + 1 + 1) D2) := ky.put D2); (clear hwy hby kq); (have dq := (cell_of _ _ j ky2.2.2.2.1).trans DC.out); (have cq := (cell_of _ _ k ky2.2.2.1).trans CX.out); (have fq := (cell_of _ _ (256 + k) ky2.2.2.1).trans CY.out); (have rq := free_of _ _ k ky2.2.2.1); (have rq2 := free_of _ _ (256 + k) ky2.2.2.1)))
              go_roundw
              case rel => exact ⟨k + 1, _, _, _, by omega, by go_num, rfl, rfl, HKK.out, ky2.step2 k _ _ _ (HS4.out _ _ rfl rfl)⟩
              case measure => simp [intOf] <;> omega
          · rcases h8 with h8 | h8
            all_goals
              rw [h4] at a4
              rw [h8] at a8
              have HS3 := HST3.out
              rw [h4, h8] at HS3
              simp only [Int.one_mul, Int.zero_mul, beq_self_eq_true, Bool.true_and, Bool.false_and, show ((0 : Int) == 1) = false from rfl, Int.mul_one, Int.mul_zero, Int.add_zero] at a4 a8 HS3
              have HS4 := Lib.hid HS3
              clear HS3
              go_wp2_with (first | (go_at_call 8; (with_reducible refine (HSR.out C D _ ?_).mono ?_); (exact hG); rintro e wq ⟨rfl, kq⟩; (have hby : Bytes wq v zs := HB.out.below kq.2.2.2.2)) | (go_at_call 14; (with_reducible refine (HENT2.out _ hby).mono ?_); rintro e wx ⟨rfl, rfl⟩) | (go_at_call 15; (with_reducible refine (HRW.out _ hby).mono ?_); rintro e wy ⟨rfl, o1, o2, nn, hwy⟩; (have ky : LG w A C D wy := kq.below (by rw [hwy]; exact below_drewN (((Below.refl _ _).alloc (Nat.le_refl _) _).alloc (by simp) _) nn)); (have bD := blkAt_heap ky.2.2.2.1); (have ky2 : LG w A C D2 (blkPut wy (w.heap.size + 1 + 1 + 1) D2) := ky.put D2); (clear hwy hby kq); (have dq := (cell_of _ _ j ky2.2.2.2.1).trans DC.out); (have cq := (cell_of _ _ k ky2.2.2.1).trans CX.out); (have fq := (cell_of _ _ (256 + k) ky2.2.2.1).trans CY.out); (have rq := free_of _ _ k ky2.2.2.1); (have rq2 := free_of _ _ (256 + k) ky2.2.2.1)))
              go_roundw
              case rel => exact ⟨k + 1, _, _, _, by omega, by go_num, rfl, rfl, HKK.out, ky2.step1 k _ _ (HS4.out _ _ rfl rfl)⟩
              case measure => simp [intOf] <;> omega

end Back
end Go.Proofs.Ytpjgcbbpfpcjeaa
