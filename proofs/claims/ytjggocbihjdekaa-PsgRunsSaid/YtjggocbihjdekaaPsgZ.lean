/- A chip of three tones and a noise (layer 5): what the program's functions do, part 10. No conditions but that numbers are of their kinds. -/
import Derived.Test.YtjggocbihjdekaaPsgN
import Derived.Test.YtjggocbihjdekaaPsgY
import Derived.RegionTactic
import Derived.LoopTactic
import Derived.Deep.RegionHeld3
import Derived.Lib.Hide
namespace Go.Proofs.Ytjggocbihjdekaa
open Go.RowKit
open Kit
set_option linter.unusedSimpArgs false
set_option linter.unusedVariables false
attribute [local simp] blkAt_alloc blkNew_cells putRow_cells blkAt_drew BlkN.set BlkOne.setInt BlkOne.setBool blkPut_alloc blkPut_drew blkAt_blkPut_other size_blkPut nq2 nq3 nq4 nq5 nq6 nq7 nq8
namespace Psg
attribute [local simp ↓] sl_in ss_in vs_in
attribute [local simp] sl_run ss_run vs_run
def HT (w : World) (A : Array Value) (tb : Nat) (B : Array Value) (W : World) : Prop := W.heap[w.heap.size]? = some (.cells A 30) ∧ W.heap[tb]? = some (.cells B 30) ∧ w.heap.size < tb ∧ Below w.heap.size w W
theorem HT.below {w : World} {A : Array Value} {tb : Nat} {B : Array Value} {W W' : World} (h : HT w A tb B W) (hb : Below W.heap.size W W') : HT w A tb B W' := ⟨(hb.block _ (heap_lt h.1)).trans h.1, (hb.block _ (heap_lt h.2.1)).trans h.2.1, h.2.2.1, h.2.2.2.trans (hb.mono h.2.2.2.size)⟩
theorem HT.drew {w : World} {A : Array Value} {tb : Nat} {B : Array Value} {W : World} (h : HT w A tb B W) : HT w A tb B W.drew := ⟨h.1, h.2.1, h.2.2.1, h.2.2.2.drew⟩
theorem tonesOk3 (f : Nat → Int) (h : rightV f = true) : (∀ k, k < 3 → 0 ≤ f (3 * k) ∧ f (3 * k) < 1024) ∧ f 17 < 8 := by
  unfold rightV at h
  simp only [Bool.and_eq_true, decide_eq_true_eq] at h
  obtain ⟨⟨h1, _⟩, _, h3⟩ := h
  refine ⟨?_, by omega⟩
  have e : tonesOk f 3 = (((true && Tone.tR (f (3 * 0)) (f (3 * 0 + 1))) && Tone.tR (f (3 * 1)) (f (3 * 1 + 1))) && Tone.tR (f (3 * 2)) (f (3 * 2 + 1))) := rfl
  rw [e] at h1
  simp only [Bool.and_eq_true, Bool.true_and] at h1
  obtain ⟨⟨a, b⟩, c⟩ := h1
  intro k hk
  rcases (by omega : k = 0 ∨ k = 1 ∨ k = 2) with rfl | rfl | rfl
  · unfold Tone.tR at a; simp at a; simp; omega
  · unfold Tone.tR at b; simp at b; simp; omega
  · unfold Tone.tR at c; simp at c; simp; omega
theorem dQ_bd (f g : Nat → Int) (k : Nat) : 0 ≤ dQ f g k ∧ dQ f g k ≤ k := by
  induction k with
  | zero => exact ⟨Int.le_refl 0, Int.le_refl 0⟩
  | succ k ih =>
    show 0 ≤ (if f (13 + k) = g (13 + k) then dQ f g k else dQ f g k + 1) ∧ (if f (13 + k) = g (13 + k) then dQ f g k else dQ f g k + 1) ≤ ((k + 1 : Nat) : Int)
    split <;> omega
theorem dT_bd (f g : Nat → Int) (k : Nat) : 0 ≤ dT f g k ∧ dT f g k ≤ k := by
  induction k with
  | zero => exact ⟨Int.le_refl 0, Int.le_refl 0⟩
  | succ k ih =>
    show 0 ≤ (if f (3 * k) = g (3 * k) then dT f g k else dT f g k + 1) ∧ (if f (3 * k) = g (3 * k) then dT f g k else dT f g k + 1) ≤ ((k + 1 : Nat) : Int)
    split <;> omega
theorem sQ (f : Nat → Int) (k : Nat) (hk : k < 4) : (S f)[13 + k]? = some (.int .u8 (f (13 + k))) := by rw [S_get _ _ (by omega)]; unfold sv; rw [if_neg (by omega), if_pos (by omega)]
theorem sP (f : Nat → Int) (k : Nat) (hk : k < 3) : (S f)[k * 3]? = some (.int .i64 (f (3 * k))) := by rw [S_get _ _ (by omega)]; unfold sv; rw [if_neg (by omega), if_neg (by omega), if_neg (by omega), Nat.mul_comm]
theorem sC (f : Nat → Int) (k : Nat) (hk : k < 3) : (S f)[k * 3 + 1]? = some (.int .i64 (f (3 * k + 1))) := by rw [S_get _ _ (by omega)]; unfold sv; rw [if_neg (by omega), if_neg (by omega), if_neg (by omega), Nat.mul_comm]
theorem sO (f : Nat → Int) (k : Nat) (hk : k < 3) : (S f)[k * 3 + 2]? = some (.bool (f (3 * k + 2) == 1)) := by rw [S_get _ _ (by omega)]; unfold sv; rw [if_neg (by omega), if_neg (by omega), if_pos (by omega), Nat.mul_comm]
theorem wg_same (f g : Nat → Int) (v : Int) (h : WG f g v) (k : Nat) (hk : k < 3) : g (3 * k + 1) = f (3 * k + 1) ∧ g (3 * k + 2) = f (3 * k + 2) := by
  obtain ⟨h1, h2, h4, h5, h7, h8, _, _⟩ := h.same
  rcases (by omega : k = 0 ∨ k = 1 ∨ k = 2) with rfl | rfl | rfl
  · exact ⟨h1, h2⟩
  · exact ⟨h4, h5⟩
  · exact ⟨h7, h8⟩
theorem leavesN (a b c : Int) (x : Bool) (ha : 0 ≤ a ∧ a < 256) (hb : -9223372036854775808 ≤ b ∧ b ≤ 9223372036854775807) (hc : 0 ≤ c ∧ c < 65536) : leavesOk [some .u8, some .i64, none, some .u16] (#[.int .u8 a, .int .i64 b, .bool x, .int .u16 c] : Array Value).toList := ⟨⟨_, rfl, u8_wf ha⟩, ⟨_, rfl, i64_wf hb⟩, ⟨_, rfl⟩, ⟨_, rfl, u16_wf hc⟩, trivial⟩
theorem eqN (a b c : Int) (x : Bool) (ha : 0 ≤ a ∧ a < 256) (hb : -9223372036854775808 ≤ b ∧ b ≤ 9223372036854775807) (hc : 0 ≤ c ∧ c < 65536) (w : World) : (Op.equalIn 10000 27 (.agg #[.int .u8 a, .int .i64 b, .bool x, .int .u16 c]) (.agg #[.int .u8 a, .int .i64 b, .bool x, .int .u16 c])).run Try.prog w = .ok true w :=
  Kit.eq_self 6 6 27 [some .u8, some .i64, none, some .u16] (by kernel_rfl) (by kernel_rfl) (by decide) (by kernel_rfl) _ (leavesN a b c x ha hb hc) (by kernel_rfl) w
theorem neN (a b c a' c' : Int) (x : Bool) (ha : 0 ≤ a ∧ a < 256) (hb : -9223372036854775808 ≤ b ∧ b ≤ 9223372036854775807) (hc : 0 ≤ c ∧ c < 65536) (ha' : 0 ≤ a' ∧ a' < 256) (hc' : 0 ≤ c' ∧ c' < 65536) (hn : ¬ (a = a' ∧ c = c')) (w : World) : (Op.equalIn 10000 27 (.agg #[.int .u8 a, .int .i64 b, .bool x, .int .u16 c]) (.agg #[.int .u8 a', .int .i64 b, .bool x, .int .u16 c'])).run Try.prog w = .ok false w := by
  obtain ⟨r, h1, h2⟩ := Kit.eq_flat 6 6 27 [some .u8, some .i64, none, some .u16] (by kernel_rfl) (by kernel_rfl) (by decide) (by kernel_rfl) _ _ (leavesN a b c x ha hb hc) (leavesN a' b c' x ha' hb hc') (by kernel_rfl) w
  have : r = false := by
    cases r
    · rfl
    · exfalso; have := h2.1 rfl; simp at this; exact hn ⟨this.1, this.2⟩
  rw [this] at h1; exact h1
set_option maxRecDepth 100000 in
set_option maxHeartbeats 4000000 in
theorem writes_all (f : Nat → Int) (h : SB f) (v : Int) (v0 : 0 ≤ v) (v1 : v < 256) (w : World) : Calls Try.prog 4 #[.agg (S f), .int .u8 v] w fun e w' => e = .returned (.bool true) ∧ Below w.heap.size w w' := by
  have hr := right_any f
  cases hrv : rightV f
  · have sA : BlkN (S f) 18 := S_size _
    have HAL := Lib.hid (heldP (T := HS w (S f)) (fun W W' h b => h.below b) alive_any)
    have HR := Lib.hid (heldP (T := HS w (S f)) (fun W W' h b => h.below b) hr)
    rw [hrv] at HR
    clear hr
    generalize S f = A at *
    go_enter Try.func4, Try.ntmps4
    go_wp2_with (first | (go_at_call 9; (with_reducible refine (HAL.out _ ?_).mono ?_); (exact ⟨(by repeat (first | (refine heap_at _ _ _ ?_; first | (simp; done) | (simp; omega; done)) | (refine (heap_past _ _ _ ?_).trans ?_; focus (first | (simp; done) | (simp; omega; done))) | (refine (heap_drew _ _).trans ?_))), by go_grown⟩); rintro e w1 ⟨rfl, k0⟩; (have kb := blkAt_heap k0.1)) | (go_at_call 11; (with_reducible refine (HR.out _ ?_).mono ?_); (exact k0); rintro e w2 ⟨rfl, k1⟩))
    go_ret
    exact ⟨ret_bool (by simp), k1.2⟩
  obtain ⟨hp, hl⟩ := tonesOk3 f hrv
  have hw := write_any f h hp hl v v0 v1
  have G := wg_any f h hp hl v v0 v1
  obtain ⟨g, hg⟩ : ∃ g, wF f v = g := ⟨_, rfl⟩
  rw [hg] at hw G
  have hw2 := write_any g G.sb G.hp G.hl.2 v v0 v1
  rw [S_congr _ _ G.again] at hw2
  have heq := eqS g G.sb
  have sA : BlkN (S f) 18 := S_size _
  have oA : BlkOne (S f) := S_one _
  have sB : BlkN (S g) 18 := S_size _
  have oB : BlkOne (S g) := S_one _
  have zn := zN
  unfold Z18 at zn
  have hA : Hid (S f = S f) := Lib.hid rfl
  have FQ := Lib.hid (sQ f)
  have GQ := Lib.hid (sQ g)
  have FP := Lib.hid (sP f)
  have GP := Lib.hid (sP g)
  have FC := Lib.hid (sC f)
  have GC := Lib.hid (sC g)
  have FO := Lib.hid (sO f)
  have GO := Lib.hid (sO g)
  have f9 : Hid ((S f)[9]? = some (.int .u8 (f 9))) := Lib.hid (S_get f 9 (by omega))
  have f10 : Hid ((S f)[10]? = some (.int .i64 (f 10))) := Lib.hid (S_get f 10 (by omega))
  have f11 : Hid ((S f)[11]? = some (.bool (f 11 == 1))) := Lib.hid (S_get f 11 (by omega))
  have f12 : Hid ((S f)[12]? = some (.int .u16 (f 12))) := Lib.hid (S_get f 12 (by omega))
  have f17 : Hid ((S f)[17]? = some (.int .u8 (f 17))) := Lib.hid (S_get f 17 (by omega))
  have g9 : Hid ((S g)[9]? = some (.int .u8 (g 9))) := Lib.hid (S_get g 9 (by omega))
  have g10 : Hid ((S g)[10]? = some (.int .i64 (f 10))) := Lib.hid (by rw [← G.same.2.2.2.2.2.2.1]; exact S_get g 10 (by omega))
  have g11 : Hid ((S g)[11]? = some (.bool (f 11 == 1))) := Lib.hid (by rw [← G.same.2.2.2.2.2.2.2]; exact S_get g 11 (by omega))
  have g12 : Hid ((S g)[12]? = some (.int .u16 (g 12))) := Lib.hid (S_get g 12 (by omega))
  have g17 : Hid ((S g)[17]? = some (.int .u8 (g 17))) := Lib.hid (S_get g 17 (by omega))
  have GG := Lib.hid G
  have HSBf := Lib.hid h
  have HAL := Lib.hid (heldP (T := HS w (S f)) (fun W W' h b => h.below b) alive_any)
  have HR := Lib.hid (heldP (T := HS w (S f)) (fun W W' h b => h.below b) hr)
  rw [hrv] at HR
  have HW := Lib.hid (heldP (T := HS w (S f)) (fun W W' h b => h.below b) hw)
  have HW2 := Lib.hid (fun tb => heldP (T := HT w (S f) tb (S g)) (fun W W' h b => h.below b) hw2)
  have HEQ := Lib.hid heq
  clear hr hw hw2 heq G hg hp h hrv hA
  generalize S f = A at *
  generalize S g = B at *
  go_enter Try.func4, Try.ntmps4
  go_wp2_with (first | (go_at_call 9; (with_reducible refine (HAL.out _ ?_).mono ?_); (exact ⟨(by repeat (first | (refine heap_at _ _ _ ?_; first | (simp; done) | (simp; omega; done)) | (refine (heap_past _ _ _ ?_).trans ?_; focus (first | (simp; done) | (simp; omega; done))) | (refine (heap_drew _ _).trans ?_))), by go_grown⟩); rintro e w1 ⟨rfl, k0⟩; (have kb := blkAt_heap k0.1)) | (go_at_call 11; (with_reducible refine (HR.out _ ?_).mono ?_); (exact k0); rintro e w2 ⟨rfl, k1⟩; (have kc := blkAt_heap k1.1); (clear kb k0)) | (go_at_call 14; (with_reducible refine (HW.out _ ?_).mono ?_); (exact k1); rintro e w3 ⟨rfl, k2⟩; (clear kc k1)))
  have hT : HT w A w3.heap.size B (w3.alloc (.cells B 30)) := ⟨(heap_past _ _ _ (heap_lt k2.1)).trans k2.1, heap_at _ _ _ rfl, heap_lt k2.1, k2.2.alloc k2.2.size _⟩
  generalize w3.heap.size = tb at *
  generalize w3.alloc (.cells B 30) = w4 at *
  clear k2
  go_loopw [6, 17] (fun c i wr => ∃ k : Nat, k ≤ 4 ∧ i = .int .i64 k ∧ c = .int .i64 (dQ f g k) ∧ HT w A tb B wr) (fun _ i _ => (4 - intOf i).toNat)
  case atStart => exact ⟨0, by omega, rfl, rfl, hT⟩
  case round =>
    obtain ⟨k, hk, rfl, rfl, hT⟩ := hrel
    by_cases hlt : k < 4
    case pos =>
      have a1 := (cell_of _ _ (13 + k) hT.1).trans (FQ.out k hlt)
      have a2 := (cell_of _ _ (13 + k) hT.2.1).trans (GQ.out k hlt)
      have n0 : (0 : Int) ≤ (k : Int) := by omega
      have n1 : (k : Int) < 4 := by omega
      have hb := dQ_bd f g k
      have b0 := hb.1
      have b1 : dQ f g k ≤ 4 := by omega
      have hs : dQ f g (k + 1) = if f (13 + k) = g (13 + k) then dQ f g k else dQ f g k + 1 := rfl
      clear hb
      generalize f (13 + k) = p at *
      generalize g (13 + k) = q at *
      by_cases e : p = q
      · subst e
        rw [if_pos rfl] at hs
        have HS2 := Lib.hid hs
        clear hs
        go_wp2_with fail
        go_region
        all_goals
          go_wp2_with fail
          go_roundw
          case rel => exact ⟨k + 1, by omega, by go_num, by rw [HS2.out], by first | exact hT | exact hT.drew⟩
          case measure => simp [intOf] <;> omega
      · rw [if_neg e] at hs
        have HS2 := Lib.hid hs
        have e2 : (p != q) = true := by simpa using e
        clear hs
        go_wp2_with fail
        go_region
        all_goals
          go_wp2_with fail
          go_roundw
          case rel => exact ⟨k + 1, by omega, by go_num, by rw [HS2.out], by first | exact hT | exact hT.drew⟩
          case measure => simp [intOf] <;> omega
    case neg =>
    have hk4 : k = 4 := by omega
    subst hk4
    have bq := dQ_bd f g 4
    generalize hdq : dQ f g 4 = dq at *
    have HDQ := Lib.hid hdq
    clear hdq hk hlt
    go_wp2_with fail
    go_loopw [6, 32] (fun c i wr => ∃ k : Nat, k ≤ 3 ∧ i = .int .i64 k ∧ c = .int .i64 (dq + dT f g k) ∧ HT w A tb B wr) (fun _ i _ => (3 - intOf i).toNat)
    case atStart => exact ⟨0, by omega, rfl, by show Value.int .i64 dq = .int .i64 (dq + 0); rw [Int.add_zero], hT⟩
    case round =>
      obtain ⟨k, hk, rfl, rfl, hT2⟩ := hrel
      clear hT
      by_cases hlt : k < 3
      case pos =>
        have a1 := (cell_of _ _ (k * 3) hT2.1).trans (FP.out k hlt)
        have a2 := (cell_of _ _ (k * 3) hT2.2.1).trans (GP.out k hlt)
        have a3 := (cell_of _ _ (k * 3 + 1) hT2.1).trans (FC.out k hlt)
        have a4 := (cell_of _ _ (k * 3 + 1) hT2.2.1).trans (GC.out k hlt)
        have a5 := (cell_of _ _ (k * 3 + 2) hT2.1).trans (FO.out k hlt)
        have a6 := (cell_of _ _ (k * 3 + 2) hT2.2.1).trans (GO.out k hlt)
        rw [(wg_same f g v GG.out k hlt).1] at a4
        rw [(wg_same f g v GG.out k hlt).2] at a6
        have n0 : (0 : Int) ≤ (k : Int) := by omega
        have n1 : (k : Int) < 3 := by omega
        have hb := dT_bd f g k
        have b0 : 0 ≤ dq + dT f g k := by omega
        have b1 : dq + dT f g k ≤ 7 := by omega
        have hs : dT f g (k + 1) = if f (3 * k) = g (3 * k) then dT f g k else dT f g k + 1 := rfl
        clear hb
        generalize f (3 * k) = p at *
        generalize g (3 * k) = q at *
        generalize f (3 * k + 1) = p1 at *
        generalize (f (3 * k + 2) == 1) = p2 at *
        by_cases e : p = q
        · subst e
          rw [if_pos rfl] at hs
          have HS2 := Lib.hid hs
          clear hs
          go_wp2_with fail
          go_region
          all_goals
            go_wp2_with fail
            go_region
            all_goals
              go_wp2_with fail
              go_roundw
              case rel => exact ⟨k + 1, by omega, by go_num, by rw [HS2.out], by first | exact hT2 | exact hT2.drew | exact hT2.drew.drew⟩
              case measure => simp [intOf] <;> omega
        · rw [if_neg e] at hs
          have HS2 := Lib.hid (show dq + dT f g (k + 1) = dq + dT f g k + 1 by rw [hs]; omega)
          have e2 : (p != q) = true := by simpa using e
          clear hs
          go_wp2_with fail
          go_region
          all_goals
            go_wp2_with fail
            go_region
            all_goals
              go_wp2_with fail
              go_roundw
              case rel => exact ⟨k + 1, by omega, by go_num, by rw [HS2.out], by first | exact hT2 | exact hT2.drew | exact hT2.drew.drew⟩
              case measure => simp [intOf] <;> omega
      case neg =>
      have hk3 : k = 3 := by omega
      subst hk3
      have bt := dT_bd f g 3
      have few := GG.out.few
      rw [HDQ.out] at few
      generalize hct : dq + dT f g 3 = ct at *
      have c0 : 0 ≤ ct := by omega
      have HFEW := Lib.hid few
      clear hct few bt bq hk hlt
      have a9 := (cell_of _ _ 9 hT2.1).trans f9.out
      have a10 := (cell_of _ _ 10 hT2.1).trans f10.out
      have a11 := (cell_of _ _ 11 hT2.1).trans f11.out
      have a12 := (cell_of _ _ 12 hT2.1).trans f12.out
      have a17 := (cell_of _ _ 17 hT2.1).trans f17.out
      have b9 := (cell_of _ _ 9 hT2.2.1).trans g9.out
      have b10 := (cell_of _ _ 10 hT2.2.1).trans g10.out
      have b11 := (cell_of _ _ 11 hT2.2.1).trans g11.out
      have b12 := (cell_of _ _ 12 hT2.2.1).trans g12.out
      have b17 := (cell_of _ _ 17 hT2.2.1).trans g17.out
      have kA := blkAt_heap hT2.1
      have kB := blkAt_heap hT2.2.1
      have tl := heap_lt hT2.2.1
      have bel := hT2.2.2.2
      have l0 := GG.out.hl.1
      have l1 := GG.out.hl.2
      have bf := HSBf.out
      have bg := GG.out.sb
      have EN : Hid (∀ w0, (Op.equalIn 10000 27 (.agg #[.int .u8 (f 9), .int .i64 (f 10), .bool (f 11 == 1), .int .u16 (f 12)]) (.agg #[.int .u8 (g 9), .int .i64 (f 10), .bool (f 11 == 1), .int .u16 (g 12)])).run Try.prog w0 = .ok (dN f g == 0) w0) := by
        refine Lib.hid fun w0 => ?_
        unfold dN
        by_cases e : f 9 = g 9 ∧ f 12 = g 12
        · rw [if_pos e, ← e.1, ← e.2]; exact eqN _ _ _ _ bf.1 (bf.2.2.2 10 (by omega)) bf.2.1 w0
        · rw [if_neg e]; exact neN _ _ _ _ _ _ bf.1 (bf.2.2.2 10 (by omega)) bf.2.1 bg.1 bg.2.1 e w0
      have dn : dN f g = 0 ∨ dN f g = 1 := by unfold dN; split <;> simp
      have low := GG.out.low
      have qui := GG.out.quiet
      have cq : ∀ k, k < 4 → wr.cell? ⟨tb, 13 + k, none⟩ = some (.int .u8 (g (13 + k))) := fun k hk => (cell_of _ _ (13 + k) hT2.2.1).trans (GQ.out k hk)
      have cq2 := cq (g 17 / 2).toNat (by omega)
      have low2 := fun h : v < 128 => low h
      have HLOW := Lib.hid low
      have HQUI := Lib.hid qui
      clear cq low qui bf bg low2
      have ne1 : ¬ (tb = w.heap.size) := by have := hT2.2.2.1; omega
      generalize f 9 = x9 at *
      generalize f 10 = x10 at *
      generalize (f 11 == 1) = x11 at *
      generalize f 12 = x12 at *
      generalize f 17 = x17 at *
      generalize g 9 = y9 at *
      generalize g 12 = y12 at *
      generalize hy : g 17 = y17 at *
      have HY := Lib.hid hy
      clear hy
      have d0 : 0 ≤ y17 / 2 := by omega
      have d1 : y17 / 2 < 4 := by omega
      have r0 : 0 ≤ y17 % 2 := by omega
      have r1 : y17 % 2 < 2 := by omega
      generalize dN f g = dn' at *
      rcases dn with rfl | rfl
      · have en := EN.out
        simp only [beq_self_eq_true, show ((1 : Int) == 0) = false from rfl] at en
        have c3 : ct ≤ 1 := by have := HFEW.out; omega
        have c5 : ct ≤ 1 := by have := HFEW.out; omega
        by_cases hv : 128 ≤ v
        · have hv2 : ¬ v < 128 := by omega
          by_cases ho : y17 % 2 = 1
          · have hq := HQUI.out hv ho
            rw [hq] at cq2
            have ho2 : ((y17 % 2 : Int) == 1) = true := by simpa using ho
            have HH := Lib.hid hq
            have HH2 := Lib.hid ho
            clear hq ho
            go_wp2_with fail
            have heq := HEQ.out
            go_region_held3 (fun W => W.cell? ⟨w.heap.size, 10, none⟩ = some (.int .i64 x10) ∧ W.cell? ⟨w.heap.size, 11, none⟩ = some (.bool x11) ∧ W.cell? ⟨tb, 10, none⟩ = some (.int .i64 x10) ∧ W.cell? ⟨tb, 11, none⟩ = some (.bool x11) ∧ blkAt W tb = B ∧ HT w A tb B W) (first | assumption | (exact ⟨by first | assumption | go_keep, by first | assumption | go_keep, by first | assumption | go_keep, by first | assumption | go_keep, by first | assumption | (simp [*]; done), by first | assumption | exact HT.drew (by assumption)⟩)) ((go_at_call 14; (with_reducible refine (HW2.out tb _ ?_).mono ?_); (first | assumption | (exact HT.drew (by assumption))); rintro e w6 ⟨rfl, k6⟩; (have c61 := (cell_of _ _ 10 k6.1).trans f10.out); (have c62 := (cell_of _ _ 11 k6.1).trans f11.out); (have c63 := (cell_of _ _ 10 k6.2.1).trans g10.out); (have c64 := (cell_of _ _ 11 k6.2.1).trans g11.out); (have c65 := blkAt_heap k6.2.1)))
            all_goals
              go_wp2_with fail
              go_ret
              exact ⟨ret_bool (by simp), by first | exact k6.2.2.2 | exact k6.2.2.2.drew⟩
          · have ho2 : ((y17 % 2 : Int) == 1) = false := by simpa using ho
            clear ho
            go_wp2_with fail
            have heq := HEQ.out
            go_region_held3 (fun W => W.cell? ⟨w.heap.size, 10, none⟩ = some (.int .i64 x10) ∧ W.cell? ⟨w.heap.size, 11, none⟩ = some (.bool x11) ∧ W.cell? ⟨tb, 10, none⟩ = some (.int .i64 x10) ∧ W.cell? ⟨tb, 11, none⟩ = some (.bool x11) ∧ blkAt W tb = B ∧ HT w A tb B W) (first | assumption | (exact ⟨by first | assumption | go_keep, by first | assumption | go_keep, by first | assumption | go_keep, by first | assumption | go_keep, by first | assumption | (simp [*]; done), by first | assumption | exact HT.drew (by assumption)⟩)) ((go_at_call 14; (with_reducible refine (HW2.out tb _ ?_).mono ?_); (first | assumption | (exact HT.drew (by assumption))); rintro e w6 ⟨rfl, k6⟩; (have c61 := (cell_of _ _ 10 k6.1).trans f10.out); (have c62 := (cell_of _ _ 11 k6.1).trans f11.out); (have c63 := (cell_of _ _ 10 k6.2.1).trans g10.out); (have c64 := (cell_of _ _ 11 k6.2.1).trans g11.out); (have c65 := blkAt_heap k6.2.1)))
            all_goals
              go_wp2_with fail
              go_ret
              exact ⟨ret_bool (by simp), by first | exact k6.2.2.2 | exact k6.2.2.2.drew⟩
        · have hv2 : v < 128 := by omega
          have hlo := HLOW.out hv2
          subst hlo
          go_wp2_with fail
          have heq := HEQ.out
          go_region_held3 (fun W => W.cell? ⟨w.heap.size, 10, none⟩ = some (.int .i64 x10) ∧ W.cell? ⟨w.heap.size, 11, none⟩ = some (.bool x11) ∧ W.cell? ⟨tb, 10, none⟩ = some (.int .i64 x10) ∧ W.cell? ⟨tb, 11, none⟩ = some (.bool x11) ∧ blkAt W tb = B ∧ HT w A tb B W) (first | assumption | (exact ⟨by first | assumption | go_keep, by first | assumption | go_keep, by first | assumption | go_keep, by first | assumption | go_keep, by first | assumption | (simp [*]; done), by first | assumption | exact HT.drew (by assumption)⟩)) ((go_at_call 14; (with_reducible refine (HW2.out tb _ ?_).mono ?_); (first | assumption | (exact HT.drew (by assumption))); rintro e w6 ⟨rfl, k6⟩; (have c61 := (cell_of _ _ 10 k6.1).trans f10.out); (have c62 := (cell_of _ _ 11 k6.1).trans f11.out); (have c63 := (cell_of _ _ 10 k6.2.1).trans g10.out); (have c64 := (cell_of _ _ 11 k6.2.1).trans g11.out); (have c65 := blkAt_heap k6.2.1)))
          all_goals
            go_wp2_with fail
            go_ret
            exact ⟨ret_bool (by simp), by first | exact k6.2.2.2 | exact k6.2.2.2.drew⟩
      · have en := EN.out
        simp only [beq_self_eq_true, show ((1 : Int) == 0) = false from rfl] at en
        have c3 : ct ≤ 0 := by have := HFEW.out; omega
        have c5 : ct + 1 ≤ 1 := by have := HFEW.out; omega
        by_cases hv : 128 ≤ v
        · have hv2 : ¬ v < 128 := by omega
          by_cases ho : y17 % 2 = 1
          · have hq := HQUI.out hv ho
            rw [hq] at cq2
            have ho2 : ((y17 % 2 : Int) == 1) = true := by simpa using ho
            have HH := Lib.hid hq
            have HH2 := Lib.hid ho
            clear hq ho
            go_wp2_with fail
            have heq := HEQ.out
            go_region_held3 (fun W => W.cell? ⟨w.heap.size, 10, none⟩ = some (.int .i64 x10) ∧ W.cell? ⟨w.heap.size, 11, none⟩ = some (.bool x11) ∧ W.cell? ⟨tb, 10, none⟩ = some (.int .i64 x10) ∧ W.cell? ⟨tb, 11, none⟩ = some (.bool x11) ∧ blkAt W tb = B ∧ HT w A tb B W) (first | assumption | (exact ⟨by first | assumption | go_keep, by first | assumption | go_keep, by first | assumption | go_keep, by first | assumption | go_keep, by first | assumption | (simp [*]; done), by first | assumption | exact HT.drew (by assumption)⟩)) ((go_at_call 14; (with_reducible refine (HW2.out tb _ ?_).mono ?_); (first | assumption | (exact HT.drew (by assumption))); rintro e w6 ⟨rfl, k6⟩; (have c61 := (cell_of _ _ 10 k6.1).trans f10.out); (have c62 := (cell_of _ _ 11 k6.1).trans f11.out); (have c63 := (cell_of _ _ 10 k6.2.1).trans g10.out); (have c64 := (cell_of _ _ 11 k6.2.1).trans g11.out); (have c65 := blkAt_heap k6.2.1)))
            all_goals
              go_wp2_with fail
              go_ret
              exact ⟨ret_bool (by simp), by first | exact k6.2.2.2 | exact k6.2.2.2.drew⟩
          · have ho2 : ((y17 % 2 : Int) == 1) = false := by simpa using ho
            clear ho
            go_wp2_with fail
            have heq := HEQ.out
            go_region_held3 (fun W => W.cell? ⟨w.heap.size, 10, none⟩ = some (.int .i64 x10) ∧ W.cell? ⟨w.heap.size, 11, none⟩ = some (.bool x11) ∧ W.cell? ⟨tb, 10, none⟩ = some (.int .i64 x10) ∧ W.cell? ⟨tb, 11, none⟩ = some (.bool x11) ∧ blkAt W tb = B ∧ HT w A tb B W) (first | assumption | (exact ⟨by first | assumption | go_keep, by first | assumption | go_keep, by first | assumption | go_keep, by first | assumption | go_keep, by first | assumption | (simp [*]; done), by first | assumption | exact HT.drew (by assumption)⟩)) ((go_at_call 14; (with_reducible refine (HW2.out tb _ ?_).mono ?_); (first | assumption | (exact HT.drew (by assumption))); rintro e w6 ⟨rfl, k6⟩; (have c61 := (cell_of _ _ 10 k6.1).trans f10.out); (have c62 := (cell_of _ _ 11 k6.1).trans f11.out); (have c63 := (cell_of _ _ 10 k6.2.1).trans g10.out); (have c64 := (cell_of _ _ 11 k6.2.1).trans g11.out); (have c65 := blkAt_heap k6.2.1)))
            all_goals
              go_wp2_with fail
              go_ret
              exact ⟨ret_bool (by simp), by first | exact k6.2.2.2 | exact k6.2.2.2.drew⟩
        · have hv2 : v < 128 := by omega
          have hlo := HLOW.out hv2
          subst hlo
          go_wp2_with fail
          have heq := HEQ.out
          go_region_held3 (fun W => W.cell? ⟨w.heap.size, 10, none⟩ = some (.int .i64 x10) ∧ W.cell? ⟨w.heap.size, 11, none⟩ = some (.bool x11) ∧ W.cell? ⟨tb, 10, none⟩ = some (.int .i64 x10) ∧ W.cell? ⟨tb, 11, none⟩ = some (.bool x11) ∧ blkAt W tb = B ∧ HT w A tb B W) (first | assumption | (exact ⟨by first | assumption | go_keep, by first | assumption | go_keep, by first | assumption | go_keep, by first | assumption | go_keep, by first | assumption | (simp [*]; done), by first | assumption | exact HT.drew (by assumption)⟩)) ((go_at_call 14; (with_reducible refine (HW2.out tb _ ?_).mono ?_); (first | assumption | (exact HT.drew (by assumption))); rintro e w6 ⟨rfl, k6⟩; (have c61 := (cell_of _ _ 10 k6.1).trans f10.out); (have c62 := (cell_of _ _ 11 k6.1).trans f11.out); (have c63 := (cell_of _ _ 10 k6.2.1).trans g10.out); (have c64 := (cell_of _ _ 11 k6.2.1).trans g11.out); (have c65 := blkAt_heap k6.2.1)))
          all_goals
            go_wp2_with fail
            go_ret
            exact ⟨ret_bool (by simp), by first | exact k6.2.2.2 | exact k6.2.2.2.drew⟩
end Psg
end Go.Proofs.Ytjggocbihjdekaa
