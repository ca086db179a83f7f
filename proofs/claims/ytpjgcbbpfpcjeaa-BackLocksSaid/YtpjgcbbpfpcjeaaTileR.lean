/- Rows of tiles (layer 16): what the program's and the reference's functions do, over any bytes. No conditions but that numbers are of their kinds and slices are slices. -/
import Derived.Test.YtpjgcbbpfpcjeaaTile
namespace Go.Proofs.Ytpjgcbbpfpcjeaa
open Go.RowKit
open Kit Tile
set_option linter.unusedSimpArgs false
set_option linter.unusedVariables false
attribute [local go_sem] setCells_new setCells_past setCells_drew
namespace TileR
/-- A dot behind so many planes: 'k' is the bit's place. -/
def part (b : Nat → Int) (k : Nat) (P : Nat) : Int := Nat.rec 0 (fun q r => r + bitK (b q) k * 2 ^ q) P
def posK (turned : Bool) (j : Nat) : Nat := if turned then j else 7 - j
def ptV (b : Nat → Int) (tu : Bool) (P i j : Nat) : Value := .int .u8 (if j < i then part b (posK tu j) (P + 1) else part b (posK tu j) P)
def Z8 : Array Value := #[.int .u8 0, .int .u8 0, .int .u8 0, .int .u8 0, .int .u8 0, .int .u8 0, .int .u8 0, .int .u8 0]
theorem o8 : Z8.all (·.oneCell') = true := row_one 8 (fun _ => .int .u8 0) fun j _ => rfl
theorem z8 (b : Nat → Int) (tu : Bool) : Z8 = row 8 (ptV b tu 0 0) := (show Z8 = row 8 (fun _ => .int .u8 0) from rfl).trans (row_congr _ _ _ fun j _ => by unfold ptV; rw [if_neg (Nat.not_lt_zero j)]; rfl)
theorem heap_drewN (w : World) (n b : Nat) : (w.drewN n).heap[b]? = w.heap[b]? := rfl
theorem set_drewN (w : World) (n : Nat) (a : Addr) (v : Value) : (w.drewN n).setCell a v = (w.setCell a v).drewN n := rfl
theorem alloc_drewN (w : World) (n : Nat) (o : Obj) : (w.drewN n).alloc o = (w.alloc o).drewN n := rfl
theorem sets_drewN (g n : Nat) : ∀ (vs : List Value) (i : Nat) (w : World), (w.drewN n).setCells g i vs = (w.setCells g i vs).drewN n
  | [], _, _ => rfl
  | v :: vs, i, w => by rw [World.setCells, set_drewN, sets_drewN g n vs]; rfl
theorem below_drewN {B : Nat} {a w : World} (h : Below B a w) (n : Nat) : Below B a (w.drewN n) := h.trans ⟨rfl, rfl, rfl, Nat.le_refl _, fun _ _ => rfl⟩
theorem part_bd (b : Nat → Int) (k P : Nat) : 0 ≤ part b k P ∧ part b k P < 2 ^ P := by
  induction P with
  | zero => exact ⟨Int.le_refl _, (by decide : (0 : Int) < 2 ^ 0)⟩
  | succ P ih =>
    have := bitK_bd (b P) k
    show 0 ≤ part b k P + bitK (b P) k * 2 ^ P ∧ part b k P + bitK (b P) k * 2 ^ P < _
    rw [Int.pow_succ]
    rcases (by omega : bitK (b P) k = 0 ∨ bitK (b P) k = 1) with e | e <;> rw [e] <;> omega
theorem and_1 (y : Int) (y0 : 0 ≤ y) (y1 : y < 256) : Go.bits .and .u8 y 1 = y % 2 := by
  obtain ⟨y, rfl⟩ := Int.eq_ofNat_of_zero_le y0
  have hy : y < 256 := by omega
  rw [show (1 : Int) = ((1 : Nat) : Int) from rfl, and8, Nat.mod_eq_of_lt hy, show 1 % 256 = 1 from rfl, m1' y hy]; rfl
theorem or_tab : allB 4 (fun P => allB 8 fun x => allB 2 fun c => !(decide (x < 2 ^ P)) || decide (Go.bits .or .u8 (x : Int) ((c : Int) * 2 ^ P % 256) = (x : Int) + (c : Int) * 2 ^ P)) = true := by decide +kernel
theorem or_part (x y : Int) (P : Nat) (hP : P < 4) (x0 : 0 ≤ x) (x1 : x < 2 ^ P) (y0 : 0 ≤ y) (y1 : y < 256) : Go.bits .or .u8 x (Go.bits .and .u8 y 1 * 2 ^ P % 256) = x + y % 2 * 2 ^ P := by
  rw [and_1 y y0 y1]
  obtain ⟨x, rfl⟩ := Int.eq_ofNat_of_zero_le x0
  obtain ⟨c, hc⟩ := Int.eq_ofNat_of_zero_le (show 0 ≤ y % 2 by omega)
  rw [hc]
  have hp : (2 : Int) ^ P ≤ 8 := by rcases (by omega : P = 0 ∨ P = 1 ∨ P = 2 ∨ P = 3) with rfl | rfl | rfl | rfl <;> decide
  have hx : x < 2 ^ P := by have : ((2 ^ P : Nat) : Int) = (2 : Int) ^ P := by simp
                            omega
  have t := allB_at (allB_at (allB_at or_tab hP) (show x < 8 by omega)) (show c < 2 by omega)
  simp only [Bool.or_eq_true, Bool.not_eq_true', decide_eq_false_iff_not, decide_eq_true_eq] at t
  exact t.resolve_left (fun g => g hx)
theorem pt_set (b : Nat → Int) (tu : Bool) (P k : Nat) (hP : P < 4) (hk : k < 8) (bb x : Int) (hbb : b P = bb) (hx : part b (posK tu k) P = x) (b0 : 0 ≤ bb) (b1 : bb < 256) :
    (row 8 (ptV b tu P k)).setIfInBounds k (.int .u8 (Go.bits .or .u8 x (Go.bits .and .u8 (bb / 2 ^ posK tu k) 1 * 2 ^ P % 256))) = row 8 (ptV b tu P (k + 1)) := by
  have xb := part_bd b (posK tu k) P
  rw [hx] at xb
  have d0 : 0 ≤ bb / 2 ^ posK tu k := Int.ediv_nonneg b0 (Int.le_of_lt (Int.pow_pos (by decide)))
  have d1 : bb / 2 ^ posK tu k < 256 := Int.lt_of_le_of_lt (Int.ediv_le_self _ b0) b1
  rw [or_part x _ P hP xb.1 xb.2 d0 d1]
  refine row_set _ _ _ _ _ fun j hj => ?_
  unfold ptV
  by_cases e : j = k
  · subst e
    rw [if_pos rfl, if_pos (by omega), ← hx, ← hbb]
    rfl
  · rw [if_neg e]
    by_cases e2 : j < k
    · rw [if_pos e2, if_pos (by omega)]
    · rw [if_neg e2, if_neg (by omega)]
theorem pt_next (b : Nat → Int) (tu : Bool) (P : Nat) : row 8 (ptV b tu P 8) = row 8 (ptV b tu (P + 1) 0) := row_congr _ _ _ fun j hj => by
  unfold ptV; rw [if_pos hj, if_neg (Nat.not_lt_zero j)]
theorem pt_last (b : Nat → Int) (tu : Bool) (zs : List Int) (t r : Int) (hb : ∀ q : Nat, atV zs (ofs t r + q) = b q) : row 8 (ptV b tu 4 0) = row 8 (fun j => .int .u8 (dotV zs t r (posK tu j))) := row_congr _ _ _ fun j hj => by
  unfold ptV
  rw [if_neg (Nat.not_lt_zero j)]
  have h0 := hb 0
  have h1 := hb 1
  have h2 := hb 2
  have h3 := hb 3
  rw [show ofs t r + ((0 : Nat) : Int) = ofs t r by omega] at h0
  rw [show ((1 : Nat) : Int) = 1 from rfl] at h1
  rw [show ((2 : Nat) : Int) = 2 from rfl] at h2
  rw [show ((3 : Nat) : Int) = 3 from rfl] at h3
  unfold dotV
  rw [h0, h1, h2, h3]
  congr 1
  show 0 + bitK (b 0) (posK tu j) * 1 + bitK (b 1) (posK tu j) * 2 + bitK (b 2) (posK tu j) * 4 + bitK (b 3) (posK tu j) * 8 = _
  omega
set_option maxHeartbeats 4000000 in
theorem row_f (v : Value) (zs : List Int) (t r : Int) (w : World) (hs : Bytes w v zs) : Calls Try.prog 15 #[v, .int .i64 t, .int .i64 r, .bool false] w fun e w' => e = .returned (.agg (row 8 fun j => .int .u8 (dotV zs t r (posK false j)))) ∧ ∃ o1 o2 n, w' = ((w.alloc o1).alloc o2).drewN n := by
  have e1 := and64_511 t
  have e2 := and64_7 r
  have r1 : 0 ≤ t % 512 ∧ t % 512 < 512 := by omega
  have r2 : 0 ≤ r % 8 ∧ r % 8 < 8 := by omega
  obtain ⟨f, hf⟩ : ∃ f, ofs t r = f := ⟨_, rfl⟩
  have hf2 : t % 512 * 32 + r % 8 * 4 = f := by rw [← hf]; unfold ofs; omega
  generalize t % 512 = t' at *
  generalize r % 8 = r' at *
  obtain ⟨s0, s1⟩ := r1
  obtain ⟨s2, s3⟩ := r2
  have f0 : 0 ≤ f := by omega
  have f1 : f < 20000 := by omega
  obtain ⟨b, hb⟩ : ∃ b : Nat → Int, ∀ q : Nat, atV zs (f + q) = b q := ⟨_, fun _ => rfl⟩
  have hat := fun (q : Nat) W hW => at_any v zs (f + q) W hW
  have hbd := fun q : Nat => at_bd hs (f + q)
  simp only [hb] at hat hbd
  have HAT := Lib.hid hat
  have HBD := Lib.hid hbd
  have HF := Lib.hid hf
  have HB := Lib.hid hb
  have HS := Lib.hid hs
  clear hat hbd hf hb hs
  go_enter Try.func15, Try.ntmps15
  go_wp2_with fail
  go_loopw [22] (fun i wr => ∃ (P : Nat) (A : Array Value) (n : Nat), P ≤ 4 ∧ i = .int .i64 P ∧ wr = ((w.alloc (.cells Z8 42)).alloc (.cells A 42)).drewN n ∧ A = row 8 (ptV b false P 0)) (fun i _ => (4 - intOf i).toNat)
  case atStart => exact ⟨0, Z8, 0, by omega, rfl, rfl, z8 _ _⟩
  case round =>
    obtain ⟨P, A, n, hP, rfl, rfl, hA⟩ := hrel
    by_cases hlt : P < 4
    · obtain ⟨bb, hbb⟩ : ∃ bb, b P = bb := ⟨_, rfl⟩
      have hat := HAT.out P
      obtain ⟨u0, u1⟩ := HBD.out P
      rw [hbb] at hat u0 u1
      have HATP := Lib.hid hat
      have HBB := Lib.hid hbb
      have HA := Lib.hid hA
      clear hat hA hbb
      go_wp2_with fail
      refine (HATP.out _ (((HS.out.alloc _).alloc _).below (below_drewN (Below.refl _ _) _))).mono ?_
      rintro e w' ⟨rfl, rfl⟩
      go_wp2_with fail
      go_loopw [30] (fun i wr => ∃ (k : Nat) (A : Array Value) (m : Nat), k ≤ 8 ∧ i = .int .i64 k ∧ wr = ((w.alloc (.cells Z8 42)).alloc (.cells A 42)).drewN m ∧ A = row 8 (ptV b false P k)) (fun i _ => (8 - intOf i).toNat)
      case atStart => exact ⟨0, A, n, by omega, rfl, rfl, HA.out⟩
      case round =>
        obtain ⟨k, A, m, hk, rfl, rfl, hA2⟩ := hrel
        by_cases hlt2 : k < 8
        · have c1 := row_get 8 (ptV b false P k) k hlt2
          rw [← hA2] at c1
          unfold ptV at c1
          rw [if_neg (Nat.lt_irrefl k)] at c1
          obtain ⟨x, hx⟩ : ∃ x, part b (posK false k) P = x := ⟨_, rfl⟩
          rw [hx] at c1
          have HX := Lib.hid hx
          have HA2 := Lib.hid hA2
          clear hx hA2
          have i0 : (0 : Int) ≤ (k : Int) := by omega
          have i1 : (k : Int) < 8 := by omega
          have i2 : (0 : Int) ≤ 7 - (k : Int) := by omega
          go_wp2_with fail
          go_region
          go_wp2_with fail
          go_roundw
          case rel => exact ⟨k + 1, _, m + 1, by omega, by go_num, by rw [set_drewN, World.setCell_alloc_at _ _ _ _ _ (by simp)], by rw [HA2.out]; exact pt_set b false P k hlt hlt2 bb x HBB.out HX.out u0 u1⟩
          case measure => simp [intOf] <;> omega
        · have hk8 : k = 8 := by omega
          subst hk8
          have HA2 := Lib.hid hA2
          clear hA2
          go_wp2_with fail
          go_roundw
          case rel => exact ⟨P + 1, A, m, by omega, by go_num, rfl, by rw [HA2.out]; exact pt_next _ _ _⟩
          case measure => simp [intOf] <;> omega
    · have hP4 : P = 4 := by omega
      subst hP4
      have eA : A = row 8 (fun j => .int .u8 (dotV zs t r (posK false j))) := by
        rw [hA]; exact pt_last b false zs t r (by rw [HF.out]; exact HB.out)
      have sA : A.size = 8 := by rw [hA, row_size]
      have oA : A.all (·.oneCell') = true := by rw [hA]; exact row_one _ _ fun j _ => rfl
      have iA : (Try.prog.info? 42).map (·.size) = some A.size := by rw [sA]; kernel_rfl
      have lA : A.toList.length = 8 := by simpa using sA
      have EA := Lib.hid eA
      have IA := Lib.hid iA
      have OA := Lib.hid oA
      have SA := Lib.hid sA
      clear hA eA sA oA iA
      go_wp2_with (first | ((with_reducible refine at_load 42 (.tmp 9) ?_); refine load_row 42 (.tmp 9) (w.heap.size + 1) 42 A _ (by repeat (first | (refine heap_at _ _ _ ?_; (simp; done)) | (refine (heap_past _ _ _ ?_).trans ?_; focus (simp; done)) | (refine (heap_drew _ _).trans ?_) | (refine (heap_drewN _ _ _).trans ?_))) Try.underlying42 rfl IA.out rfl rfl rfl ?_) | ((with_reducible refine at_store 42 (.tmp 8) (.tmp 50) ?_); refine store_row 42 (.tmp 8) (.tmp 50) w.heap.size 42 Z8 A (by repeat (first | (refine heap_at _ _ _ ?_; (simp; done)) | (refine (heap_past _ _ _ ?_).trans ?_; focus (simp; done)) | (refine (heap_drew _ _).trans ?_) | (refine (heap_drewN _ _ _).trans ?_))) (by rw [SA.out]; rfl) OA.out IA.out rfl rfl rfl rfl ?_))
      go_simp
      rw [sets_drewN, setCells_past _ _ _ _ _ (by simp), setCells_new _ _ _ _ _ rfl (by rw [lA]; rfl)]
      exact bodyPost_ret (v := .agg A) (results_cell_row rfl _ _ w.heap.size 42 A (0, 0) _ rfl (by repeat (first | (refine heap_at _ _ _ ?_; (simp; done)) | (refine (heap_past _ _ _ ?_).trans ?_; focus (simp; done)) | (refine (heap_drew _ _).trans ?_) | (refine (heap_drewN _ _ _).trans ?_))) Try.underlying42 rfl IA.out) rfl ⟨by rw [EA.out], _, _, _, rfl⟩
set_option maxHeartbeats 4000000 in
theorem row_t (v : Value) (zs : List Int) (t r : Int) (w : World) (hs : Bytes w v zs) : Calls Try.prog 15 #[v, .int .i64 t, .int .i64 r, .bool true] w fun e w' => e = .returned (.agg (row 8 fun j => .int .u8 (dotV zs t r (posK true j)))) ∧ ∃ o1 o2 n, w' = ((w.alloc o1).alloc o2).drewN n := by
  have e1 := and64_511 t
  have e2 := and64_7 r
  have r1 : 0 ≤ t % 512 ∧ t % 512 < 512 := by omega
  have r2 : 0 ≤ r % 8 ∧ r % 8 < 8 := by omega
  obtain ⟨f, hf⟩ : ∃ f, ofs t r = f := ⟨_, rfl⟩
  have hf2 : t % 512 * 32 + r % 8 * 4 = f := by rw [← hf]; unfold ofs; omega
  generalize t % 512 = t' at *
  generalize r % 8 = r' at *
  obtain ⟨s0, s1⟩ := r1
  obtain ⟨s2, s3⟩ := r2
  have f0 : 0 ≤ f := by omega
  have f1 : f < 20000 := by omega
  obtain ⟨b, hb⟩ : ∃ b : Nat → Int, ∀ q : Nat, atV zs (f + q) = b q := ⟨_, fun _ => rfl⟩
  have hat := fun (q : Nat) W hW => at_any v zs (f + q) W hW
  have hbd := fun q : Nat => at_bd hs (f + q)
  simp only [hb] at hat hbd
  have HAT := Lib.hid hat
  have HBD := Lib.hid hbd
  have HF := Lib.hid hf
  have HB := Lib.hid hb
  have HS := Lib.hid hs
  clear hat hbd hf hb hs
  go_enter Try.func15, Try.ntmps15
  go_wp2_with fail
  go_loopw [22] (fun i wr => ∃ (P : Nat) (A : Array Value) (n : Nat), P ≤ 4 ∧ i = .int .i64 P ∧ wr = ((w.alloc (.cells Z8 42)).alloc (.cells A 42)).drewN n ∧ A = row 8 (ptV b true P 0)) (fun i _ => (4 - intOf i).toNat)
  case atStart => exact ⟨0, Z8, 0, by omega, rfl, rfl, z8 _ _⟩
  case round =>
    obtain ⟨P, A, n, hP, rfl, rfl, hA⟩ := hrel
    by_cases hlt : P < 4
    · obtain ⟨bb, hbb⟩ : ∃ bb, b P = bb := ⟨_, rfl⟩
      have hat := HAT.out P
      obtain ⟨u0, u1⟩ := HBD.out P
      rw [hbb] at hat u0 u1
      have HATP := Lib.hid hat
      have HBB := Lib.hid hbb
      have HA := Lib.hid hA
      clear hat hA hbb
      go_wp2_with fail
      refine (HATP.out _ (((HS.out.alloc _).alloc _).below (below_drewN (Below.refl _ _) _))).mono ?_
      rintro e w' ⟨rfl, rfl⟩
      go_wp2_with fail
      go_loopw [30] (fun i wr => ∃ (k : Nat) (A : Array Value) (m : Nat), k ≤ 8 ∧ i = .int .i64 k ∧ wr = ((w.alloc (.cells Z8 42)).alloc (.cells A 42)).drewN m ∧ A = row 8 (ptV b true P k)) (fun i _ => (8 - intOf i).toNat)
      case atStart => exact ⟨0, A, n, by omega, rfl, rfl, HA.out⟩
      case round =>
        obtain ⟨k, A, m, hk, rfl, rfl, hA2⟩ := hrel
        by_cases hlt2 : k < 8
        · have c1 := row_get 8 (ptV b true P k) k hlt2
          rw [← hA2] at c1
          unfold ptV at c1
          rw [if_neg (Nat.lt_irrefl k)] at c1
          obtain ⟨x, hx⟩ : ∃ x, part b (posK true k) P = x := ⟨_, rfl⟩
          rw [hx] at c1
          have HX := Lib.hid hx
          have HA2 := Lib.hid hA2
          clear hx hA2
          have i0 : (0 : Int) ≤ (k : Int) := by omega
          have i1 : (k : Int) < 8 := by omega
          have i2 : (0 : Int) ≤ 7 - (k : Int) := by omega
          go_wp2_with fail
          go_region
          go_wp2_with fail
          go_roundw
          case rel => exact ⟨k + 1, _, m + 1, by omega, by go_num, by rw [set_drewN, World.setCell_alloc_at _ _ _ _ _ (by simp)], by rw [HA2.out]; exact pt_set b true P k hlt hlt2 bb x HBB.out HX.out u0 u1⟩
          case measure => simp [intOf] <;> omega
        · have hk8 : k = 8 := by omega
          subst hk8
          have HA2 := Lib.hid hA2
          clear hA2
          go_wp2_with fail
          go_roundw
          case rel => exact ⟨P + 1, A, m, by omega, by go_num, rfl, by rw [HA2.out]; exact pt_next _ _ _⟩
          case measure => simp [intOf] <;> omega
    · have hP4 : P = 4 := by omega
      subst hP4
      have eA : A = row 8 (fun j => .int .u8 (dotV zs t r (posK true j))) := by
        rw [hA]; exact pt_last b true zs t r (by rw [HF.out]; exact HB.out)
      have sA : A.size = 8 := by rw [hA, row_size]
      have oA : A.all (·.oneCell') = true := by rw [hA]; exact row_one _ _ fun j _ => rfl
      have iA : (Try.prog.info? 42).map (·.size) = some A.size := by rw [sA]; kernel_rfl
      have lA : A.toList.length = 8 := by simpa using sA
      have EA := Lib.hid eA
      have IA := Lib.hid iA
      have OA := Lib.hid oA
      have SA := Lib.hid sA
      clear hA eA sA oA iA
      go_wp2_with (first | ((with_reducible refine at_load 42 (.tmp 9) ?_); refine load_row 42 (.tmp 9) (w.heap.size + 1) 42 A _ (by repeat (first | (refine heap_at _ _ _ ?_; (simp; done)) | (refine (heap_past _ _ _ ?_).trans ?_; focus (simp; done)) | (refine (heap_drew _ _).trans ?_) | (refine (heap_drewN _ _ _).trans ?_))) Try.underlying42 rfl IA.out rfl rfl rfl ?_) | ((with_reducible refine at_store 42 (.tmp 8) (.tmp 50) ?_); refine store_row 42 (.tmp 8) (.tmp 50) w.heap.size 42 Z8 A (by repeat (first | (refine heap_at _ _ _ ?_; (simp; done)) | (refine (heap_past _ _ _ ?_).trans ?_; focus (simp; done)) | (refine (heap_drew _ _).trans ?_) | (refine (heap_drewN _ _ _).trans ?_))) (by rw [SA.out]; rfl) OA.out IA.out rfl rfl rfl rfl ?_))
      go_simp
      rw [sets_drewN, setCells_past _ _ _ _ _ (by simp), setCells_new _ _ _ _ _ rfl (by rw [lA]; rfl)]
      exact bodyPost_ret (v := .agg A) (results_cell_row rfl _ _ w.heap.size 42 A (0, 0) _ rfl (by repeat (first | (refine heap_at _ _ _ ?_; (simp; done)) | (refine (heap_past _ _ _ ?_).trans ?_; focus (simp; done)) | (refine (heap_drew _ _).trans ?_) | (refine (heap_drewN _ _ _).trans ?_))) Try.underlying42 rfl IA.out) rfl ⟨by rw [EA.out], _, _, _, rfl⟩
theorem row_any (v : Value) (zs : List Int) (t r : Int) (tu : Bool) (w : World) (hs : Bytes w v zs) : Calls Try.prog 15 #[v, .int .i64 t, .int .i64 r, .bool tu] w fun e w' => e = .returned (.agg (row 8 fun j => .int .u8 (dotV zs t r (posK tu j)))) ∧ ∃ o1 o2 n, w' = ((w.alloc o1).alloc o2).drewN n := by
  cases tu
  · exact row_f v zs t r w hs
  · exact row_t v zs t r w hs
end TileR
end Go.Proofs.Ytpjgcbbpfpcjeaa
