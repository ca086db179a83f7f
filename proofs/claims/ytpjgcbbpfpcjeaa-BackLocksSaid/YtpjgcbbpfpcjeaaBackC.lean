/- The bytes of an image (layer 17), once more: they lie in new memory. No conditions but that numbers are of their kinds and slices are slices. -/
import Derived.Test.YtpjgcbbpfpcjeaaBackB
import Derived.Laws.OwnMore
namespace Go.Proofs.Ytpjgcbbpfpcjeaa
open Go.RowKit
open Kit Tile TileR
set_option linter.unusedSimpArgs false
set_option linter.unusedVariables false
namespace TileB
set_option maxRecDepth 100000 in
set_option maxHeartbeats 8000000 in
theorem build_far (v1 v2 : Value) (m a : Int) (z1 z2 : List Int) (w : World) (ha0 : -9223372036854775808 ≤ a) (ha1 : a ≤ 9223372036854775807) (hlen2 : z2.length ≤ 300) (h1 : Bytes w v1 z1) (h2 : Bytes w v2 z2) : Calls Try.prog 11 #[.agg #[v1, v2, .int .i64 m, .int .i64 a]] w fun e w' =>
    ∃ (g n : Nat) (zs : List Int), e = .returned (.slice (some ⟨g, 0, none⟩) n n) ∧ Bytes w' (.slice (some ⟨g, 0, none⟩) n n) zs ∧ Below w.heap.size w w' ∧ w.heap.size < g ∧ g < w'.heap.size := by
  obtain ⟨i0, hi, hz0, hz1, hz2⟩ := info_parts info8
  obtain ⟨n, hn⟩ : ∃ n, manyN m = n := ⟨_, rfl⟩
  have hn1 : n ≤ 16384 := by rw [← hn]; unfold manyN; split <;> (try split) <;> omega
  have hcase : m < 0 ∧ n = 0 ∨ 0 ≤ m ∧ m ≤ 16384 ∧ m = (n : Int) ∨ 16384 < m ∧ n = 16384 := by
    rw [← hn]; unfold manyN; split
    · left; constructor <;> simp_all
    · split <;> omega
  have bd1 := fun j => byte_bd h1 j
  have bd2 := fun j => byte_bd h2 j
  have BD1 := Lib.hid bd1
  have BD2 := Lib.hid bd2
  obtain ⟨p1, cap1, rfl, hl1, hm1, hc1, _⟩ := h1
  obtain ⟨p2, cap2, rfl, hl2, hm2, hc2, _⟩ := h2
  unfold maxLen at hm1 hm2
  have HC1 := Lib.hid hc1
  have HC2 := Lib.hid hc2
  have HI := Lib.hid hi
  have HZ0 := Lib.hid hz0
  have HZ1 := Lib.hid hz1
  have HZ2 := Lib.hid hz2
  have HCASE := Lib.hid hcase
  clear bd1 bd2 hc1 hc2 hi hz0 hz1 hz2 hn hcase
  rcases (by omega : m < 0 ∨ 0 ≤ m ∧ m ≤ 16384 ∨ 16384 < m) with c1 | ⟨c1, c2⟩ | c1
  all_goals
    go_enter Try.func11, Try.ntmps11
    go_wp2_with (at_make; refine wpList_make_full _ rfl _ _ 31 rfl (w.heap.size + 1) 5 i0 (.int .u8 0) 1 Try.underlying31 HI.out HZ0.out HZ1.out .i64 .i64 _ _ n rfl rfl (by have := HCASE.out; omega) (by have := HCASE.out; omega) (by rw [HZ2.out]; omega) (by unfold maxLen; omega) (by simp) ?_; intro w1 hown hgrow)
    all_goals
      have hsz : (w.alloc (Obj.cells #[.slice p1 z1.length cap1, .slice p2 z2.length cap2, .int .i64 m, .int .i64 a] 33)).heap.size = w.heap.size + 1 := by simp
      rw [hsz] at hown
      have hout := out_made hown
      have hbel : Below w.heap.size w w1 := ((Below.refl _ _).alloc (Nat.le_refl _) _).grown hgrow (by simp) (fun k hk => by cases hk)
      have himg : w1.heap[w.heap.size]? = some (.cells #[.slice p1 z1.length cap1, .slice p2 z2.length cap2, .int .i64 m, .int .i64 a] 33) := (hgrow.block w.heap.size (by simp) (fun e => by cases e)).trans (heap_at _ _ _ rfl)
      have hgs := own_lt hown
      have OUT := Lib.hid hout
      have IMG := Lib.hid himg
      clear hown hgrow hsz hout himg
      go_loopw [14] (fun i wr => LRel w n n (.slice p1 z1.length cap1) (.slice p2 z2.length cap2) (.int .i64 m) (.int .i64 a) i wr) (fun i _ => (n - intOf i).toNat)
      case atStart => exact ⟨0, by omega, rfl, OUT.out, IMG.out, hbel, hgs⟩
      case round =>
        obtain ⟨k, hk, rfl, hO, hI, hb, hz⟩ := hrel
        obtain ⟨k0, k1, k2, k3⟩ := img_cells hI
        by_cases hlt : k < n
        · obtain ⟨⟨z, z0, z1', hz'⟩, hf⟩ := hO k hlt
          have HO := Lib.hid hO
          have HIm := Lib.hid hI
          clear hO hI
          have i0' : (0 : Int) ≤ (k : Int) := by omega
          have i1' : (k : Int) < (n : Int) := by omega
          by_cases hl0 : z1.length = 0
          · have d0 : decide (0 < z1.length) = false := decide_eq_false (by omega)
            go_wp2_with fail
            go_roundw
            case rel => exact ⟨k + 1, by omega, by go_num, HO.out, HIm.out, hb, hz⟩
            case measure => simp [intOf] <;> omega
          · obtain ⟨b1, o1, rfl, hb1, hcell1⟩ := HC1.out (by omega)
            obtain ⟨r, hr⟩ : ∃ r, k % z1.length = r := ⟨_, rfl⟩
            have hrl : r < z1.length := by rw [← hr]; exact Nat.mod_lt _ (by omega)
            have e1 : (k : Int).tmod (z1.length : Int) = (r : Int) := by rw [Int.tmod_eq_emod_of_nonneg (by omega), ← hr]; rfl
            have e2 : (k : Int) % (z1.length : Int) = (r : Int) := by rw [← hr]; rfl
            have cz : wr.cell? ⟨b1, o1 + r, none⟩ = some (.int .u8 (z1.getD r 0)) := by rw [hb.cell (p := ⟨b1, o1 + r, none⟩) hb1]; exact hcell1 r hrl
            obtain ⟨y0, y1⟩ := BD1.out r
            generalize z1.getD r 0 = y at *
            have d0 : decide (0 < z1.length) = true := decide_eq_true (by omega)
            have d1 : 0 < z1.length := by omega
            have dz : ((z1.length : Int) == 0) = false := beq_eq_false_iff_ne.2 (by omega)
            have j0 : (0 : Int) ≤ (r : Int) := by omega
            have j1 : (r : Int) < (z1.length : Int) := by omega
            have q1 : (1 : Int) ≤ (z1.length : Int) := by omega
            clear hcell1 hr HC2
            go_wp2_with fail
            go_region
            go_wp2_with fail
            go_roundw
            case rel => exact ⟨k + 1, by omega, by go_num, (HO.out.set k _ (xor_bd y _ y0 y1 (by omega) (by omega)).1 (xor_bd y _ y0 y1 (by omega) (by omega)).2).drew, (heap_set_other _ _ _ _ _ (by omega)).trans HIm.out, by go_grown, by simpa [World.setCell] using hz⟩
            case measure => simp [intOf] <;> omega
        · have HO := Lib.hid hO
          have HIm := Lib.hid hI
          clear hO hI
          have dk : decide (k < n) = false := decide_eq_false hlt
          have dk2 : n ≤ k := by omega
          go_wp2_with fail
          go_loopw [41] (fun i wr => LRel w n z2.length (.slice p1 z1.length cap1) (.slice p2 z2.length cap2) (.int .i64 m) (.int .i64 a) i wr) (fun i _ => (z2.length - intOf i).toNat)
          case atStart => exact ⟨0, by omega, rfl, HO.out, HIm.out, hb, hz⟩
          case round =>
            obtain ⟨k, hk, rfl, hO, hI, hb, hz⟩ := hrel
            obtain ⟨k0, k1, k2, k3⟩ := img_cells hI
            have HO := Lib.hid hO
            have HIm := Lib.hid hI
            clear hO hI
            by_cases hlt : k < z2.length
            · obtain ⟨b2, o2, rfl, hb2, hcell2⟩ := HC2.out (by omega)
              have cz : wr.cell? ⟨b2, o2 + k, none⟩ = some (.int .u8 (z2.getD k 0)) := by rw [hb.cell (p := ⟨b2, o2 + k, none⟩) hb2]; exact hcell2 k hlt
              obtain ⟨y0, y1⟩ := BD2.out k
              generalize z2.getD k 0 = y at *
              have i0' : (0 : Int) ≤ (k : Int) := by omega
              have i1' : (k : Int) < (z2.length : Int) := by omega
              clear hcell2 HC1
              by_cases g1 : 0 ≤ a
              · by_cases g2 : a < 16384
                · by_cases g3 : a + k < n
                  · obtain ⟨t, ht⟩ : ∃ t : Nat, (t : Int) = a + k := ⟨(a + k).toNat, by omega⟩
                    obtain ⟨⟨z, z0, z1', hz'⟩, hf⟩ := HO.out t (by omega)
                    have ea : a = (t : Int) - k := by omega
                    have j1 : (t : Int) < (n : Int) := by omega
                    have hat : a + (k : Int) = (t : Int) := ht.symm
                    clear ht ea
                    have j0 : (0 : Int) ≤ (t : Int) := by omega
                    have d1 : decide ((0 : Int) ≤ a) = true := decide_eq_true g1
                    have d2 : decide (a < 16384) = true := decide_eq_true g2
                    have d3 : decide (t < n) = true := decide_eq_true (by omega)
                    have d4 : t < n := by omega
                    go_wp2_with fail
                    go_roundw
                    case rel => exact ⟨k + 1, by omega, by go_num, HO.out.set t y y0 y1, (heap_set_other _ _ _ _ _ (by omega)).trans HIm.out, by go_grown, by simpa [World.setCell] using hz⟩
                    case measure => simp [intOf] <;> omega
                  · have d1 : decide ((0 : Int) ≤ a) = true := decide_eq_true g1
                    have d2 : decide (a < 16384) = true := decide_eq_true g2
                    have g4 : (n : Int) ≤ a + (k : Int) := by omega
                    have g5 : (k : Int) ≤ 300 := by omega
                    go_wp2_with fail
                    go_roundw
                    case rel => exact ⟨k + 1, by omega, by go_num, HO.out, HIm.out, hb, hz⟩
                    case measure => simp [intOf] <;> omega
                · have d1 : decide ((0 : Int) ≤ a) = true := decide_eq_true g1
                  have d2 : decide (a < 16384) = false := decide_eq_false g2
                  go_wp2_with fail
                  go_roundw
                  case rel => exact ⟨k + 1, by omega, by go_num, HO.out, HIm.out, hb, hz⟩
                  case measure => simp [intOf] <;> omega
              · have d1 : decide ((0 : Int) ≤ a) = false := decide_eq_false g1
                go_wp2_with fail
                go_roundw
                case rel => exact ⟨k + 1, by omega, by go_num, HO.out, HIm.out, hb, hz⟩
                case measure => simp [intOf] <;> omega
            · have dl : decide (k < z2.length) = false := decide_eq_false hlt
              have dl2 : z2.length ≤ k := by omega
              go_wp2_with fail
              go_ret
              obtain ⟨zs, _, hzs⟩ := HO.out.bytes hz (by unfold maxLen; omega)
              exact ⟨w.heap.size + 1, n, zs, rfl, hzs, hb, by omega, hz⟩
end TileB
end Go.Proofs.Ytpjgcbbpfpcjeaa
