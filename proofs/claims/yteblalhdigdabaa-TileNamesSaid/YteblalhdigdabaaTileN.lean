/- The walk of the statement on named tiles (layer 16): it returns true. No conditions. -/
import Derived.Test.YteblalhdigdabaaTileT
namespace Go.Proofs.Yteblalhdigdabaa
open Go.RowKit
open Kit Tile TileR TileB TileL TileT
set_option linter.unusedSimpArgs false
set_option linter.unusedVariables false
namespace TileN
theorem arr_made {w' : World} {g n : Nat} {base : Nat} (h : w'.ownsRow base 5 1 (.slice (some ⟨g, 0, none⟩) n n) n (madeCells (Value.cells (.int .u8 0)) (n * 1)).toList) : Arr w' g n (fun _ => .int .u8 0) := by
  intro j hj
  refine ⟨?_, h.frozenAt j⟩
  rw [h.cellAt j (by omega)]
  simp [madeCells, Value.cells, Nat.mod_one, hj]
theorem below_set {B : Nat} {a w : World} (h : Below B a w) (o : Nat) (v : Value) : Below B a (w.setCell ⟨B, o, none⟩ v) := below_sets (Nat.le_refl B) [v] o w h
def ZS : List Int := (List.replicate 64 (0 : Int)).set 36 1 |>.set 39 1
theorem zs_set (j : Nat) (hj : j < 64) : (ZS.getD j 0 : Int) = if j = 39 then 1 else if j = 36 then 1 else 0 := by
  have h : allB 64 (fun j => decide (ZS.getD j 0 = if j = 39 then 1 else if j = 36 then 1 else 0)) = true := by decide +kernel
  simpa using allB_at h hj
theorem bytes_zs {w : World} {g : Nat} (h : Arr w g 64 (fun j => .int .u8 (ZS.getD j 0))) : Bytes w (.slice (some ⟨g, 0, none⟩) 64 64) ZS :=
  ⟨some ⟨g, 0, none⟩, 64, rfl, by decide, by decide, fun _ => ⟨g, 0, rfl, h.lt (by omega), fun i hi => by rw [Nat.zero_add]; exact h.cell i hi⟩, by decide⟩
theorem rowF : (row 8 fun j => Value.int .u8 (dotV ZS 1 1 (posK false j))) = #[.int .u8 0, .int .u8 0, .int .u8 0, .int .u8 0, .int .u8 0, .int .u8 0, .int .u8 0, .int .u8 9] := by rfl
theorem rowT : (row 8 fun j => Value.int .u8 (dotV ZS 1 1 (posK true j))) = #[.int .u8 9, .int .u8 0, .int .u8 0, .int .u8 0, .int .u8 0, .int .u8 0, .int .u8 0, .int .u8 0] := by rfl
set_option maxRecDepth 100000 in
set_option maxHeartbeats 4000000 in
theorem tileNames_walk (w : World) : Calls Try.prog 5 #[] w fun e w' => e = .returned (.bool true) ∧ Below w.heap.size w w' := by
  obtain ⟨i0, hi, hz0, hz1, hz2⟩ := info_parts info8
  go_enter Try.func5, Try.ntmps5
  go_wp2_with (at_make; refine wpList_make_full _ rfl _ _ 22 rfl (w.heap.size) 5 i0 (.int .u8 0) 1 Try.underlying22 hi hz0 hz1 .i64 .i64 _ _ 64 rfl rfl (by omega) (by omega) (by rw [hz2]; omega) (by unfold maxLen; omega) (by simp) ?_; intro w1 hown hgrow; have hA := arr_made hown; have hgs := own_lt hown; have q1 : Below w.heap.size w w1 := (Below.refl _ _).grown hgrow (by simp) (fun k hk => by cases hk); have c36 := hA.cell 36 (by omega); have f36 := hA.free 36 (by omega); have c39 := hA.cell 39 (by omega); have f39 := hA.free 39 (by omega); have HA := Lib.hid hA; clear hown hgrow hA; go_upto_region 4 with fail)
  obtain ⟨w3, hw3⟩ : ∃ w3, (w1.setCell ⟨w.heap.size, 36, none⟩ (.int .u8 1)).setCell ⟨w.heap.size, 39, none⟩ (.int .u8 1) = w3 := ⟨_, rfl⟩
  have q3 : Below w.heap.size w w3 := by rw [← hw3]; exact below_set (below_set q1 36 _) 39 _
  have hz3 : Bytes w3 (.slice (some ⟨w.heap.size, 0, none⟩) 64 64) ZS := by
    rw [← hw3]
    exact bytes_zs ((HA.out.set 36 (.int .u8 1) (by omega) (fun j => if j = 36 then .int .u8 1 else .int .u8 0) (fun j _ => by by_cases h : j = 36 <;> simp [h])).set 39 (.int .u8 1) (by omega) _ (fun j hj => by rw [zs_set j hj]; by_cases h : j = 39 <;> by_cases h2 : j = 36 <;> simp [h, h2]))
  have g3 : w.heap.size < w3.heap.size := by rw [← hw3]; simpa using hgs
  have g1 : w1.heap.size = w3.heap.size := by rw [← hw3]; simp
  rw [hw3, g1]
  clear hw3 g1 q1 hgs c36 f36 c39 f39 HA hi hz0 hz1 hz2
  have e1 := eq8 #[.int .u8 0, .int .u8 0, .int .u8 0, .int .u8 0, .int .u8 0, .int .u8 0, .int .u8 0, .int .u8 9] ⟨⟨0, rfl, rfl⟩, ⟨0, rfl, rfl⟩, ⟨0, rfl, rfl⟩, ⟨0, rfl, rfl⟩, ⟨0, rfl, rfl⟩, ⟨0, rfl, rfl⟩, ⟨0, rfl, rfl⟩, ⟨9, rfl, rfl⟩, trivial⟩
  have e2 := eq8 #[.int .u8 9, .int .u8 0, .int .u8 0, .int .u8 0, .int .u8 0, .int .u8 0, .int .u8 0, .int .u8 0] ⟨⟨9, rfl, rfl⟩, ⟨0, rfl, rfl⟩, ⟨0, rfl, rfl⟩, ⟨0, rfl, rfl⟩, ⟨0, rfl, rfl⟩, ⟨0, rfl, rfl⟩, ⟨0, rfl, rfl⟩, ⟨0, rfl, rfl⟩, trivial⟩
  refine (entry_any _ [0, 0, 255, 255] 0 0 1 _ (bytes_made w3 [0, 0, 255, 255] 5 (by simp) (by simp))).mono ?_
  rintro e w' ⟨rfl, rfl⟩
  rw [show enN [0, 0, 255, 255] 0 0 1 = 511 from rfl, show enH [0, 0, 255, 255] 0 0 1 = 15 from rfl]
  go_wp2_with fail
  refine (alive_any _).mono ?_
  rintro e w4 ⟨rfl, hb4⟩
  have hb4' : Below w3.heap.size w3 w4 := ((Below.refl _ _).alloc (Nat.le_refl _) _).trans (hb4.mono (by simp))
  have hz4 := hz3.below hb4'
  have q4 : Below w.heap.size w w4 := q3.trans (hb4'.mono q3.size)
  clear hb4 hb4' q3 hz3
  go_wp2_with fail
  refine (row_any _ ZS 1 1 false _ hz4).mono ?_
  rintro e w5 ⟨rfl, o1, o2, n, rfl⟩
  rw [rowF]
  have hb5 : Below w4.heap.size w4 (((w4.alloc o1).alloc o2).drewN n) := below_drewN (((Below.refl _ _).alloc (Nat.le_refl _) _).alloc (by simp) _) _
  generalize ((w4.alloc o1).alloc o2).drewN n = w5 at *
  have hz5 := hz4.below hb5
  have q5 : Below w.heap.size w w5 := q4.trans (hb5.mono q4.size)
  clear hb5 hz4 q4
  go_wp2_with fail
  refine (row_any _ ZS 1 1 true _ hz5).mono ?_
  rintro e w6 ⟨rfl, o3, o4, n2, rfl⟩
  rw [rowT]
  have hb6 : Below w5.heap.size w5 (((w5.alloc o3).alloc o4).drewN n2) := below_drewN (((Below.refl _ _).alloc (Nat.le_refl _) _).alloc (by simp) _) _
  generalize ((w5.alloc o3).alloc o4).drewN n2 = w6 at *
  have q6 : Below w.heap.size w w6 := q5.trans (hb6.mono q5.size)
  clear hb6 hz5 q5
  go_wp2_with fail
  refine (at_any _ [] 3 _ (bytes_nil _)).mono ?_
  rintro e w' ⟨rfl, rfl⟩
  rw [show atV [] 3 = 0 from rfl]
  go_wp2_with fail
  refine (at_any _ [7] (-16384) _ (bytes_made w6 [7] 5 (by simp) (by simp))).mono ?_
  rintro e w' ⟨rfl, rfl⟩
  rw [show atV [7] (-16384) = 7 from rfl]
  go_wp2_with fail
  go_ret
  exact ⟨ret_bool (by simp), q6.alloc q6.size _⟩
end TileN
end Go.Proofs.Yteblalhdigdabaa
