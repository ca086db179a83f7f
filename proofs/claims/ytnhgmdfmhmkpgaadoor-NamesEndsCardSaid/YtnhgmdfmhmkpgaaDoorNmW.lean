/- What instructions are called (layer 11): the walks of what is claimed (pages; unlike names). No conditions but those stated. -/
import Derived.Test.YtnhgmdfmhmkpgaaDoorNmM
import Derived.RegionTactic
import Derived.LoopTactic
import Derived.Deep.RegionHeld3
import Derived.Deep.DeepCutAuto
import Derived.Lib.Hide
namespace Go.Proofs.YtnhgmdfmhmkpgaaDoor
open Go.RowKit
open Kit
set_option linter.unusedSimpArgs false
set_option linter.unusedVariables false
namespace Nm
theorem pa_name : nameL (byt [221, 203, 255, 6]) = ([82, 76, 67, 32, 40, 73, 88, 45, 49, 41], 4) := by decide +kernel
theorem pa_bytes (W : World) : BytesOf (W.alloc (.cells #[.int .u8 221, .int .u8 203, .int .u8 255, .int .u8 6] 5)) (.slice (some ⟨W.heap.size, 0, none⟩) 4 4) [221, 203, 255, 6] := by
  refine ⟨_, 4, rfl, by decide, fun _ => ⟨W.heap.size, 0, rfl, by simp, fun i x hx => ?_⟩⟩
  rw [Nat.zero_add, cell_of _ _ i (heap_at _ _ _ rfl)]
  match i, hx with
  | 0, hx => simp at hx; subst hx; rfl
  | 1, hx => simp at hx; subst hx; rfl
  | 2, hx => simp at hx; subst hx; rfl
  | 3, hx => simp at hx; subst hx; rfl
  | (i + 4), hx => simp at hx
theorem pb_name : nameL (byt [253, 221]) = ([70, 68], 1) := by decide +kernel
theorem pb_bytes (W : World) : BytesOf (W.alloc (.cells #[.int .u8 253, .int .u8 221] 5)) (.slice (some ⟨W.heap.size, 0, none⟩) 2 2) [253, 221] := by
  refine ⟨_, 2, rfl, by decide, fun _ => ⟨W.heap.size, 0, rfl, by simp, fun i x hx => ?_⟩⟩
  rw [Nat.zero_add, cell_of _ _ i (heap_at _ _ _ rfl)]
  match i, hx with
  | 0, hx => simp at hx; subst hx; rfl
  | 1, hx => simp at hx; subst hx; rfl
  | (i + 2), hx => simp at hx
theorem pc_name : nameL (byt []) = ([78, 79, 80], 1) := by decide +kernel
theorem pd_name : nameL (byt [221, 54, 5, 171]) = ([76, 68, 32, 40, 73, 88, 43, 53, 41, 44, 36, 65, 66], 4) := by decide +kernel
theorem pd_bytes (W : World) : BytesOf (W.alloc (.cells #[.int .u8 221, .int .u8 54, .int .u8 5, .int .u8 171] 5)) (.slice (some ⟨W.heap.size, 0, none⟩) 4 4) [221, 54, 5, 171] := by
  refine ⟨_, 4, rfl, by decide, fun _ => ⟨W.heap.size, 0, rfl, by simp, fun i x hx => ?_⟩⟩
  rw [Nat.zero_add, cell_of _ _ i (heap_at _ _ _ rfl)]
  match i, hx with
  | 0, hx => simp at hx; subst hx; rfl
  | 1, hx => simp at hx; subst hx; rfl
  | 2, hx => simp at hx; subst hx; rfl
  | 3, hx => simp at hx; subst hx; rfl
  | (i + 4), hx => simp at hx
theorem pc_bytes (W : World) : BytesOf W (.slice none 0 0) [] := ⟨none, 0, rfl, by simp, fun h => absurd rfl h⟩
theorem no_pat (pg : Int) (h : pg < 0 ∨ 6 < pg) (o : Nat) : patL pg o = [] := by
  unfold patL
  repeat rw [if_neg (by omega)]
set_option maxRecDepth 100000 in
set_option maxHeartbeats 4000000 in
theorem pages_any : Held 3 #[] (.bool true) := held' fun W hW => by
  have k0 := NB.start hW
  go_enter Tryd.func3, Tryd.ntmps3
  have j1 := (k0.sub (L' := []) (fun p hp => (by cases hp))).alloc #[.int .u8 221, .int .u8 203, .int .u8 255, .int .u8 6] 5
  have H1 := Lib.hid (name_any _ _ _ j1.1 (pa_bytes W))
  rw [pa_name] at H1
  go_upto_region 2 with (go_at_call 6; with_reducible refine H1.out.mono ?_; rintro e w1 ⟨s1, n1, rfl, g1, z1, b1⟩)
  clear H1
  obtain ⟨x1, y1⟩ := Prod.mk.inj g1
  subst y1
  have t1 : (s1.toList == [82, 76, 67, 32, 40, 73, 88, 45, 49, 41]) = true := by rw [Lib.toList_data, x1]; rfl
  have k1 := j1.below b1.2.2
  clear g1 x1 b1 j1
  have j2 := (k1.sub (L' := []) (fun p hp => (by cases hp))).alloc #[.int .u8 253, .int .u8 221] 5
  have H2 := Lib.hid (name_any _ _ _ j2.1 (pb_bytes w1))
  rw [pb_name] at H2
  go_upto_region 3 with (go_at_call 6; with_reducible refine H2.out.mono ?_; rintro e w2 ⟨s2, n2, rfl, g2, z2, b2⟩)
  clear H2
  obtain ⟨x2, y2⟩ := Prod.mk.inj g2
  subst y2
  have t2 : (s2.toList == [70, 68]) = true := by rw [Lib.toList_data, x2]; rfl
  have k2 := j2.below b2.2.2
  clear g2 x2 b2 j2
  have j3 := k2.sub (L' := []) (fun p hp => (by cases hp))
  have H3 := Lib.hid (name_any _ _ _ j3.1 (pc_bytes w2))
  rw [pc_name] at H3
  go_upto_region 4 with (go_at_call 6; with_reducible refine H3.out.mono ?_; rintro e w3 ⟨s3, n3, rfl, g3, z3, b3⟩)
  clear H3
  obtain ⟨x3, y3⟩ := Prod.mk.inj g3
  subst y3
  have t3 : (s3.toList == [78, 79, 80]) = true := by rw [Lib.toList_data, x3]; rfl
  have k3 := j3.below b3.2.2
  clear g3 x3 b3 j3
  have j4 := (k3.sub (L' := []) (fun p hp => (by cases hp))).alloc #[.int .u8 221, .int .u8 54, .int .u8 5, .int .u8 171] 5
  have H4 := Lib.hid (name_any _ _ _ j4.1 (pd_bytes w3))
  rw [pd_name] at H4
  go_upto_region 5 with (go_at_call 6; with_reducible refine H4.out.mono ?_; rintro e w4 ⟨s4, n4, rfl, g4, z4, b4⟩)
  clear H4
  obtain ⟨x4, y4⟩ := Prod.mk.inj g4
  subst y4
  have t4 : (s4.toList == [76, 68, 32, 40, 73, 88, 43, 53, 41, 44, 36, 65, 66]) = true := by rw [Lib.toList_data, x4]; rfl
  have k4 := j4.below b4.2.2
  clear g4 x4 b4 j4
  have A1 : HeldS 8 #[.int .i64 7, .int .u8 0] [] 5000 := by
    have A := pattern_any 7 0 (by omega)
    rw [no_pat 7 (by omega)] at A
    exact A
  have A2 : HeldS 8 #[.int .i64 (-1), .int .u8 0] [] 5000 := by
    have A := pattern_any (-1) 0 (by omega)
    rw [no_pat (-1) (by omega)] at A
    exact A
  have HA := Lib.hid alive_any
  have H1 := Lib.hid A1
  have H2 := Lib.hid A2
  clear A1 A2
  go_wp2_with (first
    | (go_at_call 7; with_reducible refine (HA.out _ _ _ k4).mono ?_; rintro e w5 ⟨rfl, k5⟩)
    | (go_at_call 8; with_reducible refine (H1.out _ _ _ k5).mono ?_; rintro e w6 ⟨a6, rfl, ha6, hz6, k6⟩; (have t6 : (a6.toList == []) = true := by (simp [Lib.toList_data, ha6])))
    | (go_at_call 8; refine (H2.out _ _ _ k6).mono ?_; rintro e w7 ⟨a7, rfl, ha7, hz7, k7⟩; (have t7 : (a7.toList == []) = true := by (simp [Lib.toList_data, ha7]))))
  go_ret
  exact ⟨by simp, ⟨k7.1, fun p hp => (by cases hp), k7.2.2⟩⟩
theorem namesPages_walk (w : World) (hw : GV w) : Calls Tryd.prog 3 #[] w fun e w' => e = .returned (.bool true) ∧ Below w.heap.size w w' :=
  (pages_any w [] w (NB.start hw)).mono fun e w' ⟨h1, h2⟩ => ⟨h1, h2.2.2⟩
end Nm
end Go.Proofs.YtnhgmdfmhmkpgaaDoor
