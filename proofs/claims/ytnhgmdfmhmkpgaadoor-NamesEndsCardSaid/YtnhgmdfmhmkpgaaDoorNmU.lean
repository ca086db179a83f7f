/- What instructions are called (layer 11): what stands behind an instruction does not matter: the walk. No conditions but those stated. -/
import Derived.Test.YtnhgmdfmhmkpgaaDoorNmZ
import Derived.Test.YtnhgmdfmhmkpgaaDoorNmV
import Derived.RegionTactic
import Derived.LoopTactic
import Derived.Deep.RegionHeld3
import Derived.Deep.DeepCutAuto
import Derived.Lib.Hide
namespace Go.Proofs.YtnhgmdfmhmkpgaaDoor
open Go.RowKit
open Kit
set_option linter.unusedSimpArgs false
set_option linter.unusedVariables false
namespace Nm
theorem name_at (zs : List UInt8) (N : Str) (n : Nat) (hN : nameL (byt zs) = (N, n)) (w0 W : World) (hG : GV w0) (hb : Below w0.heap.size w0 W) (v : Value) (hB : BytesOf W v zs) :
    Calls Tryd.prog 6 #[v] W fun e w' => ∃ s : ByteArray, e = .returned (.tuple #[.string s, .int .i64 (n : Nat)]) ∧ s.data.toList = N ∧ s.size ≤ 5000 ∧ Below w0.heap.size w0 w' :=
  (name_any zs v W (hG.below hb) hB).mono fun e w' ⟨s, m, h1, h2, h3, h4⟩ => by
    rw [hN] at h2
    obtain ⟨h5, rfl⟩ := Prod.mk.inj h2
    exact ⟨s, h1, h5, h3, hb.trans (h4.2.2.mono hb.size)⟩
set_option maxRecDepth 100000 in
set_option maxHeartbeats 4000000 in
theorem ends_long (W : World) (hG : GV W) (p : Option Addr) (vc : Nat) (q : Option Addr) (uc : Nat) (zs ys : List UInt8) (N : Str) (n : Nat) (hN : nameL (byt zs) = (N, n)) (hB : BytesOf W (.slice p zs.length vc) zs) (hSv : SrcOf W (.slice p zs.length vc) zs) (hSu : SrcOf W (.slice q ys.length uc) ys) (hlz : zs.length ≤ 40) (hly : ys.length ≤ 40) (hn : zs.length < n) : Calls Tryd.prog 4 #[.slice p zs.length vc, .slice q ys.length uc] W fun e w' => e = .returned (.bool true) ∧ Below W.heap.size W w' := by
  have k0 := NB.start hG
  have HA := Lib.hid alive_any
  have hN2 : nameL (byt (zs ++ [0, 0, 0, 0])) = (N, n) := by rw [byt_zeros]; exact hN
  have hsz : (zs ++ [0, 0, 0, 0]).length = zs.length + 4 := by simp
  have HZ4 := Lib.hid hsz
  clear hsz
  have HN := Lib.hid hN
  have HN2 := Lib.hid hN2
  have HB := Lib.hid hB
  have HV := Lib.hid hSv
  have HU := Lib.hid hSu
  have HL := Lib.hid hlz
  have HY := Lib.hid hly
  have i1 : ¬ (40 : Int) < (zs.length : Int) := by omega
  have i2 : ¬ (40 : Int) < (ys.length : Int) := by omega
  have i3 : decide ((zs.length : Int) > 40) = false := decide_eq_false (by omega)
  have i4 : decide ((ys.length : Int) > 40) = false := decide_eq_false (by omega)
  clear hN hN2 hB hSv hSu hlz hly
  have i5 : (zs.length : Int) < (n : Int) := by omega
  have i6 : decide ((n : Int) > (zs.length : Int)) = true := decide_eq_true (by omega)
  go_enter Tryd.func4, Tryd.ntmps4
  go_upto_region 6 with (first
    | (go_at_call 7; with_reducible refine (HA.out _ _ _ k0).mono ?_; rintro e w1 ⟨rfl, k1⟩; (have b1 := k1.bel))
    | (go_at_call 6; refine (name_at zs N n HN.out W _ hG b1 _ (HB.out.below b1)).mono ?_; rintro e w2 ⟨s2, rfl, hs2, z2, b2⟩))
  have c2 := b2.alloc b2.size (.cells #[] 5)
  go_wp2_with (at_builtin; refine app_any W _ c2 rfl _ _ rfl _ [] rfl (own_start W w2 b2) _ zs rfl (HV.out.below c2) (by have := HL.out; simp; omega) ?_)
  intro v3 w3 o3 b3
  have c3 := b3.alloc b3.size (.cells #[.int .u8 0, .int .u8 0, .int .u8 0, .int .u8 0] 5)
  go_wp2_with (at_builtin; refine app_any W _ c3 rfl _ _ rfl _ zs rfl (o3.below ((Below.refl _ _).alloc (Nat.le_refl _) _)) _ [0, 0, 0, 0] rfl (SrcOf.zeros w3) (by have := HL.out; simp; omega) ?_)
  intro v4 w4 o4 b4
  go_upto_region 7 with (go_at_call 6; refine (name_at _ N n HN2.out W _ hG b4 _ (o4.bytes (by have h1 := HL.out; have h2 := HZ4.out; omega))).mono ?_; rintro e w5 ⟨s5, rfl, hs5, z5, b5⟩)
  have te : (s2.toList == s5.toList) = true := by rw [Lib.toList_data, Lib.toList_data, hs2, hs5]; simp
  have Hs2 := Lib.hid hs2
  clear hs2 hs5
  go_wp2_with fail
  go_ret
  exact ⟨by simp, b5⟩
set_option maxRecDepth 100000 in
set_option maxHeartbeats 4000000 in
theorem ends_a (W : World) (hG : GV W) (b0 o0 vc : Nat) (q : Option Addr) (uc : Nat) (zs ys : List UInt8) (N : Str) (n : Nat) (hN : nameL (byt zs) = (N, n)) (hB : BytesOf W (.slice (some ⟨b0, o0, none⟩) zs.length vc) zs) (hSv : SrcOf W (.slice (some ⟨b0, o0, none⟩) zs.length vc) zs) (hSu : SrcOf W (.slice q ys.length uc) ys) (hlz : zs.length ≤ 40) (hly : ys.length ≤ 40) (hc : zs.length ≤ vc) (hn : n ≤ zs.length) (l0 : 0 < zs.length) (x : UInt8) (hx : W.cell? ⟨b0, o0, none⟩ = some (.int .u8 x.toNat)) (e1 : ((n : Int) == 1) = false) (hM : nameL (byt (zs.take n ++ ys)) = (N, n)) : Calls Tryd.prog 4 #[.slice (some ⟨b0, o0, none⟩) zs.length vc, .slice q ys.length uc] W fun e w' => e = .returned (.bool true) ∧ Below W.heap.size W w' := by
  have k0 := NB.start hG
  have HA := Lib.hid alive_any
  have hN2 : nameL (byt (zs ++ [0, 0, 0, 0])) = (N, n) := by rw [byt_zeros]; exact hN
  have hsz : (zs ++ [0, 0, 0, 0]).length = zs.length + 4 := by simp
  have HZ4 := Lib.hid hsz
  clear hsz
  have HN := Lib.hid hN
  have HN2 := Lib.hid hN2
  have HB := Lib.hid hB
  have HV := Lib.hid hSv
  have HU := Lib.hid hSu
  have HL := Lib.hid hlz
  have HY := Lib.hid hly
  have i1 : ¬ (40 : Int) < (zs.length : Int) := by omega
  have i2 : ¬ (40 : Int) < (ys.length : Int) := by omega
  have i3 : decide ((zs.length : Int) > 40) = false := decide_eq_false (by omega)
  have i4 : decide ((ys.length : Int) > 40) = false := decide_eq_false (by omega)
  clear hN hN2 hB hSv hSu hlz hly
  have i5 : ¬ (zs.length : Int) < (n : Int) := by omega
  have i6 : decide ((n : Int) > (zs.length : Int)) = false := decide_eq_false (by omega)
  have i7 : n ≤ vc := by omega
  have i8 : (n : Int) ≤ (vc : Int) := by omega
  have i9 : (0 : Int) ≤ (n : Int) := by omega
  have HX := Lib.hid hx
  have HM := Lib.hid hM
  clear hx hM
  go_enter Tryd.func4, Tryd.ntmps4
  go_upto_region 6 with (first
    | (go_at_call 7; with_reducible refine (HA.out _ _ _ k0).mono ?_; rintro e w1 ⟨rfl, k1⟩; (have b1 := k1.bel))
    | (go_at_call 6; refine (name_at zs N n HN.out W _ hG b1 _ (HB.out.below b1)).mono ?_; rintro e w2 ⟨s2, rfl, hs2, z2, b2⟩))
  have c2 := b2.alloc b2.size (.cells #[] 5)
  go_wp2_with (at_builtin; refine app_any W _ c2 rfl _ _ rfl _ [] rfl (own_start W w2 b2) _ zs rfl (HV.out.below c2) (by have := HL.out; simp; omega) ?_)
  intro v3 w3 o3 b3
  have c3 := b3.alloc b3.size (.cells #[.int .u8 0, .int .u8 0, .int .u8 0, .int .u8 0] 5)
  go_wp2_with (at_builtin; refine app_any W _ c3 rfl _ _ rfl _ zs rfl (o3.below ((Below.refl _ _).alloc (Nat.le_refl _) _)) _ [0, 0, 0, 0] rfl (SrcOf.zeros w3) (by have := HL.out; simp; omega) ?_)
  intro v4 w4 o4 b4
  go_upto_region 7 with (go_at_call 6; refine (name_at _ N n HN2.out W _ hG b4 _ (o4.bytes (by have h1 := HL.out; have h2 := HZ4.out; omega))).mono ?_; rintro e w5 ⟨s5, rfl, hs5, z5, b5⟩)
  have te : (s2.toList == s5.toList) = true := by rw [Lib.toList_data, Lib.toList_data, hs2, hs5]; simp
  have Hs2 := Lib.hid hs2
  clear hs2 hs5
  go_upto_region 11 with fail
  have c5 := b5.alloc b5.size (.cells #[] 5)
  go_wp2_with (at_builtin; refine app_any W _ c5 rfl _ _ rfl _ [] rfl (own_start W w5 b5) _ (zs.take n) rfl ((HV.out.take n hn).below c5) (by have := HL.out; simp; omega) ?_)
  intro v6 w6 o6 b6
  go_wp2_with (at_builtin; refine app_any W _ b6 rfl _ _ rfl _ (zs.take n) rfl o6 _ ys rfl (HU.out.below b6) (by have := HL.out; have := HY.out; simp; omega) ?_)
  intro v7 w7 o7 b7
  go_upto_region 12 with (go_at_call 6; refine (name_at _ N n HM.out W _ hG b7 _ (o7.bytes (by have := HL.out; have := HY.out; simp; omega))).mono ?_; rintro e w8 ⟨s8, rfl, hs8, z8, b8⟩)
  have d0 : w8.cell? ⟨b0, o0, none⟩ = some (.int .u8 x.toNat) := cell_below b8 HX.out
  have tf : (s8.toList == s2.toList) = true := by rw [Lib.toList_data, Lib.toList_data, hs8, Hs2.out]; simp
  clear hs8
  go_wp2_with fail
  go_ret
  exact ⟨by simp, b8⟩
set_option maxRecDepth 100000 in
set_option maxHeartbeats 4000000 in
theorem ends_b (W : World) (hG : GV W) (b0 o0 vc : Nat) (q : Option Addr) (uc : Nat) (zs ys : List UInt8) (N : Str) (n : Nat) (hN : nameL (byt zs) = (N, n)) (hB : BytesOf W (.slice (some ⟨b0, o0, none⟩) zs.length vc) zs) (hSv : SrcOf W (.slice (some ⟨b0, o0, none⟩) zs.length vc) zs) (hSu : SrcOf W (.slice q ys.length uc) ys) (hlz : zs.length ≤ 40) (hly : ys.length ≤ 40) (hc : zs.length ≤ vc) (hn : n ≤ zs.length) (l0 : 0 < zs.length) (x : UInt8) (hx : W.cell? ⟨b0, o0, none⟩ = some (.int .u8 x.toNat)) (e1 : ((n : Int) == 1) = true) (e2 : ((x.toNat : Int) == 221) = true) (M : Str) (m : Nat) (hM : nameL (byt (zs.take n ++ ys)) = (M, m)) : Calls Tryd.prog 4 #[.slice (some ⟨b0, o0, none⟩) zs.length vc, .slice q ys.length uc] W fun e w' => e = .returned (.bool true) ∧ Below W.heap.size W w' := by
  have k0 := NB.start hG
  have HA := Lib.hid alive_any
  have hN2 : nameL (byt (zs ++ [0, 0, 0, 0])) = (N, n) := by rw [byt_zeros]; exact hN
  have hsz : (zs ++ [0, 0, 0, 0]).length = zs.length + 4 := by simp
  have HZ4 := Lib.hid hsz
  clear hsz
  have HN := Lib.hid hN
  have HN2 := Lib.hid hN2
  have HB := Lib.hid hB
  have HV := Lib.hid hSv
  have HU := Lib.hid hSu
  have HL := Lib.hid hlz
  have HY := Lib.hid hly
  have i1 : ¬ (40 : Int) < (zs.length : Int) := by omega
  have i2 : ¬ (40 : Int) < (ys.length : Int) := by omega
  have i3 : decide ((zs.length : Int) > 40) = false := decide_eq_false (by omega)
  have i4 : decide ((ys.length : Int) > 40) = false := decide_eq_false (by omega)
  clear hN hN2 hB hSv hSu hlz hly
  have i5 : ¬ (zs.length : Int) < (n : Int) := by omega
  have i6 : decide ((n : Int) > (zs.length : Int)) = false := decide_eq_false (by omega)
  have i7 : n ≤ vc := by omega
  have i8 : (n : Int) ≤ (vc : Int) := by omega
  have i9 : (0 : Int) ≤ (n : Int) := by omega
  have HX := Lib.hid hx
  have HM := Lib.hid hM
  clear hx hM
  go_enter Tryd.func4, Tryd.ntmps4
  go_upto_region 6 with (first
    | (go_at_call 7; with_reducible refine (HA.out _ _ _ k0).mono ?_; rintro e w1 ⟨rfl, k1⟩; (have b1 := k1.bel))
    | (go_at_call 6; refine (name_at zs N n HN.out W _ hG b1 _ (HB.out.below b1)).mono ?_; rintro e w2 ⟨s2, rfl, hs2, z2, b2⟩))
  have c2 := b2.alloc b2.size (.cells #[] 5)
  go_wp2_with (at_builtin; refine app_any W _ c2 rfl _ _ rfl _ [] rfl (own_start W w2 b2) _ zs rfl (HV.out.below c2) (by have := HL.out; simp; omega) ?_)
  intro v3 w3 o3 b3
  have c3 := b3.alloc b3.size (.cells #[.int .u8 0, .int .u8 0, .int .u8 0, .int .u8 0] 5)
  go_wp2_with (at_builtin; refine app_any W _ c3 rfl _ _ rfl _ zs rfl (o3.below ((Below.refl _ _).alloc (Nat.le_refl _) _)) _ [0, 0, 0, 0] rfl (SrcOf.zeros w3) (by have := HL.out; simp; omega) ?_)
  intro v4 w4 o4 b4
  go_upto_region 7 with (go_at_call 6; refine (name_at _ N n HN2.out W _ hG b4 _ (o4.bytes (by have h1 := HL.out; have h2 := HZ4.out; omega))).mono ?_; rintro e w5 ⟨s5, rfl, hs5, z5, b5⟩)
  have te : (s2.toList == s5.toList) = true := by rw [Lib.toList_data, Lib.toList_data, hs2, hs5]; simp
  have Hs2 := Lib.hid hs2
  clear hs2 hs5
  go_upto_region 11 with fail
  have c5 := b5.alloc b5.size (.cells #[] 5)
  go_wp2_with (at_builtin; refine app_any W _ c5 rfl _ _ rfl _ [] rfl (own_start W w5 b5) _ (zs.take n) rfl ((HV.out.take n hn).below c5) (by have := HL.out; simp; omega) ?_)
  intro v6 w6 o6 b6
  go_wp2_with (at_builtin; refine app_any W _ b6 rfl _ _ rfl _ (zs.take n) rfl o6 _ ys rfl (HU.out.below b6) (by have := HL.out; have := HY.out; simp; omega) ?_)
  intro v7 w7 o7 b7
  go_upto_region 12 with (go_at_call 6; refine (name_at _ M m HM.out W _ hG b7 _ (o7.bytes (by have := HL.out; have := HY.out; simp; omega))).mono ?_; rintro e w8 ⟨s8, rfl, hs8, z8, b8⟩)
  have d0 : w8.cell? ⟨b0, o0, none⟩ = some (.int .u8 x.toNat) := cell_below b8 HX.out
  clear hs8
  go_wp2_with fail
  go_ret
  exact ⟨by simp, b8⟩
set_option maxRecDepth 100000 in
set_option maxHeartbeats 4000000 in
theorem ends_c (W : World) (hG : GV W) (b0 o0 vc : Nat) (q : Option Addr) (uc : Nat) (zs ys : List UInt8) (N : Str) (n : Nat) (hN : nameL (byt zs) = (N, n)) (hB : BytesOf W (.slice (some ⟨b0, o0, none⟩) zs.length vc) zs) (hSv : SrcOf W (.slice (some ⟨b0, o0, none⟩) zs.length vc) zs) (hSu : SrcOf W (.slice q ys.length uc) ys) (hlz : zs.length ≤ 40) (hly : ys.length ≤ 40) (hc : zs.length ≤ vc) (hn : n ≤ zs.length) (l0 : 0 < zs.length) (x : UInt8) (hx : W.cell? ⟨b0, o0, none⟩ = some (.int .u8 x.toNat)) (e1 : ((n : Int) == 1) = true) (e2 : ((x.toNat : Int) == 221) = false) (e3 : ((x.toNat : Int) == 253) = true) (M : Str) (m : Nat) (hM : nameL (byt (zs.take n ++ ys)) = (M, m)) : Calls Tryd.prog 4 #[.slice (some ⟨b0, o0, none⟩) zs.length vc, .slice q ys.length uc] W fun e w' => e = .returned (.bool true) ∧ Below W.heap.size W w' := by
  have k0 := NB.start hG
  have HA := Lib.hid alive_any
  have hN2 : nameL (byt (zs ++ [0, 0, 0, 0])) = (N, n) := by rw [byt_zeros]; exact hN
  have hsz : (zs ++ [0, 0, 0, 0]).length = zs.length + 4 := by simp
  have HZ4 := Lib.hid hsz
  clear hsz
  have HN := Lib.hid hN
  have HN2 := Lib.hid hN2
  have HB := Lib.hid hB
  have HV := Lib.hid hSv
  have HU := Lib.hid hSu
  have HL := Lib.hid hlz
  have HY := Lib.hid hly
  have i1 : ¬ (40 : Int) < (zs.length : Int) := by omega
  have i2 : ¬ (40 : Int) < (ys.length : Int) := by omega
  have i3 : decide ((zs.length : Int) > 40) = false := decide_eq_false (by omega)
  have i4 : decide ((ys.length : Int) > 40) = false := decide_eq_false (by omega)
  clear hN hN2 hB hSv hSu hlz hly
  have i5 : ¬ (zs.length : Int) < (n : Int) := by omega
  have i6 : decide ((n : Int) > (zs.length : Int)) = false := decide_eq_false (by omega)
  have i7 : n ≤ vc := by omega
  have i8 : (n : Int) ≤ (vc : Int) := by omega
  have i9 : (0 : Int) ≤ (n : Int) := by omega
  have HX := Lib.hid hx
  have HM := Lib.hid hM
  clear hx hM
  go_enter Tryd.func4, Tryd.ntmps4
  go_upto_region 6 with (first
    | (go_at_call 7; with_reducible refine (HA.out _ _ _ k0).mono ?_; rintro e w1 ⟨rfl, k1⟩; (have b1 := k1.bel))
    | (go_at_call 6; refine (name_at zs N n HN.out W _ hG b1 _ (HB.out.below b1)).mono ?_; rintro e w2 ⟨s2, rfl, hs2, z2, b2⟩))
  have c2 := b2.alloc b2.size (.cells #[] 5)
  go_wp2_with (at_builtin; refine app_any W _ c2 rfl _ _ rfl _ [] rfl (own_start W w2 b2) _ zs rfl (HV.out.below c2) (by have := HL.out; simp; omega) ?_)
  intro v3 w3 o3 b3
  have c3 := b3.alloc b3.size (.cells #[.int .u8 0, .int .u8 0, .int .u8 0, .int .u8 0] 5)
  go_wp2_with (at_builtin; refine app_any W _ c3 rfl _ _ rfl _ zs rfl (o3.below ((Below.refl _ _).alloc (Nat.le_refl _) _)) _ [0, 0, 0, 0] rfl (SrcOf.zeros w3) (by have := HL.out; simp; omega) ?_)
  intro v4 w4 o4 b4
  go_upto_region 7 with (go_at_call 6; refine (name_at _ N n HN2.out W _ hG b4 _ (o4.bytes (by have h1 := HL.out; have h2 := HZ4.out; omega))).mono ?_; rintro e w5 ⟨s5, rfl, hs5, z5, b5⟩)
  have te : (s2.toList == s5.toList) = true := by rw [Lib.toList_data, Lib.toList_data, hs2, hs5]; simp
  have Hs2 := Lib.hid hs2
  clear hs2 hs5
  go_upto_region 11 with fail
  have c5 := b5.alloc b5.size (.cells #[] 5)
  go_wp2_with (at_builtin; refine app_any W _ c5 rfl _ _ rfl _ [] rfl (own_start W w5 b5) _ (zs.take n) rfl ((HV.out.take n hn).below c5) (by have := HL.out; simp; omega) ?_)
  intro v6 w6 o6 b6
  go_wp2_with (at_builtin; refine app_any W _ b6 rfl _ _ rfl _ (zs.take n) rfl o6 _ ys rfl (HU.out.below b6) (by have := HL.out; have := HY.out; simp; omega) ?_)
  intro v7 w7 o7 b7
  go_upto_region 12 with (go_at_call 6; refine (name_at _ M m HM.out W _ hG b7 _ (o7.bytes (by have := HL.out; have := HY.out; simp; omega))).mono ?_; rintro e w8 ⟨s8, rfl, hs8, z8, b8⟩)
  have d0 : w8.cell? ⟨b0, o0, none⟩ = some (.int .u8 x.toNat) := cell_below b8 HX.out
  clear hs8
  go_wp2_with fail
  go_ret
  exact ⟨by simp, b8⟩
set_option maxRecDepth 100000 in
set_option maxHeartbeats 4000000 in
theorem ends_d (W : World) (hG : GV W) (b0 o0 vc : Nat) (q : Option Addr) (uc : Nat) (zs ys : List UInt8) (N : Str) (n : Nat) (hN : nameL (byt zs) = (N, n)) (hB : BytesOf W (.slice (some ⟨b0, o0, none⟩) zs.length vc) zs) (hSv : SrcOf W (.slice (some ⟨b0, o0, none⟩) zs.length vc) zs) (hSu : SrcOf W (.slice q ys.length uc) ys) (hlz : zs.length ≤ 40) (hly : ys.length ≤ 40) (hc : zs.length ≤ vc) (hn : n ≤ zs.length) (l0 : 0 < zs.length) (x : UInt8) (hx : W.cell? ⟨b0, o0, none⟩ = some (.int .u8 x.toNat)) (e1 : ((n : Int) == 1) = true) (e2 : ((x.toNat : Int) == 221) = false) (e3 : ((x.toNat : Int) == 253) = false) (hM : nameL (byt (zs.take n ++ ys)) = (N, n)) : Calls Tryd.prog 4 #[.slice (some ⟨b0, o0, none⟩) zs.length vc, .slice q ys.length uc] W fun e w' => e = .returned (.bool true) ∧ Below W.heap.size W w' := by
  have k0 := NB.start hG
  have HA := Lib.hid alive_any
  have hN2 : nameL (byt (zs ++ [0, 0, 0, 0])) = (N, n) := by rw [byt_zeros]; exact hN
  have hsz : (zs ++ [0, 0, 0, 0]).length = zs.length + 4 := by simp
  have HZ4 := Lib.hid hsz
  clear hsz
  have HN := Lib.hid hN
  have HN2 := Lib.hid hN2
  have HB := Lib.hid hB
  have HV := Lib.hid hSv
  have HU := Lib.hid hSu
  have HL := Lib.hid hlz
  have HY := Lib.hid hly
  have i1 : ¬ (40 : Int) < (zs.length : Int) := by omega
  have i2 : ¬ (40 : Int) < (ys.length : Int) := by omega
  have i3 : decide ((zs.length : Int) > 40) = false := decide_eq_false (by omega)
  have i4 : decide ((ys.length : Int) > 40) = false := decide_eq_false (by omega)
  clear hN hN2 hB hSv hSu hlz hly
  have i5 : ¬ (zs.length : Int) < (n : Int) := by omega
  have i6 : decide ((n : Int) > (zs.length : Int)) = false := decide_eq_false (by omega)
  have i7 : n ≤ vc := by omega
  have i8 : (n : Int) ≤ (vc : Int) := by omega
  have i9 : (0 : Int) ≤ (n : Int) := by omega
  have HX := Lib.hid hx
  have HM := Lib.hid hM
  clear hx hM
  go_enter Tryd.func4, Tryd.ntmps4
  go_upto_region 6 with (first
    | (go_at_call 7; with_reducible refine (HA.out _ _ _ k0).mono ?_; rintro e w1 ⟨rfl, k1⟩; (have b1 := k1.bel))
    | (go_at_call 6; refine (name_at zs N n HN.out W _ hG b1 _ (HB.out.below b1)).mono ?_; rintro e w2 ⟨s2, rfl, hs2, z2, b2⟩))
  have c2 := b2.alloc b2.size (.cells #[] 5)
  go_wp2_with (at_builtin; refine app_any W _ c2 rfl _ _ rfl _ [] rfl (own_start W w2 b2) _ zs rfl (HV.out.below c2) (by have := HL.out; simp; omega) ?_)
  intro v3 w3 o3 b3
  have c3 := b3.alloc b3.size (.cells #[.int .u8 0, .int .u8 0, .int .u8 0, .int .u8 0] 5)
  go_wp2_with (at_builtin; refine app_any W _ c3 rfl _ _ rfl _ zs rfl (o3.below ((Below.refl _ _).alloc (Nat.le_refl _) _)) _ [0, 0, 0, 0] rfl (SrcOf.zeros w3) (by have := HL.out; simp; omega) ?_)
  intro v4 w4 o4 b4
  go_upto_region 7 with (go_at_call 6; refine (name_at _ N n HN2.out W _ hG b4 _ (o4.bytes (by have h1 := HL.out; have h2 := HZ4.out; omega))).mono ?_; rintro e w5 ⟨s5, rfl, hs5, z5, b5⟩)
  have te : (s2.toList == s5.toList) = true := by rw [Lib.toList_data, Lib.toList_data, hs2, hs5]; simp
  have Hs2 := Lib.hid hs2
  clear hs2 hs5
  go_upto_region 11 with fail
  have c5 := b5.alloc b5.size (.cells #[] 5)
  go_wp2_with (at_builtin; refine app_any W _ c5 rfl _ _ rfl _ [] rfl (own_start W w5 b5) _ (zs.take n) rfl ((HV.out.take n hn).below c5) (by have := HL.out; simp; omega) ?_)
  intro v6 w6 o6 b6
  go_wp2_with (at_builtin; refine app_any W _ b6 rfl _ _ rfl _ (zs.take n) rfl o6 _ ys rfl (HU.out.below b6) (by have := HL.out; have := HY.out; simp; omega) ?_)
  intro v7 w7 o7 b7
  go_upto_region 12 with (go_at_call 6; refine (name_at _ N n HM.out W _ hG b7 _ (o7.bytes (by have := HL.out; have := HY.out; simp; omega))).mono ?_; rintro e w8 ⟨s8, rfl, hs8, z8, b8⟩)
  have d0 : w8.cell? ⟨b0, o0, none⟩ = some (.int .u8 x.toNat) := cell_below b8 HX.out
  have tf : (s8.toList == s2.toList) = true := by rw [Lib.toList_data, Lib.toList_data, hs8, Hs2.out]; simp
  clear hs8
  go_wp2_with fail
  go_ret
  exact ⟨by simp, b8⟩
set_option maxRecDepth 100000 in
set_option maxHeartbeats 4000000 in
theorem ends_big1 (W : World) (hG : GV W) (p q : Option Addr) (m m2 vc uc : Nat) (h : 40 < m) : Calls Tryd.prog 4 #[.slice p m vc, .slice q m2 uc] W fun e w' => e = .returned (.bool true) ∧ Below W.heap.size W w' := by
  have k0 := NB.start hG
  have HA := Lib.hid alive_any
  have i1 : (40 : Int) < (m : Int) := by omega
  have i2 : decide ((m : Int) > 40) = true := decide_eq_true (by omega)
  go_enter Tryd.func4, Tryd.ntmps4
  go_wp2_with (go_at_call 7; with_reducible refine (HA.out _ _ _ k0).mono ?_; rintro e w1 ⟨rfl, k1⟩; (have b1 := k1.bel))
  go_ret
  exact ⟨by simp, b1⟩
set_option maxRecDepth 100000 in
set_option maxHeartbeats 4000000 in
theorem ends_big2 (W : World) (hG : GV W) (p q : Option Addr) (m m2 vc uc : Nat) (h0 : ¬ 40 < m) (h : 40 < m2) : Calls Tryd.prog 4 #[.slice p m vc, .slice q m2 uc] W fun e w' => e = .returned (.bool true) ∧ Below W.heap.size W w' := by
  have k0 := NB.start hG
  have HA := Lib.hid alive_any
  have i1 : (40 : Int) < (m2 : Int) := by omega
  have i2 : decide ((m2 : Int) > 40) = true := decide_eq_true (by omega)
  have i3 : ¬ (40 : Int) < (m : Int) := by omega
  have i4 : decide ((m : Int) > 40) = false := decide_eq_false (by omega)
  go_enter Tryd.func4, Tryd.ntmps4
  go_wp2_with (go_at_call 7; with_reducible refine (HA.out _ _ _ k0).mono ?_; rintro e w1 ⟨rfl, k1⟩; (have b1 := k1.bel))
  go_ret
  exact ⟨by simp, b1⟩
/-- A slice that is nil holds nothing. -/
def NilOk (v : Value) : Prop := ∀ l c, v = .slice none l c → l = 0 ∧ c = 0
theorem nil_ok {H : Type} {enc : TypeId × Value → H} {P : Program} {w : World} {base : Nat} {sp : Nat → Bool} {held : Bool} {fuel : Nat} {t e : TypeId} {v : Value} {d : DataW H} {ps : List MemPlace} (hu : P.underlying t = some (.slice e))
    (h : DataW.trod enc P w base sp held fuel t [v] = some (d, ps)) : NilOk v := by
  rintro l c rfl
  cases fuel with
  | zero => simp [DataW.trod] at h
  | succ fuel =>
    by_cases hl : l = 0
    · by_cases hc : c = 0
      · exact ⟨hl, hc⟩
      · exfalso; subst hl
        cases c with
        | zero => exact hc rfl
        | succ c => simp [DataW.trod, hu] at h
    · exfalso
      cases l with
      | zero => exact hl rfl
      | succ l => simp [DataW.trod, hu] at h
theorem src_of {w : World} {v : Value} {zs : List Int} (h : IntsOf w v .u8 zs) (hn : NilOk v) : ∃ us : List UInt8, us.length = zs.length ∧ SrcOf w v us ∧ (zs.length ≤ 1000 → BytesOf w v us) ∧ ∃ p cap, v = .slice p us.length cap ∧ us.length ≤ cap := by
  obtain ⟨p, cap, hv, hl, hm, hc, hw⟩ := h
  have hlen : (zs.map fun z => UInt8.ofNat z.toNat).length = zs.length := by simp
  have hval : ∀ (i : Nat) (x : UInt8), (zs.map fun z => UInt8.ofNat z.toNat)[i]? = some x → i < zs.length ∧ (x.toNat : Int) = zs.getD i 0 := by
    intro i x hx
    rw [List.getElem?_map] at hx
    obtain ⟨z, hz, rfl⟩ := Option.map_eq_some_iff.1 hx
    obtain ⟨hi, hz'⟩ := List.getElem?_eq_some_iff.1 hz
    obtain ⟨k, hk, hk2⟩ := u8_nat (hw z (hz' ▸ List.getElem_mem hi))
    refine ⟨hi, ?_⟩
    rw [List.getD_eq_getElem?_getD, hz, hk]
    simp [UInt8.toNat_ofNat', Nat.mod_eq_of_lt hk2]
  refine ⟨zs.map fun z => UInt8.ofNat z.toNat, hlen, ?_, fun h1 => ⟨p, cap, by rw [hlen]; exact hv, by rw [hlen]; exact h1, fun h0 => ?_⟩, p, cap, by rw [hlen]; exact hv, by rw [hlen]; exact hl⟩
  · cases p with
    | none =>
      obtain ⟨h1, h2⟩ := hn _ _ hv
      have : zs = [] := List.eq_nil_of_length_eq_zero h1
      subst this
      subst h2
      exact Or.inl ⟨hv, rfl⟩
    | some ad =>
      refine Or.inr ⟨ad, cap, by rw [hlen]; exact hv, fun j u hu => ?_⟩
      rw [List.getElem?_map] at hu
      obtain ⟨x, hx, rfl⟩ := Option.map_eq_some_iff.1 hu
      obtain ⟨hi, hx2⟩ := hval j x hx
      obtain ⟨b, o, hb, hbl, hcell⟩ := hc (by omega)
      obtain rfl := Option.some.inj hb
      have h2 := hcell j hi
      rw [← hx2] at h2
      cases j with
      | zero => simpa [Addr.add, bv] using h2
      | succ j => simpa [Addr.add, bv] using h2
  · have h0' : 0 < zs.length := by
      rw [← hlen]; exact List.length_pos_iff.2 h0
    obtain ⟨b, o, hb, hbl, hcell⟩ := hc h0'
    refine ⟨b, o, hb, hbl, fun i x hx => ?_⟩
    obtain ⟨hi, hx2⟩ := hval i x hx
    rw [hcell i hi, hx2]
theorem namesEnds_walk (v0 : Value) (z0 : List Int) (v1 : Value) (z1 : List Int) (w : World) (hG : GV w) (hs0 : Kit.IntsOf w v0 .u8 z0) (hs1 : Kit.IntsOf w v1 .u8 z1) (n0 : NilOk v0) (n1 : NilOk v1) :
    Calls Tryd.prog 4 #[v0, v1] w fun e w' => e = .returned (.bool true) ∧ Below w.heap.size w w' := by
  obtain ⟨zs, l0, s0, B0, p, vc, rfl, c0⟩ := src_of hs0 n0
  obtain ⟨ys, l1, s1, B1, q, uc, rfl, c1⟩ := src_of hs1 n1
  by_cases g0 : 40 < zs.length
  · exact ends_big1 w hG p q _ _ vc uc g0
  by_cases g1 : 40 < ys.length
  · exact ends_big2 w hG p q _ _ vc uc g0 g1
  have hB := B0 (by omega)
  obtain ⟨N, n, hN⟩ : ∃ N n, nameL (byt zs) = (N, n) := ⟨_, _, rfl⟩
  by_cases hn : zs.length < n
  · exact ends_long w hG p vc q uc zs ys N n hN hB s0 s1 (by omega) (by omega) hn
  have hge : 1 ≤ n := by have := nameL_ge (byt zs); rw [hN] at this; exact this
  have lpos : 0 < zs.length := by omega
  have hB' := hB
  obtain ⟨p', cap', hv', _, hc'⟩ := hB'
  obtain ⟨b0, o0, hp', hbl, hcell⟩ := hc' (List.length_pos_iff.1 lpos)
  simp only [Value.slice.injEq, true_and] at hv'
  obtain ⟨rfl, rfl⟩ := hv'
  subst hp'
  obtain ⟨x, hx⟩ : ∃ x, zs[0]? = some x := ⟨_, List.getElem?_eq_getElem lpos⟩
  have hx0 := hcell 0 x hx
  rw [Nat.add_zero] at hx0
  have hb0 : byt zs 0 = x.toNat := by unfold byt; rw [List.getD_eq_getElem?_getD, hx]; rfl
  by_cases e1 : n = 1
  · have f1 : ((n : Int) == 1) = true := beq_iff_eq.2 (by omega)
    by_cases e2 : x.toNat = 221
    · exact ends_b w hG b0 o0 _ q uc zs ys N n hN hB s0 s1 (by omega) (by omega) c0 (by omega) lpos x hx0 f1 (beq_iff_eq.2 (by omega)) _ _ rfl
    · have f2 : ((x.toNat : Int) == 221) = false := beq_eq_false_iff_ne.2 (by omega)
      by_cases e3 : x.toNat = 253
      · exact ends_c w hG b0 o0 _ q uc zs ys N n hN hB s0 s1 (by omega) (by omega) c0 (by omega) lpos x hx0 f1 f2 (beq_iff_eq.2 (by omega)) _ _ rfl
      · have f3 : ((x.toNat : Int) == 253) = false := beq_eq_false_iff_ne.2 (by omega)
        have hL := ends_law zs ys n (by rw [hN]) (by omega) (by rw [hb0]; omega)
        exact ends_d w hG b0 o0 _ q uc zs ys N n hN hB s0 s1 (by omega) (by omega) c0 (by omega) lpos x hx0 f1 f2 f3 (by rw [hL]; exact hN)
  · have f1 : ((n : Int) == 1) = false := beq_eq_false_iff_ne.2 (by omega)
    have hL := ends_law zs ys n (by rw [hN]) (by omega) (by omega)
    exact ends_a w hG b0 o0 _ q uc zs ys N n hN hB s0 s1 (by omega) (by omega) c0 (by omega) lpos x hx0 f1 (by rw [hL]; exact hN)
end Nm
end Go.Proofs.YtnhgmdfmhmkpgaaDoor
