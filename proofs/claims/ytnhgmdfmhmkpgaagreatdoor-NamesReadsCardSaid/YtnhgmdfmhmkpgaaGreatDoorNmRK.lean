/- What instructions are called (layer 11): any bytes: what stands at their beginning: the walk. No conditions but those stated. -/
import Derived.Test.YtnhgmdfmhmkpgaaGreatDoorNmRJ
import Derived.Laws.BytesArg
import Derived.RegionTactic
import Derived.LoopTactic
import Derived.Deep.RegionHeld3
import Derived.Deep.DeepCutAuto
import Derived.Lib.Hide
namespace Go.Proofs.YtnhgmdfmhmkpgaaGreatDoor
open Go.RowKit
open Kit
set_option linter.unusedSimpArgs false
set_option linter.unusedVariables false
namespace Nm
theorem conv_bytes {w : World} {v : Value} {zs : List UInt8} (h : BytesOf w v zs) : (convert 25 9 v).run Tryz.prog w = .ok (.string (bs zs)) w := by
  have hz : (zs.map fun x => UInt8.ofNat ((x.toNat : Int)).toNat) = zs := by
    conv => rhs; rw [← List.map_id zs]
    apply List.map_congr_left
    intro x _
    simp
  have key : ∀ (ad : Addr) (cap : Nat), (∀ (j : Nat) (u : Value), (zs.map bv)[j]? = some u → w.cell? (ad.add j) = some u) → (convert 25 9 (.slice (some ad) zs.length cap)).run Tryz.prog w = .ok (.string (bs zs)) w := by
    intro ad cap hc
    have hl := run_loadCells_list (P := Tryz.prog) w ad (zs.map bv) hc
    have hm : (zs.map bv) = ((zs.map fun x => (x.toNat : Int)).map (Value.int .u8)) := by rw [List.map_map]; rfl
    rw [List.length_map, hm] at hl
    rw [run_convert_bytes_string w _ _ _ _ _ _ Tryz.underlying25 Tryz.underlying5 Tryz.underlying9, run_bytesToString w ad _ cap _ hl, foldl_push_bytes]
    rw [List.map_map]
    show Result.ok (Value.string ⟨ByteArray.empty.data ++ (zs.map fun x => UInt8.ofNat ((x.toNat : Int)).toNat).toArray⟩) w = _
    rw [hz]
    simp [bs, ByteArray.empty, ByteArray.emptyWithCapacity]
    rfl
  by_cases h0 : zs = []
  · subst h0
    obtain ⟨p, cap, rfl, _, _⟩ := h
    cases p with
    | none => exact run_convert_bytes_nil w _ _ Tryz.underlying25 Tryz.underlying5 _ _ _ Tryz.underlying9
    | some ad => exact key ad cap (fun j u hu => by simp at hu)
  · rcases SrcOf.bytes h h0 with ⟨_, h2⟩ | ⟨ad, cap, rfl, hc⟩
    · exact absurd h2 h0
    · exact key ad cap hc
theorem name_here (zs : List UInt8) (N : Str) (n : Nat) (hN : nameL (byt zs) = (N, n)) (W : World) (hG : GV W) (v : Value) (hB : BytesOf W v zs) :
    Calls Tryz.prog 8 #[v] W fun e w' => ∃ s : ByteArray, e = .returned (.tuple #[.string s, .int .i64 (n : Nat)]) ∧ s.data.toList = N ∧ s.size ≤ 5000 ∧ Below W.heap.size W w' :=
  name_at zs N n hN W W hG (Below.refl _ _) v hB
theorem rname_here (zs : List UInt8) (N : Str) (n : Nat) (hN : nameL (byt zs) = (N, n)) (W : World) (hG : GV W) (v : Value) (hS : SrcOf W v zs) (hl : zs.length ≤ 40) :
    Calls Tryz.prog 9 #[v] W fun e w' => ∃ s : ByteArray, e = .returned (.tuple #[.string s, .int .i64 (n : Nat)]) ∧ s.data.toList = N ∧ Below W.heap.size W w' :=
  (rname_any zs v W hG hS hl).mono fun e w' ⟨s, m, h1, h2, h3⟩ => by
    rw [hN] at h2
    obtain ⟨h5, rfl⟩ := Prod.mk.inj h2
    exact ⟨s, h1, h5, h3⟩
set_option maxRecDepth 100000 in
set_option maxHeartbeats 4000000 in
theorem reads_big (W : World) (hG : GV W) (p : Option Addr) (m vc : Nat) (h : 40 < m) : Calls Tryz.prog 4 #[.slice p m vc] W fun e w' => e = .returned (.bool true) ∧ Below W.heap.size W w' := by
  have k0 := NB.start hG
  have HA := Lib.hid alive_any
  have i1 : (40 : Int) < (m : Int) := by omega
  have i2 : decide ((m : Int) > 40) = true := decide_eq_true (by omega)
  go_enter Tryz.func4, Tryz.ntmps4
  go_wp2_with (go_at_call 5; with_reducible refine (HA.out _ _ _ k0).mono ?_; rintro e w1 ⟨rfl, k1⟩; (have b1 := k1.bel))
  go_ret
  exact ⟨by simp, b1⟩
set_option maxRecDepth 100000 in
set_option maxHeartbeats 4000000 in
theorem reads_small (W : World) (hG : GV W) (p : Option Addr) (vc : Nat) (zs : List UInt8) (N : Str) (n : Nat) (hN : nameL (byt zs) = (N, n)) (hSv : SrcOf W (.slice p zs.length vc) zs) (hBv : BytesOf W (.slice p zs.length vc) zs) (hlz : zs.length ≤ 40) (n1 : 1 ≤ n) (n4 : n ≤ 4) : Calls Tryz.prog 4 #[.slice p zs.length vc] W fun e w' => e = .returned (.bool true) ∧ Below W.heap.size W w' := by
  have k0 := NB.start hG
  have HA := Lib.hid alive_any
  have HN := Lib.hid hN
  have HV := Lib.hid hSv
  have HB := Lib.hid hBv
  have HL := Lib.hid hlz
  have i1 : ¬ (40 : Int) < (zs.length : Int) := by omega
  have i3 : decide ((zs.length : Int) > 40) = false := decide_eq_false (by omega)
  have j1 : (1 : Int) ≤ (n : Int) := by omega
  have j4 : (n : Int) ≤ 4 := by omega
  have j1' : decide ((n : Int) ≥ 1) = true := decide_eq_true (by omega)
  have j4' : decide ((n : Int) ≤ 4) = true := decide_eq_true (by omega)
  clear hN hSv hBv hlz
  go_enter Tryz.func4, Tryz.ntmps4
  go_upto_region 5 with (go_at_call 5; with_reducible refine (HA.out _ _ _ k0).mono ?_; rintro e w1 ⟨rfl, k1⟩; (have b1 := k1.bel))
  have c1 := b1.alloc b1.size (.cells #[] 5)
  go_wp2_with (at_builtin; refine app_any W _ c1 rfl _ _ rfl _ [] rfl (own_start W w1 b1) _ zs rfl (HV.out.below c1) (by have := HL.out; simp; omega) ?_)
  intro v3 w3 o3 b3
  have B3 := Lib.hid (o3.bytes (by have := HL.out; omega))
  go_upto_region 7 with (go_at_call 8; refine (name_here zs N n HN.out w3 (hG.below b3) v3 B3.out).mono ?_; rintro e w4 ⟨s4, rfl, hs4, z4, q4⟩)
  have b4 := b3.trans (q4.mono b3.size)
  have o4 := o3.below q4
  have Hs4 := Lib.hid hs4
  clear hs4 z4
  go_upto_region 8 with (go_at_call 9; refine (rname_here zs N n HN.out w4 (hG.below b4) _ (HV.out.below b4) HL.out).mono ?_; rintro e w5 ⟨s5, rfl, hs5, q5⟩)
  have b5 := b4.trans (q5.mono b4.size)
  have o5 := o4.below q5
  have te : (s4.toList == s5.toList) = true := by rw [Lib.toList_data, Lib.toList_data, hs5, Hs4.out]; simp
  have C1 := conv_bytes (o5.bytes (by have := HL.out; omega))
  have C2 := conv_bytes (HB.out.below b5)
  clear hs5 o5 o4 o3
  go_wp2_with fail
  go_ret
  exact ⟨by simp, b5⟩
theorem namesReads_walk (v0 : Value) (z0 : List Int) (w : World) (hG : GV w) (hs0 : Kit.IntsOf w v0 .u8 z0) (n0 : NilOk v0) :
    Calls Tryz.prog 4 #[v0] w fun e w' => e = .returned (.bool true) ∧ Below w.heap.size w w' := by
  obtain ⟨zs, l0, s0, B0, p, vc, rfl, c0⟩ := src_of hs0 n0
  by_cases g0 : 40 < zs.length
  · exact reads_big w hG p _ vc g0
  obtain ⟨N, n, hN⟩ : ∃ N n, nameL (byt zs) = (N, n) := ⟨_, _, rfl⟩
  have h1 := nameL_ge (byt zs)
  have h4 := nameL_le zs
  rw [hN] at h1 h4
  exact reads_small w hG p vc zs N n hN s0 (B0 (by omega)) (by omega) h1 h4
end Nm
end Go.Proofs.YtnhgmdfmhmkpgaaGreatDoor
