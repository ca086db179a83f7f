/- What instructions are called (layer 11): FormatInt. No conditions but those stated. -/
import Derived.Test.YtnhgmdfmhmkpgaaGreatDoorNm
import Derived.Lib.ItoaWalk
import Derived.Laws.IdiomStrings
import Derived.RegionTactic
import Derived.LoopTactic
import Derived.Deep.RegionHeld3
import Derived.Deep.DeepCutAuto
import Derived.Lib.Hide
namespace Go.Proofs.YtnhgmdfmhmkpgaaGreatDoor
open Go.RowKit
open Kit
set_option linter.unusedSimpArgs false
set_option linter.unusedVariables false
namespace Nm
def dgc (k : Nat) : UInt8 := if k < 10 then UInt8.ofNat (48 + k) else UInt8.ofNat (87 + k)
/-- The digits to sixteen; the fuel: how many more than one at the most. -/
def hx : Nat → Nat → Str
  | 0, v => [dgc v]
  | n + 1, v => if v < 16 then [dgc v] else hx n (v / 16) ++ [dgc (v % 16)]
def DG : ByteArray := { data := #[48, 49, 50, 51, 52, 53, 54, 55, 56, 57, 97, 98, 99, 100, 101, 102, 103, 104, 105, 106, 107, 108, 109, 110, 111, 112, 113, 114, 115, 116, 117, 118, 119, 120, 121, 122] }
theorem dg_at : ∀ k : Fin 16, DG.data.toList.getD k.val 0 = dgc k.val := by decide +kernel
theorem dg_run (k : IntKind) (d : Nat) (hd : d < 16) (w : World) : Sem.run Tryz.prog (Instr.index 9 (.string { data := #[48, 49, 50, 51, 52, 53, 54, 55, 56, 57, 97, 98, 99, 100, 101, 102, 103, 104, 105, 106, 107, 108, 109, 110, 111, 112, 113, 114, 115, 116, 117, 118, 119, 120, 121, 122] }) (.int k d)) w = .ok (.int .u8 ((dgc d).toNat : Int)) w := by
  show Sem.run Tryz.prog (Instr.index 9 (.string DG) (.int k d)) w = _
  rw [run_index_string w 9 DG k _ Tryz.underlying9, dif_pos ⟨by omega, by rw [show DG.size = 36 by decide]; omega⟩]
  have e : ((d : Int)).toNat = d := by omega
  simp only [e]
  rw [Lib.getD_at DG d (by rw [show DG.size = 36 by decide]; omega), dg_at ⟨d, hd⟩]
theorem and15 (v : Nat) (h : v < 65536) : Go.bits .and .u64 (v : Int) 15 = ((v % 16 : Nat) : Int) := by
  show IntKind.u64.wrap (((BitVec.ofInt 64 (v : Int) &&& BitVec.ofInt 64 15).toNat : Nat) : Int) = _
  rw [show (15 : Int) = ((15 : Nat) : Int) from rfl, BitVec.ofInt_natCast, BitVec.ofInt_natCast, BitVec.toNat_and, BitVec.toNat_ofNat, BitVec.toNat_ofNat, Nat.mod_eq_of_lt (show v < 2 ^ 64 by omega), Nat.mod_eq_of_lt (show 15 < 2 ^ 64 by omega)]
  rw [show (15 : Nat) = 2 ^ 4 - 1 from rfl, Nat.and_two_pow_sub_one_eq_mod]
  simp only [IntKind.wrap, IntKind.bits, IntKind.signed, Bool.false_and]
  show (((v % 2 ^ 4 : Nat) : Int) % 18446744073709551616) = _
  omega
set_option maxRecDepth 100000 in
set_option maxHeartbeats 4000000 in
theorem pow2_16 : Held 100 #[.int .i64 16] (.bool true) := held' fun W hW => by
  have k0 := NB.start hW
  have f1 : Go.bits .and .i64 16 15 = 0 := by decide +kernel
  go_enter Tryz.func100, Tryz.ntmps100
  go_wp2
  go_ret
  exact ⟨rfl, k0⟩
set_option maxRecDepth 100000 in
set_option maxHeartbeats 4000000 in
theorem tz64_16 : Held 107 #[.int .u64 16] (.int .i64 4) := held' fun W hW => by
  have k0 := NB.start hW
  have hc := hW.2.2.2
  have f1 : Go.bits .and .u64 16 18446744073709551600 = 16 := by decide +kernel
  have f0 : IntKind.u64.wrap (-16) = 18446744073709551600 := by decide +kernel
  go_enter Tryz.func107, Tryz.ntmps107
  go_wp2
  go_ret
  exact ⟨rfl, k0⟩
set_option maxRecDepth 100000 in
set_option maxHeartbeats 4000000 in
theorem tz_16 : Held 101 #[.int .u64 16] (.int .i64 4) := held' fun W hW => by
  have k0 := NB.start hW
  go_enter Tryz.func101, Tryz.ntmps101
  go_wp2_with (go_at_call 107; with_reducible refine (tz64_16 _ _ _ k0).mono ?_; rintro e w1 ⟨rfl, k1⟩)
  go_ret
  exact ⟨rfl, k1⟩
set_option maxRecDepth 100000 in
set_option maxHeartbeats 4000000 in
theorem fbits (u : Nat) (hu : u < 65536) (W : World) (hW : GV W) : Calls Tryz.prog 81 #[.slice none 0 0, .int .u64 (u : Nat), .int .i64 16, .bool false, .bool false] W fun e w' => ∃ a : ByteArray, e = .returned (.tuple #[.slice none 0 0, .string a]) ∧ a.data.toList = hx 3 u ∧ Below W.heap.size W w' := by
  have k0 := NB.start hW
  obtain ⟨R, hR⟩ : ∃ R, hx 3 u = R := ⟨_, rfl⟩
  have HR := Lib.hid hR
  rw [hR]
  clear hR
  have k1 := k0.alloc Tryz.zeroCells131 131
  have hZ : Tryz.zeroCells131.size = 65 := rfl
  have HZ := Lib.hid hZ
  clear hZ
  go_enter Tryz.func81, Tryz.ntmps81
  go_upto_region 5 with fail
  generalize W.alloc (.cells Tryz.zeroCells131 131) = W1 at *
  generalize Tryz.zeroCells131 = Z at *
  have HAB0 : Hid (W.heap.size ≤ W.heap.size) := Lib.hid (Nat.le_refl _)
  obtain ⟨ab, hab⟩ : ∃ ab, W.heap.size = ab := ⟨_, rfl⟩
  have HAB : Hid (W.heap.size ≤ ab) := Lib.hid (by omega)
  rw [hab] at k1 ⊢
  have HEQ := Lib.hid hab
  clear k0 hab HAB0
  go_upto_region 9 with (first | (go_at_call 100; with_reducible refine (pow2_16 _ _ _ k1).mono ?_; rintro e w2 ⟨rfl, k2⟩) | (go_at_call 101; with_reducible refine (tz_16 _ _ _ k2).mono ?_; rintro e w3 ⟨rfl, k3⟩))
  clear k1 k2
  go_wp2_with fail
  go_loopw [1, 13] (fun s1 s13 wr => ∃ (n v i : Nat) (A : Array Value) (l : Str), n ≤ 3 ∧ i = 62 + n ∧ s1 = .int .u64 v ∧ s13 = .int .i64 i ∧ v < 16 ^ (n + 1) ∧ NB W [(ab, A, 131)] wr ∧ Hid (A.size = 65) ∧ l.length + i = 65 ∧ Hid (∀ (j : Nat) x, l[j]? = some x → A[i + j]? = some (.int .u8 x.toNat)) ∧ Hid (hx n v ++ l = R)) (fun s1 _ _ => (intOf s1).toNat)
  case atStart => exact ⟨3, u, 65, Z, [], by omega, rfl, rfl, rfl, by omega, k3, HZ, rfl, Lib.hid (fun j x h => by simp at h), Lib.hid (by rw [List.append_nil]; exact HR.out)⟩
  case round =>
    obtain ⟨n, v, i, A, l, hn, hi, rfl, rfl, hv, kr, HA, hl, HC, HX⟩ := hrel
    clear k3 HZ HR
    have gl := heap_lt kr.h0
    have v65 : v < 65536 := by
      have : (16 : Nat) ^ (n + 1) ≤ 16 ^ 4 := Nat.pow_le_pow_right (by omega) (by omega)
      omega
    obtain ⟨i', rfl⟩ : ∃ i', i = i' + 1 := ⟨i - 1, by omega⟩
    have n0 : (0 : Int) ≤ (i' : Int) := by omega
    have n1 : (i' : Int) < 65 := by omega
    have n2 : (i' : Int) ≤ 65 := by omega
    obtain ⟨y, hy⟩ : ∃ y, A[i']? = some y := ⟨_, Array.getElem?_eq_getElem (by rw [HA.out]; omega)⟩
    have cy := (cell_of _ _ i' kr.h0).trans hy
    have fy := free_of _ _ i' kr.h0
    have hset : ∀ (x : UInt8), Hid ((A.setIfInBounds i' (.int .u8 (x.toNat : Int))).size = 65) ∧ Hid (∀ (j : Nat) z, (x :: l)[j]? = some z → (A.setIfInBounds i' (.int .u8 (x.toNat : Int)))[i' + j]? = some (.int .u8 z.toNat)) := fun x => by
      refine ⟨Lib.hid (by rw [Array.size_setIfInBounds]; exact HA.out), Lib.hid fun j z hz => ?_⟩
      cases j with
      | zero =>
        simp only [List.getElem?_cons_zero, Option.some.injEq] at hz
        subst hz
        rw [Nat.add_zero, Array.getElem?_setIfInBounds, if_pos rfl, if_pos (by rw [HA.out]; omega)]
      | succ j =>
        rw [Array.getElem?_setIfInBounds, if_neg (by omega), show i' + (j + 1) = i' + 1 + j by omega]
        exact HC.out j z (by simpa using hz)
    have HS := Lib.hid hset
    have HY := Lib.hid hy
    have HI := Lib.hid hi
    have HL := Lib.hid hl
    clear hset hy hi hl
    by_cases hge : 16 ≤ v
    case pos =>
      have t1 : (16 : Int) ≤ (v : Int) := by omega
      cases n with
      | zero => simp at hv; omega
      | succ n =>
        have ha := and15 v v65
        have hd : ∀ w, Sem.run Tryz.prog (Instr.index 9 (.string { data := #[48, 49, 50, 51, 52, 53, 54, 55, 56, 57, 97, 98, 99, 100, 101, 102, 103, 104, 105, 106, 107, 108, 109, 110, 111, 112, 113, 114, 115, 116, 117, 118, 119, 120, 121, 122] }) (.int .u64 ((v : Int) % 16))) w = .ok (.int .u8 ((dgc (v % 16)).toNat : Int)) w := fun w => dg_run .u64 (v % 16) (by omega) w
        have hxx := HX.out
        rw [hx, if_neg (by omega)] at hxx
        obtain ⟨h1, h2⟩ := HS.out (dgc (v % 16))
        have kn : ∀ W', W' = wr.setCell ⟨ab, i', none⟩ (.int .u8 ((dgc (v % 16)).toNat : Int)) → NB W [(ab, A.setIfInBounds i' (.int .u8 ((dgc (v % 16)).toNat : Int)), 131)] W' := fun W' e => by
          subst e
          exact kr.set ab i' _ A 131 (by simp) HAB.out hW _ rfl _ (fun p hp => .inl (by simpa using hp))
        have KN := Lib.hid kn
        have HXX := Lib.hid hxx
        clear kn hxx HX HC HS
        generalize dgc (v % 16) = D at *
        go_wp2_with fail
        go_roundw
        case rel => exact ⟨n, v / 16, i', _, D :: l, by omega, by have := HI.out; omega, by go_num, by go_num, by rw [Nat.pow_succ] at hv; omega, KN.out _ rfl, h1, by have := HL.out; simp only [List.length_cons]; omega, h2, Lib.hid (by have := HXX.out; simpa using this)⟩
        case measure => simp [intOf] <;> omega
    case neg =>
      have t1 : ¬ (16 : Int) ≤ (v : Int) := by omega
      have hd : ∀ w, Sem.run Tryz.prog (Instr.index 9 (.string { data := #[48, 49, 50, 51, 52, 53, 54, 55, 56, 57, 97, 98, 99, 100, 101, 102, 103, 104, 105, 106, 107, 108, 109, 110, 111, 112, 113, 114, 115, 116, 117, 118, 119, 120, 121, 122] }) (.int .u64 (v : Int))) w = .ok (.int .u8 ((dgc v).toNat : Int)) w := fun w => dg_run .u64 v (by omega) w
      have hxx : hx n v = [dgc v] := by
        cases n with
        | zero => rfl
        | succ n => rw [hx, if_pos (by omega)]
      have hX2 := HX.out
      rw [hxx] at hX2
      clear hxx
      obtain ⟨h1, h2⟩ := HS.out (dgc v)
      have HX2 := Lib.hid hX2
      clear hX2 HX HC HS
      generalize dgc v = D at *
      have kn : NB W [(ab, A.setIfInBounds i' (.int .u8 (D.toNat : Int)), 131)] (wr.setCell ⟨ab, i', none⟩ (.int .u8 (D.toNat : Int))) := kr.set ab i' _ A 131 (by simp) HAB.out hW _ rfl _ (fun p hp => .inl (by simpa using hp))
      go_upto_region 25 with fail
      generalize wr.setCell ⟨ab, i', none⟩ (.int .u8 (D.toNat : Int)) = w9 at *
      have hcv := run_convert_bytes_back (P := Tryz.prog) w9 25 9 5 ⟨ab, i', none⟩ (65 - i') (D :: l) Tryz.underlying25 Tryz.underlying5 Tryz.underlying9 (fun j hj => by
        rw [Lib.add_plain]
        exact (cell_of _ _ (i' + j) kn.h0).trans (h2.out j _ (List.getElem?_eq_getElem hj)))
      have hll : (D :: l).length = 65 - i' := by have := HL.out; simp only [List.length_cons]; omega
      rw [hll] at hcv
      clear cy fy kr hd hll
      go_wp2_with fail
      go_ret2
      exact ⟨_, rfl, HX2.out, kn.bel⟩
set_option maxRecDepth 100000 in
set_option maxHeartbeats 4000000 in
theorem ifmt (u : Nat) (hu : u < 65536) (W : World) (hW : GV W) : Calls Tryz.prog 63 #[.int .i64 (u : Nat), .int .i64 16] W fun e w' => ∃ a : ByteArray, e = .returned (.string a) ∧ a.data.toList = hx 3 u ∧ Below W.heap.size W w' := by
  have hF := fbits u hu W hW
  have n0 : (0 : Int) ≤ (u : Int) := by omega
  have n1 : ¬ (u : Int) < 0 := by omega
  have n2 : IntKind.u64.wrap (u : Int) = (u : Int) := by
    simp only [IntKind.wrap, IntKind.bits, IntKind.signed, Bool.false_and]
    show ((u : Int) % 18446744073709551616) = u
    omega
  go_enter Tryz.func63, Tryz.ntmps63
  go_wp2_with (go_at_call 81; with_reducible refine hF.mono ?_; rintro e w1 ⟨a, rfl, ha, b1⟩)
  go_ret
  exact ⟨_, rfl, ha, b1⟩
set_option maxRecDepth 100000 in
set_option maxHeartbeats 4000000 in
theorem sfmt (u : Nat) (hu : u < 65536) (W : World) (hW : GV W) : Calls Tryz.prog 59 #[.int .i64 (u : Nat), .int .i64 16] W fun e w' => ∃ a : ByteArray, e = .returned (.string a) ∧ a.data.toList = hx 3 u ∧ Below W.heap.size W w' := by
  have hF := ifmt u hu W hW
  go_enter Tryz.func59, Tryz.ntmps59
  go_wp2_with (go_at_call 63; with_reducible refine hF.mono ?_; rintro e w1 ⟨a, rfl, ha, b1⟩)
  go_ret
  exact ⟨_, rfl, ha, b1⟩
end Nm
end Go.Proofs.YtnhgmdfmhmkpgaaGreatDoor
