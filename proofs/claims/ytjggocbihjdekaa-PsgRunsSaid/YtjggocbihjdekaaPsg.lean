/- A chip of three tones and a noise (layer 5): what the program's functions do, part 1. No conditions but that numbers are of their kinds. -/
import Derived.Test.YtjggocbihjdekaaCell
import Derived.Test.YtjggocbihjdekaaIdx
import Derived.Test.YtjggocbihjdekaaEq
import Derived.Test.YtjggocbihjdekaaTone
import Derived.Test.YtjggocbihjdekaaNoise
import Derived.RegionTactic
import Derived.LoopTactic
import Derived.Deep.RegionHeld3
import Derived.Lib.Hide
namespace Go.Proofs.Ytjggocbihjdekaa
open Go.RowKit
open Kit
set_option linter.unusedSimpArgs false
set_option linter.unusedVariables false
attribute [local simp] blkAt_alloc blkNew_cells putRow_cells blkAt_drew BlkN.set BlkOne.setInt BlkOne.setBool blkPut_alloc blkPut_drew blkAt_blkPut_other size_blkPut nq2 nq3 nq4 nq5 nq6 nq7 nq8
namespace Psg
def sv (f : Nat → Int) (j : Nat) : Value := if j = 12 then .int .u16 (f j) else if j = 9 ∨ 13 ≤ j then .int .u8 (f j) else if j = 2 ∨ j = 5 ∨ j = 8 ∨ j = 11 then .bool (f j == 1) else .int .i64 (f j)
def S (f : Nat → Int) : Array Value := row 18 (sv f)
def upd (f : Nat → Int) (k : Nat) (x : Int) : Nat → Int := fun j => if j = k then x else f j
theorem S_size (f : Nat → Int) : (S f).size = 18 := row_size _ _
theorem S_get (f : Nat → Int) (k : Nat) (hk : k < 18) : (S f)[k]? = some (sv f k) := row_get _ _ _ hk
theorem S_congr (f g : Nat → Int) (h : ∀ j, j < 18 → f j = g j) : S f = S g := row_congr _ _ _ fun j hj => by unfold sv; rw [h j hj]
theorem S_set (f : Nat → Int) (k : Nat) (x : Int) (v : Value) (hv : sv (upd f k x) k = v) : (S f).setIfInBounds k v = S (upd f k x) := by
  refine row_set _ _ _ _ _ fun j hj => ?_
  by_cases e : j = k
  · subst e; rw [if_pos rfl, hv]
  · rw [if_neg e]; unfold sv upd; rw [if_neg e]
theorem sv_one (f : Nat → Int) (j : Nat) : (sv f j).oneCell' = true := by unfold sv; split <;> (try split) <;> (try split) <;> rfl
theorem S_one (f : Nat → Int) : (S f).all (·.oneCell') = true := row_one _ _ fun j _ => sv_one f j
def Z18 : Array Value := #[.int .i64 0, .int .i64 0, .bool false, .int .i64 0, .int .i64 0, .bool false, .int .i64 0, .int .i64 0, .bool false, .int .u8 0, .int .i64 0, .bool false, .int .u16 0, .int .u8 0, .int .u8 0, .int .u8 0, .int .u8 0, .int .u8 0]
theorem i18 : (Try.prog.info? 30).map (·.size) = some 18 := by kernel_rfl
theorem iS {A : Array Value} (h : BlkN A 18) : (Try.prog.info? 30).map (·.size) = some A.size := by rw [show A.size = 18 from h]; exact i18
theorem i16 : (Try.prog.info? 53).map (·.size) = some 16 := by kernel_rfl
theorem sl_in (v : Value) : Instr.loadAt 30 v = loadW 30 v := rfl
theorem ss_in (v x : Value) : Instr.storeAt 30 v x = storeW 30 v x := rfl
theorem vs_in (v x : Value) : Instr.storeAt 53 v x = storeW 53 v x := rfl
theorem sl_run (b : Nat) (w : World) (h : BlkN (blkAt w b) 18) : Sem.run Try.prog (loadW 30 (.pointer (some ⟨b, 0, none⟩))) w = .ok (.agg (blkAt w b)) w := load_run 30 18 Try.underlying30 rfl i18 (by omega) b w h
theorem ss_run (b : Nat) (w : World) (A : Array Value) (h : BlkN (blkAt w b) 18) (hA : BlkN A 18) (h1 : BlkOne A) : Sem.run Try.prog (storeW 30 (.pointer (some ⟨b, 0, none⟩)) (.agg A)) w = .ok () (blkPut w b A) := store_run 30 18 i18 (by omega) b w A h hA h1
theorem vs_run (b : Nat) (w : World) (A : Array Value) (h : BlkN (blkAt w b) 16) (hA : BlkN A 16) (h1 : BlkOne A) : Sem.run Try.prog (storeW 53 (.pointer (some ⟨b, 0, none⟩)) (.agg A)) w = .ok () (blkPut w b A) := store_run 53 16 i16 (by omega) b w A h hA h1
attribute [local simp ↓] sl_in ss_in vs_in
attribute [local simp] sl_run ss_run vs_run
theorem zN : BlkN Z18 18 := rfl
def volL : List Int := [8191, 6507, 5168, 4105, 3261, 2590, 2057, 1642, 1298, 1031, 819, 650, 516, 410, 326, 0]
def volV (q : Int) : Int := volL.getD (q % 16).toNat 0
def VT : Array Value := #[.int .i64 8191, .int .i64 6507, .int .i64 5168, .int .i64 4105, .int .i64 3261, .int .i64 2590, .int .i64 2057, .int .i64 1642, .int .i64 1298, .int .i64 1031, .int .i64 819, .int .i64 650, .int .i64 516, .int .i64 410, .int .i64 326, .int .i64 0]
def Z16 : Array Value := #[.int .i64 0, .int .i64 0, .int .i64 0, .int .i64 0, .int .i64 0, .int .i64 0, .int .i64 0, .int .i64 0, .int .i64 0, .int .i64 0, .int .i64 0, .int .i64 0, .int .i64 0, .int .i64 0, .int .i64 0, .int .i64 0]
theorem vtN : BlkN VT 16 := rfl
theorem z16N : BlkN Z16 16 := rfl
theorem vtO : BlkOne VT := row_one 16 (fun j => .int .i64 (volL.getD j 0)) fun j _ => rfl
theorem and15 : ∀ q, q < 256 → q &&& 15 = q % 16 := byte_all _ _ (by decide +kernel)
theorem and15i (q : Int) (q0 : 0 ≤ q) (q1 : q < 256) : Go.bits .and .u8 q 15 = q % 16 := by
  obtain ⟨v, rfl⟩ := Int.eq_ofNat_of_zero_le q0
  simp only [Kit.and8l, Kit.or8l, Kit.xor8l, Kit.andn8l, Kit.and16l, Kit.or16l, Kit.divl, Kit.modl, Kit.addn, Kit.muln, Kit.addl, Kit.mull, Kit.lmul, Kit.ladd, Kit.and8, Kit.or8, Kit.xor8, Kit.andn8, Kit.and16, Kit.or16, Kit.xor16, Kit.wrap16, Kit.wrap8, Kit.land8, Kit.lor8, Kit.lxor8, Kit.landn8, Kit.land16, Kit.lor16, Kit.lxor16]
  rw [Nat.mod_eq_of_lt (show v < 256 by omega), show 15 % 256 = 15 from rfl, and15 v (by omega)]
set_option maxRecDepth 100000 in
set_option maxHeartbeats 4000000 in
theorem volume_any (q : Int) (q0 : 0 ≤ q) (q1 : q < 256) (w : World) : Calls Try.prog 13 #[.int .u8 q] w fun e w' => e = .returned (.int .i64 (volV q)) ∧ ∃ o, w' = w.alloc o := by
  obtain ⟨V, hV⟩ : ∃ V, VT = V := ⟨_, rfl⟩
  have h1 := vtN
  have h2 := z16N
  have h3 := vtO
  have h5 : VT[(q % 16).toNat]? = some (.int .i64 (volV q)) := by
    unfold volV
    have e : (q % 16).toNat < 16 := by omega
    generalize (q % 16).toNat = k at *
    rcases (by omega : k = 0 ∨ k = 1 ∨ k = 2 ∨ k = 3 ∨ k = 4 ∨ k = 5 ∨ k = 6 ∨ k = 7 ∨ k = 8 ∨ k = 9 ∨ k = 10 ∨ k = 11 ∨ k = 12 ∨ k = 13 ∨ k = 14 ∨ k = 15) with rfl | rfl | rfl | rfl | rfl | rfl | rfl | rfl | rfl | rfl | rfl | rfl | rfl | rfl | rfl | rfl <;> rfl
  have h8 : VT.setIfInBounds 15 (.int .i64 0) = VT := by rfl
  rw [hV] at h1 h3 h5 h8
  unfold VT at hV
  unfold Z16 at h2
  have h4 := and15i q q0 q1
  have h6 : 0 ≤ q % 16 := by omega
  have h7 : q % 16 < 16 := by omega
  go_enter Try.func13, Try.ntmps13
  go_wp2_with fail
  go_ret
  exact ⟨rfl, _, rfl⟩
end Psg
end Go.Proofs.Ytjggocbihjdekaa
