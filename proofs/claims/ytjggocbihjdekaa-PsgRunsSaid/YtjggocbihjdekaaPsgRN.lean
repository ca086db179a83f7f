/- A chip of three tones and a noise (layer 5): what the program's functions do, part 24. No conditions but that numbers are of their kinds. -/
import Derived.Test.YtjggocbihjdekaaPsgO
import Derived.Test.YtjggocbihjdekaaPsgV
import Derived.Test.YtjggocbihjdekaaKit2
import Derived.RegionTactic
import Derived.LoopTactic
import Derived.Deep.RegionHeld3
import Derived.Lib.Hide
namespace Go.Proofs.Ytjggocbihjdekaa
open Go.RowKit
open Kit
set_option linter.unusedSimpArgs false
set_option linter.unusedVariables false
attribute [local simp] blkAt_alloc blkNew_cells putRow_cells blkAt_drew BlkN.set BlkOne.setInt BlkOne.setBool blkPut_alloc blkPut_drew blkAt_blkPut_other size_blkPut nq2 nq3 nq4 nq5 nq6 nq7 nq8
namespace Kit
open Go.RowKit Go.ChangeShapes Go.WideShapes Go.ChangeAt Go.Deep
/-- A slice of pairs of numbers. -/
def PairsOf (w : World) (v : Value) (len : Nat) (K N : Nat → Int) : Prop := SliceOf w v 2 len (fun i j => .int .i64 (bif j == 0 then K i else N i))
theorem open_pairsOf {H : Type} {enc : TypeId × Value → H} {P : Program} {w : World} {base : Nat} {held : Bool} {t e : TypeId} {v : Value} {d : DataW H} {ps : List MemPlace} {fuel : Nat} (hu : P.underlying t = some (.slice e)) (hf : flat P 6 e = some [some .i64, some .i64])
    (hc : P.cellsOf e = 2) (h : DataW.trod enc P w base (fun _ => true) held fuel t [v] = some (d, ps)) : ∃ (len : Nat) (K N : Nat → Int), PairsOf w v len K N := by
  obtain ⟨len, V, ⟨p, cap, rfl, hl, hm, hp⟩, hV⟩ := open_flats 6 [some .i64, some .i64] hu hf hc (by decide) h
  obtain ⟨K, hK⟩ := choose_lt (α := Int) (p := fun i z => V i 0 = .int .i64 z ∧ (Lit.int .i64 z).wf = true) (n := len) (fun i hi => hV i hi 0 (some .i64) rfl)
  obtain ⟨N, hN⟩ := choose_lt (α := Int) (p := fun i z => V i 1 = .int .i64 z ∧ (Lit.int .i64 z).wf = true) (n := len) (fun i hi => hV i hi 1 (some .i64) rfl)
  refine ⟨len, K, N, p, cap, rfl, hl, hm, fun h0 => ?_⟩
  obtain ⟨b, o, rfl, hb, hcell⟩ := hp h0
  refine ⟨b, o, rfl, hb, fun i j hi hj => ?_⟩
  rcases (by omega : j = 0 ∨ j = 1) with rfl | rfl
  · exact (hcell i 0 hi hj).trans (congrArg some (hK i hi).1)
  · exact (hcell i 1 hi hj).trans (congrArg some (hN i hi).1)
end Kit
namespace Psg
attribute [local simp ↓] sl_in ss_in vs_in
attribute [local simp] sl_run ss_run vs_run
set_option maxRecDepth 100000 in
set_option maxHeartbeats 4000000 in
theorem psgRuns_walk (a0_0 : Int) (a0_1 : Int) (a0_2 : Bool) (a0_3 : Int) (a0_4 : Int) (a0_5 : Bool) (a0_6 : Int) (a0_7 : Int) (a0_8 : Bool) (a0_9 : Int) (a0_10 : Int) (a0_11 : Bool) (a0_12 : Int) (a0_13 : Int) (a0_14 : Int) (a0_15 : Int) (a0_16 : Int) (a0_17 : Int) (v1 : Value) (z1 : Nat) (K1 N1 : Nat → Int) (w0_0 : (Lit.int .i64 a0_0).wf = true) (w0_1 : (Lit.int .i64 a0_1).wf = true) (w0_3 : (Lit.int .i64 a0_3).wf = true) (w0_4 : (Lit.int .i64 a0_4).wf = true) (w0_6 : (Lit.int .i64 a0_6).wf = true) (w0_7 : (Lit.int .i64 a0_7).wf = true) (w0_9 : (Lit.int .u8 a0_9).wf = true) (w0_10 : (Lit.int .i64 a0_10).wf = true) (w0_12 : (Lit.int .u16 a0_12).wf = true) (w0_13 : (Lit.int .u8 a0_13).wf = true) (w0_14 : (Lit.int .u8 a0_14).wf = true) (w0_15 : (Lit.int .u8 a0_15).wf = true) (w0_16 : (Lit.int .u8 a0_16).wf = true) (w0_17 : (Lit.int .u8 a0_17).wf = true) (w : World) (hs1 : Kit.PairsOf w v1 z1 K1 N1) : Calls Try.prog 6 #[.agg #[.int .i64 a0_0, .int .i64 a0_1, .bool a0_2, .int .i64 a0_3, .int .i64 a0_4, .bool a0_5, .int .i64 a0_6, .int .i64 a0_7, .bool a0_8, .int .u8 a0_9, .int .i64 a0_10, .bool a0_11, .int .u16 a0_12, .int .u8 a0_13, .int .u8 a0_14, .int .u8 a0_15, .int .u8 a0_16, .int .u8 a0_17], v1] w fun e w' => e = .returned (.bool true) ∧ Below w.heap.size w w' := by
  rw [show (#[.int .i64 a0_0, .int .i64 a0_1, .bool a0_2, .int .i64 a0_3, .int .i64 a0_4, .bool a0_5, .int .i64 a0_6, .int .i64 a0_7, .bool a0_8, .int .u8 a0_9, .int .i64 a0_10, .bool a0_11, .int .u16 a0_12, .int .u8 a0_13, .int .u8 a0_14, .int .u8 a0_15, .int .u8 a0_16, .int .u8 a0_17] : Array Value) = S (fOf [a0_0, a0_1, cz a0_2, a0_3, a0_4, cz a0_5, a0_6, a0_7, cz a0_8, a0_9, a0_10, cz a0_11, a0_12, a0_13, a0_14, a0_15, a0_16, a0_17]) from sound_eq a0_0 a0_1 a0_2 a0_3 a0_4 a0_5 a0_6 a0_7 a0_8 a0_9 a0_10 a0_11 a0_12 a0_13 a0_14 a0_15 a0_16 a0_17]
  exact runs_all _ (sound_sb a0_0 a0_1 a0_2 a0_3 a0_4 a0_5 a0_6 a0_7 a0_8 a0_9 a0_10 a0_11 a0_12 a0_13 a0_14 a0_15 a0_16 a0_17 w0_0 w0_1 w0_3 w0_4 w0_6 w0_7 w0_9 w0_10 w0_12 w0_13 w0_14 w0_15 w0_16 w0_17) v1 z1 K1 N1 w hs1
end Psg
end Go.Proofs.Ytjggocbihjdekaa
