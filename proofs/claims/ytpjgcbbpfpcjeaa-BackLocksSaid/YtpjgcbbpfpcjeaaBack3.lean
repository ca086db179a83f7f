/- A line of the ground of a picture (layer 17): what the program's and the reference's functions do, part 3. No conditions but that numbers are of their kinds and slices are slices. -/
import Derived.Test.YtpjgcbbpfpcjeaaBack2
import Derived.RegionTactic
import Derived.LoopTactic
import Derived.Deep.RegionHeld3
import Derived.Lib.Hide
namespace Go.Proofs.Ytpjgcbbpfpcjeaa
open Go.RowKit
open Kit Tile TileR
set_option linter.unusedSimpArgs false
set_option linter.unusedVariables false
attribute [local simp] blkAt_alloc blkNew_cells putRow_cells blkAt_drew BlkN.set BlkOne.setInt BlkOne.setBool blkPut_alloc blkPut_drew blkAt_blkPut_other size_blkPut nq2 nq3 nq4 nq5 nq6 nq7 nq8
namespace Back
attribute [local simp ↓] rl_in
attribute [local simp] rl_run
def gv (c : Nat → Int) (f : Nat → Bool) (k j : Nat) : Value := if j < 256 then .int .u8 (if j < k then c j else 0) else .bool (if j - 256 < k then f (j - 256) else false)
/-- The first so many dots of a line. -/
def O (c : Nat → Int) (f : Nat → Bool) (k : Nat) : Array Value := row 512 (gv c f k)
/-- A line. -/
def G (c : Nat → Int) (f : Nat → Bool) : Array Value := O c f 256
def Z512 : Array Value := row 512 fun j => if j < 256 then .int .u8 0 else .bool false
theorem O_size (c : Nat → Int) (f : Nat → Bool) (k : Nat) : (O c f k).size = 512 := row_size _ _
theorem O_one (c : Nat → Int) (f : Nat → Bool) (k : Nat) : (O c f k).all (·.oneCell') = true := row_one _ _ fun j _ => by unfold gv; split <;> rfl
theorem O_zero (c : Nat → Int) (f : Nat → Bool) : O c f 0 = Z512 := row_congr _ _ _ fun j _ => by unfold gv; simp
theorem G_congr (c c' : Nat → Int) (f f' : Nat → Bool) (h : ∀ j, j < 256 → c j = c' j ∧ f j = f' j) : G c f = G c' f' := row_congr _ _ _ fun j hj => by
  unfold gv
  by_cases e : j < 256
  · simp only [e, if_true]; rw [(h j e).1]
  · simp only [e, if_false]; rw [if_pos (by omega), if_pos (by omega), (h (j - 256) (by omega)).2]
theorem O_c (c : Nat → Int) (f : Nat → Bool) (k j : Nat) (hj : j < 256) : (O c f k)[j]? = some (.int .u8 (if j < k then c j else 0)) := by unfold O; rw [row_get _ _ _ (by omega)]; unfold gv; rw [if_pos hj]
theorem O_f (c : Nat → Int) (f : Nat → Bool) (k j : Nat) (hj : j < 256) : (O c f k)[256 + j]? = some (.bool (if j < k then f j else false)) := by unfold O; rw [row_get _ _ _ (by omega)]; unfold gv; rw [if_neg (by omega), show 256 + j - 256 = j by omega]
theorem G_c (c : Nat → Int) (f : Nat → Bool) (j : Nat) (hj : j < 256) : (G c f)[j]? = some (.int .u8 (c j)) := by unfold G; rw [O_c _ _ _ _ hj, if_pos hj]
theorem G_f (c : Nat → Int) (f : Nat → Bool) (j : Nat) (hj : j < 256) : (G c f)[256 + j]? = some (.bool (f j)) := by unfold G; rw [O_f _ _ _ _ hj, if_pos hj]
theorem O_step (c : Nat → Int) (f : Nat → Bool) (k : Nat) (hk : k < 256) (x : Int) (b : Bool) (hx : x = c k) (hb : b = f k) : ((O c f k).setIfInBounds k (.int .u8 x)).setIfInBounds (256 + k) (.bool b) = O c f (k + 1) := by
  have h1 : (O c f k).setIfInBounds k (.int .u8 x) = row 512 (fun j => if j = k then .int .u8 x else gv c f k j) := row_set _ _ _ _ _ fun j hj => rfl
  rw [h1]
  refine row_set _ _ _ _ _ fun j hj => ?_
  unfold gv
  by_cases e1 : j = 256 + k
  · subst e1
    rw [if_pos rfl, if_neg (by omega), show 256 + k - 256 = k by omega, if_pos (by omega), hb]
  · rw [if_neg e1]
    by_cases e2 : j = k
    · subst e2
      rw [if_pos rfl, if_pos (by omega), if_pos (by omega), hx]
    · rw [if_neg e2]
      by_cases e3 : j < 256
      · rw [if_pos e3, if_pos e3]
        by_cases e4 : j < k
        · rw [if_pos e4, if_pos (by omega)]
        · rw [if_neg e4, if_neg (by omega)]
      · rw [if_neg e3, if_neg e3]
        by_cases e4 : j - 256 < k
        · rw [if_pos e4, if_pos (by omega)]
        · rw [if_neg e4, if_neg (by omega)]
theorem set_twice (A : Array Value) (k : Nat) (x y : Value) : (A.setIfInBounds k x).setIfInBounds k y = A.setIfInBounds k y := by
  apply Array.ext_getElem?
  intro i
  simp only [Array.getElem?_setIfInBounds, Array.size_setIfInBounds]
  split
  · rfl
  · rfl
theorem i512 : (Try.prog.info? 29).map (·.size) = some 512 := by kernel_rfl
theorem i8 : (Try.prog.info? 42).map (·.size) = some 8 := by kernel_rfl
theorem gl_in (v : Value) : Instr.loadAt 29 v = loadW 29 v := rfl
theorem gs_in (v x : Value) : Instr.storeAt 29 v x = storeW 29 v x := rfl
theorem ds_in (v x : Value) : Instr.storeAt 42 v x = storeW 42 v x := rfl
theorem gl_run (b : Nat) (w : World) (h : BlkN (blkAt w b) 512) : Sem.run Try.prog (loadW 29 (.pointer (some ⟨b, 0, none⟩))) w = .ok (.agg (blkAt w b)) w := load_run 29 512 Try.underlying29 rfl i512 (by omega) b w h
theorem gs_run (b : Nat) (w : World) (A : Array Value) (h : BlkN (blkAt w b) 512) (hA : BlkN A 512) (h1 : BlkOne A) : Sem.run Try.prog (storeW 29 (.pointer (some ⟨b, 0, none⟩)) (.agg A)) w = .ok () (blkPut w b A) := store_run 29 512 i512 (by omega) b w A h hA h1
theorem ds_run (b : Nat) (w : World) (A : Array Value) (h : BlkN (blkAt w b) 8) (hA : BlkN A 8) (h1 : BlkOne A) : Sem.run Try.prog (storeW 42 (.pointer (some ⟨b, 0, none⟩)) (.agg A)) w = .ok () (blkPut w b A) := store_run 42 8 i8 (by omega) b w A h hA h1
noncomputable def allocG (b : Bool) (old : Value) : Sem Value := Instr.alloc 29 b old
theorem ag_in (b : Bool) (old : Value) : Instr.alloc 29 b old = allocG b old := rfl
theorem zeroG : (Try.prog.info? 29).map (·.zero) = some (some (.agg Z512)) := by kernel_rfl
theorem ag_run (old : Value) (w : World) : Sem.run Try.prog (allocG true old) w = .ok (.pointer (some ⟨w.heap.size, 0, none⟩)) (w.alloc (.cells Z512 29)) := by
  have hz := zeroG
  cases hq : Try.prog.info? 29 with
  | none => rw [hq] at hz; cases hz
  | some i0 =>
    rw [hq] at hz
    have hz' : i0.zero = some (.agg Z512) := by simpa using hz
    simp [allocG, Instr.alloc, zeroValue, typeInfo, hq, hz', newVar, newRow, Value.cells]
theorem z512N : BlkN Z512 512 := row_size _ _
theorem z512O : BlkOne Z512 := row_one _ _ fun j _ => by split <;> rfl
end Back
end Go.Proofs.Ytpjgcbbpfpcjeaa
