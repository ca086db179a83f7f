/- A store of four cells into a block that is held whole (layer 5). No conditions but those of the model. -/
import Derived.Test.YtjggocbihjdekaaPsg3
namespace Go.Proofs.Ytjggocbihjdekaa
open Go.RowKit
open Kit
set_option linter.unusedSimpArgs false
set_option linter.unusedVariables false
namespace Psg
theorem world_heap {a b : World} (h : a.heap = b.heap) (h2 : a = { b with heap := a.heap }) : a = b := by rw [h2, h]
theorem set_put {w : World} {b n : Nat} (k : Nat) (v : Value) (h : BlkN (blkAt w b) n) (hn : 0 < n) : w.setCell ⟨b, k, none⟩ v = blkPut w b ((blkAt w b).setIfInBounds k v) := by
  obtain ⟨t, ht⟩ := blkAt_some h hn
  refine world_heap ?_ rfl
  apply Array.ext_getElem?
  intro i
  by_cases e : i = b
  · subst e
    rw [heap_set_same _ _ _ _ ht]
    exact (heap_blkPut_same ht _).symm
  · rw [heap_set_other _ _ _ _ _ e, heap_blkPut_other _ _ _ _ e]
theorem at_put {w : World} {b n : Nat} (A : Array Value) (h : BlkN (blkAt w b) n) (hn : 0 < n) : blkAt (blkPut w b A) b = A := by
  obtain ⟨t, ht⟩ := blkAt_some h hn
  exact blkAt_heap (heap_blkPut_same ht A)
theorem put_put {w : World} {b n : Nat} (A B : Array Value) (h : BlkN (blkAt w b) n) (hn : 0 < n) : blkPut (blkPut w b A) b B = blkPut w b B := by
  obtain ⟨t, ht⟩ := blkAt_some h hn
  refine world_heap ?_ rfl
  apply Array.ext_getElem?
  intro i
  by_cases e : i = b
  · subst e
    rw [heap_blkPut_same (heap_blkPut_same ht A) B, heap_blkPut_same ht B]
  · rw [heap_blkPut_other _ _ _ _ e, heap_blkPut_other _ _ _ _ e, heap_blkPut_other _ _ _ _ e]
theorem i4 : (Try.prog.info? 27).map (·.size) = some 4 := by kernel_rfl
theorem ns_in (v x : Value) : Instr.storeAt 27 v x = storeW 27 v x := rfl
theorem ns_run (b : Nat) (w : World) (m c h s : Value) (hb : BlkN (blkAt w b) 18) (h1 : m.oneCell' = true) (h2 : c.oneCell' = true) (h3 : h.oneCell' = true) (h4 : s.oneCell' = true) :
    Sem.run Try.prog (storeW 27 (.pointer (some ⟨b, 9, none⟩)) (.agg #[m, c, h, s])) w = .ok () (blkPut w b (((((blkAt w b).setIfInBounds 9 m).setIfInBounds 10 c).setIfInBounds 11 h).setIfInBounds 12 s)) := by
  obtain ⟨t, ht⟩ := blkAt_some hb (by omega)
  have hs : (blkAt w b).size = 18 := hb
  have hth : w.there b 9 4 := fun j hj => by
    have e := there_of w b ht (9 + j) (by omega)
    simpa using e
  refine (run_storeAt_mid (P := Try.prog) w b 9 27 #[m, c, h, s] hth i4 (by simp [h1, h2, h3, h4])).trans ?_
  show Result.ok () ((((w.setCell ⟨b, 9, none⟩ m).setCell ⟨b, 10, none⟩ c).setCell ⟨b, 11, none⟩ h).setCell ⟨b, 12, none⟩ s) = _
  have g1 := set_put 9 m hb (by omega)
  have n1 : BlkN (blkAt (w.setCell ⟨b, 9, none⟩ m) b) 18 := by rw [g1, at_put _ hb (by omega)]; simpa [BlkN] using hs
  have g2 := set_put 10 c n1 (by omega)
  have n2 : BlkN (blkAt ((w.setCell ⟨b, 9, none⟩ m).setCell ⟨b, 10, none⟩ c) b) 18 := by rw [g2, at_put _ n1 (by omega)]; simpa [BlkN] using n1
  have g3 := set_put 11 h n2 (by omega)
  have n3 : BlkN (blkAt (((w.setCell ⟨b, 9, none⟩ m).setCell ⟨b, 10, none⟩ c).setCell ⟨b, 11, none⟩ h) b) 18 := by rw [g3, at_put _ n2 (by omega)]; simpa [BlkN] using n2
  have g4 := set_put 12 s n3 (by omega)
  rw [g4]
  rw [blkAt_setCell_same, blkAt_setCell_same, blkAt_setCell_same]
  rw [g3, put_put _ _ n2 (by omega), g2, put_put _ _ n1 (by omega), g1, put_put _ _ hb (by omega)]
theorem ns_run2 (b : Nat) (w : World) (m c s : Int) (h : Bool) (hb : BlkN (blkAt w b) 18) :
    Sem.run Try.prog (storeW 27 (.pointer (some ⟨b, 9, none⟩)) (.agg #[.int .u8 m, .int .i64 c, .bool h, .int .u16 s])) w = .ok () (blkPut w b (((((blkAt w b).setIfInBounds 9 (.int .u8 m)).setIfInBounds 10 (.int .i64 c)).setIfInBounds 11 (.bool h)).setIfInBounds 12 (.int .u16 s))) :=
  ns_run b w _ _ _ _ hb rfl rfl rfl rfl
end Psg
end Go.Proofs.Ytjggocbihjdekaa
