/- Blocks of cells held whole: loads and stores of whole structs and arrays, as equations for the walk. No conditions. -/
import Derived.Test.YtpjgcbbpfpcjeaaRow
import Derived.Deep.MidRow
namespace Go.Proofs.Ytpjgcbbpfpcjeaa
open Go.RowKit
set_option linter.unusedSimpArgs false
set_option linter.unusedVariables false
namespace Kit
/-- The cells of a block. -/
def blkAt (w : World) (b : Nat) : Array Value := match w.heap[b]? with | some (.cells A _ f) => if f = (0, 0) then A else #[] | _ => #[]
/-- So many cells (a word of its own, so that the walk does not take the array apart). -/
def BlkN (A : Array Value) (n : Nat) : Prop := A.size = n
def BlkOne (A : Array Value) : Prop := A.all (·.oneCell') = true
def putRow (A : Array Value) : Obj → Obj
  | .cells _ t f => .cells A t f
  | o => o
/-- The cells of a block, set whole. -/
def blkPut (w : World) (b : Nat) (A : Array Value) : World := { w with heap := w.heap.modify b (putRow A) }
theorem blkAt_heap {w : World} {b : Nat} {A : Array Value} {t : TypeId} (h : w.heap[b]? = some (.cells A t)) : blkAt w b = A := by unfold blkAt; rw [h]; rfl
theorem blkAt_new (w : World) (A : Array Value) (t : TypeId) : blkAt (w.alloc (.cells A t)) w.heap.size = A := blkAt_heap (heap_at _ _ _ rfl)
theorem blkAt_past (w : World) (o : Obj) (b : Nat) (h : b < w.heap.size) : blkAt (w.alloc o) b = blkAt w b := by
  unfold blkAt; rw [heap_past _ _ _ h]
theorem blkAt_drew (w : World) (b : Nat) : blkAt w.drew b = blkAt w b := rfl
theorem BlkN.set {A : Array Value} {n : Nat} (k : Nat) (v : Value) : BlkN (A.setIfInBounds k v) n = BlkN A n := by unfold BlkN; simp
theorem BlkOne.set {A : Array Value} (h : BlkOne A) (k : Nat) (v : Value) (hv : v.oneCell' = true) : BlkOne (A.setIfInBounds k v) := by
  apply Array.all_eq_true_iff_forall_mem.2
  intro x hx
  rw [Array.mem_iff_getElem?] at hx
  obtain ⟨i, hi⟩ := hx
  rw [Array.getElem?_setIfInBounds] at hi
  split at hi
  · split at hi
    · injection hi with hi; rw [← hi]; exact hv
    · cases hi
  · exact Array.all_eq_true_iff_forall_mem.1 h x (Array.mem_iff_getElem?.2 ⟨i, hi⟩)
theorem BlkOne.setInt {A : Array Value} (h : BlkOne A) (k : Nat) (i : IntKind) (x : Int) : BlkOne (A.setIfInBounds k (.int i x)) := h.set k _ rfl
theorem BlkOne.setBool {A : Array Value} (h : BlkOne A) (k : Nat) (x : Bool) : BlkOne (A.setIfInBounds k (.bool x)) := h.set k _ rfl
theorem heap_blkPut_same {w : World} {b : Nat} {R : Array Value} {t : TypeId} (h : w.heap[b]? = some (.cells R t)) (A : Array Value) : (blkPut w b A).heap[b]? = some (.cells A t) := by
  unfold blkPut
  show (w.heap.modify b (putRow A))[b]? = _
  rw [Array.getElem?_modify, if_pos rfl, h]; rfl
theorem heap_blkPut_other (w : World) (b n : Nat) (A : Array Value) (hn : n ≠ b) : (blkPut w b A).heap[n]? = w.heap[n]? := by
  show (w.heap.modify b (putRow A))[n]? = _
  rw [Array.getElem?_modify, if_neg (fun e => hn e.symm)]
theorem size_blkPut (w : World) (b : Nat) (A : Array Value) : (blkPut w b A).heap.size = w.heap.size := by
  show (w.heap.modify b (putRow A)).size = _
  rw [Array.size_modify]
theorem blkAt_blkPut_other (w : World) (b n : Nat) (A : Array Value) (hn : n ≠ b) : blkAt (blkPut w b A) n = blkAt w n := by
  unfold blkAt; rw [heap_blkPut_other _ _ _ _ hn]
theorem blkAt_some {w : World} {b n : Nat} (h : BlkN (blkAt w b) n) (hn : 0 < n) : ∃ t, w.heap[b]? = some (.cells (blkAt w b) t) := by
  unfold BlkN blkAt at h
  unfold blkAt
  split at h
  · rename_i A t f e
    rw [e]
    split at h
    · rename_i hf; subst hf; exact ⟨t, rfl⟩
    · simp at h; omega
  · simp at h; omega
theorem blkPut_new (w : World) (R A : Array Value) (t : TypeId) : blkPut (w.alloc (.cells R t)) w.heap.size A = w.alloc (.cells A t) := by
  have h : (w.heap.push (.cells R t)).modify w.heap.size (putRow A) = w.heap.push (.cells A t) := by
    apply Array.ext_getElem?
    intro i
    rw [Array.getElem?_modify, Array.getElem?_push, Array.getElem?_push]
    by_cases e : w.heap.size = i
    · rw [if_pos e, if_pos e.symm, if_pos e.symm]; rfl
    · rw [if_neg e, if_neg (fun x => e x.symm), if_neg (fun x => e x.symm)]
  unfold blkPut World.alloc
  simp only [h]
theorem blkPut_past (w : World) (o : Obj) (b : Nat) (A : Array Value) (hb : b < w.heap.size) : blkPut (w.alloc o) b A = (blkPut w b A).alloc o := by
  have h : (w.heap.push o).modify b (putRow A) = (w.heap.modify b (putRow A)).push o := by
    apply Array.ext_getElem?
    intro i
    rw [Array.getElem?_modify, Array.getElem?_push, Array.getElem?_push, Array.getElem?_modify, Array.size_modify]
    by_cases e : b = i
    · rw [if_pos e, if_neg (by omega), if_neg (by omega), if_pos e]
    · rw [if_neg e, if_neg e]
  unfold blkPut World.alloc
  simp only [h]
theorem blkAt_new' (w : World) (A : Array Value) (t : TypeId) (n : Nat) (h : n = w.heap.size) : blkAt (w.alloc (.cells A t)) n = A := by subst h; exact blkAt_new w A t
theorem blkPut_new' (w : World) (R A : Array Value) (t : TypeId) (n : Nat) (h : n = w.heap.size) : blkPut (w.alloc (.cells R t)) n A = w.alloc (.cells A t) := by subst h; exact blkPut_new w R A t
theorem blkAt_setCell_other (w : World) (b k : Nat) (v : Value) (n : Nat) (hn : n ≠ b) : blkAt (w.setCell ⟨b, k, none⟩ v) n = blkAt w n := by
  unfold blkAt; rw [heap_set_other _ _ _ _ _ hn]
theorem blkAt_setCell_same (w : World) (b k : Nat) (v : Value) : blkAt (w.setCell ⟨b, k, none⟩ v) b = (blkAt w b).setIfInBounds k v := by
  unfold blkAt World.setCell
  simp only [Array.getElem?_modify, if_pos rfl]
  cases h : w.heap[b]? with
  | none => simp
  | some o =>
    cases o <;> simp
    split <;> simp
/-- The cells of what is made. -/
def blkNew : Obj → Array Value
  | .cells A _ f => if f = (0, 0) then A else #[]
  | _ => #[]
theorem blkNew_cells (A : Array Value) (t : TypeId) : blkNew (.cells A t) = A := rfl
theorem putRow_cells (A R : Array Value) (t : TypeId) : putRow A (.cells R t) = .cells A t := rfl
theorem blkAt_alloc (w : World) (o : Obj) (n : Nat) : blkAt (w.alloc o) n = if n = w.heap.size then blkNew o else blkAt w n := by
  split
  · rename_i h; subst h
    unfold blkAt blkNew; rw [heap_at _ _ _ rfl]; cases o <;> rfl
  · rename_i h
    unfold blkAt
    show (match (w.heap.push o)[n]? with | some (.cells A _ f) => if f = (0, 0) then A else #[] | _ => #[]) = _
    rw [Array.getElem?_push, if_neg h]
theorem blkPut_alloc (w : World) (o : Obj) (n : Nat) (A : Array Value) : blkPut (w.alloc o) n A = if n = w.heap.size then w.alloc (putRow A o) else (blkPut w n A).alloc o := by
  have h : (w.heap.push o).modify n (putRow A) = if n = w.heap.size then w.heap.push (putRow A o) else (w.heap.modify n (putRow A)).push o := by
    apply Array.ext_getElem?
    intro i
    split
    · rename_i h; subst h
      rw [Array.getElem?_modify, Array.getElem?_push, Array.getElem?_push]
      by_cases e : w.heap.size = i
      · rw [if_pos e, if_pos e.symm, if_pos e.symm]; rfl
      · rw [if_neg e, if_neg (fun x => e x.symm), if_neg (fun x => e x.symm)]
    · rename_i h
      rw [Array.getElem?_modify, Array.getElem?_push, Array.getElem?_push, Array.getElem?_modify, Array.size_modify]
      by_cases e : n = i
      · subst e; rw [if_pos rfl, if_neg h, if_neg h, if_pos rfl]
      · rw [if_neg e, if_neg e]
  unfold blkPut World.alloc
  simp only [h]
  split <;> rfl
theorem nq2 (n : Nat) : (n = n + 1 + 1) = False := by simp <;> omega
theorem nq3 (n : Nat) : (n = n + 1 + 1 + 1) = False := by simp <;> omega
theorem nq4 (n : Nat) : (n = n + 1 + 1 + 1 + 1) = False := by simp <;> omega
theorem nq5 (n : Nat) : (n = n + 1 + 1 + 1 + 1 + 1) = False := by simp <;> omega
theorem nq6 (n : Nat) : (n = n + 1 + 1 + 1 + 1 + 1 + 1) = False := by simp <;> omega
theorem nq7 (n : Nat) : (n = n + 1 + 1 + 1 + 1 + 1 + 1 + 1) = False := by simp <;> omega
theorem nq8 (n : Nat) : (n = n + 1 + 1 + 1 + 1 + 1 + 1 + 1 + 1) = False := by simp <;> omega
theorem nl2 (n : Nat) : (n < n + 1 + 1) = True := by simp <;> omega
theorem nl3 (n : Nat) : (n < n + 1 + 1 + 1) = True := by simp <;> omega
theorem nl4 (n : Nat) : (n < n + 1 + 1 + 1 + 1) = True := by simp <;> omega
theorem nl5 (n : Nat) : (n < n + 1 + 1 + 1 + 1 + 1) = True := by simp <;> omega
theorem nl6 (n : Nat) : (n < n + 1 + 1 + 1 + 1 + 1 + 1) = True := by simp <;> omega
theorem nl7 (n : Nat) : (n < n + 1 + 1 + 1 + 1 + 1 + 1 + 1) = True := by simp <;> omega
theorem nl8 (n : Nat) : (n < n + 1 + 1 + 1 + 1 + 1 + 1 + 1 + 1) = True := by simp <;> omega
theorem blkPut_drew (w : World) (b : Nat) (A : Array Value) : blkPut w.drew b A = (blkPut w b A).drew := rfl
theorem below_blkPut {B b : Nat} {a w : World} (h : Below B a w) (hb : B ≤ b) (A : Array Value) : Below B a (blkPut w b A) :=
  h.trans ⟨rfl, rfl, rfl, Nat.le_of_eq (size_blkPut w b A).symm, fun k hk => heap_blkPut_other w b k A (by omega)⟩
theorem sets_heap (b : Nat) : ∀ (vs : List Value) (o : Nat) (w : World), w.setCells b o vs = { w with heap := (w.setCells b o vs).heap }
  | [], _, _ => rfl
  | v :: vs, o, w => by
    rw [World.setCells, sets_heap b vs]
    rfl
theorem sets_row {w : World} {b n : Nat} {A : Array Value} (h : BlkN (blkAt w b) n) (hA : BlkN A n) (hn : 0 < n) : w.setCells b 0 A.toList = blkPut w b A := by
  obtain ⟨t, ht⟩ := blkAt_some h hn
  rw [sets_heap]
  unfold blkPut
  have : (w.setCells b 0 A.toList).heap = w.heap.modify b (putRow A) := by
    apply Array.ext_getElem?
    intro i
    by_cases e : i = b
    · subst e
      rw [heap_sets_same w i A.toList ht (by rw [Array.length_toList]; exact hA.trans h.symm)]
      exact (heap_blkPut_same ht A).symm
    · rw [heap_sets_other b i e]
      exact (heap_blkPut_other w b i A e).symm
  rw [this]
/-- The load, the store, of a type that is held whole (words of their own: see 'load_in', 'store_in'). -/
noncomputable def loadW (ty : TypeId) (v : Value) : Sem Value := Instr.loadAt ty v
noncomputable def storeW (ty : TypeId) (v x : Value) : Sem Unit := Instr.storeAt ty v x
theorem load_in (ty : TypeId) (v : Value) : Instr.loadAt ty v = loadW ty v := rfl
theorem store_in (ty : TypeId) (v x : Value) : Instr.storeAt ty v x = storeW ty v x := rfl
theorem load_run {P : Program} (ty : TypeId) (n : Nat) {d : TypeDesc} (hu : P.underlying ty = some d) (hd : d.isRow = true) (hi : (P.info? ty).map (·.size) = some n) (hn : 0 < n)
    (b : Nat) (w : World) (h : BlkN (blkAt w b) n) : Sem.run P (loadW ty (.pointer (some ⟨b, 0, none⟩))) w = .ok (.agg (blkAt w b)) w := by
  obtain ⟨t, ht⟩ := blkAt_some h hn
  have h' : (blkAt w b).toList.length = n := by simpa [BlkN] using h
  have := run_loadVar_mid (P := P) w b 0 ty (blkAt w b).toList d (fun j v hv => by rw [Nat.zero_add, cell_of w b j ht]; simpa using hv) hu hd (by rw [h']; exact hi)
  simp only [loadW, Instr.loadAt, Instr.sureAddr, Sem.run_bind, Sem.run_pure, Result.andThen_ok, this, Array.toArray_toList]
theorem store_run {P : Program} (ty : TypeId) (n : Nat) (hi : (P.info? ty).map (·.size) = some n) (hn : 0 < n)
    (b : Nat) (w : World) (A : Array Value) (h : BlkN (blkAt w b) n) (hA : BlkN A n) (h1 : BlkOne A) : Sem.run P (storeW ty (.pointer (some ⟨b, 0, none⟩)) (.agg A)) w = .ok () (blkPut w b A) := by
  obtain ⟨t, ht⟩ := blkAt_some h hn
  rw [← sets_row h hA hn]
  exact run_storeAt_mid w b 0 ty A (by rw [show A.size = (blkAt w b).size from hA.trans h.symm]; exact there_of w b ht) (by rw [show A.size = n from hA]; exact hi) h1
end Kit
end Go.Proofs.Ytpjgcbbpfpcjeaa
