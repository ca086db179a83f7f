/- A chip of three tones and a noise (layer 5): what the program's functions do, part 13. No conditions but that numbers are of their kinds. -/
import Derived.Test.YtjggocbihjdekaaPsgS
import Derived.Test.YtjggocbihjdekaaKit2
import Derived.RegionTactic
import Derived.LoopTactic
import Derived.Deep.DeepCutAuto
import Derived.Deep.CutRange
import Derived.Laws.OwnMore
import Derived.Deep.RegionHeld3
import Derived.Lib.Hide
namespace Go.Proofs.Ytjggocbihjdekaa
open Go.RowKit
open Kit
set_option linter.unusedSimpArgs false
set_option linter.unusedVariables false
attribute [local simp] blkAt_alloc blkNew_cells putRow_cells blkAt_drew BlkN.set BlkOne.setInt BlkOne.setBool blkPut_alloc blkPut_drew blkAt_blkPut_other size_blkPut nq2 nq3 nq4 nq5 nq6 nq7 nq8
namespace Psg
attribute [local simp ↓] sl_in ss_in vs_in
attribute [local simp] sl_run ss_run vs_run
open ToneM NoiseM
def RX (f : Nat → Int) : Prop := SB f ∧ (0 ≤ f 10 ∧ f 10 ≤ 64) ∧ f 9 < 8
theorem st_9 (f : Nat → Int) : stF f 9 = f 9 := rfl
theorem st_12 (f : Nat → Int) : stF f 12 = ((nS (f 9).toNat (f 10).toNat (f 12).toNat (stT (f 6) (f 7)) (f 11 == 1) : Nat) : Int) := rfl
theorem st_10 (f : Nat → Int) : stF f 10 = ((nC ((f 9).toNat % 4) (f 10).toNat : Nat) : Int) := rfl
theorem st_c (f : Nat → Int) (k : Nat) (hk : k < 3) : stF f (3 * k + 1) = stC (f (3 * k)) (f (3 * k + 1)) := by
  rcases (by omega : k = 0 ∨ k = 1 ∨ k = 2) with rfl | rfl | rfl <;> rfl
theorem st_p (f : Nat → Int) (k : Nat) (hk : k < 3) : stF f (3 * k) = f (3 * k) := by
  rcases (by omega : k = 0 ∨ k = 1 ∨ k = 2) with rfl | rfl | rfl <;> rfl
theorem st_hi (f : Nat → Int) (j : Nat) (h : 13 ≤ j) : stF f j = f j := by
  unfold stF nuF tuF
  repeat rw [upd_other _ _ _ _ (by omega)]
theorem mv_bd (x : Nat) (h : x < 65536) (b : Bool) : mv x b < 65536 := by unfold mv; cases b <;> simp <;> omega
theorem nS_bd (m c x : Nat) (t h : Bool) (hx : x < 65536) : nS m c x t h < 65536 := by
  unfold nS; split
  · exact mv_bd _ hx _
  · exact hx
theorem nC_bd (r c : Nat) (hr : r < 4) (hc : c ≤ 64) : nC r c ≤ 64 := by
  unfold nC; split
  · exact hc
  · split
    · rcases (by omega : r = 0 ∨ r = 1 ∨ r = 2 ∨ r = 3) with rfl | rfl | rfl | rfl <;> simp at * 
    · omega
theorem stC_bd (p c : Int) (hp : -9223372036854775808 ≤ p ∧ p ≤ 9223372036854775807) (hc : -9223372036854775808 ≤ c ∧ c ≤ 9223372036854775807) : -9223372036854775808 ≤ stC p c ∧ stC p c ≤ 9223372036854775807 := by
  unfold stC; split
  · omega
  · split <;> omega
theorem rx_st {f : Nat → Int} (h : RX f) : RX (stF f) := by
  obtain ⟨⟨h9, h12, hu, hi⟩, ⟨a0, a1⟩, b1⟩ := h
  have c10 : 0 ≤ stF f 10 ∧ stF f 10 ≤ 64 := by
    rw [st_10]
    have := nC_bd ((f 9).toNat % 4) (f 10).toNat (Nat.mod_lt _ (by omega)) (by omega)
    omega
  refine ⟨⟨by rw [st_9]; exact h9, ?_, fun j ha hb => ?_, fun j ha => ?_⟩, c10, by rw [st_9]; exact b1⟩
  · rw [st_12]
    have := nS_bd (f 9).toNat (f 10).toNat (f 12).toNat (stT (f 6) (f 7)) (f 11 == 1) (by omega)
    omega
  · rw [st_hi f j ha]; exact hu j ha hb
  · rcases ha with rfl | rfl | rfl | rfl | rfl | rfl | rfl
    · exact hi 0 (by omega)
    · exact (st_c f 0 (by omega)) ▸ stC_bd _ _ (hi 0 (by omega)) (hi 1 (by omega))
    · exact hi 3 (by omega)
    · exact (st_c f 1 (by omega)) ▸ stC_bd _ _ (hi 3 (by omega)) (hi 4 (by omega))
    · exact hi 6 (by omega)
    · exact (st_c f 2 (by omega)) ▸ stC_bd _ _ (hi 6 (by omega)) (hi 7 (by omega))
    · omega
def itS (f : Nat → Int) (n : Nat) : Nat → Int := Nat.rec f (fun _ g => stF g) n
theorem rx_it {f : Nat → Int} (h : RX f) (n : Nat) : RX (itS f n) := by
  induction n with
  | zero => exact h
  | succ n ih => exact rx_st ih
theorem itS_add (f : Nat → Int) (m n : Nat) : itS (itS f m) n = itS f (m + n) := by
  induction n with
  | zero => rfl
  | succ n ih => show stF (itS (itS f m) n) = stF (itS f (m + n)); rw [ih]
/-- Is a sample taken behind this step? -/
def told (e ph : Int) (k : Nat) : Bool := ((k : Int) % e + ph % e) % e == 0
def smp (f : Nat → Int) (e ph : Int) (n : Nat) : List Int := Nat.rec [] (fun k l => if told e ph (k + 1) then l ++ [pS (itS f (k + 1)) 4] else l) n
theorem smp_len (f : Nat → Int) (e ph : Int) (n : Nat) : (smp f e ph n).length ≤ n := by
  induction n with
  | zero => exact Nat.le_refl 0
  | succ n ih =>
    show (if told e ph (n + 1) then smp f e ph n ++ [pS (itS f (n + 1)) 4] else smp f e ph n).length ≤ n + 1
    split
    · rw [List.length_append]; simp; exact ih
    · omega
theorem told_add (e ph : Int) (m k : Nat) (he : 0 < e) (hp : 0 ≤ ph) : told e ((ph + m) % e) k = told e ph (m + k) := by
  unfold told
  rw [show (((k : Int) % e + (ph + m) % e % e) % e) = ((((m + k : Nat) : Int) % e + ph % e) % e) from ?_]
  rw [Int.emod_emod_of_dvd _ (Int.dvd_refl e), ← Int.add_emod, ← Int.add_emod]
  congr 1
  omega
/-- Steps in two parts: the samples. -/
theorem smp_add (f : Nat → Int) (e ph : Int) (m n : Nat) (he : 0 < e) (hp : 0 ≤ ph) : smp f e ph m ++ smp (itS f m) e ((ph + m) % e) n = smp f e ph (m + n) := by
  induction n with
  | zero => show smp f e ph m ++ [] = smp f e ph m; rw [List.append_nil]
  | succ n ih =>
    show smp f e ph m ++ (if told e ((ph + m) % e) (n + 1) then smp (itS f m) e ((ph + m) % e) n ++ [pS (itS (itS f m) (n + 1)) 4] else smp (itS f m) e ((ph + m) % e) n) = (if told e ph (m + n + 1) then smp f e ph (m + n) ++ [pS (itS f (m + n + 1)) 4] else smp f e ph (m + n))
    rw [told_add e ph m (n + 1) he hp, itS_add, show m + (n + 1) = m + n + 1 by omega]
    split
    · rw [← List.append_assoc, ih]
    · exact ih
theorem results_cell_tmp {P : Program} {fn : Func} {p q : Tmp} {ty : TypeId} (h : fn.results = #[.cell p ty, .tmp q]) (tmps : Array Value) (w : World) (g : Nat) (t : TypeId) (cs : Array Value) (fr : Nat × Nat) (d : TypeDesc)
    (hp : tmps.getD p undef = .pointer (some ⟨g, 0, none⟩)) (hg : w.heap[g]? = some (.cells cs t fr))
    (hu : P.underlying ty = some d) (hd : (match d with | .struct _ | .array _ _ => true | _ => false) = true) (hi : (P.info? ty).map (·.size) = some cs.size) :
    (results fn tmps).run P w = .ok (.tuple #[.agg cs, tmps.getD q undef]) w := by
  have hp' : tmps[p]?.getD undef = .pointer (some ⟨g, 0, none⟩) := by simpa using hp
  simp [results, h, hp', asAddr, run_loadVar_row w g t ty cs fr d hg hu hd hi]
theorem row_below {w w' : World} {base n : Nat} {e : TypeId} {v : Value} {xs : List Value} (h : w.ownsRow base e 1 v n xs) (hb : Below w.heap.size w w') : w'.ownsRow base e 1 v n xs := by
  rcases h with ⟨h1, h2 | ⟨g, cap, cur, hv, hg, hh, r⟩⟩
  · exact ⟨h1, .inl h2⟩
  · exact ⟨h1, .inr ⟨g, cap, cur, hv, hg, (hb.block _ (heap_lt hh)).trans hh, r⟩⟩
theorem row_put {w : World} {base n b : Nat} {e : TypeId} {v : Value} {xs : List Value} (h : w.ownsRow base e 1 v n xs) (hb : b < base) (A : Array Value) : (blkPut w b A).ownsRow base e 1 v n xs := by
  rcases h with ⟨h1, h2 | ⟨g, cap, cur, hv, hg, hh, r⟩⟩
  · exact ⟨h1, .inl h2⟩
  · exact ⟨h1, .inr ⟨g, cap, cur, hv, hg, (heap_blkPut_other _ _ _ _ (by omega)).trans hh, r⟩⟩
theorem row_drew {w : World} {base n : Nat} {e : TypeId} {v : Value} {xs : List Value} (h : w.ownsRow base e 1 v n xs) : w.drew.ownsRow base e 1 v n xs := h
theorem infoI : (Try.prog.info? 3).map (fun i => (i.zero, i.size, i.bytes)) = some (some (.int .i64 0), 1, 8) := by kernel_rfl
end Psg
end Go.Proofs.Ytjggocbihjdekaa
