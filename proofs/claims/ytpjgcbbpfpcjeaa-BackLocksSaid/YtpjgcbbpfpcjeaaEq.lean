/- Two values of one flat type (structs and arrays of bools and whole numbers) are equal, as Go has it, just where their cells are. No conditions. -/
import Derived.Test.YtpjgcbbpfpcjeaaKit
import Derived.DeepKeys
namespace Go.Proofs.Ytpjgcbbpfpcjeaa
namespace Kit
open Go.RowKit Go.ChangeShapes Go.WideShapes Go.ChangeAt
set_option linter.unusedVariables false
def litOf : Value → Lit
  | .bool b => .bool b
  | .int k n => .int k n
  | _ => .bool false
theorem litOf_inj : ∀ {a b : List Value} {ls : List (Option IntKind)}, leavesOk ls a → leavesOk ls b → (a.map litOf = b.map litOf ↔ a = b)
  | [], [], [], _, _ => by simp
  | x :: a, y :: b, k :: ls, h, g => by
    have ih := litOf_inj h.2 g.2
    simp only [List.map_cons, List.cons.injEq, ih]
    have : litOf x = litOf y ↔ x = y := by
      cases k with
      | none =>
        obtain ⟨p, rfl⟩ := h.1
        obtain ⟨q, rfl⟩ := g.1
        simp [litOf]
      | some k =>
        obtain ⟨p, rfl, _⟩ := h.1
        obtain ⟨q, rfl, _⟩ := g.1
        simp [litOf]
    rw [this]
  | [], y :: b, [], _, g => g.elim
  | x :: a, _, [], h, _ => h.elim
  | [], _, k :: ls, h, _ => h.elim
  | x :: a, [], k :: ls, _, g => g.elim
theorem leaves_take : ∀ (a b : List (Option IntKind)) (x : List Value), leavesOk (a ++ b) x → leavesOk a (x.take a.length) ∧ leavesOk b (x.drop a.length)
  | [], b, x, h => ⟨by simp [leavesOk], by simpa using h⟩
  | k :: a, b, [], h => h.elim
  | k :: a, b, v :: x, h => by
    obtain ⟨h1, h2⟩ := leaves_take a b x h.2
    exact ⟨⟨h.1, h1⟩, h2⟩
theorem chk_parts {cs : List Value} : ∀ (xs : List (Nat × List (Option IntKind))) (off : Nat) (l : List (Option IntKind)), chk off xs = some l → leavesOk l (cs.drop off) →
    (∀ x ∈ xs, leavesOk x.2 ((cs.drop x.1).take x.2.length)) ∧ (xs.map fun x => ((cs.drop x.1).take x.2.length).map litOf).flatten = (cs.drop off).map litOf
  | [], off, l, h, hl => by
    simp [chk] at h; subst h
    have : cs.drop off = [] := leaves_nil hl
    simp [this]
  | (o, m) :: r, off, l, h, hl => by
    unfold chk at h
    split at h
    · rename_i e
      subst e
      obtain ⟨k, hk, rfl⟩ := Option.map_eq_some_iff.1 h
      obtain ⟨h1, h2⟩ := leaves_take m k _ hl
      rw [List.drop_drop] at h2
      obtain ⟨h3, h4⟩ := chk_parts r _ k hk h2
      refine ⟨fun x hx => ?_, ?_⟩
      · rcases List.mem_cons.1 hx with rfl | hx
        · exact h1
        · exact h3 x hx
      · rw [List.map_cons, List.flatten_cons, h4, ← List.map_append, ← List.drop_drop, List.take_append_drop]
    · cases h
theorem rep_parts {l : List (Option IntKind)} : ∀ (m : Nat) (cs : List Value), leavesOk (List.replicate m l).flatten cs →
    (∀ i, i < m → leavesOk l ((cs.drop (i * l.length)).take l.length)) ∧ ((List.range m).map fun i => ((cs.drop (i * l.length)).take l.length).map litOf).flatten = cs.map litOf
  | 0, cs, h => by
    have : cs = [] := leaves_nil h
    subst this; simp
  | m + 1, cs, h => by
    rw [List.replicate_succ, List.flatten_cons] at h
    obtain ⟨h1, h2⟩ := leaves_take _ _ _ h
    obtain ⟨h3, h4⟩ := rep_parts m _ h2
    have e : ∀ i, cs.drop ((i + 1) * l.length) = (cs.drop l.length).drop (i * l.length) := fun i => by
      rw [List.drop_drop]; congr 1; rw [Nat.add_mul, Nat.one_mul, Nat.add_comm]
    refine ⟨fun i hi => ?_, ?_⟩
    · cases i with
      | zero => simpa using h1
      | succ i => rw [e]; exact h3 i (by omega)
    · rw [List.range_succ_eq_map, List.map_cons, List.map_map, List.flatten_cons]
      have : (List.map ((fun i => List.map litOf (List.take l.length (List.drop (i * l.length) cs))) ∘ Nat.succ) (List.range m)) = (List.range m).map fun i => (((cs.drop l.length).drop (i * l.length)).take l.length).map litOf :=
        List.map_congr_left fun i _ => by show List.map litOf (List.take l.length (List.drop ((i + 1) * l.length) cs)) = _; rw [e]
      rw [this, h4, Nat.zero_mul, List.drop_zero, ← List.map_append, List.take_append_drop]
theorem mapM_some {α β : Type} {f : α → Option β} {g : α → β} : ∀ {l : List α}, (∀ x ∈ l, f x = some (g x)) → l.mapM f = some (l.map g)
  | [], _ => by simp
  | x :: xs, h => by
    rw [List.mapM_cons, h x (by simp), mapM_some (fun y hy => h y (by simp [hy]))]
    rfl
section
variable {P : Program}
theorem flat_lits : ∀ (n : Nat) (t : TypeId) (ls : List (Option IntKind)) (m : Nat) (cs : List Value), flat P n t = some ls → P.keyTypeAt m t = true → leavesOk ls cs → P.keyLits n t cs = some (cs.map litOf)
  | 0, _, _, _, _, h, _, _ => by cases h
  | n + 1, t, ls, 0, cs, _, hk, _ => by simp [Program.keyTypeAt] at hk
  | n + 1, t, ls, m + 1, cs, h, hk, hl => by
    unfold flat at h
    unfold Program.keyTypeAt at hk
    unfold Program.keyLits
    split at h
    · rename_i hu
      injection h with h; subst h
      obtain ⟨v, r, rfl, ⟨b, rfl⟩, hr⟩ := leaves_cons hl
      obtain rfl := leaves_nil hr
      simp [hu, litOf]
    · rename_i k hu
      injection h with h; subst h
      obtain ⟨v, r, rfl, ⟨b, rfl, hw⟩, hr⟩ := leaves_cons hl
      obtain rfl := leaves_nil hr
      simp [hu, litOf, hw]
    · rename_i fs hu
      simp only [hu] at hk
      split at h
      · rename_i xs hxs
        split at h
        · rename_i l' hl'
          split at h
          · rename_i hsz
            injection h with h; subst h
            obtain ⟨hl1, hl2⟩ := mapM_get hxs
            obtain ⟨h3, h4⟩ := chk_parts (cs := cs) xs 0 l' hl' (by simpa using hl)
            have hlen : cs.length = P.cellsOf t := by rw [leaves_length hl, hsz]
            simp only [Bool.and_eq_true, Array.all_eq_true_iff_forall_mem] at hk
            have hnames : fs.all (·.name != "_") = true := by
              rw [Array.all_eq_true_iff_forall_mem]
              exact fun f hf => (hk.1.1 f hf).1
            have each : ∀ i (hi : i < fs.toList.length), ∃ l, xs[i]? = some ((fs.toList[i]).offset, l) ∧ flat P n (fs.toList[i]).type = some l ∧ l.length = P.cellsOf (fs.toList[i]).type := by
              intro i hi
              have hi' : i < xs.length := by rw [hl1]; exact hi
              have he := hl2 i (fs.toList[i]) (xs[i]) (List.getElem?_eq_getElem hi) (List.getElem?_eq_getElem hi')
              split at he
              · rename_i l1 hl1'
                split at he
                · rename_i hsz1
                  injection he with he
                  exact ⟨l1, by rw [List.getElem?_eq_getElem hi', ← he], hl1', hsz1⟩
                · cases he
              · cases he
            have hm : fs.toList.mapM (fun f => P.keyLits n f.type ((cs.drop f.offset).take (P.cellsOf f.type))) = some (fs.toList.map fun f => ((cs.drop f.offset).take (P.cellsOf f.type)).map litOf) := by
              refine mapM_some fun f hf => ?_
              obtain ⟨i, hi, rfl⟩ := List.getElem_of_mem hf
              obtain ⟨l, e1, e2, e3⟩ := each i hi
              have hx := h3 _ (List.mem_of_getElem? e1)
              simp only [e3] at hx
              exact flat_lits n _ l m _ e2 ((hk.1.1 _ (by simp)).2) hx
            have hfl : (fs.toList.map fun f => ((cs.drop f.offset).take (P.cellsOf f.type)).map litOf) = xs.map fun x => ((cs.drop x.1).take x.2.length).map litOf := by
              apply List.ext_getElem?
              intro i
              rw [List.getElem?_map, List.getElem?_map]
              by_cases hi : i < fs.toList.length
              · obtain ⟨l, e1, e2, e3⟩ := each i hi
                rw [e1, List.getElem?_eq_getElem hi]
                simp [e3]
              · rw [List.getElem?_eq_none (by omega), List.getElem?_eq_none (by rw [hl1]; omega)]
                rfl
            simp only [hu]
            rw [if_pos ⟨hlen, hnames⟩, hm, hfl]
            simp only [Option.map_some, h4, List.drop_zero]
          · cases h
        · cases h
      · cases h
    · rename_i q e hu
      simp only [hu] at hk
      split at h
      · rename_i l1 hl1
        split at h
        · rename_i hsz
          injection h with h; subst h
          obtain ⟨h3, h4⟩ := rep_parts q cs hl
          have hlen : cs.length = P.cellsOf t := by rw [leaves_length hl, ← hsz.2]; simp
          have hm : (List.range q).mapM (fun i => P.keyLits n e ((cs.drop (i * P.cellsOf e)).take (P.cellsOf e))) = some ((List.range q).map fun i => ((cs.drop (i * l1.length)).take l1.length).map litOf) := by
            refine mapM_some fun i hi => ?_
            rw [← hsz.1]
            exact flat_lits n e l1 m _ hl1 hk (h3 i (by simpa using hi))
          simp only [hu]
          rw [if_pos hlen, hm]
          simp only [Option.map_some, h4]
        · cases h
      · cases h
    · cases h
/-- Equal just where the cells are. -/
theorem eq_flat (n m : Nat) (t : TypeId) (ls : List (Option IntKind)) (hf : flat P n t = some ls) (hk : P.keyTypeAt m t = true) (hm : m ≤ 10000) (hs : isAgg P t = true) (A B : Array Value) (hA : leavesOk ls A.toList) (hB : leavesOk ls B.toList)
    (hc : P.cellsOf t = ls.length) (w : World) : ∃ r : Bool, (Op.equalIn 10000 t (.agg A) (.agg B)).run P w = .ok r w ∧ (r = true ↔ A = B) := by
  have fA : (Value.agg A).formed P t = true := by
    have : A.size = P.cellsOf t := by rw [hc, ← leaves_length hA]; simp
    unfold isAgg at hs
    unfold Value.formed
    split at hs <;> simp_all
  have fB : (Value.agg B).formed P t = true := by
    have : B.size = P.cellsOf t := by rw [hc, ← leaves_length hB]; simp
    unfold isAgg at hs
    unfold Value.formed
    split at hs <;> simp_all
  have h := Go.run_equalIn_deep (10000 - m) m t hk w n n (.agg A) (.agg B) _ _ fA fB (flat_lits n t ls m _ hf hk hA) (flat_lits n t ls m _ hf hk hB)
  rw [show 10000 - m + m = 10000 by omega] at h
  obtain ⟨r, h1, h2⟩ := h
  refine ⟨r, h1, h2.trans ?_⟩
  show List.map litOf A.toList = List.map litOf B.toList ↔ A = B
  rw [litOf_inj hA hB]
  exact ⟨fun e => by cases A; cases B; simp_all, fun e => by rw [e]⟩
theorem eq_self (n m : Nat) (t : TypeId) (ls : List (Option IntKind)) (hf : flat P n t = some ls) (hk : P.keyTypeAt m t = true) (hm : m ≤ 10000) (hs : isAgg P t = true) (A : Array Value) (hA : leavesOk ls A.toList)
    (hc : P.cellsOf t = ls.length) (w : World) : (Op.equalIn 10000 t (.agg A) (.agg A)).run P w = .ok true w := by
  obtain ⟨r, h1, h2⟩ := eq_flat n m t ls hf hk hm hs A A hA hA hc w
  rw [h2.2 rfl] at h1
  exact h1
end
end Kit
end Go.Proofs.Ytpjgcbbpfpcjeaa
