/- The walk of the statement on a byte that is sought in many (layer 9): it returns true for every input. No conditions but that numbers are of their kinds and the slice is one. -/
import Derived.Test.YtjbdefidkgfijaaRepeatL
import Derived.Test.YtjbdefidkgfijaaKit2
import Derived.LoopTactic
namespace Go.Proofs.Ytjbdefidkgfijaa
open Go.RowKit
open Kit R06 Pop Repeat
set_option linter.unusedSimpArgs false
set_option linter.unusedVariables false
def SRel (a : Int) (zs : List Int) (at_ f on : Value) : Prop :=
  ∃ (k : Nat) (F : Int) (o : Bool), k ≤ zs.length ∧ at_ = .int .i64 k ∧ f = .int .u8 F ∧ on = .bool o ∧ 0 ≤ F ∧ F < 256 ∧ (∀ j, j + 1 < k → zs.getD j 0 ≠ a) ∧ (k = 0 → o = true) ∧
    (0 < k → o = (decide (k < zs.length) && decide (zs.getD (k - 1) 0 ≠ a)) ∧ (Go.bits .and .u8 F 64 != 0) = decide (zs.getD (k - 1) 0 = a) ∧ (Go.bits .and .u8 F 4 != 0) = decide (k < zs.length))
def FRel (a : Int) (zs : List Int) (first i : Value) : Prop :=
  ∃ (m : Nat) (q : Int), m ≤ zs.length ∧ i = .int .i64 ((m : Int) - 1) ∧ first = .int .i64 q ∧ -1 ≤ q ∧ q < zs.length ∧
    ((q = -1 ∧ ∀ j, m ≤ j → j < zs.length → zs.getD j 0 ≠ a) ∨ (∃ n : Nat, q = n ∧ m ≤ n ∧ n < zs.length ∧ zs.getD n 0 = a ∧ ∀ j, m ≤ j → j < n → zs.getD j 0 ≠ a))
theorem seekF_bd (a v g l : Int) : 0 ≤ seekF a v g l ∧ seekF a v g l < 256 := by
  unfold seekF
  have := flagsOf_lt (bi ((a - v) % 256) 128) ((a - v) % 256 == 0) (bi (seekM a v) 2) (decide (a % 16 - v % 16 < 0)) (bi (seekM a v) 8) (l != 0) true (bi g 1)
  omega
set_option maxRecDepth 100000 in
set_option maxHeartbeats 4000000 in
theorem repeatSeeksAll_walk (v : Value) (zs : List Int) (a : Int) (w1 : (Lit.int .u8 a).wf = true) (w : World) (hs : IntsOf w v .u8 zs) :
    Calls Try.prog 5 #[v, .int .u8 a] w fun e w' => e = .returned (.bool true) ∧ Below w.heap.size w w' := by
  obtain ⟨a0, a1⟩ := u8_bd w1
  obtain ⟨p, cap, rfl, hl, hcap, hcell, hwf⟩ := hs
  clear w1
  unfold maxLen at hcap
  have HC := Lib.hid hcell
  have HW := Lib.hid hwf
  clear hcell hwf
  have get : ∀ j, j < zs.length → 0 ≤ zs.getD j 0 ∧ zs.getD j 0 < 256 := fun j hj => u8_bd (HW.out _ (by rw [List.getD_eq_getElem?_getD, List.getElem?_eq_getElem hj]; exact List.getElem_mem hj))
  have GET := Lib.hid get
  clear get
  by_cases h1 : zs.length < 1
  · have d1 : decide ((zs.length : Int) < 1) = true := by simp; omega
    go_enter Try.func5, Try.ntmps5
    go_wp2_with (go_at_call 9; with_reducible refine (alive_any _).mono ?_; rintro e w' ⟨rfl, rfl⟩)
    go_ret
    exact ⟨ret_bool (by simp), Below.refl _ _⟩
  · by_cases h2 : 300 < zs.length
    · have d1 : decide ((zs.length : Int) < 1) = false := by simp; omega
      have d2 : decide ((300 : Int) < (zs.length : Int)) = true := by simp; omega
      go_enter Try.func5, Try.ntmps5
      go_wp2_with (go_at_call 9; with_reducible refine (alive_any _).mono ?_; rintro e w' ⟨rfl, rfl⟩)
      go_ret
      exact ⟨ret_bool (by simp), Below.refl _ _⟩
    · have d1 : decide ((zs.length : Int) < 1) = false := by simp; omega
      have d2 : decide ((300 : Int) < (zs.length : Int)) = false := by simp; omega
      obtain ⟨b, o, rfl, hbl, hcell⟩ := HC.out (by omega)
      have CELL := Lib.hid hcell
      clear hcell HC
      go_enter Try.func5, Try.ntmps5
      go_wp2_with (go_at_call 9; with_reducible refine (alive_any _).mono ?_; rintro e w' ⟨rfl, rfl⟩)
      clear d1 d2
      go_loop [5, 6, 7] (fun at_ f on => SRel a zs at_ f on) (fun at_ _ _ => (zs.length - intOf at_).toNat)
      case atStart => exact ⟨0, 0, true, by omega, rfl, rfl, rfl, by decide, by decide, fun j hj => absurd hj (by omega), fun _ => rfl, fun h => absurd h (by omega)⟩
      case round =>
        obtain ⟨k, F, on, hk, rfl, rfl, rfl, F0, F1, hne, hz, hp⟩ := hrel
        cases on
        · have hk0 : 0 < k := by
            by_cases e : k = 0
            · exact absurd (hz e) (by decide)
            · omega
          obtain ⟨p1, p2, p3⟩ := hp hk0
          have hcase : zs.getD (k - 1) 0 = a ∨ zs.getD (k - 1) 0 ≠ a ∧ k = zs.length := by
            by_cases e : zs.getD (k - 1) 0 = a
            · exact Or.inl e
            · right
              refine ⟨e, ?_⟩
              by_cases e2 : k < zs.length
              · rw [decide_eq_true e2, decide_eq_true e] at p1; exact absurd p1 (by decide)
              · omega
          have HNE := Lib.hid hne
          have P2 := Lib.hid p2
          have P3 := Lib.hid p3
          have HCASE := Lib.hid hcase
          clear hne p1 p2 p3 hcase hz hp
          have g2 : (zs.length : Int) ≤ 300 := by omega
          have g3 : (1 : Int) ≤ (zs.length : Int) := by omega
          go_wp2
          go_loop [8, 9] (fun first i => FRel a zs first i) (fun _ i => (intOf i + 1).toNat)
          case atStart => exact ⟨zs.length, -1, by omega, rfl, rfl, by omega, by omega, Or.inl ⟨rfl, fun j h1 h2 => absurd h1 (by omega)⟩⟩
          case round =>
            obtain ⟨m, q, hm, rfl, rfl, q0, q1, hq⟩ := hrel
            by_cases hm0 : m = 0
            · subst hm0
              have em : ((0 : Nat) : Int) - 1 = -1 := rfl
              rw [em]
              rcases HCASE.out with hc | ⟨hc, hkn⟩
              · have hqk : q = (k : Int) - 1 := by
                  rcases hq with ⟨h1, h2⟩ | ⟨n, h1, _, h3, h4, h5⟩
                  · exact absurd hc (h2 (k - 1) (by omega) (by omega))
                  · by_cases e1 : n < k - 1
                    · exact absurd h4 (HNE.out n (by omega))
                    · by_cases e2 : k - 1 < n
                      · exact absurd hc (h5 (k - 1) (by omega) e2)
                      · omega
                have t64 : (Go.bits .and .u8 F 64 != 0) = true := by rw [P2.out]; exact decide_eq_true hc
                have t4 := P3.out
                have g5 : (0 : Int) ≤ q := by omega
                have e5 : ((k : Int) == q + 1) = true := by rw [beq_iff_eq]; omega
                have HQK := Lib.hid hqk
                clear hq hc hqk em
                go_wp2
                all_goals
                  go_ret
                  exact ⟨ret_bool (by first | rfl | (simp; done) | (simp [*]; done)), Below.refl _ _⟩
              · have hq1 : q = -1 := by
                  rcases hq with ⟨h1, h2⟩ | ⟨n, h1, _, h3, h4, h5⟩
                  · exact h1
                  · by_cases e1 : n < k - 1
                    · exact absurd h4 (HNE.out n (by omega))
                    · rw [show n = k - 1 by omega] at h4
                      exact absurd h4 hc
                have t64 : (Go.bits .and .u8 F 64 != 0) = false := by rw [P2.out]; exact decide_eq_false hc
                have t4 : (Go.bits .and .u8 F 4 != 0) = false := by rw [P3.out]; simp; omega
                subst hq1
                subst hkn
                clear hq hc em
                go_wp2
                all_goals
                  go_ret
                  exact ⟨ret_bool (by first | rfl | (simp; done) | (simp [*]; done)), Below.refl _ _⟩
            · have hj : m - 1 < zs.length := by omega
              obtain ⟨v0, v1⟩ := GET.out (m - 1) hj
              have cz := CELL.out (m - 1) hj
              obtain ⟨v, hv⟩ : ∃ v, zs.getD (m - 1) 0 = v := ⟨_, rfl⟩
              rw [hv] at v0 v1 cz
              obtain ⟨t, ht⟩ : ∃ t : Nat, t = m - 1 := ⟨_, rfl⟩
              rw [← ht] at cz hv hj
              have e1 : (m : Int) - 1 = (t : Int) := by omega
              rw [e1]
              have e2 : (t : Int) - 1 = ((m - 1 : Nat) : Int) - 1 := by omega
              have HQ := Lib.hid hq
              have HT := Lib.hid ht
              have HV := Lib.hid hv
              have E2 := Lib.hid e2
              have i0 : (0 : Int) ≤ (t : Int) := by omega
              have i1 : (t : Int) < (zs.length : Int) := by omega
              clear hq ht hv e1 e2
              by_cases hva : v = a
              · have t1 : (v == a) = true := by simp [hva]
                have HVA := Lib.hid hva
                clear hva
                go_wp2
                go_round
                case rel => exact ⟨m - 1, t, by omega, by rw [E2.out], rfl, by omega, by omega, Or.inr ⟨t, rfl, by have := HT.out; omega, hj, by rw [HV.out, HVA.out], fun j h1 h2 => absurd h1 (by have := HT.out; omega)⟩⟩
                case measure => simp [intOf] <;> omega
              · have t1 : (v == a) = false := by simp [hva]
                have HVA := Lib.hid hva
                clear hva
                go_wp2
                go_round
                case rel =>
                  have ht := HT.out
                  have hnew : ∀ j, m - 1 ≤ j → ¬ m ≤ j → zs.getD j 0 ≠ a := by
                    intro j h1 h2
                    rw [show j = t by omega, HV.out]; exact HVA.out
                  refine ⟨m - 1, q, by omega, by rw [E2.out], rfl, q0, q1, ?_⟩
                  rcases HQ.out with ⟨h1, h2⟩ | ⟨n, h1, h2, h3, h4, h5⟩
                  · exact Or.inl ⟨h1, fun j g1 g2 => if h : m ≤ j then h2 j h g2 else hnew j g1 h⟩
                  · exact Or.inr ⟨n, h1, by omega, h3, h4, fun j g1 g2 => if h : m ≤ j then h5 j h g2 else hnew j g1 h⟩
                case measure => simp [intOf] <;> omega
        · have hkn : k < zs.length := by
            by_cases e : k = 0
            · omega
            · have := (hp (by omega)).1
              simp at this; omega
          have hne2 : ∀ j, j < k → zs.getD j 0 ≠ a := by
            intro j hj
            by_cases e : j + 1 < k
            · exact hne j e
            · have := (hp (by omega)).1
              rw [show j = k - 1 by omega]
              simp at this
              simpa using this.2
          obtain ⟨v0, v1⟩ := GET.out k hkn
          have cz := CELL.out k hkn
          obtain ⟨v, hv⟩ : ∃ v, zs.getD k 0 = v := ⟨_, rfl⟩
          rw [hv] at v0 v1 cz
          have t4 : (Go.bits .and .u8 (seekF a v F ((zs.length : Int) - k - 1)) 4 != 0) = decide (k + 1 < zs.length) := by
            have := f4 (bi ((a - v) % 256) 128) ((a - v) % 256 == 0) (bi (seekM a v) 2) (decide (a % 16 - v % 16 < 0)) (bi (seekM a v) 8) ((zs.length : Int) - k - 1 != 0) true (bi F 1)
            refine this.trans ?_
            rw [Bool.eq_iff_iff]; simp; omega
          have t64 : (Go.bits .and .u8 (seekF a v F ((zs.length : Int) - k - 1)) 64 != 0) = decide (v = a) := by
            have := f64 (bi ((a - v) % 256) 128) ((a - v) % 256 == 0) (bi (seekM a v) 2) (decide (a % 16 - v % 16 < 0)) (bi (seekM a v) 8) ((zs.length : Int) - k - 1 != 0) true (bi F 1)
            refine this.trans ?_
            rw [zero_same a v a0 a1 v0 v1, Bool.eq_iff_iff]; simp only [beq_iff_eq, decide_eq_true_eq]; omega
          have hsk := fun W => seek_any a v F ((zs.length : Int) - k - 1) a0 a1 v0 v1 F0 F1 W
          obtain ⟨f0, f1⟩ := seekF_bd a v F ((zs.length : Int) - k - 1)
          have ho : ((zs.length : Int) - k - 1 != 0 && a != v) = (decide (k + 1 < zs.length) && decide (v ≠ a)) := by
            rw [Bool.eq_iff_iff]; simp only [Bool.and_eq_true, bne_iff_ne, decide_eq_true_eq]; omega
          rw [ho] at hsk
          generalize seekF a v F ((zs.length : Int) - k - 1) = F' at *
          obtain ⟨on', hon⟩ : ∃ on', (decide (k + 1 < zs.length) && decide (v ≠ a)) = on' := ⟨_, rfl⟩
          rw [hon] at hsk
          have HSK := Lib.hid hsk
          have T4 := Lib.hid t4
          have T64 := Lib.hid t64
          have HON := Lib.hid hon
          have HNE := Lib.hid hne2
          have HV := Lib.hid hv
          have d3 : decide (zs.length ≤ k) = false := by simp; omega
          have g0 : (0 : Int) ≤ (k : Int) := by omega
          have g1 : (k : Int) < (zs.length : Int) := by omega
          have g2 : (zs.length : Int) ≤ 300 := by omega
          clear hsk t4 t64 hon hne2 hv hne hz hp ho
          go_wp2_with (go_at_call 12; refine (HSK.out _).mono ?_; rintro e w' ⟨rfl, rfl⟩)
          go_round
          case rel => exact ⟨k + 1, F', on', by omega, by go_num, rfl, rfl, f0, f1, fun j hj => HNE.out j (by omega), fun h => absurd h (by omega), fun _ => by rw [show k + 1 - 1 = k by omega, HV.out]; exact ⟨HON.out.symm, T64.out, T4.out⟩⟩
          case measure => simp [intOf] <;> omega
end Go.Proofs.Ytjbdefidkgfijaa
