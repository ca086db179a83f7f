/- What steps over many bytes say (layer 9): what the program's functions and the reference's answer. No conditions but that numbers are of their kinds. -/
import Derived.Test.YtjbdefidkgfijaaSums
namespace Go.Proofs.Ytjbdefidkgfijaa
open Go.RowKit
open Kit R06 Pop
set_option linter.unusedSimpArgs false
set_option linter.unusedVariables false
namespace Repeat
theorem ret_ib {k : IntKind} {a b : Int} {c d : Bool} (h : a = b) (g : c = d) : Ending.returned (.tuple #[.int k a, .bool c]) = .returned (.tuple #[.int k b, .bool d]) := by rw [h, g]
def loadF (a v g l : Int) : Int := (flagsOf (bi g 128) (bi g 64) (bi ((a + v) % 256) 2) false (bi ((a + v) % 256) 8) (l != 0) false (bi g 1) : Nat)
def seekM (a v : Int) : Int := ((a - v) % 256 - c01 (decide (a % 16 - v % 16 < 0))) % 256
def seekF (a v g l : Int) : Int := (flagsOf (bi ((a - v) % 256) 128) ((a - v) % 256 == 0) (bi (seekM a v) 2) (decide (a % 16 - v % 16 < 0)) (bi (seekM a v) 8) (l != 0) true (bi g 1) : Nat)
def portF (v x b : Int) : Int := (flagsOf (bi b 128) (b == 0) (bi b 32) (decide (255 < v + x)) (bi b 8) (par (Go.bits .xor .u8 ((v + x) % 8) b)) (bi v 128) (decide (255 < v + x)) : Nat)
theorem oddN : ∀ n, n < 256 → (n * 16 % 256 &&& 32 ||| n &&& 8) = fl (bt n 2) 32 + fl (bt n 8) 8 := byte_all _ _ (by decide +kernel)
theorem m193 : ∀ v, v < 256 → v &&& 193 = fl (bt v 128) 128 + (fl (bt v 64) 64 + fl (bt v 1) 1) := byte_all _ _ (by decide +kernel)
def oddI (n : Int) : Int := (fl (bi n 2) 32 + fl (bi n 8) 8 : Nat)
theorem odd_any (n : Int) (hn0 : 0 ≤ n) (hn1 : n < 256) (w : World) : Calls Try.prog 17 #[.int .u8 n] w fun e w' => e = .returned (.int .u8 (oddI n)) ∧ w = w' := by
  obtain ⟨n, rfl⟩ := Int.eq_ofNat_of_zero_le hn0
  have hn : n < 256 := by omega
  clear hn0 hn1
  go_enter Try.func17, Try.ntmps17
  go_wp2
  go_ret
  refine ⟨ret_int ?_, rfl⟩
  simp only [Kit.and8l, Kit.or8l, Kit.xor8l, Kit.andn8l, Kit.and16l, Kit.or16l, Kit.divl, Kit.modl, Kit.addn, Kit.muln, Kit.addl, Kit.mull, Kit.lmul, Kit.ladd, Kit.and8, Kit.or8, Kit.xor8, Kit.andn8, Kit.and16, Kit.or16, Kit.xor16, Kit.wrap16, Kit.wrap8, Kit.land8, Kit.lor8, Kit.lxor8, Kit.landn8, Kit.land16, Kit.lor16, Kit.lxor16]
  unfold oddI
  simp only [bi_cast]
  rw [← oddN n hn, Nat.mod_mod, Nat.mod_eq_of_lt hn]
def moreI (l : Int) : Int := cond (l != 0) 4 0
theorem more_any (l : Int) (w : World) : Calls Try.prog 16 #[.int .u16 l] w fun e w' => e = .returned (.int .u8 (moreI l)) ∧ w = w' := by
  go_enter Try.func16, Try.ntmps16
  go_wp2
  all_goals
    rename_i h
    go_ret
    refine ⟨ret_int ?_, rfl⟩
    unfold moreI
    simp only [bne, h]
    rfl
theorem b128 : ∀ s z y h x p n c : Bool, bt (flagsOf s z y h x p n c) 128 = s := by decide
theorem b64 : ∀ s z y h x p n c : Bool, bt (flagsOf s z y h x p n c) 64 = z := by decide
theorem b16 : ∀ s z y h x p n c : Bool, bt (flagsOf s z y h x p n c) 16 = h := by decide
theorem bi_1 (b : Int) (h0 : 0 ≤ b) : (b % 2 == 1) = bi b 1 := by
  obtain ⟨b, rfl⟩ := Int.eq_ofNat_of_zero_le h0
  rw [bi_cast, bt_1]
theorem bi_k (b : Int) (k : Nat) (h0 : 0 ≤ b) : (b / (k : Int) % 2 == 1) = bi b k := by
  obtain ⟨b, rfl⟩ := Int.eq_ofNat_of_zero_le h0
  rw [bi_cast, bt_int]
theorem join_load : ∀ gs gz gc m y x : Bool, Go.bits .or .u8 (Go.bits .or .u8 ((fl gs 128 + (fl gz 64 + fl gc 1) : Nat) : Int) (cond m 4 0)) ((fl y 32 + fl x 8 : Nat) : Int) = (flagsOf gs gz y false x m false gc : Nat) := by decide +kernel
theorem load_leaf (a v g l : Int) (hg0 : 0 ≤ g) (hg1 : g < 256) : Go.bits .or .u8 (Go.bits .or .u8 (Go.bits .and .u8 g 193) (moreI l)) (oddI ((a + v) % 256)) = loadF a v g l := by
  obtain ⟨g, rfl⟩ := Int.eq_ofNat_of_zero_le hg0
  have hg : g < 256 := by omega
  rw [show Go.bits .and .u8 (g : Int) 193 = ((fl (bt g 128) 128 + (fl (bt g 64) 64 + fl (bt g 1) 1) : Nat) : Int) from by simp only [Kit.and8l, Kit.or8l, Kit.xor8l, Kit.andn8l, Kit.and16l, Kit.or16l, Kit.divl, Kit.modl, Kit.addn, Kit.muln, Kit.addl, Kit.mull, Kit.lmul, Kit.ladd, Kit.and8, Kit.or8, Kit.xor8, Kit.andn8, Kit.and16, Kit.or16, Kit.xor16, Kit.wrap16, Kit.wrap8, Kit.land8, Kit.lor8, Kit.lxor8, Kit.landn8, Kit.land16, Kit.lor16, Kit.lxor16]; rw [Nat.mod_eq_of_lt hg, show (193 % 256) = 193 from rfl, m193 g hg]]
  unfold moreI oddI loadF
  rw [join_load]
  rfl
theorem and194 : ∀ s z y h x p c : Bool, Go.bits .and .u8 ((flagsOf s z y h x p true c : Nat) : Int) 194 = ((fl s 128 + (fl z 64 + 2) : Nat) : Int) := by decide +kernel
theorem and16 : ∀ s z y h x p n c : Bool, Go.bits .and .u8 ((flagsOf s z y h x p n c : Nat) : Int) 16 = cond h 16 0 := by decide +kernel
theorem and64 : ∀ s z y h x p n c : Bool, Go.bits .and .u8 ((flagsOf s z y h x p n c : Nat) : Int) 64 = cond z 64 0 := by decide +kernel
theorem join_seek : ∀ s z h c m y x : Bool, Go.bits .or .u8 (Go.bits .or .u8 (Go.bits .or .u8 (Go.bits .or .u8 ((fl s 128 + (fl z 64 + 2) : Nat) : Int) (cond h 16 0)) (cond c 1 0)) (cond m 4 0)) ((fl y 32 + fl x 8 : Nat) : Int) = (flagsOf s z y h x m true c : Nat) := by decide +kernel
theorem seek_leaf (a v g l hv gv mv n : Int) (h16 : hv = cond (decide (a % 16 - v % 16 < 0)) 16 0) (hg : gv = cond (bi g 1) 1 0) (hm : mv = cond (l != 0) 4 0) (hn : n = seekM a v) :
    Go.bits .or .u8 (Go.bits .or .u8 (Go.bits .or .u8 (Go.bits .or .u8 (Go.bits .and .u8 (sub8F a v (c01 false)) 194) hv) gv) mv) (oddI n) = seekF a v g l := by
  subst h16 hg hm hn
  unfold sub8F seekF oddI
  rw [and194, join_seek]
  simp only [show c01 false = 0 from rfl, Int.sub_zero]
theorem zero_same (a v : Int) (ha0 : 0 ≤ a) (ha1 : a < 256) (hv0 : 0 ≤ v) (hv1 : v < 256) : ((a - v) % 256 == 0) = (a == v) := by rw [Bool.eq_iff_iff, beq_iff_eq, beq_iff_eq]; omega
theorem sub16 (a v : Int) : Go.bits .and .u8 (sub8F a v (c01 false)) 16 = cond (decide (a % 16 - v % 16 < 0)) 16 0 := by
  unfold sub8F; rw [and16]; simp only [show c01 false = 0 from rfl, Int.sub_zero]
theorem sub64 (a v : Int) (ha0 : 0 ≤ a) (ha1 : a < 256) (hv0 : 0 ≤ v) (hv1 : v < 256) : Go.bits .and .u8 (sub8F a v (c01 false)) 64 = cond (a == v) 64 0 := by
  unfold sub8F; rw [and64]; simp only [show c01 false = 0 from rfl, Int.sub_zero, zero_same a v ha0 ha1 hv0 hv1]
theorem g_1 (g : Int) (h0 : 0 ≤ g) (h1 : g < 256) : Go.bits .and .u8 g 1 = cond (bi g 1) 1 0 := by
  obtain ⟨g, rfl⟩ := Int.eq_ofNat_of_zero_le h0
  rw [bi_cast]
  exact Sums.bitv1 g (by omega) _ rfl
theorem load_any (a v g l : Int) (ha0 : 0 ≤ a) (ha1 : a < 256) (hv0 : 0 ≤ v) (hv1 : v < 256) (hg0 : 0 ≤ g) (hg1 : g < 256) (w : World) : Calls Try.prog 10 #[.int .u8 a, .int .u8 v, .int .u8 g, .int .u16 l] w fun e w' => e = .returned (.int .u8 (loadF a v g l)) ∧ w = w' := by
  go_enter Try.func10, Try.ntmps10
  go_wp2_with (first | (go_at_call 17; with_reducible refine (odd_any _ (Int.emod_nonneg _ (by decide)) (Int.emod_lt_of_pos _ (by decide)) _).mono ?_; rintro e w' ⟨rfl, rfl⟩) | (go_at_call 16; with_reducible refine (more_any _ _).mono ?_; rintro e w' ⟨rfl, rfl⟩))
  go_ret
  exact ⟨ret_int (load_leaf a v g l hg0 hg1), rfl⟩
set_option maxHeartbeats 2000000 in
theorem seek_any (a v g l : Int) (ha0 : 0 ≤ a) (ha1 : a < 256) (hv0 : 0 ≤ v) (hv1 : v < 256) (hg0 : 0 ≤ g) (hg1 : g < 256) (w : World) : Calls Try.prog 12 #[.int .u8 a, .int .u8 v, .int .u8 g, .int .u16 l] w fun e w' => e = .returned (.tuple #[.int .u8 (seekF a v g l), .bool (l != 0 && a != v)]) ∧ w = w' := by
  have e16 := sub16 a v
  have e64 := sub64 a v ha0 ha1 hv0 hv1
  have G := Lib.hid (g_1 g hg0 hg1)
  cases hh : decide (a % 16 - v % 16 < 0)
  all_goals
    cases hz : (a == v)
    all_goals
      by_cases hl : l = 0
      all_goals
        have HH := Lib.hid hh
        rw [hh] at e16
        rw [hz] at e64
        simp only [cond_true, cond_false] at e16 e64
        have hz' : (a != v) = !(a == v) := rfl
        rw [hz] at hz'
        have HZ := Lib.hid hz'
        have hl' : (l == 0) = decide (l = 0) := rfl
        first
        | (rw [decide_eq_true hl] at hl'; subst hl)
        | rw [decide_eq_false hl] at hl'
        have HL := Lib.hid hl'
        clear hh hz hz'
        go_enter Try.func12, Try.ntmps12
        go_wp2_with (first | (go_at_call 20; with_reducible refine (Sums.sub_any _ _ _ (by omega) (by omega) (by omega) (by omega) _).mono ?_; rintro e w' ⟨rfl, rfl⟩) | (go_at_call 17; with_reducible refine (odd_any _ (Int.emod_nonneg _ (by decide)) (Int.emod_lt_of_pos _ (by decide)) _).mono ?_; rintro e w' ⟨rfl, rfl⟩) | (go_at_call 16; with_reducible refine (more_any _ _).mono ?_; rintro e w' ⟨rfl, rfl⟩))
        all_goals
          go_ret2
          refine ⟨ret_ib (seek_leaf a v g _ _ _ _ _ (by rw [HH.out]; rfl) G.out rfl (by unfold seekM; rw [HH.out]; simp only [c01, cond_true, cond_false]; omega)) ?_, rfl⟩
          rw [HZ.out]
          first | rfl | (simp; done) | (simp [bne, HL.out]; done)
theorem bit_127 (v : Int) (h0 : 0 ≤ v) (h1 : v < 256) : bi v 128 = decide (128 ≤ v) := by
  rw [← bi_k v 128 h0, Bool.eq_iff_iff, beq_iff_eq, decide_eq_true_eq]; omega
theorem join_port1 : ∀ s z y x n : Bool, Go.bits .or .u8 (Go.bits .or .u8 (Go.bits .or .u8 ((flagsOf s z y false x false false false : Nat) : Int) (cond n 2 0)) 17) 4 = (flagsOf s z y true x true n true : Nat) := by decide +kernel
theorem join_port2 : ∀ s z y x n : Bool, Go.bits .or .u8 (Go.bits .or .u8 ((flagsOf s z y false x false false false : Nat) : Int) (cond n 2 0)) 17 = (flagsOf s z y true x false n true : Nat) := by decide +kernel
theorem join_port3 : ∀ s z y x n : Bool, Go.bits .or .u8 (Go.bits .or .u8 ((flagsOf s z y false x false false false : Nat) : Int) (cond n 2 0)) 4 = (flagsOf s z y false x true n false : Nat) := by decide +kernel
theorem join_port4 : ∀ s z y x n : Bool, Go.bits .or .u8 ((flagsOf s z y false x false false false : Nat) : Int) (cond n 2 0) = (flagsOf s z y false x false n false : Nat) := by decide +kernel
theorem top2 (v : Int) (h0 : 0 ≤ v) (h1 : v < 256) : v / 128 * 2 = cond (bi v 128) 2 0 := by
  rw [bit_127 v h0 h1]
  by_cases h : 128 ≤ v
  · rw [decide_eq_true h, cond_true]; omega
  · rw [decide_eq_false h, cond_false]; omega
set_option maxHeartbeats 1000000 in
theorem port_any (v x b : Int) (hv0 : 0 ≤ v) (hv1 : v < 256) (hx0 : 0 ≤ x) (hx1 : x < 256) (hb0 : 0 ≤ b) (hb1 : b < 256) (w : World) : Calls Try.prog 14 #[.int .u8 v, .int .u8 x, .int .u8 b] w fun e w' => e = .returned (.int .u8 (portF v x b)) ∧ w = w' := by
  have e := top2 v hv0 hv1
  have E := Lib.hid e
  clear e
  obtain ⟨p, hp⟩ : ∃ p, p = par (Go.bits .xor .u8 ((v + x) % 8) b) := ⟨_, rfl⟩
  have HP := Lib.hid hp
  clear hp
  by_cases hc : 255 < v + x
  · have HC := Lib.hid hc
    cases p
    · go_enter Try.func14, Try.ntmps14
      go_wp2_with (first | (go_at_call 22; with_reducible refine (Sums.shape_any _ (by omega) (by omega) _).mono ?_; rintro e w' ⟨rfl, rfl⟩) | (go_at_call 23; with_reducible refine (parity_any _ (Sums.and_bd _ _ _).1 (Sums.and_bd _ _ _).2 _).mono ?_; rw [← HP.out]; rintro e w' ⟨rfl, rfl⟩))
      go_ret
      refine ⟨ret_int ?_, rfl⟩
      unfold Sums.shF portF
      rw [E.out, ← HP.out, decide_eq_true HC.out]
      exact join_port2 ..
    · go_enter Try.func14, Try.ntmps14
      go_wp2_with (first | (go_at_call 22; with_reducible refine (Sums.shape_any _ (by omega) (by omega) _).mono ?_; rintro e w' ⟨rfl, rfl⟩) | (go_at_call 23; with_reducible refine (parity_any _ (Sums.and_bd _ _ _).1 (Sums.and_bd _ _ _).2 _).mono ?_; rw [← HP.out]; rintro e w' ⟨rfl, rfl⟩))
      go_ret
      refine ⟨ret_int ?_, rfl⟩
      unfold Sums.shF portF
      rw [E.out, ← HP.out, decide_eq_true HC.out]
      exact join_port1 ..
  · have HC := Lib.hid hc
    cases p
    · go_enter Try.func14, Try.ntmps14
      go_wp2_with (first | (go_at_call 22; with_reducible refine (Sums.shape_any _ (by omega) (by omega) _).mono ?_; rintro e w' ⟨rfl, rfl⟩) | (go_at_call 23; with_reducible refine (parity_any _ (Sums.and_bd _ _ _).1 (Sums.and_bd _ _ _).2 _).mono ?_; rw [← HP.out]; rintro e w' ⟨rfl, rfl⟩))
      go_ret
      refine ⟨ret_int ?_, rfl⟩
      unfold Sums.shF portF
      rw [E.out, ← HP.out, decide_eq_false (Int.not_lt.2 HC.out)]
      exact join_port4 ..
    · go_enter Try.func14, Try.ntmps14
      go_wp2_with (first | (go_at_call 22; with_reducible refine (Sums.shape_any _ (by omega) (by omega) _).mono ?_; rintro e w' ⟨rfl, rfl⟩) | (go_at_call 23; with_reducible refine (parity_any _ (Sums.and_bd _ _ _).1 (Sums.and_bd _ _ _).2 _).mono ?_; rw [← HP.out]; rintro e w' ⟨rfl, rfl⟩))
      go_ret
      refine ⟨ret_int ?_, rfl⟩
      unfold Sums.shF portF
      rw [E.out, ← HP.out, decide_eq_false (Int.not_lt.2 HC.out)]
      exact join_port3 ..
end Repeat
end Go.Proofs.Ytjbdefidkgfijaa
