/- Bits that go round, are asked, and set (layer 8): what the program's functions answer. No conditions but that numbers are of their kinds. -/
import Derived.Test.YtlhbokennnjohaaSums
namespace Go.Proofs.Ytlhbokennnjohaa
open Go.RowKit
open Kit R06 Pop
set_option linter.unusedSimpArgs false
set_option linter.unusedVariables false
namespace Turns
/-- Bits, one place on, by an op; and what fell out. -/
def trV (k v c : Int) : Int :=
  if k = 0 then v * 2 % 256 + v / 128 else if k = 1 then v / 2 + 128 * (v % 2) else if k = 2 then v * 2 % 256 + c else if k = 3 then v / 2 + 128 * c
  else if k = 4 then v * 2 % 256 else if k = 5 then v / 2 + 128 * (v / 128) else if k = 6 then v * 2 % 256 + 1 else v / 2
def trO (k v : Int) : Int := if k = 0 ∨ k = 2 ∨ k = 4 ∨ k = 6 then v / 128 else v % 2
theorem rol : ∀ v, v < 256 → (v * 2 % 256 ||| v / 128) = v * 2 % 256 + v / 128 := byte_all _ _ (by decide +kernel)
theorem ror : ∀ v, v < 256 → (v * 128 % 256 ||| v / 2) = v / 2 + 128 * (v % 2) := byte_all _ _ (by decide +kernel)
theorem orc0 : ∀ v, v < 256 → (v * 2 % 256 ||| 0) = v * 2 % 256 + 0 := byte_all _ _ (by decide +kernel)
theorem orc1 : ∀ v, v < 256 → (v * 2 % 256 ||| 1) = v * 2 % 256 + 1 := byte_all _ _ (by decide +kernel)
theorem orh0 : ∀ v, v < 256 → (v / 2 ||| 0) = v / 2 + 128 * 0 := byte_all _ _ (by decide +kernel)
theorem orh1 : ∀ v, v < 256 → (v / 2 ||| 128) = v / 2 + 128 * 1 := byte_all _ _ (by decide +kernel)
theorem ors : ∀ v, v < 256 → (v / 2 ||| v / 128 * 128 % 256) = v / 2 + 128 * (v / 128) := byte_all _ _ (by decide +kernel)
theorem and1 (g : Int) (h0 : 0 ≤ g) (h1 : g < 256) : Go.bits .and .u8 g 1 = g % 2 := by
  obtain ⟨g, rfl⟩ := Int.eq_ofNat_of_zero_le h0
  simp only [Kit.and8l, Kit.or8l, Kit.xor8l, Kit.andn8l, Kit.and16l, Kit.or16l, Kit.divl, Kit.modl, Kit.addn, Kit.muln, Kit.addl, Kit.mull, Kit.lmul, Kit.ladd, Kit.and8, Kit.or8, Kit.xor8, Kit.andn8, Kit.and16, Kit.or16, Kit.xor16, Kit.wrap16, Kit.wrap8, Kit.land8, Kit.lor8, Kit.lxor8, Kit.landn8, Kit.land16, Kit.lor16, Kit.lxor16]
  rw [Nat.mod_eq_of_lt (show g < 256 by omega), m1' g (by omega)]
theorem rotl_1 (v : Int) (hv0 : 0 ≤ v) (hv1 : v < 256) (w : World) : Calls Try.prog 28 #[.int .u8 v, .int .i64 1] w fun e w' => e = .returned (.int .u8 (v * 2 % 256 + v / 128)) ∧ w = w' := by
  obtain ⟨v, rfl⟩ := Int.eq_ofNat_of_zero_le hv0
  have hv : v < 256 := by omega
  clear hv0 hv1
  have e1 : Go.bits .and .u64 1 7 = 1 := by decide +kernel
  go_enter Try.func28, Try.ntmps28
  go_wp2
  go_ret
  refine ⟨ret_int ?_, rfl⟩
  simp only [Kit.and8l, Kit.or8l, Kit.xor8l, Kit.andn8l, Kit.and16l, Kit.or16l, Kit.divl, Kit.modl, Kit.addn, Kit.muln, Kit.addl, Kit.mull, Kit.lmul, Kit.ladd, Kit.and8, Kit.or8, Kit.xor8, Kit.andn8, Kit.and16, Kit.or16, Kit.xor16, Kit.wrap16, Kit.wrap8, Kit.land8, Kit.lor8, Kit.lxor8, Kit.landn8, Kit.land16, Kit.lor16, Kit.lxor16]
  rw [Nat.mod_mod, show v / 128 % 256 = v / 128 from by omega, rol v hv]
theorem rotl_m (v : Int) (hv0 : 0 ≤ v) (hv1 : v < 256) (w : World) : Calls Try.prog 28 #[.int .u8 v, .int .i64 (-1)] w fun e w' => e = .returned (.int .u8 (v / 2 + 128 * (v % 2))) ∧ w = w' := by
  obtain ⟨v, rfl⟩ := Int.eq_ofNat_of_zero_le hv0
  have hv : v < 256 := by omega
  clear hv0 hv1
  have e7 : Go.bits .and .u64 (IntKind.u64.wrap (-1)) 7 = 7 := by decide +kernel
  go_enter Try.func28, Try.ntmps28
  go_wp2
  go_ret
  refine ⟨ret_int ?_, rfl⟩
  simp only [Kit.and8l, Kit.or8l, Kit.xor8l, Kit.andn8l, Kit.and16l, Kit.or16l, Kit.divl, Kit.modl, Kit.addn, Kit.muln, Kit.addl, Kit.mull, Kit.lmul, Kit.ladd, Kit.and8, Kit.or8, Kit.xor8, Kit.andn8, Kit.and16, Kit.or16, Kit.xor16, Kit.wrap16, Kit.wrap8, Kit.land8, Kit.lor8, Kit.lxor8, Kit.landn8, Kit.land16, Kit.lor16, Kit.lxor16]
  rw [Nat.mod_mod, show v / 2 % 256 = v / 2 from by omega, ror v hv]
set_option maxHeartbeats 1000000 in
theorem turn_any (o v g : Int) (hv0 : 0 ≤ v) (hv1 : v < 256) (hg0 : 0 ≤ g) (hg1 : g < 256) (w : World) : Calls Try.prog 22 #[.int .i64 o, .int .u8 v, .int .u8 g] w fun e w' => e = .returned (.tuple #[.int .u8 (trV (o % 8) v (g % 2)), .int .u8 (trO (o % 8) v)]) ∧ w = w' := by
  obtain ⟨k, hk⟩ : ∃ k, k = o % 8 := ⟨_, rfl⟩
  have hc : k = 0 ∨ k = 1 ∨ k = 2 ∨ k = 3 ∨ k = 4 ∨ k = 5 ∨ k = 6 ∨ k = 7 := by omega
  have hm := and64_7 o
  have h1 := and1 g hg0 hg1
  rw [← hk] at hm ⊢
  clear hk
  obtain ⟨v, rfl⟩ := Int.eq_ofNat_of_zero_le hv0
  have hv : v < 256 := by omega
  clear hv0 hv1
  have hv2 : v / 2 < 256 := by omega
  rcases (show g % 2 = 0 ∨ g % 2 = 1 by omega) with c | c
  all_goals
    rw [c] at h1 ⊢
    have HC := Lib.hid c
    clear c
    rcases hc with rfl | rfl | rfl | rfl | rfl | rfl | rfl | rfl
    all_goals
      go_enter Try.func22, Try.ntmps22
      go_wp2_with (first | (go_at_call 28; with_reducible refine (rotl_1 _ (by omega) (by omega) _).mono ?_; rintro e w' ⟨rfl, rfl⟩) | (go_at_call 28; with_reducible refine (rotl_m _ (by omega) (by omega) _).mono ?_; rintro e w' ⟨rfl, rfl⟩))
      go_ret2
      refine ⟨ret_int2 ?_ ?_, rfl⟩
      · (try simp only [Kit.and8l, Kit.or8l, Kit.xor8l, Kit.andn8l, Kit.and16l, Kit.or16l, Kit.divl, Kit.modl, Kit.addn, Kit.muln, Kit.addl, Kit.mull, Kit.lmul, Kit.ladd, Kit.and8, Kit.or8, Kit.xor8, Kit.andn8, Kit.and16, Kit.or16, Kit.xor16, Kit.wrap16, Kit.wrap8, Kit.land8, Kit.lor8, Kit.lxor8, Kit.landn8, Kit.land16, Kit.lor16, Kit.lxor16])
        first
        | (unfold trV; simp; done)
        | (simp only [Nat.mod_mod, Nat.reduceMod, Nat.zero_mod, Nat.mod_eq_of_lt hv2]; first | rw [orc0 v hv] | rw [orc1 v hv] | rw [orh0 v hv] | rw [orh1 v hv] | rw [ors v hv]
           unfold trV; simp)
      · (try simp only [Kit.and8l, Kit.or8l, Kit.xor8l, Kit.andn8l, Kit.and16l, Kit.or16l, Kit.divl, Kit.modl, Kit.addn, Kit.muln, Kit.addl, Kit.mull, Kit.lmul, Kit.ladd, Kit.and8, Kit.or8, Kit.xor8, Kit.andn8, Kit.and16, Kit.or16, Kit.xor16, Kit.wrap16, Kit.wrap8, Kit.land8, Kit.lor8, Kit.lxor8, Kit.landn8, Kit.land16, Kit.lor16, Kit.lxor16])
        first
        | (unfold trO; simp; done)
        | (rw [Nat.mod_eq_of_lt hv, show (1 % 256) = 1 from rfl, m1' v hv]; unfold trO; simp)
def saidF (w : Int) (c : Bool) : Int := (flagsOf (bi w 128) (w == 0) (bi w 32) false (bi w 8) (par w) false c : Nat)
def quickF (w g : Int) (c : Bool) : Int := (flagsOf (bi g 128) (bi g 64) (bi w 32) false (bi w 8) (bi g 4) false c : Nat)
def bitF (k v g x : Int) : Int := (flagsOf (bi v (2 ^ k.toNat) && k == 7) (!(bi v (2 ^ k.toNat))) (bi x 32) true (bi x 8) (!(bi v (2 ^ k.toNat))) false (bi g 1) : Nat)
theorem trV_bd (k v c : Int) (h0 : 0 ≤ v) (h1 : v < 256) (c0 : 0 ≤ c) (c1 : c < 2) : 0 ≤ trV k v c ∧ trV k v c < 256 := by
  unfold trV
  repeat' split
  all_goals omega
theorem trO_bd (k v : Int) (h0 : 0 ≤ v) (h1 : v < 256) : trO k v = 0 ∨ trO k v = 1 := by
  unfold trO
  split <;> omega
theorem said_lg : ∀ s z y x p : Bool, Go.bits .or .u8 ((flagsOf s z y false x false false false : Nat) : Int) 4 = (flagsOf s z y false x true false false : Nat) := by decide +kernel
theorem or_c : ∀ s z y x p c : Bool, Go.bits .or .u8 ((flagsOf s z y false x p false false : Nat) : Int) (cond c 1 0) = (flagsOf s z y false x p false c : Nat) := by decide +kernel
theorem out_c (o : Int) (h : o = 0 ∨ o = 1) : o = cond (o == 1) 1 0 := by rcases h with rfl | rfl <;> rfl
theorem said_any (v : Int) (hv0 : 0 ≤ v) (hv1 : v < 256) (w : World) : Calls Try.prog 23 #[.int .u8 v] w fun e w' => e = .returned (.int .u8 (saidF v false)) ∧ w = w' := by
  obtain ⟨p, hp⟩ : ∃ p, p = par v := ⟨_, rfl⟩
  have HP := Lib.hid hp
  clear hp
  cases p
  · go_enter Try.func23, Try.ntmps23
    go_wp2_with (first | (go_at_call 29; with_reducible refine (Sums.shape_any _ hv0 hv1 _).mono ?_; rintro e w' ⟨rfl, rfl⟩) | (go_at_call 30; with_reducible refine (parity_any _ hv0 hv1 _).mono ?_; rw [← HP.out]; rintro e w' ⟨rfl, rfl⟩))
    go_ret
    refine ⟨ret_int ?_, rfl⟩
    unfold Sums.shF saidF
    rw [← HP.out]
  · go_enter Try.func23, Try.ntmps23
    go_wp2_with (first | (go_at_call 29; with_reducible refine (Sums.shape_any _ hv0 hv1 _).mono ?_; rintro e w' ⟨rfl, rfl⟩) | (go_at_call 30; with_reducible refine (parity_any _ hv0 hv1 _).mono ?_; rw [← HP.out]; rintro e w' ⟨rfl, rfl⟩))
    go_ret
    refine ⟨ret_int ?_, rfl⟩
    unfold Sums.shF saidF
    rw [← HP.out]
    exact said_lg _ _ _ _ true
theorem rot_any (o v g : Int) (hv0 : 0 ≤ v) (hv1 : v < 256) (hg0 : 0 ≤ g) (hg1 : g < 256) (w : World) : Calls Try.prog 14 #[.int .i64 o, .int .u8 v, .int .u8 g] w fun e w' => e = .returned (.tuple #[.int .u8 (trV (o % 8) v (g % 2)), .int .u8 (saidF (trV (o % 8) v (g % 2)) (trO (o % 8) v == 1))]) ∧ w = w' := by
  obtain ⟨x0, x1⟩ := trV_bd (o % 8) v (g % 2) hv0 hv1 (by omega) (by omega)
  have ho := out_c _ (trO_bd (o % 8) v hv0 hv1)
  obtain ⟨x, hx⟩ : ∃ x, x = trV (o % 8) v (g % 2) := ⟨_, rfl⟩
  obtain ⟨y, hy⟩ : ∃ y, y = trO (o % 8) v := ⟨_, rfl⟩
  rw [← hy] at ho
  rw [← hx] at x0 x1 ⊢
  rw [← hy]
  have HX := Lib.hid hx
  have HY := Lib.hid hy
  have HO := Lib.hid ho
  have y0 : 0 ≤ y := by rcases trO_bd (o % 8) v hv0 hv1 with h | h <;> omega
  have y1 : y ≤ 1 := by rcases trO_bd (o % 8) v hv0 hv1 with h | h <;> omega
  clear hx hy ho
  go_enter Try.func14, Try.ntmps14
  go_wp2_with (first | (go_at_call 22; with_reducible refine (turn_any _ _ _ hv0 hv1 hg0 hg1 _).mono ?_; rw [← HX.out, ← HY.out]; rintro e w' ⟨rfl, rfl⟩) | (go_at_call 23; with_reducible refine (said_any _ x0 x1 _).mono ?_; rintro e w' ⟨rfl, rfl⟩))
  go_ret2
  refine ⟨ret_int2 rfl ?_, rfl⟩
  have hz := HO.out
  generalize (y == 1) = c at hz ⊢
  subst hz
  exact or_c ..
theorem or_q : ∀ gs gz gp y x c : Bool, Go.bits .or .u8 (Go.bits .or .u8 ((fl gs 128 + (fl gz 64 + fl gp 4) : Nat) : Int) ((fl y 32 + fl x 8 : Nat) : Int)) (cond c 1 0) = (flagsOf gs gz y false x gp false c : Nat) := by decide +kernel
theorem quick_leaf (x g : Int) (c : Bool) (x0 : 0 ≤ x) (x1 : x < 256) (hg0 : 0 ≤ g) (hg1 : g < 256) : Go.bits .or .u8 (Go.bits .or .u8 (Go.bits .and .u8 g 196) (Go.bits .and .u8 x 40)) (cond c 1 0) = quickF x g c := by
  obtain ⟨x, rfl⟩ := Int.eq_ofNat_of_zero_le x0
  obtain ⟨g, rfl⟩ := Int.eq_ofNat_of_zero_le hg0
  have hx : x < 256 := by omega
  have hg : g < 256 := by omega
  rw [show Go.bits .and .u8 (g : Int) 196 = ((fl (bt g 128) 128 + (fl (bt g 64) 64 + fl (bt g 4) 4) : Nat) : Int) from by simp only [Kit.and8l, Kit.or8l, Kit.xor8l, Kit.andn8l, Kit.and16l, Kit.or16l, Kit.divl, Kit.modl, Kit.addn, Kit.muln, Kit.addl, Kit.mull, Kit.lmul, Kit.ladd, Kit.and8, Kit.or8, Kit.xor8, Kit.andn8, Kit.and16, Kit.or16, Kit.xor16, Kit.wrap16, Kit.wrap8, Kit.land8, Kit.lor8, Kit.lxor8, Kit.landn8, Kit.land16, Kit.lor16, Kit.lxor16]; rw [Nat.mod_eq_of_lt hg, show (196 % 256) = 196 from rfl, m196 g hg],
    show Go.bits .and .u8 (x : Int) 40 = ((fl (bt x 32) 32 + fl (bt x 8) 8 : Nat) : Int) from by simp only [Kit.and8l, Kit.or8l, Kit.xor8l, Kit.andn8l, Kit.and16l, Kit.or16l, Kit.divl, Kit.modl, Kit.addn, Kit.muln, Kit.addl, Kit.mull, Kit.lmul, Kit.ladd, Kit.and8, Kit.or8, Kit.xor8, Kit.andn8, Kit.and16, Kit.or16, Kit.xor16, Kit.wrap16, Kit.wrap8, Kit.land8, Kit.lor8, Kit.lxor8, Kit.landn8, Kit.land16, Kit.lor16, Kit.lxor16]; rw [Nat.mod_eq_of_lt hx, show (40 % 256) = 40 from rfl, m40 x hx], or_q]
  rfl
theorem quick_any (o v g : Int) (hv0 : 0 ≤ v) (hv1 : v < 256) (hg0 : 0 ≤ g) (hg1 : g < 256) (w : World) : Calls Try.prog 16 #[.int .i64 o, .int .u8 v, .int .u8 g] w fun e w' => e = .returned (.tuple #[.int .u8 (trV (o % 4) v (g % 2)), .int .u8 (quickF (trV (o % 4) v (g % 2)) g (trO (o % 4) v == 1))]) ∧ w = w' := by
  obtain ⟨x0, x1⟩ := trV_bd (o % 4) v (g % 2) hv0 hv1 (by omega) (by omega)
  have ho := out_c _ (trO_bd (o % 4) v hv0 hv1)
  obtain ⟨x, hx⟩ : ∃ x, x = trV (o % 4) v (g % 2) := ⟨_, rfl⟩
  obtain ⟨y, hy⟩ : ∃ y, y = trO (o % 4) v := ⟨_, rfl⟩
  rw [← hy] at ho
  rw [← hx] at x0 x1 ⊢
  rw [← hy]
  have HX := Lib.hid hx
  have HY := Lib.hid hy
  have HO := Lib.hid ho
  have y0 : 0 ≤ y := by rcases trO_bd (o % 4) v hv0 hv1 with h | h <;> omega
  have y1 : y ≤ 1 := by rcases trO_bd (o % 4) v hv0 hv1 with h | h <;> omega
  have hm := and64_3 o
  have hq : o % 4 % 8 = o % 4 := by omega
  have HQ := Lib.hid hq
  clear hx hy ho hq
  go_enter Try.func16, Try.ntmps16
  go_wp2_with (go_at_call 22; refine (turn_any _ _ _ hv0 hv1 hg0 hg1 _).mono ?_; rw [HQ.out, ← HX.out, ← HY.out]; rintro e w' ⟨rfl, rfl⟩)
  go_ret2
  refine ⟨ret_int2 rfl ?_, rfl⟩
  have hz := HO.out
  generalize (y == 1) = c at hz ⊢
  subst hz
  exact quick_leaf x g c x0 x1 hg0 hg1
theorem bitm (v : Nat) (hv : v < 256) (k : Nat) (hk : k < 8) : Go.bits .and .u8 (v : Int) ((2 ^ k : Nat) : Int) = cond (bt v (2 ^ k)) ((2 ^ k : Nat) : Int) 0 := by
  have g := allB_at (allB_at (n := 256) (p := fun v => allB 8 fun k => Nat.beq (v &&& 2 ^ k % 256) (fl (bt v (2 ^ k)) (2 ^ k))) (by decide +kernel) hv) hk
  rw [and8, Nat.mod_eq_of_lt hv, Nat.eq_of_beq_eq_true g]
  cases bt v (2 ^ k) <;> rfl
def dB (l : Bool) (a m : Int) : Int := cond l (a / 16 * 16 + m / 16) (a / 16 * 16 + m % 16)
def dN (l : Bool) (a m : Int) : Int := cond l (m % 16 * 16 + a % 16) (a % 16 * 16 + m / 16)
theorem or_hi (h l : Int) (h0 : 0 ≤ h) (h1 : h < 16) (l0 : 0 ≤ l) (l1 : l < 16) : Go.bits .or .u8 (h * 16) l = h * 16 + l := by
  obtain ⟨h, rfl⟩ := Int.eq_ofNat_of_zero_le h0
  obtain ⟨l, rfl⟩ := Int.eq_ofNat_of_zero_le l0
  simp only [Kit.and8l, Kit.or8l, Kit.xor8l, Kit.andn8l, Kit.and16l, Kit.or16l, Kit.divl, Kit.modl, Kit.addn, Kit.muln, Kit.addl, Kit.mull, Kit.lmul, Kit.ladd, Kit.and8, Kit.or8, Kit.xor8, Kit.andn8, Kit.and16, Kit.or16, Kit.xor16, Kit.wrap16, Kit.wrap8, Kit.land8, Kit.lor8, Kit.lxor8, Kit.landn8, Kit.land16, Kit.lor16, Kit.lxor16]
  rw [Nat.mod_eq_of_lt (show h * 16 < 256 by omega), Nat.mod_eq_of_lt (show l < 256 by omega)]
  have := Nat.two_pow_add_eq_or_of_lt (i := 4) (show l < 2 ^ 4 by omega) h
  rw [show h * 16 = 2 ^ 4 * h from by omega, ← this]
theorem a240 : ∀ a, a < 256 → a &&& 240 = a / 16 * 16 := byte_all _ _ (by decide +kernel)
theorem and240 (a : Int) (h0 : 0 ≤ a) (h1 : a < 256) : Go.bits .and .u8 a 240 = a / 16 * 16 := by
  obtain ⟨a, rfl⟩ := Int.eq_ofNat_of_zero_le h0
  simp only [Kit.and8l, Kit.or8l, Kit.xor8l, Kit.andn8l, Kit.and16l, Kit.or16l, Kit.divl, Kit.modl, Kit.addn, Kit.muln, Kit.addl, Kit.mull, Kit.lmul, Kit.ladd, Kit.and8, Kit.or8, Kit.xor8, Kit.andn8, Kit.and16, Kit.or16, Kit.xor16, Kit.wrap16, Kit.wrap8, Kit.land8, Kit.lor8, Kit.lxor8, Kit.landn8, Kit.land16, Kit.lor16, Kit.lxor16]
  rw [Nat.mod_eq_of_lt (show a < 256 by omega), show (240 % 256) = 240 from rfl, a240 a (by omega)]
theorem and1c (g : Int) (h0 : 0 ≤ g) (h1 : g < 256) : Go.bits .and .u8 g 1 = cond (bi g 1) 1 0 := by
  obtain ⟨g, rfl⟩ := Int.eq_ofNat_of_zero_le h0
  rw [bi_cast]
  exact Sums.bitv1 g (by omega) _ rfl
theorem ret_int3 {k : IntKind} {a b c a' b' c' : Int} (h1 : a = a') (h2 : b = b') (h3 : c = c') : Ending.returned (.tuple #[.int k a, .int k b, .int k c]) = .returned (.tuple #[.int k a', .int k b', .int k c']) := by rw [h1, h2, h3]
theorem digits_any (l : Bool) (a m g : Int) (ha0 : 0 ≤ a) (ha1 : a < 256) (hm0 : 0 ≤ m) (hm1 : m < 256) (hg0 : 0 ≤ g) (hg1 : g < 256) (w : World) : Calls Try.prog 18 #[.bool l, .int .u8 a, .int .u8 m, .int .u8 g] w fun e w' => e = .returned (.tuple #[.int .u8 (dB l a m), .int .u8 (dN l a m), .int .u8 (saidF (dB l a m) (bi g 1))]) ∧ w = w' := by
  have e1 := and240 a ha0 ha1
  have e2 := or_hi (a / 16) (m % 16) (by omega) (by omega) (by omega) (by omega)
  have e3 := or_hi (a / 16) (m / 16) (by omega) (by omega) (by omega) (by omega)
  have e4 := or_hi (m % 16) (a % 16) (by omega) (by omega) (by omega) (by omega)
  have e5 := or_hi (a % 16) (m / 16) (by omega) (by omega) (by omega) (by omega)
  have e6 : a * 16 % 256 = a % 16 * 16 := by omega
  have e7 : m * 16 % 256 = m % 16 * 16 := by omega
  have b0 : 0 ≤ a / 16 * 16 + m % 16 := by omega
  have b1 : a / 16 * 16 + m % 16 < 256 := by omega
  have b2 : 0 ≤ a / 16 * 16 + m / 16 := by omega
  have b3 : a / 16 * 16 + m / 16 < 256 := by omega
  have E1 := Lib.hid e1
  have E2 := Lib.hid e2
  have E3 := Lib.hid e3
  have E4 := Lib.hid e4
  have E5 := Lib.hid e5
  have E6 := Lib.hid e6
  have E7 := Lib.hid e7
  clear e1 e2 e3 e4 e5 e6 e7
  cases l
  · go_enter Try.func18, Try.ntmps18
    go_wp2_with fail
    rw [E1.out, E2.out, E6.out, E5.out]
    refine (said_any _ b0 b1 _).mono ?_
    rintro e w' ⟨rfl, rfl⟩
    go_wp2
    go_ret3
    refine ⟨ret_int3 rfl rfl ?_, rfl⟩
    rw [and1c g hg0 hg1]
    exact or_c ..
  · go_enter Try.func18, Try.ntmps18
    go_wp2_with fail
    rw [E1.out, E3.out, E7.out, E4.out]
    refine (said_any _ b2 b3 _).mono ?_
    rintro e w' ⟨rfl, rfl⟩
    go_wp2
    go_ret3
    refine ⟨ret_int3 rfl rfl ?_, rfl⟩
    rw [and1c g hg0 hg1]
    exact or_c ..
def putV (k v : Int) (on : Bool) : Int := cond on (Go.bits .or .u8 v ((2 ^ k.toNat : Nat) : Int)) (Go.bits .andNot .u8 v ((2 ^ k.toNat : Nat) : Int))
theorem put_any (o v : Int) (on : Bool) (hv0 : 0 ≤ v) (hv1 : v < 256) (w : World) : Calls Try.prog 12 #[.int .i64 o, .int .u8 v, .bool on] w fun e w' => e = .returned (.int .u8 (putV (o % 8) v on)) ∧ w = w' := by
  obtain ⟨k, hk⟩ : ∃ k, k = o % 8 := ⟨_, rfl⟩
  have hc : k = 0 ∨ k = 1 ∨ k = 2 ∨ k = 3 ∨ k = 4 ∨ k = 5 ∨ k = 6 ∨ k = 7 := by omega
  have hm := and64_7 o
  rw [← hk] at hm ⊢
  clear hk
  rcases hc with rfl | rfl | rfl | rfl | rfl | rfl | rfl | rfl
  all_goals
    cases on
    all_goals
      go_enter Try.func12, Try.ntmps12
      go_wp2
      go_ret
      exact ⟨rfl, rfl⟩
theorem bit_join0 : ∀ y x c : Bool, Go.bits .or .u8 (Go.bits .or .u8 (Go.bits .or .u8 (Go.bits .or .u8 (cond c 1 0) 16) ((fl y 32 + fl x 8 : Nat) : Int)) 64) 4 = (flagsOf false true y true x true false c : Nat) := by decide +kernel
theorem bit_join1 : ∀ y x c : Bool, Go.bits .or .u8 (Go.bits .or .u8 (Go.bits .or .u8 (cond c 1 0) 16) ((fl y 32 + fl x 8 : Nat) : Int)) 0 = (flagsOf false false y true x false false c : Nat) := by decide +kernel
theorem bit_join2 : ∀ y x c : Bool, Go.bits .or .u8 (Go.bits .or .u8 (Go.bits .or .u8 (cond c 1 0) 16) ((fl y 32 + fl x 8 : Nat) : Int)) 128 = (flagsOf true false y true x false false c : Nat) := by decide +kernel
theorem x40 (x : Int) (h0 : 0 ≤ x) (h1 : x < 256) : Go.bits .and .u8 x 40 = ((fl (bi x 32) 32 + fl (bi x 8) 8 : Nat) : Int) := by
  obtain ⟨x, rfl⟩ := Int.eq_ofNat_of_zero_le h0
  have hx : x < 256 := by omega
  simp only [Kit.and8l, Kit.or8l, Kit.xor8l, Kit.andn8l, Kit.and16l, Kit.or16l, Kit.divl, Kit.modl, Kit.addn, Kit.muln, Kit.addl, Kit.mull, Kit.lmul, Kit.ladd, Kit.and8, Kit.or8, Kit.xor8, Kit.andn8, Kit.and16, Kit.or16, Kit.xor16, Kit.wrap16, Kit.wrap8, Kit.land8, Kit.lor8, Kit.lxor8, Kit.landn8, Kit.land16, Kit.lor16, Kit.lxor16, bi_cast]; rw [Nat.mod_eq_of_lt hx, show (40 % 256) = 40 from rfl, m40 x hx]
set_option maxHeartbeats 4000000 in
theorem bit_any (o v g x : Int) (hv0 : 0 ≤ v) (hv1 : v < 256) (hg0 : 0 ≤ g) (hg1 : g < 256) (hx0 : 0 ≤ x) (hx1 : x < 256) (w : World) : Calls Try.prog 10 #[.int .i64 o, .int .u8 v, .int .u8 g, .int .u8 x] w fun e w' => e = .returned (.int .u8 (bitF (o % 8) v g x)) ∧ w = w' := by
  obtain ⟨k, hk⟩ : ∃ k, k = o % 8 := ⟨_, rfl⟩
  have hc : k = 0 ∨ k = 1 ∨ k = 2 ∨ k = 3 ∨ k = 4 ∨ k = 5 ∨ k = 6 ∨ k = 7 := by omega
  have hm := and64_7 o
  rw [← hk] at hm ⊢
  clear hk
  obtain ⟨v, rfl⟩ := Int.eq_ofNat_of_zero_le hv0
  have hv : v < 256 := by omega
  have G := Lib.hid (and1c g hg0 hg1)
  have X := Lib.hid (x40 x hx0 hx1)
  clear hv0 hv1
  rcases hc with rfl | rfl | rfl | rfl | rfl | rfl | rfl | rfl
  · have b := bitm v hv 0 (by decide)
    simp only [Nat.reducePow] at b
    have b' : Go.bits .and .u8 (v : Int) 1 = cond (bt v 1) 1 0 := b
    clear b
    cases hb : bt v 1
    · rw [hb] at b'
      have HB := Lib.hid hb
      clear hb
      simp only [cond_true, cond_false] at b'
      go_enter Try.func10, Try.ntmps10
      go_wp2
      go_ret
      refine ⟨ret_int ?_, rfl⟩
      rw [G.out, X.out]
      show _ = ((flagsOf (bt v 1 && (0 : Int) == 7) (!(bt v 1)) (bi x 32) true (bi x 8) (!(bt v 1)) false (bi g 1) : Nat) : Int)
      rw [HB.out]
      exact bit_join0 _ _ _
    · rw [hb] at b'
      have HB := Lib.hid hb
      clear hb
      simp only [cond_true, cond_false] at b'
      have s' : Go.bits .and .u8 1 128 = 0 := by decide +kernel
      go_enter Try.func10, Try.ntmps10
      go_wp2
      go_ret
      refine ⟨ret_int ?_, rfl⟩
      rw [G.out, X.out]
      show _ = ((flagsOf (bt v 1 && (0 : Int) == 7) (!(bt v 1)) (bi x 32) true (bi x 8) (!(bt v 1)) false (bi g 1) : Nat) : Int)
      rw [HB.out]
      exact bit_join1 _ _ _
  · have b := bitm v hv 1 (by decide)
    simp only [Nat.reducePow] at b
    have b' : Go.bits .and .u8 (v : Int) 2 = cond (bt v 2) 2 0 := b
    clear b
    cases hb : bt v 2
    · rw [hb] at b'
      have HB := Lib.hid hb
      clear hb
      simp only [cond_true, cond_false] at b'
      go_enter Try.func10, Try.ntmps10
      go_wp2
      go_ret
      refine ⟨ret_int ?_, rfl⟩
      rw [G.out, X.out]
      show _ = ((flagsOf (bt v 2 && (1 : Int) == 7) (!(bt v 2)) (bi x 32) true (bi x 8) (!(bt v 2)) false (bi g 1) : Nat) : Int)
      rw [HB.out]
      exact bit_join0 _ _ _
    · rw [hb] at b'
      have HB := Lib.hid hb
      clear hb
      simp only [cond_true, cond_false] at b'
      have s' : Go.bits .and .u8 2 128 = 0 := by decide +kernel
      go_enter Try.func10, Try.ntmps10
      go_wp2
      go_ret
      refine ⟨ret_int ?_, rfl⟩
      rw [G.out, X.out]
      show _ = ((flagsOf (bt v 2 && (1 : Int) == 7) (!(bt v 2)) (bi x 32) true (bi x 8) (!(bt v 2)) false (bi g 1) : Nat) : Int)
      rw [HB.out]
      exact bit_join1 _ _ _
  · have b := bitm v hv 2 (by decide)
    simp only [Nat.reducePow] at b
    have b' : Go.bits .and .u8 (v : Int) 4 = cond (bt v 4) 4 0 := b
    clear b
    cases hb : bt v 4
    · rw [hb] at b'
      have HB := Lib.hid hb
      clear hb
      simp only [cond_true, cond_false] at b'
      go_enter Try.func10, Try.ntmps10
      go_wp2
      go_ret
      refine ⟨ret_int ?_, rfl⟩
      rw [G.out, X.out]
      show _ = ((flagsOf (bt v 4 && (2 : Int) == 7) (!(bt v 4)) (bi x 32) true (bi x 8) (!(bt v 4)) false (bi g 1) : Nat) : Int)
      rw [HB.out]
      exact bit_join0 _ _ _
    · rw [hb] at b'
      have HB := Lib.hid hb
      clear hb
      simp only [cond_true, cond_false] at b'
      have s' : Go.bits .and .u8 4 128 = 0 := by decide +kernel
      go_enter Try.func10, Try.ntmps10
      go_wp2
      go_ret
      refine ⟨ret_int ?_, rfl⟩
      rw [G.out, X.out]
      show _ = ((flagsOf (bt v 4 && (2 : Int) == 7) (!(bt v 4)) (bi x 32) true (bi x 8) (!(bt v 4)) false (bi g 1) : Nat) : Int)
      rw [HB.out]
      exact bit_join1 _ _ _
  · have b := bitm v hv 3 (by decide)
    simp only [Nat.reducePow] at b
    have b' : Go.bits .and .u8 (v : Int) 8 = cond (bt v 8) 8 0 := b
    clear b
    cases hb : bt v 8
    · rw [hb] at b'
      have HB := Lib.hid hb
      clear hb
      simp only [cond_true, cond_false] at b'
      go_enter Try.func10, Try.ntmps10
      go_wp2
      go_ret
      refine ⟨ret_int ?_, rfl⟩
      rw [G.out, X.out]
      show _ = ((flagsOf (bt v 8 && (3 : Int) == 7) (!(bt v 8)) (bi x 32) true (bi x 8) (!(bt v 8)) false (bi g 1) : Nat) : Int)
      rw [HB.out]
      exact bit_join0 _ _ _
    · rw [hb] at b'
      have HB := Lib.hid hb
      clear hb
      simp only [cond_true, cond_false] at b'
      have s' : Go.bits .and .u8 8 128 = 0 := by decide +kernel
      go_enter Try.func10, Try.ntmps10
      go_wp2
      go_ret
      refine ⟨ret_int ?_, rfl⟩
      rw [G.out, X.out]
      show _ = ((flagsOf (bt v 8 && (3 : Int) == 7) (!(bt v 8)) (bi x 32) true (bi x 8) (!(bt v 8)) false (bi g 1) : Nat) : Int)
      rw [HB.out]
      exact bit_join1 _ _ _
  · have b := bitm v hv 4 (by decide)
    simp only [Nat.reducePow] at b
    have b' : Go.bits .and .u8 (v : Int) 16 = cond (bt v 16) 16 0 := b
    clear b
    cases hb : bt v 16
    · rw [hb] at b'
      have HB := Lib.hid hb
      clear hb
      simp only [cond_true, cond_false] at b'
      go_enter Try.func10, Try.ntmps10
      go_wp2
      go_ret
      refine ⟨ret_int ?_, rfl⟩
      rw [G.out, X.out]
      show _ = ((flagsOf (bt v 16 && (4 : Int) == 7) (!(bt v 16)) (bi x 32) true (bi x 8) (!(bt v 16)) false (bi g 1) : Nat) : Int)
      rw [HB.out]
      exact bit_join0 _ _ _
    · rw [hb] at b'
      have HB := Lib.hid hb
      clear hb
      simp only [cond_true, cond_false] at b'
      have s' : Go.bits .and .u8 16 128 = 0 := by decide +kernel
      go_enter Try.func10, Try.ntmps10
      go_wp2
      go_ret
      refine ⟨ret_int ?_, rfl⟩
      rw [G.out, X.out]
      show _ = ((flagsOf (bt v 16 && (4 : Int) == 7) (!(bt v 16)) (bi x 32) true (bi x 8) (!(bt v 16)) false (bi g 1) : Nat) : Int)
      rw [HB.out]
      exact bit_join1 _ _ _
  · have b := bitm v hv 5 (by decide)
    simp only [Nat.reducePow] at b
    have b' : Go.bits .and .u8 (v : Int) 32 = cond (bt v 32) 32 0 := b
    clear b
    cases hb : bt v 32
    · rw [hb] at b'
      have HB := Lib.hid hb
      clear hb
      simp only [cond_true, cond_false] at b'
      go_enter Try.func10, Try.ntmps10
      go_wp2
      go_ret
      refine ⟨ret_int ?_, rfl⟩
      rw [G.out, X.out]
      show _ = ((flagsOf (bt v 32 && (5 : Int) == 7) (!(bt v 32)) (bi x 32) true (bi x 8) (!(bt v 32)) false (bi g 1) : Nat) : Int)
      rw [HB.out]
      exact bit_join0 _ _ _
    · rw [hb] at b'
      have HB := Lib.hid hb
      clear hb
      simp only [cond_true, cond_false] at b'
      have s' : Go.bits .and .u8 32 128 = 0 := by decide +kernel
      go_enter Try.func10, Try.ntmps10
      go_wp2
      go_ret
      refine ⟨ret_int ?_, rfl⟩
      rw [G.out, X.out]
      show _ = ((flagsOf (bt v 32 && (5 : Int) == 7) (!(bt v 32)) (bi x 32) true (bi x 8) (!(bt v 32)) false (bi g 1) : Nat) : Int)
      rw [HB.out]
      exact bit_join1 _ _ _
  · have b := bitm v hv 6 (by decide)
    simp only [Nat.reducePow] at b
    have b' : Go.bits .and .u8 (v : Int) 64 = cond (bt v 64) 64 0 := b
    clear b
    cases hb : bt v 64
    · rw [hb] at b'
      have HB := Lib.hid hb
      clear hb
      simp only [cond_true, cond_false] at b'
      go_enter Try.func10, Try.ntmps10
      go_wp2
      go_ret
      refine ⟨ret_int ?_, rfl⟩
      rw [G.out, X.out]
      show _ = ((flagsOf (bt v 64 && (6 : Int) == 7) (!(bt v 64)) (bi x 32) true (bi x 8) (!(bt v 64)) false (bi g 1) : Nat) : Int)
      rw [HB.out]
      exact bit_join0 _ _ _
    · rw [hb] at b'
      have HB := Lib.hid hb
      clear hb
      simp only [cond_true, cond_false] at b'
      have s' : Go.bits .and .u8 64 128 = 0 := by decide +kernel
      go_enter Try.func10, Try.ntmps10
      go_wp2
      go_ret
      refine ⟨ret_int ?_, rfl⟩
      rw [G.out, X.out]
      show _ = ((flagsOf (bt v 64 && (6 : Int) == 7) (!(bt v 64)) (bi x 32) true (bi x 8) (!(bt v 64)) false (bi g 1) : Nat) : Int)
      rw [HB.out]
      exact bit_join1 _ _ _
  · have b := bitm v hv 7 (by decide)
    simp only [Nat.reducePow] at b
    have b' : Go.bits .and .u8 (v : Int) 128 = cond (bt v 128) 128 0 := b
    clear b
    cases hb : bt v 128
    · rw [hb] at b'
      have HB := Lib.hid hb
      clear hb
      simp only [cond_true, cond_false] at b'
      go_enter Try.func10, Try.ntmps10
      go_wp2
      go_ret
      refine ⟨ret_int ?_, rfl⟩
      rw [G.out, X.out]
      show _ = ((flagsOf (bt v 128 && (7 : Int) == 7) (!(bt v 128)) (bi x 32) true (bi x 8) (!(bt v 128)) false (bi g 1) : Nat) : Int)
      rw [HB.out]
      exact bit_join0 _ _ _
    · rw [hb] at b'
      have HB := Lib.hid hb
      clear hb
      simp only [cond_true, cond_false] at b'
      have s' : Go.bits .and .u8 128 128 = 128 := by decide +kernel
      go_enter Try.func10, Try.ntmps10
      go_wp2
      go_ret
      refine ⟨ret_int ?_, rfl⟩
      rw [G.out, X.out]
      show _ = ((flagsOf (bt v 128 && (7 : Int) == 7) (!(bt v 128)) (bi x 32) true (bi x 8) (!(bt v 128)) false (bi g 1) : Nat) : Int)
      rw [HB.out]
      exact bit_join2 _ _ _
end Turns
end Go.Proofs.Ytlhbokennnjohaa
