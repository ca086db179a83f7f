/- Sums of two bytes at once (layer 7): what the program's functions and the reference's answer, each the same numbers; the statements' walks. No conditions but that numbers are of their kinds. -/
import Derived.Test.YtoppnjkebmjdcaaR06
namespace Go.Proofs.Ytoppnjkebmjdcaa
open Go.RowKit
open Kit
set_option linter.unusedSimpArgs false
set_option linter.unusedVariables false
namespace Pairs
/-- The flags of a sum of two numbers and a carry. -/
def sumF (a b c : Nat) : Nat :=
  flagsOf (bt ((a + b + c) % 65536 / 256) 128) (Nat.beq ((a + b + c) % 65536) 0) (bt ((a + b + c) % 65536 / 256) 32) (Nat.ble 4096 (a % 4096 + b % 4096 + c)) (bt ((a + b + c) % 65536 / 256) 8)
    (xor (Nat.ble 32768 (a % 32768 + b % 32768 + c)) (Nat.ble 65536 (a + b + c))) false (Nat.ble 65536 (a + b + c))
/-- The flags of a sum that keeps three of the old ones. -/
def addF (a b f : Nat) : Nat :=
  flagsOf (bt f 128) (bt f 64) (bt ((a + b) % 65536 / 256) 32) (Nat.ble 4096 (a % 4096 + b % 4096)) (bt ((a + b) % 65536 / 256) 8) (bt f 4) false (Nat.ble 65536 (a + b))
/-- The flags of a difference. -/
def subF (a b c : Nat) : Nat :=
  flagsOf (bt ((a + 65536 - b - c) % 65536 / 256) 128) (Nat.beq ((a + 65536 - b - c) % 65536) 0) (bt ((a + 65536 - b - c) % 65536 / 256) 32) (Nat.blt (a % 4096) (b % 4096 + c)) (bt ((a + 65536 - b - c) % 65536 / 256) 8)
    (xor (Nat.blt (a % 32768) (b % 32768 + c)) (Nat.blt a (b + c))) true (Nat.blt a (b + c))
theorem half_bit (a b c v : Nat) (ha : a < 65536) (hb : b < 65536) (hc : c < 2) (hv : v = (a + b + c) % 65536) :
    bt ((a ^^^ b ^^^ v) / 256 % 256) 16 = Nat.ble 4096 (a % 4096 + b % 4096 + c) := by
  have e : (a ^^^ b ^^^ v) / 256 % 256 / 16 % 2 = (a / 4096 ^^^ b / 4096 ^^^ v / 4096) % 2 := by
    have h : (a ^^^ b ^^^ v) / 2 ^ 12 = a / 2 ^ 12 ^^^ b / 2 ^ 12 ^^^ v / 2 ^ 12 := by rw [Nat.xor_div_two_pow, Nat.xor_div_two_pow]
    simp only [Nat.reducePow] at h
    rw [← h]; omega
  have hv4 : v / 4096 = (a / 4096 + b / 4096 + (a % 4096 + b % 4096 + c) / 4096) % 16 := by omega
  have g : allB 16 (fun x => allB 16 fun y => allB 2 fun k => Nat.beq ((x ^^^ y ^^^ (x + y + k) % 16) % 2) k) = true := by decide +kernel
  have g' := Nat.eq_of_beq_eq_true (allB_at (allB_at (allB_at g (i := a / 4096) (by omega)) (i := b / 4096) (by omega)) (i := (a % 4096 + b % 4096 + c) / 4096) (by omega))
  unfold bt
  rw [e, hv4, g', Bool.eq_iff_iff, Nat.beq_eq, Nat.ble_eq]
  omega
theorem over_bit (a b c v : Nat) (ha : a < 65536) (hb : b < 65536) (hc : c < 2) (hv : v = (a + b + c) % 65536) :
    bt (((a ^^^ v) &&& (b ^^^ v)) / 8192 % 256) 4 = xor (Nat.ble 32768 (a % 32768 + b % 32768 + c)) (Nat.ble 65536 (a + b + c)) := by
  have e : ((a ^^^ v) &&& (b ^^^ v)) / 8192 % 256 / 4 % 2 = ((a / 32768 ^^^ v / 32768) &&& (b / 32768 ^^^ v / 32768)) % 2 := by
    have h : ((a ^^^ v) &&& (b ^^^ v)) / 2 ^ 15 = (a / 2 ^ 15 ^^^ v / 2 ^ 15) &&& (b / 2 ^ 15 ^^^ v / 2 ^ 15) := by rw [Nat.and_div_two_pow, Nat.xor_div_two_pow, Nat.xor_div_two_pow]
    simp only [Nat.reducePow] at h
    rw [← h]; omega
  have hv4 : v / 32768 = (a / 32768 + b / 32768 + (a % 32768 + b % 32768 + c) / 32768) % 2 := by omega
  have g : allB 2 (fun x => allB 2 fun y => allB 2 fun k => cond (Nat.beq (((x ^^^ (x + y + k) % 2) &&& (y ^^^ (x + y + k) % 2)) % 2) 1) (xor (Nat.beq k 1) (Nat.ble 2 (x + y + k))) (!(xor (Nat.beq k 1) (Nat.ble 2 (x + y + k))))) = true := by decide +kernel
  have h1 : Nat.ble 32768 (a % 32768 + b % 32768 + c) = Nat.beq ((a % 32768 + b % 32768 + c) / 32768) 1 := by
    rw [Bool.eq_iff_iff, Nat.beq_eq, Nat.ble_eq]; omega
  have h2 : Nat.ble 65536 (a + b + c) = Nat.ble 2 (a / 32768 + b / 32768 + (a % 32768 + b % 32768 + c) / 32768) := by
    rw [Bool.eq_iff_iff, Nat.ble_eq, Nat.ble_eq]; omega
  have g' := allB_at (allB_at (allB_at g (i := a / 32768) (by omega)) (i := b / 32768) (by omega)) (i := (a % 32768 + b % 32768 + c) / 32768) (by omega)
  unfold bt
  rw [e, hv4, h1, h2]
  revert g'
  generalize xor (Nat.beq ((a % 32768 + b % 32768 + c) / 32768) 1) (Nat.ble 2 (a / 32768 + b / 32768 + (a % 32768 + b % 32768 + c) / 32768)) = z
  generalize Nat.beq (((a / 32768 ^^^ (a / 32768 + b / 32768 + (a % 32768 + b % 32768 + c) / 32768) % 2) &&& (b / 32768 ^^^ (a / 32768 + b / 32768 + (a % 32768 + b % 32768 + c) / 32768) % 2)) % 2) 1 = y
  cases y <;> cases z <;> simp
theorem carry_bit (n : Nat) (hn : n < 131072) : n / 65536 = fl (Nat.ble 65536 n) 1 := by
  by_cases h : 65536 ≤ n
  · rw [Nat.ble_eq_true_of_le h]; show _ = 1; omega
  · rw [show Nat.ble 65536 n = false from by rw [Bool.eq_false_iff]; intro g; exact h (Nat.le_of_ble_eq_true g)]; show _ = 0; omega
theorem join5 : ∀ s y x h c p : Bool, ((fl s 128 + (fl y 32 + fl x 8) ||| fl h 16) % 256 ||| fl c 1) ||| fl p 4 = flagsOf s false y h x p false c := by decide
theorem join5z : ∀ s y x h c p : Bool, (((fl s 128 + (fl y 32 + fl x 8) ||| fl h 16) % 256 ||| fl c 1) ||| fl p 4) % 256 ||| 64 = flagsOf s true y h x p false c := by decide
theorem join4 : ∀ s z p y x h c : Bool, (((fl s 128 + (fl z 64 + fl p 4) ||| fl y 32 + fl x 8) % 256 ||| fl h 16) % 256 ||| fl c 1) = flagsOf s z y h x p false c := by decide
theorem full_flags (a b c v : Nat) (ha : a < 65536) (hb : b < 65536) (hc : c < 2) (hv : v = (a + b + c) % 65536) :
    (((v / 256 % 256 &&& 168) ||| ((a ^^^ b ^^^ v) / 256 % 256 &&& 16)) % 256 ||| (a + b + c) / 65536 % 256) ||| (((a ^^^ v) &&& (b ^^^ v)) / 8192 % 256 &&& 4) =
      flagsOf (bt (v / 256) 128) false (bt (v / 256) 32) (Nat.ble 4096 (a % 4096 + b % 4096 + c)) (bt (v / 256) 8) (xor (Nat.ble 32768 (a % 32768 + b % 32768 + c)) (Nat.ble 65536 (a + b + c))) false (Nat.ble 65536 (a + b + c)) := by
  rw [show v / 256 % 256 = v / 256 from by omega, show (a + b + c) / 65536 % 256 = (a + b + c) / 65536 from by omega, m168 (v / 256) (by omega), m16 _ (Nat.mod_lt _ (by decide)), m4 _ (Nat.mod_lt _ (by decide)), half_bit a b c v ha hb hc hv, over_bit a b c v ha hb hc hv, carry_bit _ (by omega), join5]
theorem full_flags_z (a b c v : Nat) (ha : a < 65536) (hb : b < 65536) (hc : c < 2) (hv : v = (a + b + c) % 65536) :
    ((((v / 256 % 256 &&& 168) ||| ((a ^^^ b ^^^ v) / 256 % 256 &&& 16)) % 256 ||| (a + b + c) / 65536 % 256) ||| (((a ^^^ v) &&& (b ^^^ v)) / 8192 % 256 &&& 4)) % 256 ||| 64 =
      flagsOf (bt (v / 256) 128) true (bt (v / 256) 32) (Nat.ble 4096 (a % 4096 + b % 4096 + c)) (bt (v / 256) 8) (xor (Nat.ble 32768 (a % 32768 + b % 32768 + c)) (Nat.ble 65536 (a + b + c))) false (Nat.ble 65536 (a + b + c)) := by
  rw [show v / 256 % 256 = v / 256 from by omega, show (a + b + c) / 65536 % 256 = (a + b + c) / 65536 from by omega, m168 (v / 256) (by omega), m16 _ (Nat.mod_lt _ (by decide)), m4 _ (Nat.mod_lt _ (by decide)), half_bit a b c v ha hb hc hv, over_bit a b c v ha hb hc hv, carry_bit _ (by omega), join5z]
def sgn (a : Int) : Int := if 32768 ≤ a then a - 65536 else a
def ov (s : Int) : Bool := decide (s < -32768) || decide (32767 < s)
def sumFi (a b c : Int) : Int := (flagsOf (R06.bi ((a + b + c) % 65536 / 256) 128) ((a + b + c) % 65536 == 0) (R06.bi ((a + b + c) % 65536 / 256) 32) (decide (4095 < a % 4096 + b % 4096 + c)) (R06.bi ((a + b + c) % 65536 / 256) 8)
  (ov (sgn a + sgn b + c)) false (decide (65535 < a + b + c)) : Nat)
def addFi (a b f : Int) : Int := (flagsOf (R06.bi f 128) (R06.bi f 64) (R06.bi ((a + b) % 65536 / 256) 32) (decide (4095 < a % 4096 + b % 4096)) (R06.bi ((a + b) % 65536 / 256) 8) (R06.bi f 4) false (decide (65535 < a + b)) : Nat)
def subFi (a b c : Int) : Int := (flagsOf (R06.bi ((a - b - c) % 65536 / 256) 128) ((a - b - c) % 65536 == 0) (R06.bi ((a - b - c) % 65536 / 256) 32) (decide (a % 4096 - b % 4096 - c < 0)) (R06.bi ((a - b - c) % 65536 / 256) 8)
  (ov (sgn a - sgn b - c)) true (decide (a - b - c < 0)) : Nat)
theorem sumFi_lt (a b c : Int) : 0 ≤ sumFi a b c ∧ sumFi a b c < 256 := by
  unfold sumFi; exact ⟨Int.natCast_nonneg _, Int.ofNat_lt.2 (flagsOf_lt ..)⟩
theorem addFi_lt (a b c : Int) : 0 ≤ addFi a b c ∧ addFi a b c < 256 := by
  unfold addFi; exact ⟨Int.natCast_nonneg _, Int.ofNat_lt.2 (flagsOf_lt ..)⟩
theorem subFi_lt (a b c : Int) : 0 ≤ subFi a b c ∧ subFi a b c < 256 := by
  unfold subFi; exact ⟨Int.natCast_nonneg _, Int.ofNat_lt.2 (flagsOf_lt ..)⟩
theorem flags_eq {s z y h x p n c s' z' y' h' x' p' n' c' : Bool} (e1 : s = s') (e2 : z = z') (e3 : y = y') (e4 : h = h') (e5 : x = x') (e6 : p = p') (e7 : n = n') (e8 : c = c') :
    ((flagsOf s z y h x p n c : Nat) : Int) = (flagsOf s' z' y' h' x' p' n' c' : Nat) := by subst e1 e2 e3 e4 e5 e6 e7 e8; rfl
theorem beq0 (n : Nat) : Nat.beq n 0 = ((n : Int) == 0) := by rw [Bool.eq_iff_iff, Nat.beq_eq]; simp
theorem sumF_int (a b c : Nat) (ha : a < 65536) (hb : b < 65536) (hc : c < 2) : ((sumF a b c : Nat) : Int) = sumFi a b c := by
  unfold sumF sumFi
  refine flags_eq rfl ?_ rfl ?_ rfl ?_ rfl ?_
  · rw [beq0]; rfl
  · rw [Bool.eq_iff_iff, Nat.ble_eq, decide_eq_true_eq]; omega
  · unfold ov sgn
    rw [Bool.eq_iff_iff, Bool.or_eq_true, decide_eq_true_eq, decide_eq_true_eq, xor_iff, Nat.ble_eq, Nat.ble_eq]
    repeat' split
    all_goals omega
  · rw [Bool.eq_iff_iff, Nat.ble_eq, decide_eq_true_eq]; omega
theorem addF_int (a b f : Nat) (ha : a < 65536) (hb : b < 65536) (hf : f < 256) : ((addF a b f : Nat) : Int) = addFi a b f := by
  unfold addF addFi
  refine flags_eq rfl rfl rfl ?_ rfl rfl rfl ?_
  · rw [Bool.eq_iff_iff, Nat.ble_eq, decide_eq_true_eq]; omega
  · rw [Bool.eq_iff_iff, Nat.ble_eq, decide_eq_true_eq]; omega
theorem subF_int (a b c : Nat) (ha : a < 65536) (hb : b < 65536) (hc : c < 2) : ((subF a b c : Nat) : Int) = subFi a b c := by
  have e : (((a + 65536 - b - c) % 65536 : Nat) : Int) = ((a : Int) - b - c) % 65536 := by omega
  have e' : (((a + 65536 - b - c) % 65536 / 256 : Nat) : Int) = ((a : Int) - b - c) % 65536 / 256 := by omega
  unfold subF subFi
  refine flags_eq ?_ ?_ ?_ ?_ ?_ ?_ rfl ?_
  · rw [← e', R06.bi_cast]
  · rw [beq0, e]
  · rw [← e', R06.bi_cast]
  · rw [Bool.eq_iff_iff, Nat.blt_eq, decide_eq_true_eq]; omega
  · rw [← e', R06.bi_cast]
  · unfold ov sgn
    rw [Bool.eq_iff_iff, Bool.or_eq_true, decide_eq_true_eq, decide_eq_true_eq, xor_iff, Nat.blt_eq, Nat.blt_eq]
    repeat' split
    all_goals omega
  · rw [Bool.eq_iff_iff, Nat.blt_eq, decide_eq_true_eq]; omega
theorem ble_not_blt {m n x y : Nat} (h : m ≤ n ↔ ¬ x < y) : Nat.ble m n = !(Nat.blt x y) := by
  rw [Bool.eq_iff_iff, Nat.ble_eq, h, Bool.not_eq_true', Bool.eq_false_iff, Ne, Nat.blt_eq]
theorem flip17 : ∀ s z y h x p c : Bool, (flagsOf s z y h x p false c % 256 ^^^ 17 % 256) ||| 2 % 256 = flagsOf s z y (!h) x p true (!c) := by decide
theorem sub_flags (a b f : Nat) (ha : a < 65536) (hb : b < 65536) (hf : f < 256) : sumF a (65535 - b) ((255 - f) % 2) % 256 ^^^ 17 % 256 ||| 2 % 256 = subF a b (f % 2) := by
  unfold sumF subF
  rw [flip17, show a + (65535 - b) + (255 - f) % 2 = a + 65536 - b - f % 2 from by omega, ble_not_blt (show 4096 ≤ a % 4096 + (65535 - b) % 4096 + (255 - f) % 2 ↔ ¬ a % 4096 < b % 4096 + f % 2 from by omega),
    ble_not_blt (show 32768 ≤ a % 32768 + (65535 - b) % 32768 + (255 - f) % 2 ↔ ¬ a % 32768 < b % 32768 + f % 2 from by omega), ble_not_blt (show 65536 ≤ a + 65536 - b - f % 2 ↔ ¬ a < b + f % 2 from by omega)]
  simp
theorem tmod_pos (n : Int) (k : Int) (h : 0 ≤ n) : n.tmod k = n % k := Int.tmod_eq_emod_of_nonneg h
theorem tmod_neg (n : Int) (k : Int) (h : n ≤ 0) : n.tmod k = -((-n) % k) := by
  have := Int.neg_tmod (-n) k
  rw [Int.neg_neg] at this
  rw [this, Int.tmod_eq_emod_of_nonneg (by omega)]
theorem modulo_eq (n : Int) (h1 : -1000000 ≤ n) (h2 : n ≤ 1000000) : IntKind.u16.wrap ((wrap64 (n.tmod 65536 + 65536)).tmod 65536) = n % 65536 := by
  have e : n.tmod 65536 = n % 65536 ∨ (n.tmod 65536 = n % 65536 - 65536) := by
    rcases Int.le_total 0 n with h | h
    · left; exact tmod_pos n _ h
    · rw [tmod_neg n _ h]; omega
  have e2 : wrap64 (n.tmod 65536 + 65536) = n.tmod 65536 + 65536 := by unfold wrap64; omega
  rw [e2, tmod_pos _ _ (by omega), IntKind.wrap_u16]
  omega
theorem full_any (a b c : Int) (ha0 : 0 ≤ a) (ha1 : a < 65536) (hb0 : 0 ≤ b) (hb1 : b < 65536) (hc0 : 0 ≤ c) (hc1 : c < 2) (w : World) : Calls Try.prog 23 #[.int .u16 a, .int .u16 b, .int .u32 c] w fun e w' =>
    e = .returned (.tuple #[.int .u16 ((a + b + c) % 65536), .int .u8 (sumFi a b c)]) ∧ w = w' := by
  obtain ⟨a, rfl⟩ := Int.eq_ofNat_of_zero_le ha0
  obtain ⟨b, rfl⟩ := Int.eq_ofNat_of_zero_le hb0
  obtain ⟨c, rfl⟩ := Int.eq_ofNat_of_zero_le hc0
  have ha : a < 65536 := by omega
  have hb : b < 65536 := by omega
  have hc : c < 2 := by omega
  clear ha0 ha1 hb0 hb1 hc0 hc1
  go_enter Try.func23, Try.ntmps23
  go_wp2
  · rename_i hz
    go_ret2
    rw [addn, addn, wrap16] at hz
    have hz' : (a + b + c) % 65536 = 0 := by have h := beq_iff_eq.mp hz; omega
    refine ⟨ret_int2 ?_ ?_, rfl⟩
    · simp only [Kit.and8l, Kit.or8l, Kit.xor8l, Kit.andn8l, Kit.and16l, Kit.or16l, Kit.divl, Kit.modl, Kit.addn, Kit.muln, Kit.addl, Kit.mull, Kit.lmul, Kit.ladd, Kit.and8, Kit.or8, Kit.xor8, Kit.andn8, Kit.and16, Kit.or16, Kit.xor16, Kit.wrap16, Kit.wrap8, Kit.land8, Kit.lor8, Kit.lxor8, Kit.landn8, Kit.land16, Kit.lor16, Kit.lxor16]
    · simp only [Kit.and8l, Kit.or8l, Kit.xor8l, Kit.andn8l, Kit.and16l, Kit.or16l, Kit.divl, Kit.modl, Kit.addn, Kit.muln, Kit.addl, Kit.mull, Kit.lmul, Kit.ladd, Kit.and8, Kit.or8, Kit.xor8, Kit.andn8, Kit.and16, Kit.or16, Kit.xor16, Kit.wrap16, Kit.wrap8, Kit.land8, Kit.lor8, Kit.lxor8, Kit.landn8, Kit.land16, Kit.lor16, Kit.lxor16]
      simp only [Nat.mod_mod, Nat.reduceMod, Nat.mod_eq_of_lt ha, Nat.mod_eq_of_lt hb]
      rw [← sumF_int a b c ha hb hc]
      unfold sumF
      rw [show Nat.beq ((a + b + c) % 65536) 0 = true from by rw [hz']; rfl, ← full_flags_z a b c _ ha hb hc rfl]
  · rename_i hz
    go_ret2
    rw [addn, addn, wrap16] at hz
    have hz' : ¬ (a + b + c) % 65536 = 0 := by have h := beq_eq_false_iff_ne.mp hz; omega
    refine ⟨ret_int2 ?_ ?_, rfl⟩
    · simp only [Kit.and8l, Kit.or8l, Kit.xor8l, Kit.andn8l, Kit.and16l, Kit.or16l, Kit.divl, Kit.modl, Kit.addn, Kit.muln, Kit.addl, Kit.mull, Kit.lmul, Kit.ladd, Kit.and8, Kit.or8, Kit.xor8, Kit.andn8, Kit.and16, Kit.or16, Kit.xor16, Kit.wrap16, Kit.wrap8, Kit.land8, Kit.lor8, Kit.lxor8, Kit.landn8, Kit.land16, Kit.lor16, Kit.lxor16]
    · simp only [Kit.and8l, Kit.or8l, Kit.xor8l, Kit.andn8l, Kit.and16l, Kit.or16l, Kit.divl, Kit.modl, Kit.addn, Kit.muln, Kit.addl, Kit.mull, Kit.lmul, Kit.ladd, Kit.and8, Kit.or8, Kit.xor8, Kit.andn8, Kit.and16, Kit.or16, Kit.xor16, Kit.wrap16, Kit.wrap8, Kit.land8, Kit.lor8, Kit.lxor8, Kit.landn8, Kit.land16, Kit.lor16, Kit.lxor16]
      simp only [Nat.mod_mod, Nat.reduceMod, Nat.mod_eq_of_lt ha, Nat.mod_eq_of_lt hb]
      rw [← sumF_int a b c ha hb hc]
      unfold sumF
      rw [show Nat.beq ((a + b + c) % 65536) 0 = false from by rw [Bool.eq_false_iff]; intro h; exact hz' (Nat.eq_of_beq_eq_true h), ← full_flags a b c _ ha hb hc rfl]
theorem add_any (a b f : Int) (ha0 : 0 ≤ a) (ha1 : a < 65536) (hb0 : 0 ≤ b) (hb1 : b < 65536) (hf0 : 0 ≤ f) (hf1 : f < 256) (w : World) : Calls Try.prog 16 #[.int .u16 a, .int .u16 b, .int .u8 f] w fun e w' =>
    e = .returned (.tuple #[.int .u16 ((a + b) % 65536), .int .u8 (addFi a b f)]) ∧ w = w' := by
  obtain ⟨a, rfl⟩ := Int.eq_ofNat_of_zero_le ha0
  obtain ⟨b, rfl⟩ := Int.eq_ofNat_of_zero_le hb0
  obtain ⟨f, rfl⟩ := Int.eq_ofNat_of_zero_le hf0
  have ha : a < 65536 := by omega
  have hb : b < 65536 := by omega
  have hf : f < 256 := by omega
  clear ha0 ha1 hb0 hb1 hf0 hf1
  go_enter Try.func16, Try.ntmps16
  go_wp2
  go_ret2
  refine ⟨ret_int2 ?_ ?_, rfl⟩
  · simp only [Kit.and8l, Kit.or8l, Kit.xor8l, Kit.andn8l, Kit.and16l, Kit.or16l, Kit.divl, Kit.modl, Kit.addn, Kit.muln, Kit.addl, Kit.mull, Kit.lmul, Kit.ladd, Kit.and8, Kit.or8, Kit.xor8, Kit.andn8, Kit.and16, Kit.or16, Kit.xor16, Kit.wrap16, Kit.wrap8, Kit.land8, Kit.lor8, Kit.lxor8, Kit.landn8, Kit.land16, Kit.lor16, Kit.lxor16]
  · simp only [Kit.and8l, Kit.or8l, Kit.xor8l, Kit.andn8l, Kit.and16l, Kit.or16l, Kit.divl, Kit.modl, Kit.addn, Kit.muln, Kit.addl, Kit.mull, Kit.lmul, Kit.ladd, Kit.and8, Kit.or8, Kit.xor8, Kit.andn8, Kit.and16, Kit.or16, Kit.xor16, Kit.wrap16, Kit.wrap8, Kit.land8, Kit.lor8, Kit.lxor8, Kit.landn8, Kit.land16, Kit.lor16, Kit.lxor16]
    simp only [Nat.mod_mod, Nat.reduceMod, Nat.mod_eq_of_lt ha, Nat.mod_eq_of_lt hb, Nat.mod_eq_of_lt hf]
    have hh := half_bit a b 0 _ ha hb (by decide) rfl
    simp only [Nat.add_zero] at hh
    rw [show (a + b) % 65536 / 256 % 256 = (a + b) % 65536 / 256 from by omega, show (a + b) / 65536 % 256 = (a + b) / 65536 from by omega, m196 f hf, m40 _ (show (a + b) % 65536 / 256 < 256 by omega), m16 _ (Nat.mod_lt _ (by decide)), hh, carry_bit _ (by omega), join4, ← addF_int a b f ha hb hf]
    rfl
theorem adc_any (a b f : Int) (ha0 : 0 ≤ a) (ha1 : a < 65536) (hb0 : 0 ≤ b) (hb1 : b < 65536) (hf0 : 0 ≤ f) (hf1 : f < 256) (w : World) : Calls Try.prog 14 #[.int .u16 a, .int .u16 b, .int .u8 f] w fun e w' =>
    e = .returned (.tuple #[.int .u16 ((a + b + f % 2) % 65536), .int .u8 (sumFi a b (f % 2))]) ∧ w = w' := by
  obtain ⟨a, rfl⟩ := Int.eq_ofNat_of_zero_le ha0
  obtain ⟨b, rfl⟩ := Int.eq_ofNat_of_zero_le hb0
  obtain ⟨f, rfl⟩ := Int.eq_ofNat_of_zero_le hf0
  have ha : a < 65536 := by omega
  have hb : b < 65536 := by omega
  have hf : f < 256 := by omega
  clear ha0 ha1 hb0 hb1 hf0 hf1
  go_enter Try.func14, Try.ntmps14
  go_wp2_with fail
  simp only [Kit.and8l, Kit.or8l, Kit.xor8l, Kit.andn8l, Kit.and16l, Kit.or16l, Kit.divl, Kit.modl, Kit.addn, Kit.muln, Kit.addl, Kit.mull, Kit.lmul, Kit.ladd, Kit.and8, Kit.or8, Kit.xor8, Kit.andn8, Kit.and16, Kit.or16, Kit.xor16, Kit.wrap16, Kit.wrap8, Kit.land8, Kit.lor8, Kit.lxor8, Kit.landn8, Kit.land16, Kit.lor16, Kit.lxor16]
  rw [Nat.mod_eq_of_lt hf, m1' f hf, Nat.mod_eq_of_lt (show f % 2 < 4294967296 by omega)]
  with_reducible refine (full_any _ _ _ (by omega) (by omega) (by omega) (by omega) (by omega) (by omega) _).mono ?_
  rintro e w' ⟨rfl, rfl⟩
  go_wp2
  go_ret2
  exact ⟨rfl, rfl⟩
theorem sbc_any (a b f : Int) (ha0 : 0 ≤ a) (ha1 : a < 65536) (hb0 : 0 ≤ b) (hb1 : b < 65536) (hf0 : 0 ≤ f) (hf1 : f < 256) (w : World) : Calls Try.prog 15 #[.int .u16 a, .int .u16 b, .int .u8 f] w fun e w' =>
    e = .returned (.tuple #[.int .u16 ((a - b - f % 2) % 65536), .int .u8 (subFi a b (f % 2))]) ∧ w = w' := by
  obtain ⟨a, rfl⟩ := Int.eq_ofNat_of_zero_le ha0
  obtain ⟨b, rfl⟩ := Int.eq_ofNat_of_zero_le hb0
  obtain ⟨f, rfl⟩ := Int.eq_ofNat_of_zero_le hf0
  have ha : a < 65536 := by omega
  have hb : b < 65536 := by omega
  have hf : f < 256 := by omega
  clear ha0 ha1 hb0 hb1 hf0 hf1
  obtain ⟨g, hg⟩ : ∃ g : Int, g = sumFi a (65535 - b : Nat) ((255 - f) % 2 : Nat) := ⟨_, rfl⟩
  obtain ⟨v, hv⟩ : ∃ v : Int, v = ((a : Int) + ((65535 - b : Nat) : Int) + (((255 - f) % 2 : Nat) : Int)) % 65536 := ⟨_, rfl⟩
  go_enter Try.func15, Try.ntmps15
  have HG := Lib.hid hg
  have HV := Lib.hid hv
  clear hg hv
  go_wp2_with fail
  rw [not16 b hb, not8 f hf]
  simp only [Kit.and8l, Kit.or8l, Kit.xor8l, Kit.andn8l, Kit.and16l, Kit.or16l, Kit.divl, Kit.modl, Kit.addn, Kit.muln, Kit.addl, Kit.mull, Kit.lmul, Kit.ladd, Kit.and8, Kit.or8, Kit.xor8, Kit.andn8, Kit.and16, Kit.or16, Kit.xor16, Kit.wrap16, Kit.wrap8, Kit.land8, Kit.lor8, Kit.lxor8, Kit.landn8, Kit.land16, Kit.lor16, Kit.lxor16]
  rw [Nat.mod_eq_of_lt (show 255 - f < 256 by omega), m1' (255 - f) (by omega), Nat.mod_eq_of_lt (show (255 - f) % 2 < 4294967296 by omega)]
  with_reducible refine (full_any _ _ _ (by omega) (by omega) (by omega) (by omega) (by omega) (by omega) _).mono ?_
  rintro e w' ⟨rfl, rfl⟩
  rw [← HG.out, ← HV.out]
  go_wp2
  go_ret2
  refine ⟨ret_int2 ?_ ?_, rfl⟩
  · rw [HV.out]; omega
  · rw [HG.out]
    rw [← sumF_int a (65535 - b) ((255 - f) % 2) ha (by omega) (Nat.mod_lt _ (by decide))]
    simp only [Kit.and8l, Kit.or8l, Kit.xor8l, Kit.andn8l, Kit.and16l, Kit.or16l, Kit.divl, Kit.modl, Kit.addn, Kit.muln, Kit.addl, Kit.mull, Kit.lmul, Kit.ladd, Kit.and8, Kit.or8, Kit.xor8, Kit.andn8, Kit.and16, Kit.or16, Kit.xor16, Kit.wrap16, Kit.wrap8, Kit.land8, Kit.lor8, Kit.lxor8, Kit.landn8, Kit.land16, Kit.lor16, Kit.lxor16]
    rw [sub_flags a b f ha hb hf]
    exact subF_int a b (f % 2) ha hb (Nat.mod_lt _ (by decide))
theorem shape_any (v : Int) (h0 : 0 ≤ v) (h1 : v < 65536) (w : World) : Calls Try.prog 26 #[.int .u16 v] w fun e w' =>
    e = .returned (.agg #[.bool (R06.bi (v / 256) 128), .bool (v == 0), .bool (R06.bi (v / 256) 32), .bool false, .bool (R06.bi (v / 256) 8), .bool false, .bool false, .bool false]) ∧ ∃ o1 o2 o3, w' = ((w.alloc o1).alloc o2).alloc o3 := by
  obtain ⟨v, rfl⟩ := Int.eq_ofNat_of_zero_le h0
  have hv : v < 65536 := by omega
  clear h0 h1
  go_enter Try.func26, Try.ntmps26
  go_wp2_with fail
  with_reducible refine (R06.shape_any (v / 256) (by omega) (by omega) _).mono ?_
  rintro e w' ⟨rfl, o, rfl⟩
  go_wp2
  go_returns
  exact ⟨rfl, _, _, _, rfl⟩
theorem modulo_any (n : Int) (h1 : -1000000 ≤ n) (h2 : n ≤ 1000000) (w : World) : Calls Try.prog 22 #[.int .i64 n] w fun e w' => e = .returned (.int .u16 (n % 65536)) ∧ w = w' := by
  go_enter Try.func22, Try.ntmps22
  go_wp2
  go_ret
  exact ⟨ret_int (modulo_eq n h1 h2), rfl⟩
set_option maxRecDepth 100000 in
theorem radd_any (a b f : Int) (ha0 : 0 ≤ a) (ha1 : a < 65536) (hb0 : 0 ≤ b) (hb1 : b < 65536) (hf0 : 0 ≤ f) (hf1 : f < 256) (w : World) : Calls Try.prog 17 #[.int .u16 a, .int .u16 b, .int .u8 f] w fun e w' =>
    e = .returned (.tuple #[.int .u16 ((a + b) % 65536), .int .u8 (addFi a b f)]) ∧ Below w.heap.size w w' := by
  go_enter Try.func17, Try.ntmps17
  go_wp2_with (first | (go_at_call 22; with_reducible refine (modulo_any _ (by omega) (by omega) _).mono ?_; rintro e w' ⟨rfl, rfl⟩) | (go_at_call 25; with_reducible refine (R06.of_any _ hf0 hf1 _).mono ?_; rintro e w' ⟨rfl, o1, rfl⟩) | (go_at_call 26; with_reducible refine (shape_any _ (by omega) (by omega) _).mono ?_; rintro e w' ⟨rfl, o2, o3, o4, rfl⟩) | (go_at_call 27; with_reducible refine (R06.byte_any _ _ _ _ _ _ _ _ _).mono ?_; rintro e w' ⟨rfl, o5, rfl⟩))
  all_goals
    go_ret2
    refine ⟨ret_int2 rfl ?_, by go_grown⟩
    first
    | rfl
    | (refine flags_eq rfl rfl rfl rfl rfl ?_ rfl rfl
       unfold ov sgn
       rw [Bool.eq_iff_iff]
       simp only [Bool.or_eq_true, decide_eq_true_eq]
       repeat' split
       all_goals (try simp only [true_iff])
       all_goals omega)
set_option maxRecDepth 100000 in
theorem radc_any (a b f : Int) (ha0 : 0 ≤ a) (ha1 : a < 65536) (hb0 : 0 ≤ b) (hb1 : b < 65536) (hf0 : 0 ≤ f) (hf1 : f < 256) (w : World) : Calls Try.prog 18 #[.int .u16 a, .int .u16 b, .int .u8 f] w fun e w' =>
    e = .returned (.tuple #[.int .u16 ((a + b + f % 2) % 65536), .int .u8 (sumFi a b (f % 2))]) ∧ Below w.heap.size w w' := by
  go_enter Try.func18, Try.ntmps18
  go_wp2_with (first | (go_at_call 22; with_reducible refine (modulo_any _ (by omega) (by omega) _).mono ?_; rintro e w' ⟨rfl, rfl⟩) | (go_at_call 26; with_reducible refine (shape_any _ (by omega) (by omega) _).mono ?_; rintro e w' ⟨rfl, o2, o3, o4, rfl⟩) | (go_at_call 27; with_reducible refine (R06.byte_any _ _ _ _ _ _ _ _ _).mono ?_; rintro e w' ⟨rfl, o5, rfl⟩) | go_in)
  all_goals
    go_ret2
    refine ⟨ret_int2 rfl ?_, by go_grown⟩
    first
    | rfl
    | (refine flags_eq rfl rfl rfl rfl rfl ?_ rfl rfl
       unfold ov sgn
       rw [Bool.eq_iff_iff]
       simp only [Bool.or_eq_true, decide_eq_true_eq]
       repeat' split
       all_goals (try simp only [true_iff])
       all_goals omega)
set_option maxRecDepth 100000 in
theorem rsbc_any (a b f : Int) (ha0 : 0 ≤ a) (ha1 : a < 65536) (hb0 : 0 ≤ b) (hb1 : b < 65536) (hf0 : 0 ≤ f) (hf1 : f < 256) (w : World) : Calls Try.prog 19 #[.int .u16 a, .int .u16 b, .int .u8 f] w fun e w' =>
    e = .returned (.tuple #[.int .u16 ((a - b - f % 2) % 65536), .int .u8 (subFi a b (f % 2))]) ∧ Below w.heap.size w w' := by
  go_enter Try.func19, Try.ntmps19
  go_wp2_with (first | (go_at_call 22; with_reducible refine (modulo_any _ (by omega) (by omega) _).mono ?_; rintro e w' ⟨rfl, rfl⟩) | (go_at_call 26; with_reducible refine (shape_any _ (by omega) (by omega) _).mono ?_; rintro e w' ⟨rfl, o2, o3, o4, rfl⟩) | (go_at_call 27; with_reducible refine (R06.byte_any _ _ _ _ _ _ _ _ _).mono ?_; rintro e w' ⟨rfl, o5, rfl⟩) | go_in)
  all_goals
    go_ret2
    refine ⟨ret_int2 rfl ?_, by go_grown⟩
    first
    | rfl
    | (refine flags_eq rfl rfl rfl rfl rfl ?_ rfl rfl
       unfold ov sgn
       rw [Bool.eq_iff_iff]
       simp only [Bool.or_eq_true, decide_eq_true_eq]
       repeat' split
       all_goals (try simp only [true_iff])
       all_goals omega)
end Pairs
end Go.Proofs.Ytoppnjkebmjdcaa
