/- A processor's sums of bytes (layer 6): what the program's functions answer. No conditions but that bytes are bytes. -/
import Derived.Test.YtjbdefidkgfijaaPop
namespace Go.Proofs.Ytjbdefidkgfijaa
open Go.RowKit
open Kit R06 Pop
set_option linter.unusedSimpArgs false
set_option linter.unusedVariables false
namespace Sums
def shF (v : Int) : Int := (flagsOf (bi v 128) (v == 0) (bi v 32) false (bi v 8) false false false : Nat)
def lgF (v : Int) (h : Bool) : Int := (flagsOf (bi v 128) (v == 0) (bi v 32) h (bi v 8) (par v) false false : Nat)
theorem beq0 (n : Nat) : Nat.beq n 0 = ((n : Int) == 0) := by rw [Bool.eq_iff_iff, Nat.beq_eq]; simp
theorem half_bit (a b c v : Nat) (ha : a < 256) (hb : b < 256) (hc : c < 2) (hv : v = (a + b + c) % 256) :
    bt (a ^^^ b ^^^ v) 16 = decide (15 < a % 16 + b % 16 + c) := by
  have e : (a ^^^ b ^^^ v) / 16 % 2 = (a / 16 ^^^ b / 16 ^^^ v / 16) % 2 := by
    have h : (a ^^^ b ^^^ v) / 2 ^ 4 = a / 2 ^ 4 ^^^ b / 2 ^ 4 ^^^ v / 2 ^ 4 := by rw [Nat.xor_div_two_pow, Nat.xor_div_two_pow]
    simp only [Nat.reducePow] at h
    rw [← h]
  have hv4 : v / 16 = (a / 16 + b / 16 + (a % 16 + b % 16 + c) / 16) % 16 := by omega
  have g : allB 16 (fun x => allB 16 fun y => allB 2 fun k => Nat.beq ((x ^^^ y ^^^ (x + y + k) % 16) % 2) k) = true := by decide +kernel
  have g' := Nat.eq_of_beq_eq_true (allB_at (allB_at (allB_at g (i := a / 16) (by omega)) (i := b / 16) (by omega)) (i := (a % 16 + b % 16 + c) / 16) (by omega))
  unfold bt
  rw [e, hv4, g', Bool.eq_iff_iff, Nat.beq_eq, decide_eq_true_eq]
  omega
theorem over_bit (a b c v : Nat) (ha : a < 256) (hb : b < 256) (hc : c < 2) (hv : v = (a + b + c) % 256) :
    bt (((a ^^^ v) &&& (b ^^^ v)) / 32) 4 = ov8 (sg8 a + sg8 b + c) := by
  have e : ((a ^^^ v) &&& (b ^^^ v)) / 32 / 4 % 2 = ((a / 128 ^^^ v / 128) &&& (b / 128 ^^^ v / 128)) % 2 := by
    have h : ((a ^^^ v) &&& (b ^^^ v)) / 2 ^ 7 = (a / 2 ^ 7 ^^^ v / 2 ^ 7) &&& (b / 2 ^ 7 ^^^ v / 2 ^ 7) := by rw [Nat.and_div_two_pow, Nat.xor_div_two_pow, Nat.xor_div_two_pow]
    simp only [Nat.reducePow] at h
    rw [← h]; omega
  have hv4 : v / 128 = (a / 128 + b / 128 + (a % 128 + b % 128 + c) / 128) % 2 := by omega
  have g : allB 2 (fun x => allB 2 fun y => allB 2 fun k => cond (Nat.beq (((x ^^^ (x + y + k) % 2) &&& (y ^^^ (x + y + k) % 2)) % 2) 1) (xor (Nat.beq k 1) (Nat.ble 2 (x + y + k))) (!(xor (Nat.beq k 1) (Nat.ble 2 (x + y + k))))) = true := by decide +kernel
  have g' := allB_at (allB_at (allB_at g (i := a / 128) (by omega)) (i := b / 128) (by omega)) (i := (a % 128 + b % 128 + c) / 128) (by omega)
  have hov : ov8 (sg8 a + sg8 b + c) = xor (Nat.beq ((a % 128 + b % 128 + c) / 128) 1) (Nat.ble 2 (a / 128 + b / 128 + (a % 128 + b % 128 + c) / 128)) := by
    unfold ov8 sg8
    rw [Bool.eq_iff_iff, Bool.or_eq_true, decide_eq_true_eq, decide_eq_true_eq, xor_iff, Nat.beq_eq, Nat.ble_eq]
    repeat' split
    all_goals omega
  unfold bt
  rw [e, hv4, hov]
  revert g'
  generalize xor (Nat.beq ((a % 128 + b % 128 + c) / 128) 1) (Nat.ble 2 (a / 128 + b / 128 + (a % 128 + b % 128 + c) / 128)) = z
  generalize Nat.beq (((a / 128 ^^^ (a / 128 + b / 128 + (a % 128 + b % 128 + c) / 128) % 2) &&& (b / 128 ^^^ (a / 128 + b / 128 + (a % 128 + b % 128 + c) / 128) % 2)) % 2) 1 = y
  cases y <;> cases z <;> simp

theorem shN : ∀ v, v < 256 → (v % 256 &&& 168 % 256 ||| (fl (Nat.beq v 0) 64) % 256) = flagsOf (bt v 128) (Nat.beq v 0) (bt v 32) false (bt v 8) false false false := byte_all _ _ (by decide +kernel)
theorem join5 : ∀ s z y x h c p : Bool, ((flagsOf s z y false x false false false ||| fl c 1) ||| fl h 16) ||| fl p 4 = flagsOf s z y h x p false c := by decide
theorem join2 : ∀ s z y x p : Bool, flagsOf s z y false x false false false ||| fl p 4 = flagsOf s z y false x p false false := by decide
theorem setH : ∀ s z y x p : Bool, flagsOf s z y false x p false false ||| 16 = flagsOf s z y true x p false false := by decide
theorem carry_bit (n : Nat) (hn : n < 512) : n / 256 = fl (decide ((255 : Int) < n)) 1 := by
  by_cases h : (255 : Int) < n
  · rw [decide_eq_true h]; show _ = 1; omega
  · rw [decide_eq_false h]; show _ = 0; omega
/-- A flag, if something is so. -/
def flg (f : Int) (b : Bool) : Int := cond b f 0
def incF (v g : Int) : Int := (flagsOf (bi ((v + 1) % 256) 128) ((v + 1) % 256 == 0) (bi ((v + 1) % 256) 32) (decide (15 < v % 16 + 1)) (bi ((v + 1) % 256) 8) (ov8 (sg8 v + 1)) false (bi g 1) : Nat)
def decF (v g : Int) : Int := (flagsOf (bi ((v - 1) % 256) 128) ((v - 1) % 256 == 0) (bi ((v - 1) % 256) 32) (decide (v % 16 - 1 < 0)) (bi ((v - 1) % 256) 8) (ov8 (sg8 v - 1)) true (bi g 1) : Nat)
def cmpF (a b : Int) : Int := (flagsOf (bi ((a - b) % 256) 128) ((a - b) % 256 == 0) (bi b 32) (decide (a % 16 - b % 16 < 0)) (bi b 8) (ov8 (sg8 a - sg8 b)) true (decide (a - b < 0)) : Nat)
theorem lgF_bd (v : Int) (h : Bool) : 0 ≤ lgF v h ∧ lgF v h < 256 := fi_lt ..
theorem shF_bd (v : Int) : 0 ≤ shF v ∧ shF v < 256 := fi_lt ..
theorem flip17 : ∀ s z y h x p c : Bool, (flagsOf s z y h x p false c % 256 ^^^ 17 % 256) ||| 2 % 256 = flagsOf s z y (!h) x p true (!c) := by decide
theorem noC : ∀ s z y h x p n c k : Bool, (flagsOf s z y h x p n c % 256 &&& (255 - 1 % 256)) ||| fl k 1 = flagsOf s z y h x p n k := by decide
theorem noYX : ∀ s z y h x p n c k j : Bool, (flagsOf s z y h x p n c % 256 &&& (255 - 40 % 256)) ||| (fl k 32 + fl j 8) = flagsOf s z k h j p n c := by decide +kernel
def mend (v : Nat) (h c : Bool) : Nat := cond (h || decide (9 < v % 16)) 6 0 + cond (c || decide (153 < v)) 96 0
def daaV (v : Nat) (h c n : Bool) : Nat := cond n ((v + 256 - mend v h c) % 256) ((v + mend v h c) % 256)
def daaF (v : Nat) (h c n : Bool) : Nat := flagsOf (bt (daaV v h c n) 128) (Nat.beq (daaV v h c n) 0) (bt (daaV v h c n) 32) (xor (bt v 16) (bt (daaV v h c n) 16)) (bt (daaV v h c n) 8) (parN (daaV v h c n)) n (c || decide (153 < v))
def daaVi (v g : Int) : Int := (daaV v.toNat (bi g 16) (bi g 1) (bi g 2) : Nat)
def daaFi (v g : Int) : Int := (daaF v.toNat (bi g 16) (bi g 1) (bi g 2) : Nat)
def flV (o v : Int) : Int := if o = 0 then 255 - v else v
def flF (o v g : Int) : Int :=
  if o = 0 then (flagsOf (bi g 128) (bi g 64) (bi (255 - v) 32) true (bi (255 - v) 8) (bi g 4) true (bi g 1) : Nat)
  else if o = 1 then (flagsOf (bi g 128) (bi g 64) (bi v 32) false (bi v 8) (bi g 4) false true : Nat)
  else if o = 2 then (flagsOf (bi g 128) (bi g 64) (bi v 32) (bi g 1) (bi v 8) (bi g 4) false (!(bi g 1)) : Nat)
  else g
theorem half_bit' (a b c : Nat) (ha : a < 256) (hb : b < 256) (hc : c < 2) : bt (a ^^^ b ^^^ (a + b + c) % 256) 16 = decide ((15 : Int) < (a % 16 + b % 16 + c : Nat)) := by
  rw [half_bit a b c _ ha hb hc rfl, decide_eq_decide]; omega
theorem join5m : ∀ s z y x h c p : Bool, ((flagsOf s z y false x false false false ||| fl c 1) ||| fl h 16) % 256 ||| fl p 4 = flagsOf s z y h x p false c := by decide +kernel
theorem add_flags (a b k : Nat) (ha : a < 256) (hb : b < 256) (hk : k < 2) : (((flagsOf (bt ((a + b + k) % 256) 128) (Nat.beq ((a + b + k) % 256) 0) (bt ((a + b + k) % 256) 32) false (bt ((a + b + k) % 256) 8) false false false % 256 |||
    (a + b + k) / 256 % 256 ||| (a % 256 ^^^ b % 256 ^^^ (a + b + k) % 256 % 256) % 256 &&& 16 % 256) % 256 |||
    ((a % 256 ^^^ (a + b + k) % 256 % 256) &&& (b % 256 ^^^ (a + b + k) % 256 % 256)) / 32 % 256 &&& 4 % 256)) =
    flagsOf (bt ((a + b + k) % 256) 128) (Nat.beq ((a + b + k) % 256) 0) (bt ((a + b + k) % 256) 32) (decide ((15 : Int) < (a % 16 + b % 16 + k : Nat))) (bt ((a + b + k) % 256) 8) (ov8 (sg8 a + sg8 b + k)) false (decide ((255 : Int) < (a + b + k : Nat))) := by
  have l1 : (a ^^^ b ^^^ (a + b + k) % 256) < 256 := Nat.xor_lt_two_pow (n := 8) (Nat.xor_lt_two_pow (n := 8) ha hb) (by omega)
  have l2 : ((a ^^^ (a + b + k) % 256) &&& (b ^^^ (a + b + k) % 256)) < 256 := Nat.and_lt_two_pow (n := 8) _ (Nat.xor_lt_two_pow (n := 8) hb (by omega))
  rw [Nat.mod_eq_of_lt (flagsOf_lt ..), Nat.mod_mod, Nat.mod_eq_of_lt ha, Nat.mod_eq_of_lt hb, Nat.mod_eq_of_lt l1, show (a + b + k) / 256 % 256 = (a + b + k) / 256 from by omega, m16 _ l1,
    Nat.mod_eq_of_lt (show ((a ^^^ (a + b + k) % 256) &&& (b ^^^ (a + b + k) % 256)) / 32 < 256 by omega), m4 _ (show ((a ^^^ (a + b + k) % 256) &&& (b ^^^ (a + b + k) % 256)) / 32 < 256 by omega),
    half_bit' a b k ha hb hk, over_bit a b k _ ha hb hk rfl, carry_bit _ (by omega), join5m]
theorem c01_not (c : Bool) : c01 (!c) = 1 - c01 c := by cases c <;> rfl
theorem c01_bd (c : Bool) : 0 ≤ c01 c ∧ c01 c ≤ 1 := by cases c <;> decide
theorem sub_flags (a b : Nat) (c : Bool) (ha : a < 256) (hb : b < 256) : Go.bits .or .u8 (Go.bits .xor .u8 (add8F a (255 - b : Nat) (c01 (!c))) 17) 2 = sub8F a b (c01 c) := by
  have hc := c01_bd c
  unfold add8F sub8F
  simp only [Kit.and8l, Kit.or8l, Kit.xor8l, Kit.andn8l, Kit.and16l, Kit.or16l, Kit.divl, Kit.modl, Kit.addn, Kit.muln, Kit.addl, Kit.mull, Kit.lmul, Kit.ladd, Kit.and8, Kit.or8, Kit.xor8, Kit.andn8, Kit.and16, Kit.or16, Kit.xor16, Kit.wrap16, Kit.wrap8, Kit.land8, Kit.lor8, Kit.lxor8, Kit.landn8, Kit.land16, Kit.lor16, Kit.lxor16]
  rw [flip17, c01_not]
  have e : (((a + (255 - b) : Nat) : Int) + (1 - c01 c)) % 256 = ((a : Int) - b - c01 c) % 256 := by omega
  refine flags_eq ?_ ?_ ?_ ?_ ?_ ?_ rfl ?_
  · rw [e]
  · rw [e]
  · rw [e]
  · rw [← decide_not, decide_eq_decide]; omega
  · rw [e]
  · unfold ov8 sg8
    rw [Bool.eq_iff_iff]
    simp only [Bool.or_eq_true, decide_eq_true_eq]
    repeat' split
    all_goals omega
  · rw [← decide_not, decide_eq_decide]; omega
theorem logic_flags (v : Nat) (hv : v < 256) (p : Bool) : Go.bits .or .u8 (shF v) (flg 4 p) = (flagsOf (bt v 128) (Nat.beq v 0) (bt v 32) false (bt v 8) p false false : Nat) := by
  unfold shF
  simp only [bi_cast, ← beq0]
  generalize bt v 128 = s
  generalize Nat.beq v 0 = z
  generalize bt v 32 = y
  generalize bt v 8 = x
  revert s z y x p; decide +kernel
theorem or16F : ∀ s z y x p : Bool, Go.bits .or .u8 ((flagsOf s z y false x p false false : Nat) : Int) 16 = (flagsOf s z y true x p false false : Nat) := by decide +kernel
theorem and_bd (op : BinOp) (a b : Int) : 0 ≤ Go.bits op .u8 a b ∧ Go.bits op .u8 a b < 256 := by
  have h := IntKind.wrap_u8
  show 0 ≤ IntKind.u8.wrap _ ∧ IntKind.u8.wrap _ < 256
  rw [h]; omega
theorem one_more (v g : Nat) (hv : v < 256) (hg : g < 256) : Go.bits .or .u8 (Go.bits .andNot .u8 (add8F v 1 (c01 false)) 1) (Go.bits .and .u8 g 1) = incF v g := by
  unfold add8F incF
  simp only [Kit.and8l, Kit.or8l, Kit.xor8l, Kit.andn8l, Kit.and16l, Kit.or16l, Kit.divl, Kit.modl, Kit.addn, Kit.muln, Kit.addl, Kit.mull, Kit.lmul, Kit.ladd, Kit.and8, Kit.or8, Kit.xor8, Kit.andn8, Kit.and16, Kit.or16, Kit.xor16, Kit.wrap16, Kit.wrap8, Kit.land8, Kit.lor8, Kit.lxor8, Kit.landn8, Kit.land16, Kit.lor16, Kit.lxor16, bi_cast]
  rw [Nat.mod_eq_of_lt hg, m1 g hg, noC]
  simp only [show c01 false = 0 from rfl, Int.add_zero, show sg8 1 = 1 from by decide, show (1 : Int) % 16 = 1 from by decide]
  rfl
theorem one_less (v g : Nat) (hv : v < 256) (hg : g < 256) : Go.bits .or .u8 (Go.bits .andNot .u8 (sub8F v 1 (c01 false)) 1) (Go.bits .and .u8 g 1) = decF v g := by
  unfold sub8F decF
  simp only [Kit.and8l, Kit.or8l, Kit.xor8l, Kit.andn8l, Kit.and16l, Kit.or16l, Kit.divl, Kit.modl, Kit.addn, Kit.muln, Kit.addl, Kit.mull, Kit.lmul, Kit.ladd, Kit.and8, Kit.or8, Kit.xor8, Kit.andn8, Kit.and16, Kit.or16, Kit.xor16, Kit.wrap16, Kit.wrap8, Kit.land8, Kit.lor8, Kit.lxor8, Kit.landn8, Kit.land16, Kit.lor16, Kit.lxor16, bi_cast]
  rw [Nat.mod_eq_of_lt hg, m1 g hg, noC]
  simp only [show c01 false = 0 from rfl, Int.sub_zero, show sg8 1 = 1 from by decide, show (1 : Int) % 16 = 1 from by decide]
theorem cmp_flags (a b : Nat) (ha : a < 256) (hb : b < 256) : Go.bits .or .u8 (Go.bits .andNot .u8 (sub8F a b (c01 false)) 40) (Go.bits .and .u8 b 40) = cmpF a b := by
  unfold sub8F cmpF
  simp only [Kit.and8l, Kit.or8l, Kit.xor8l, Kit.andn8l, Kit.and16l, Kit.or16l, Kit.divl, Kit.modl, Kit.addn, Kit.muln, Kit.addl, Kit.mull, Kit.lmul, Kit.ladd, Kit.and8, Kit.or8, Kit.xor8, Kit.andn8, Kit.and16, Kit.or16, Kit.xor16, Kit.wrap16, Kit.wrap8, Kit.land8, Kit.lor8, Kit.lxor8, Kit.landn8, Kit.land16, Kit.lor16, Kit.lxor16, bi_cast]
  rw [Nat.mod_eq_of_lt hb, m40 b hb, noYX]
  simp only [show c01 false = 0 from rfl, Int.sub_zero]
theorem m2 : ∀ v, v < 256 → v &&& 2 = fl (bt v 2) 2 := byte_all _ _ (by decide +kernel)
theorem bitv1 (g : Nat) (hg : g < 256) (b : Bool) (h : bt g 1 = b) : Go.bits .and .u8 (g : Int) 1 = (cond b 1 0 : Int) := by
  simp only [Kit.and8l, Kit.or8l, Kit.xor8l, Kit.andn8l, Kit.and16l, Kit.or16l, Kit.divl, Kit.modl, Kit.addn, Kit.muln, Kit.addl, Kit.mull, Kit.lmul, Kit.ladd, Kit.and8, Kit.or8, Kit.xor8, Kit.andn8, Kit.and16, Kit.or16, Kit.xor16, Kit.wrap16, Kit.wrap8, Kit.land8, Kit.lor8, Kit.lxor8, Kit.landn8, Kit.land16, Kit.lor16, Kit.lxor16]
  rw [Nat.mod_eq_of_lt hg, m1 g hg, h]; cases b <;> rfl
theorem bitv2 (g : Nat) (hg : g < 256) (b : Bool) (h : bt g 2 = b) : Go.bits .and .u8 (g : Int) 2 = (cond b 2 0 : Int) := by
  simp only [Kit.and8l, Kit.or8l, Kit.xor8l, Kit.andn8l, Kit.and16l, Kit.or16l, Kit.divl, Kit.modl, Kit.addn, Kit.muln, Kit.addl, Kit.mull, Kit.lmul, Kit.ladd, Kit.and8, Kit.or8, Kit.xor8, Kit.andn8, Kit.and16, Kit.or16, Kit.xor16, Kit.wrap16, Kit.wrap8, Kit.land8, Kit.lor8, Kit.lxor8, Kit.landn8, Kit.land16, Kit.lor16, Kit.lxor16]
  rw [Nat.mod_eq_of_lt hg, m2 g hg, h]; cases b <;> rfl
theorem bitv16 (g : Nat) (hg : g < 256) (b : Bool) (h : bt g 16 = b) : Go.bits .and .u8 (g : Int) 16 = (cond b 16 0 : Int) := by
  simp only [Kit.and8l, Kit.or8l, Kit.xor8l, Kit.andn8l, Kit.and16l, Kit.or16l, Kit.divl, Kit.modl, Kit.addn, Kit.muln, Kit.addl, Kit.mull, Kit.lmul, Kit.ladd, Kit.and8, Kit.or8, Kit.xor8, Kit.andn8, Kit.and16, Kit.or16, Kit.xor16, Kit.wrap16, Kit.wrap8, Kit.land8, Kit.lor8, Kit.lxor8, Kit.landn8, Kit.land16, Kit.lor16, Kit.lxor16]
  rw [Nat.mod_eq_of_lt hg, m16 g hg, h]; cases b <;> rfl
theorem mend_eq : ∀ h c : Bool, Go.bits .or .u8 (flg 6 h) (flg 96 c) = ((cond h 6 0 + cond c 96 0 : Nat) : Int) := by decide +kernel
theorem xor_bit (v u : Nat) (hv : v < 256) (hu : u < 256) : (v ^^^ u) &&& 16 = fl (xor (bt v 16) (bt u 16)) 16 := by
  have h : (v ^^^ u) < 256 := Nat.xor_lt_two_pow (n := 8) hv hu
  rw [m16 _ h]
  have e : (v ^^^ u) / 16 % 2 = (v / 16 % 2 + u / 16 % 2) % 2 := by
    have h : (v ^^^ u) / 2 ^ 4 = v / 2 ^ 4 ^^^ u / 2 ^ 4 := Nat.xor_div_two_pow
    simp only [Nat.reducePow] at h
    rw [h]
    have g : allB 16 (fun x => allB 16 fun y => Nat.beq ((x ^^^ y) % 2) ((x % 2 + y % 2) % 2)) = true := by decide +kernel
    exact Nat.eq_of_beq_eq_true (allB_at (allB_at g (i := v / 16) (by omega)) (i := u / 16) (by omega))
  unfold bt
  rw [e]
  rcases (show v / 16 % 2 = 0 ∨ v / 16 % 2 = 1 by omega) with h1 | h1 <;> rcases (show u / 16 % 2 = 0 ∨ u / 16 % 2 = 1 by omega) with h2 | h2 <;> rw [h1, h2] <;> rfl
theorem daa_join : ∀ s z y x p n c h : Bool, Go.bits .or .u8 (Go.bits .or .u8 (Go.bits .or .u8 ((flagsOf s z y false x p false false : Nat) : Int) (cond n 2 0)) (flg 1 c)) ((fl h 16 : Nat) : Int) = (flagsOf s z y h x p n c : Nat) := by decide +kernel
theorem daa_flags (v u : Nat) (hv : v < 256) (hu : u < 256) (n c : Bool) :
    Go.bits .or .u8 (Go.bits .or .u8 (Go.bits .or .u8 (lgF u false) (cond n 2 0)) (flg 1 c)) (Go.bits .and .u8 (Go.bits .xor .u8 v u) 16) =
      (flagsOf (bt u 128) (Nat.beq u 0) (bt u 32) (xor (bt v 16) (bt u 16)) (bt u 8) (parN u) n c : Nat) := by
  have e : Go.bits .and .u8 (Go.bits .xor .u8 v u) 16 = ((fl (xor (bt v 16) (bt u 16)) 16 : Nat) : Int) := by
    simp only [Kit.and8l, Kit.or8l, Kit.xor8l, Kit.andn8l, Kit.and16l, Kit.or16l, Kit.divl, Kit.modl, Kit.addn, Kit.muln, Kit.addl, Kit.mull, Kit.lmul, Kit.ladd, Kit.and8, Kit.or8, Kit.xor8, Kit.andn8, Kit.and16, Kit.or16, Kit.xor16, Kit.wrap16, Kit.wrap8, Kit.land8, Kit.lor8, Kit.lxor8, Kit.landn8, Kit.land16, Kit.lor16, Kit.lxor16]
    rw [Nat.mod_eq_of_lt hv, Nat.mod_eq_of_lt hu, show (16 % 256) = 16 from rfl, xor_bit v u hv hu]
  rw [e]
  unfold lgF
  simp only [bi_cast, ← beq0]
  exact daa_join ..
theorem flip0 : ∀ gs gz gp gc vy vx : Bool, Go.bits .or .u8 (((flagsOf gs gz false false false gp false gc % 256 ||| 16 % 256) ||| 2 % 256 : Nat) : Int) ((fl vy 32 + fl vx 8 : Nat) : Int) = (flagsOf gs gz vy true vx gp true gc : Nat) := by decide +kernel
theorem mend_val (v : Nat) (h c hb cb : Bool) (e1 : hb = (h || decide (9 < v % 16))) (e2 : cb = (c || decide (153 < v))) : Go.bits .or .u8 (flg 6 hb) (flg 96 cb) = ((mend v h c : Nat) : Int) := by
  subst e1 e2
  exact mend_eq _ _
theorem mend_lt (v : Nat) (h c : Bool) : mend v h c < 103 := by
  unfold mend
  cases (h || decide (9 < v % 16)) <;> cases (c || decide (153 < v)) <;> decide
theorem mend_96 (v : Nat) (h c : Bool) : decide ((96 : Int) ≤ (mend v h c : Nat)) = (c || decide (153 < v)) := by
  unfold mend
  cases (h || decide (9 < v % 16)) <;> cases (c || decide (153 < v)) <;> decide
theorem dec9 (v : Nat) : decide ((9 : Int) < (v : Int) % 16) = (false || decide (9 < v % 16)) := by rw [Bool.false_or, decide_eq_decide]; omega
theorem dec153 (v : Nat) : decide ((153 : Int) < (v : Int)) = (false || decide (153 < v)) := by rw [Bool.false_or, decide_eq_decide]; omega
theorem daaV_lt (v : Nat) (h c n : Bool) : daaV v h c n < 256 := by unfold daaV; cases n <;> simp only [cond_true, cond_false] <;> omega
theorem daaV_add (v : Nat) (h c : Bool) : ((v : Int) + (mend v h c : Nat)) % 256 = (daaV v h c false : Nat) := by unfold daaV; simp only [cond_false]; omega
theorem daaV_sub (v : Nat) (h c : Bool) : ((v : Int) - (mend v h c : Nat)) % 256 = (daaV v h c true : Nat) := by
  have := mend_lt v h c
  unfold daaV; simp only [cond_true]; omega
theorem join_f0 : ∀ gs gz gp gc vy vx : Bool, (((fl gs 128 + (fl gz 64 + fl gp 4) ||| fl gc 1) % 256 ||| 16 % 256 ||| 2 % 256) % 256 ||| (fl vy 32 + fl vx 8)) = flagsOf gs gz vy true vx gp true gc := by decide +kernel
theorem join_f1 : ∀ gs gz gp vy vx : Bool, ((fl gs 128 + (fl gz 64 + fl gp 4) ||| 1 % 256) % 256 ||| (fl vy 32 + fl vx 8)) = flagsOf gs gz vy false vx gp false true := by decide +kernel
theorem join_f2 : ∀ gs gz gp vy vx c : Bool, Go.bits .or .u8 (Go.bits .or .u8 (Go.bits .or .u8 ((fl gs 128 + (fl gz 64 + fl gp 4) : Nat) : Int) (flg 1 (!c))) (flg 16 c)) ((fl vy 32 + fl vx 8 : Nat) : Int) = (flagsOf gs gz vy c vx gp false (!c) : Nat) := by decide +kernel
theorem flip_0 (v g : Nat) (hv : v < 256) (hg : g < 256) : ((((g % 256 &&& 196 % 256 ||| g % 256 &&& 1 % 256) % 256 ||| 16 % 256 ||| 2 % 256) % 256 ||| (255 - v) % 256 &&& 40 % 256 : Nat) : Int) = flF 0 v g := by
  unfold flF
  rw [if_pos rfl, show (255 : Int) - v = ((255 - v : Nat) : Int) from by omega]
  simp only [bi_cast]
  rw [Nat.mod_eq_of_lt hg, Nat.mod_eq_of_lt (show 255 - v < 256 by omega), show (196 % 256) = 196 from rfl, show (40 % 256) = 40 from rfl, m196 g hg, show (1 % 256) = 1 from rfl, m1 g hg, m40 (255 - v) (by omega), join_f0]
theorem flip_1 (v g : Nat) (hv : v < 256) (hg : g < 256) : (((g % 256 &&& 196 % 256 ||| 1 % 256) % 256 ||| v % 256 &&& 40 % 256 : Nat) : Int) = flF 1 v g := by
  unfold flF
  rw [if_neg (by decide), if_pos rfl]
  simp only [bi_cast]
  rw [Nat.mod_eq_of_lt hg, Nat.mod_eq_of_lt hv, show (196 % 256) = 196 from rfl, show (40 % 256) = 40 from rfl, m196 g hg, m40 v hv, join_f1]
theorem flip_2 (v g : Nat) (hv : v < 256) (hg : g < 256) (c d : Bool) (hc : bt g 1 = c) (hd : d = !c) : Go.bits .or .u8 (Go.bits .or .u8 (Go.bits .or .u8 ((g % 256 &&& 196 % 256 : Nat) : Int) (flg 1 d)) (flg 16 c)) ((v % 256 &&& 40 % 256 : Nat) : Int) = flF 2 v g := by
  subst hd
  unfold flF
  rw [if_neg (by decide), if_neg (by decide), if_pos rfl]
  simp only [bi_cast]
  rw [hc, Nat.mod_eq_of_lt hg, Nat.mod_eq_of_lt hv, show (196 % 256) = 196 from rfl, show (40 % 256) = 40 from rfl, m196 g hg, m40 v hv, join_f2]
/-- One of eight sums: the byte. -/
def doV (k a b g : Int) : Int :=
  if k = 0 then (a + b) % 256 else if k = 1 then (a + b + c01 (bi g 1)) % 256 else if k = 2 then (a - b) % 256 else if k = 3 then (a - b - c01 (bi g 1)) % 256
  else if k = 4 then Go.bits .and .u8 a b else if k = 5 then Go.bits .xor .u8 a b else if k = 6 then Go.bits .or .u8 a b else a
/-- The flags. -/
def doF (k a b g : Int) : Int :=
  if k = 0 then add8F a b 0 else if k = 1 then add8F a b (c01 (bi g 1)) else if k = 2 then sub8F a b 0 else if k = 3 then sub8F a b (c01 (bi g 1))
  else if k = 4 then lgF (Go.bits .and .u8 a b) true else if k = 5 then lgF (Go.bits .xor .u8 a b) false else if k = 6 then lgF (Go.bits .or .u8 a b) false else cmpF a b
theorem g1_ne (g : Int) (h0 : 0 ≤ g) (h1 : g < 256) : (Go.bits .and .u8 g 1 != 0) = bi g 1 := by
  obtain ⟨g, rfl⟩ := Int.eq_ofNat_of_zero_le h0
  rw [bitv1 g (by omega) _ rfl, bi_cast]
  cases bt g 1 <;> rfl
theorem flag_any (x : Int) (b : Bool) (w : World) : Calls Try.prog 29 #[.int .u8 x, .bool b] w fun e w' => e = .returned (.int .u8 (flg x b)) ∧ w = w' := by
  cases b
  all_goals
    go_enter Try.func29, Try.ntmps29
    go_wp2
    go_ret
    exact ⟨rfl, rfl⟩
theorem bit_any (c : Bool) (k : Nat) (h : c01 c = k) (w : World) : Calls Try.prog 31 #[.bool c] w fun e w' => e = .returned (.int .u16 k) ∧ w = w' := by
  cases c
  · have : k = 0 := by have : (0 : Int) = k := h; omega
    subst this
    go_enter Try.func31, Try.ntmps31
    go_wp2
    go_ret
    exact ⟨rfl, rfl⟩
  · have : k = 1 := by have : (1 : Int) = k := h; omega
    subst this
    go_enter Try.func31, Try.ntmps31
    go_wp2
    go_ret
    exact ⟨rfl, rfl⟩
theorem shape_any (v : Int) (hv0 : 0 ≤ v) (hv1 : v < 256) (w : World) : Calls Try.prog 22 #[.int .u8 v] w fun e w' => e = .returned (.int .u8 (shF v)) ∧ w = w' := by
  obtain ⟨v, rfl⟩ := Int.eq_ofNat_of_zero_le hv0
  have hv : v < 256 := by omega
  clear hv0 hv1
  go_enter Try.func22, Try.ntmps22
  go_wp2
  · rename_i hz
    go_ret
    refine ⟨ret_int ?_, rfl⟩
    have hz' : v = 0 := by have h := beq_iff_eq.mp hz; omega
    subst hz'
    decide +kernel
  · rename_i hz
    go_ret
    refine ⟨ret_int ?_, rfl⟩
    have e := shN v hv
    rw [beq0, hz] at e
    simp only [Kit.and8l, Kit.or8l, Kit.xor8l, Kit.andn8l, Kit.and16l, Kit.or16l, Kit.divl, Kit.modl, Kit.addn, Kit.muln, Kit.addl, Kit.mull, Kit.lmul, Kit.ladd, Kit.and8, Kit.or8, Kit.xor8, Kit.andn8, Kit.and16, Kit.or16, Kit.xor16, Kit.wrap16, Kit.wrap8, Kit.land8, Kit.lor8, Kit.lxor8, Kit.landn8, Kit.land16, Kit.lor16, Kit.lxor16]
    unfold shF
    rw [hz]
    simp only [bi_cast]
    rw [← e]
    rfl
theorem add_any (a b : Int) (c : Bool) (ha0 : 0 ≤ a) (ha1 : a < 256) (hb0 : 0 ≤ b) (hb1 : b < 256) (w : World) : Calls Try.prog 26 #[.int .u8 a, .int .u8 b, .bool c] w fun e w' => e = .returned (.tuple #[.int .u8 ((a + b + c01 c) % 256), .int .u8 (add8F a b (c01 c))]) ∧ w = w' := by
  obtain ⟨a, rfl⟩ := Int.eq_ofNat_of_zero_le ha0
  obtain ⟨b, rfl⟩ := Int.eq_ofNat_of_zero_le hb0
  have ha : a < 256 := by omega
  have hb : b < 256 := by omega
  clear ha0 ha1 hb0 hb1
  obtain ⟨k, hk, hk2⟩ : ∃ k : Nat, c01 c = k ∧ k < 2 := by
    cases c
    · exact ⟨0, rfl, by decide⟩
    · exact ⟨1, rfl, by decide⟩
  rw [hk]
  have HK := Lib.hid hk
  clear hk
  go_enter Try.func26, Try.ntmps26
  go_wp2_with (first | (go_at_call 31; with_reducible refine (bit_any c k HK.out _).mono ?_; rintro e w' ⟨rfl, rfl⟩) | (go_at_call 22; with_reducible refine (shape_any _ (by omega) (by omega) _).mono ?_; rintro e w' ⟨rfl, rfl⟩))
  go_ret2
  refine ⟨ret_int2 rfl ?_, rfl⟩
  unfold shF add8F
  simp only [Kit.and8l, Kit.or8l, Kit.xor8l, Kit.andn8l, Kit.and16l, Kit.or16l, Kit.divl, Kit.modl, Kit.addn, Kit.muln, Kit.addl, Kit.mull, Kit.lmul, Kit.ladd, Kit.and8, Kit.or8, Kit.xor8, Kit.andn8, Kit.and16, Kit.or16, Kit.xor16, Kit.wrap16, Kit.wrap8, Kit.land8, Kit.lor8, Kit.lxor8, Kit.landn8, Kit.land16, Kit.lor16, Kit.lxor16, bi_cast, ← beq0]
  rw [add_flags a b k ha hb hk2]
theorem sub_any (a b : Int) (c : Bool) (ha0 : 0 ≤ a) (ha1 : a < 256) (hb0 : 0 ≤ b) (hb1 : b < 256) (w : World) : Calls Try.prog 20 #[.int .u8 a, .int .u8 b, .bool c] w fun e w' => e = .returned (.tuple #[.int .u8 ((a - b - c01 c) % 256), .int .u8 (sub8F a b (c01 c))]) ∧ w = w' := by
  obtain ⟨a, rfl⟩ := Int.eq_ofNat_of_zero_le ha0
  obtain ⟨b, rfl⟩ := Int.eq_ofNat_of_zero_le hb0
  have ha : a < 256 := by omega
  have hb : b < 256 := by omega
  clear ha0 ha1 hb0 hb1
  obtain ⟨g, hg⟩ : ∃ g : Int, g = add8F a (255 - b : Nat) (c01 (!c)) := ⟨_, rfl⟩
  obtain ⟨v, hv⟩ : ∃ v : Int, v = ((a : Int) + (255 - b : Nat) + c01 (!c)) % 256 := ⟨_, rfl⟩
  have HG := Lib.hid hg
  have HV := Lib.hid hv
  clear hg hv
  go_enter Try.func20, Try.ntmps20
  go_wp2_with fail
  rw [not8 b hb]
  with_reducible refine (add_any _ _ _ (by omega) (by omega) (by omega) (by omega) _).mono ?_
  rintro e w' ⟨rfl, rfl⟩
  rw [← HG.out, ← HV.out]
  go_wp2
  go_ret2
  refine ⟨ret_int2 ?_ ?_, rfl⟩
  · have hc := c01_bd c
    rw [HV.out, c01_not]; omega
  · rw [HG.out]; exact sub_flags a b c ha hb
end Sums
end Go.Proofs.Ytjbdefidkgfijaa
