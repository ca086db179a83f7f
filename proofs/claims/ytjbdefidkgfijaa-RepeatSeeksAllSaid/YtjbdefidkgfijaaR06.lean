/- What the reference's functions on flags and bytes (layer 6) answer, each for every input. No conditions but that bytes are bytes. -/
import Derived.Test.YtjbdefidkgfijaaKit
namespace Go.Proofs.Ytjbdefidkgfijaa
open Go.RowKit
set_option linter.unusedSimpArgs false
set_option linter.unusedVariables false
namespace R06
open Kit
def b2 (acc : Nat) (b : Bool) : Nat := 2 * acc + b.toNat
def upto (l : List Bool) (k : Nat) : Nat := (l.take k).foldl b2 0
theorem upto_succ (l : List Bool) (k : Nat) (b : Bool) (h : l[k]? = some b) : upto l (k + 1) = 2 * upto l k + b.toNat := by
  unfold upto
  rw [List.take_add_one, h]
  simp [b2]
theorem upto_lt (l : List Bool) : ∀ k, upto l k < 2 ^ k
  | 0 => by simp [upto]
  | k + 1 => by
    have ih := upto_lt l k
    cases h : l[k]? with
    | none =>
      unfold upto at ih ⊢
      rw [List.take_add_one, h]; simp; omega
    | some b => rw [upto_succ l k b h]; cases b <;> simp <;> omega
theorem upto_flagsOf (s z y h x p n c : Bool) : upto [s,z,y,h,x,p,n,c] 8 = flagsOf s z y h x p n c := by
  revert s z y h x p n c; decide
/-- One round: the number so far, twice, and one more where the flag is set. -/
theorem round_ {l : List Bool} {k : Nat} (b : Bool) (h : l[k]? = some b) (hk : k < 8) :
    Value.int .u8 (bif b then 2 * (upto l k : Int) % 256 + 1 else 2 * (upto l k : Int) % 256) = Value.int .u8 (upto l (k + 1) : Nat) := by
  have h1 := upto_lt l k
  have h2 : (2 : Nat) ^ k ≤ 2 ^ 7 := Nat.pow_le_pow_right (by decide) (by omega)
  rw [upto_succ l k b h]
  cases b <;> simp <;> omega
theorem byte_any (s z y h x p n c : Bool) (w : World) : Calls Try.prog 19 #[.agg #[.bool s, .bool z, .bool y, .bool h, .bool x, .bool p, .bool n, .bool c]] w fun e w' => e = .returned (.int .u8 (flagsOf s z y h x p n c : Nat)) ∧ ∃ o, w' = w.alloc o := by
  rw [← upto_flagsOf]
  obtain ⟨v, hv⟩ : ∃ v, v = Value.agg #[.bool s, .bool z, .bool y, .bool h, .bool x, .bool p, .bool n, .bool c] := ⟨_, rfl⟩
  obtain ⟨l, hl⟩ : ∃ l, l = [s,z,y,h,x,p,n,c] := ⟨_, rfl⟩
  have i0 : ∀ w, (Instr.index 43 (.agg #[.bool s, .bool z, .bool y, .bool h, .bool x, .bool p, .bool n, .bool c]) (.int .i64 0)).run Try.prog w = .ok (.bool s) w := fun _ => by kernel_rfl
  have i1 : ∀ w, (Instr.index 43 (.agg #[.bool s, .bool z, .bool y, .bool h, .bool x, .bool p, .bool n, .bool c]) (.int .i64 1)).run Try.prog w = .ok (.bool z) w := fun _ => by kernel_rfl
  have i2 : ∀ w, (Instr.index 43 (.agg #[.bool s, .bool z, .bool y, .bool h, .bool x, .bool p, .bool n, .bool c]) (.int .i64 2)).run Try.prog w = .ok (.bool y) w := fun _ => by kernel_rfl
  have i3 : ∀ w, (Instr.index 43 (.agg #[.bool s, .bool z, .bool y, .bool h, .bool x, .bool p, .bool n, .bool c]) (.int .i64 3)).run Try.prog w = .ok (.bool h) w := fun _ => by kernel_rfl
  have i4 : ∀ w, (Instr.index 43 (.agg #[.bool s, .bool z, .bool y, .bool h, .bool x, .bool p, .bool n, .bool c]) (.int .i64 4)).run Try.prog w = .ok (.bool x) w := fun _ => by kernel_rfl
  have i5 : ∀ w, (Instr.index 43 (.agg #[.bool s, .bool z, .bool y, .bool h, .bool x, .bool p, .bool n, .bool c]) (.int .i64 5)).run Try.prog w = .ok (.bool p) w := fun _ => by kernel_rfl
  have i6 : ∀ w, (Instr.index 43 (.agg #[.bool s, .bool z, .bool y, .bool h, .bool x, .bool p, .bool n, .bool c]) (.int .i64 6)).run Try.prog w = .ok (.bool n) w := fun _ => by kernel_rfl
  have i7 : ∀ w, (Instr.index 43 (.agg #[.bool s, .bool z, .bool y, .bool h, .bool x, .bool p, .bool n, .bool c]) (.int .i64 7)).run Try.prog w = .ok (.bool c) w := fun _ => by kernel_rfl
  have idx : ∀ (k : Nat) (b : Bool), l[k]? = some b → ∀ w, (Instr.index 43 v (.int .i64 k)).run Try.prog w = .ok (.bool b) w := by
    intro k b hb w
    subst hl hv
    match k, hb with
    | 0, hb => obtain rfl : s = b := by simpa using hb
               exact i0 w
    | 1, hb => obtain rfl : z = b := by simpa using hb
               exact i1 w
    | 2, hb => obtain rfl : y = b := by simpa using hb
               exact i2 w
    | 3, hb => obtain rfl : h = b := by simpa using hb
               exact i3 w
    | 4, hb => obtain rfl : x = b := by simpa using hb
               exact i4 w
    | 5, hb => obtain rfl : p = b := by simpa using hb
               exact i5 w
    | 6, hb => obtain rfl : n = b := by simpa using hb
               exact i6 w
    | 7, hb => obtain rfl : c = b := by simpa using hb
               exact i7 w
  clear i0 i1 i2 i3 i4 i5 i6 i7
  have hlen : l.length = 8 := by rw [hl]; rfl
  have HV := Lib.hid hv
  have HL := Lib.hid hl
  have HI := Lib.hid idx
  rw [← hl]
  clear hv hl idx
  go_enter Try.func19, Try.ntmps19
  go_wp2
  rw [← HV.out]
  go_loop [3, 23] (fun out i => ∃ k : Nat, k ≤ 8 ∧ i = .int .i64 k ∧ out = .int .u8 (upto l k : Nat)) (fun _ i => 8 - (intOf i).toNat)
  case atStart => exact ⟨0, Nat.zero_le _, rfl, rfl⟩
  case round =>
    obtain ⟨k, hk, rfl, rfl⟩ := hrel
    by_cases h8 : k < 8
    · obtain ⟨b, hb⟩ : ∃ b, l[k]? = some b := ⟨l[k], List.getElem?_eq_getElem (by omega)⟩
      have ix := HI.out k b hb
      have hr := Lib.hid (round_ b hb h8)
      clear hb
      cases b
      · go_wp2
        go_round
        case rel => exact ⟨k + 1, by omega, by go_num, by rw [← hr.out]; simp⟩
        case measure => simp [intOf]; omega
      · go_wp2
        go_round
        case rel => exact ⟨k + 1, by omega, by go_num, by rw [← hr.out]; simp⟩
        case measure => simp [intOf]; omega
    · obtain rfl : k = 8 := by omega
      go_wp2
      go_ret
      exact ⟨rfl, _, rfl⟩
theorem bt_int (b k : Nat) : (((b : Int) / (k : Int) % 2) == 1) = bt b k := by
  unfold bt
  rw [Bool.eq_iff_iff, Nat.beq_eq]
  simp
  omega
theorem bt_128 (b : Nat) (hb : b < 256) : (((b : Int) / 128) == 1) = bt b 128 := by
  rw [← bt_int b 128, Bool.eq_iff_iff]
  simp
  omega
theorem bt_1 (b : Nat) : (((b : Int) % 2) == 1) = bt b 1 := by
  rw [← bt_int b 1, Bool.eq_iff_iff]
  simp
def bi (b : Int) (k : Nat) : Bool := bt b.toNat k
theorem bi_cast (b k : Nat) : bi (b : Int) k = bt b k := rfl
theorem of_any (b : Int) (h0 : 0 ≤ b) (h1 : b < 256) (w : World) : Calls Try.prog 18 #[.int .u8 b] w fun e w' =>
    e = .returned (.agg #[.bool (bi b 128), .bool (bi b 64), .bool (bi b 32), .bool (bi b 16), .bool (bi b 8), .bool (bi b 4), .bool (bi b 2), .bool (bi b 1)]) ∧ ∃ o, w' = w.alloc o := by
  obtain ⟨b, rfl⟩ := Int.eq_ofNat_of_zero_le h0
  have hb : b < 256 := by omega
  go_enter Try.func18, Try.ntmps18
  go_wp2
  go_returns
  refine ⟨?_, _, rfl⟩
  simp only [bi_cast]
  rw [← bt_128 b hb, ← bt_int b 64, ← bt_int b 32, ← bt_int b 16, ← bt_int b 8, ← bt_int b 4, ← bt_int b 2, ← bt_1 b]
  rfl
theorem shape_any (v : Int) (h0 : 0 ≤ v) (h1 : v < 256) (w : World) : Calls Try.prog 24 #[.int .u8 v] w fun e w' =>
    e = .returned (.agg #[.bool (bi v 128), .bool (v == 0), .bool (bi v 32), .bool false, .bool (bi v 8), .bool false, .bool false, .bool false]) ∧ ∃ o, w' = w.alloc o := by
  obtain ⟨v, rfl⟩ := Int.eq_ofNat_of_zero_le h0
  have hv : v < 256 := by omega
  go_enter Try.func24, Try.ntmps24
  go_wp2
  go_returns
  refine ⟨?_, _, rfl⟩
  have h1 : decide (128 ≤ (v : Int)) = bt v 128 := by rw [← bt_128 v hv, Bool.eq_iff_iff]; simp; omega
  simp only [bi_cast]
  rw [← h1, ← bt_int v 32, ← bt_int v 8]
  rfl
theorem sub512 (n : Int) : (n + 512) % 256 = n % 256 := by omega
def c01 (c : Bool) : Int := cond c 1 0
def sg8 (a : Int) : Int := if 128 ≤ a then a - 256 else a
def ov8 (s : Int) : Bool := decide (s < -128) || decide (127 < s)
/-- The flags of a sum of two bytes and a carry. -/
def add8F (a b c : Int) : Int := (flagsOf (bi ((a + b + c) % 256) 128) ((a + b + c) % 256 == 0) (bi ((a + b + c) % 256) 32) (decide (15 < a % 16 + b % 16 + c)) (bi ((a + b + c) % 256) 8) (ov8 (sg8 a + sg8 b + c)) false (decide (255 < a + b + c)) : Nat)
/-- The flags of a difference. -/
def sub8F (a b c : Int) : Int := (flagsOf (bi ((a - b - c) % 256) 128) ((a - b - c) % 256 == 0) (bi ((a - b - c) % 256) 32) (decide (a % 16 - b % 16 - c < 0)) (bi ((a - b - c) % 256) 8) (ov8 (sg8 a - sg8 b - c)) true (decide (a - b - c < 0)) : Nat)
theorem fi_lt (s z y h x p n c : Bool) : 0 ≤ ((flagsOf s z y h x p n c : Nat) : Int) ∧ ((flagsOf s z y h x p n c : Nat) : Int) < 256 := ⟨Int.natCast_nonneg _, Int.ofNat_lt.2 (flagsOf_lt ..)⟩
theorem add8F_lt (a b c : Int) : 0 ≤ add8F a b c ∧ add8F a b c < 256 := fi_lt ..
theorem sub8F_lt (a b c : Int) : 0 ≤ sub8F a b c ∧ sub8F a b c < 256 := fi_lt ..
theorem flags_eq {s z y h x p n c s' z' y' h' x' p' n' c' : Bool} (e1 : s = s') (e2 : z = z') (e3 : y = y') (e4 : h = h') (e5 : x = x') (e6 : p = p') (e7 : n = n') (e8 : c = c') :
    ((flagsOf s z y h x p n c : Nat) : Int) = (flagsOf s' z' y' h' x' p' n' c' : Nat) := by subst e1 e2 e3 e4 e5 e6 e7 e8; rfl
set_option maxRecDepth 100000 in
set_option maxHeartbeats 1000000 in
theorem sub_any (a b : Int) (ha0 : 0 ≤ a) (ha1 : a < 256) (hb0 : 0 ≤ b) (hb1 : b < 256) (c : Bool) (w : World) : Calls Try.prog 21 #[.int .u8 a, .int .u8 b, .bool c] w fun e w' =>
    e = .returned (.tuple #[.int .u8 ((a - b - c01 c) % 256), .int .u8 (sub8F a b (c01 c))]) ∧ Below w.heap.size w w' := by
  cases c
  all_goals
    go_enter Try.func21, Try.ntmps21
    go_wp2_with (first | (go_at_call 24; with_reducible refine (shape_any _ (by omega) (by omega) _).mono ?_; rintro e w' ⟨rfl, o1, rfl⟩) | (go_at_call 19; with_reducible refine (byte_any _ _ _ _ _ _ _ _ _).mono ?_; rintro e w' ⟨rfl, o5, rfl⟩) | go_in)
    all_goals
      go_ret2
      refine ⟨ret_int2 ?_ ?_, by go_grown⟩
      · first
        | (unfold c01; simp only [cond_true, cond_false]; done)
        | (unfold c01; simp only [cond_true, cond_false, Int.add_zero, Int.sub_zero, sub512]; done)
        | (unfold c01; simp only [cond_true, cond_false]; omega)
      · unfold sub8F c01
        simp only [cond_true, cond_false, Int.add_zero, Int.sub_zero, sub512]
        refine flags_eq ?_ ?_ ?_ ?_ ?_ ?_ ?_ ?_
        all_goals first
          | rfl
          | (unfold ov8 sg8
             rw [Bool.eq_iff_iff]
             simp only [Bool.or_eq_true, decide_eq_true_eq]
             repeat' split
             all_goals (try simp only [true_iff])
             all_goals omega)
end R06
end Go.Proofs.Ytjbdefidkgfijaa
