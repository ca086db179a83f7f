/- The walk of the statement on bits that come back (layer 8): it returns true for every input. No conditions but that numbers are of their kinds. -/
import Derived.Test.YtlhbokennnjohaaTurnsL
namespace Go.Proofs.Ytlhbokennnjohaa
open Go.RowKit
open Kit R06 Pop Turns
set_option linter.unusedSimpArgs false
set_option linter.unusedVariables false
namespace Back
def X (v : Int) (j : Nat) : Int := Nat.rec v (fun _ x => trV 0 x 0) j
def Y (v c : Int) (j : Nat) : Int × Int := Nat.rec (v, c) (fun _ x => (trV 2 x.1 (x.2 % 2), trO 2 x.1)) j
def D (a m : Int) (j : Nat) : Int × Int := Nat.rec (a, m) (fun _ x => (dB true x.1 x.2, dN true x.1 x.2)) j
theorem x_bd (v : Int) (h0 : 0 ≤ v) (h1 : v < 256) (j : Nat) : 0 ≤ X v j ∧ X v j < 256 := by
  induction j with
  | zero => exact ⟨h0, h1⟩
  | succ j ih => exact trV_bd 0 _ 0 ih.1 ih.2 (by decide) (by decide)
theorem y_bd (v c : Int) (h0 : 0 ≤ v) (h1 : v < 256) (c0 : 0 ≤ c) (c1 : c < 256) (j : Nat) : 0 ≤ (Y v c j).1 ∧ (Y v c j).1 < 256 ∧ 0 ≤ (Y v c j).2 ∧ (Y v c j).2 < 256 := by
  induction j with
  | zero => exact ⟨h0, h1, c0, c1⟩
  | succ j ih =>
    have t := trV_bd 2 (Y v c j).1 ((Y v c j).2 % 2) ih.1 ih.2.1 (by omega) (by omega)
    have u := trO_bd 2 (Y v c j).1 ih.1 ih.2.1
    exact ⟨t.1, t.2, by show 0 ≤ trO 2 (Y v c j).1; omega, by show trO 2 (Y v c j).1 < 256; omega⟩
theorem d_bd (a m : Int) (h0 : 0 ≤ a) (h1 : a < 256) (m0 : 0 ≤ m) (m1 : m < 256) (j : Nat) : 0 ≤ (D a m j).1 ∧ (D a m j).1 < 256 ∧ 0 ≤ (D a m j).2 ∧ (D a m j).2 < 256 := by
  induction j with
  | zero => exact ⟨h0, h1, m0, m1⟩
  | succ j ih =>
    obtain ⟨i0, i1, i2, i3⟩ := ih
    refine ⟨?_, ?_, ?_, ?_⟩
    · show 0 ≤ (D a m j).1 / 16 * 16 + (D a m j).2 / 16
      omega
    · show (D a m j).1 / 16 * 16 + (D a m j).2 / 16 < 256
      omega
    · show 0 ≤ (D a m j).2 % 16 * 16 + (D a m j).1 % 16
      omega
    · show (D a m j).2 % 16 * 16 + (D a m j).1 % 16 < 256
      omega
theorem x_tab : allB 256 (fun v => decide (X v 8 = v)) = true := by decide +kernel
theorem y_tab : allB 256 (fun v => allB 2 fun c => decide (Y (v : Int) (c : Int) 9 = ((v : Int), (c : Int)))) = true := by decide +kernel
theorem x8 (v : Int) (h0 : 0 ≤ v) (h1 : v < 256) : X v 8 = v := by
  obtain ⟨v, rfl⟩ := Int.eq_ofNat_of_zero_le h0
  exact of_decide_eq_true (allB_at x_tab (show v < 256 by omega))
theorem y9 (v c : Int) (h0 : 0 ≤ v) (h1 : v < 256) (c0 : 0 ≤ c) (c1 : c < 2) : Y v c 9 = (v, c) := by
  obtain ⟨v, rfl⟩ := Int.eq_ofNat_of_zero_le h0
  obtain ⟨c, rfl⟩ := Int.eq_ofNat_of_zero_le c0
  exact of_decide_eq_true (allB_at (allB_at y_tab (show v < 256 by omega)) (show c < 2 by omega))
theorem d_step (A p q r : Int) (p0 : 0 ≤ p) (p1 : p < 16) (q0 : 0 ≤ q) (q1 : q < 16) (r0 : 0 ≤ r) (r1 : r < 16) : dB true (16 * A + p) (16 * q + r) = 16 * A + q ∧ dN true (16 * A + p) (16 * q + r) = 16 * r + p := by
  unfold dB dN
  simp only [cond_true]
  omega
theorem d3 (a m : Int) (h0 : 0 ≤ a) (h1 : a < 256) (m0 : 0 ≤ m) (m1 : m < 256) : (D a m 3).1 = a ∧ (D a m 3).2 = m := by
  show dB true (dB true (dB true a m) (dN true a m)) (dN true (dB true a m) (dN true a m)) = a ∧ dN true (dB true (dB true a m) (dN true a m)) (dN true (dB true a m) (dN true a m)) = m
  obtain ⟨A, p, q, r, ea, em, p0, p1, q0, q1, r0, r1⟩ : ∃ A p q r : Int, a = 16 * A + p ∧ m = 16 * q + r ∧ 0 ≤ p ∧ p < 16 ∧ 0 ≤ q ∧ q < 16 ∧ 0 ≤ r ∧ r < 16 := ⟨a / 16, a % 16, m / 16, m % 16, by omega, by omega, by omega, by omega, by omega, by omega, by omega, by omega⟩
  subst ea em
  rw [(d_step A p q r p0 p1 q0 q1 r0 r1).1, (d_step A p q r p0 p1 q0 q1 r0 r1).2, (d_step A q r p q0 q1 r0 r1 p0 p1).1, (d_step A q r p q0 q1 r0 r1 p0 p1).2, (d_step A r p q r0 r1 p0 p1 q0 q1).1, (d_step A r p q r0 r1 p0 p1 q0 q1).2]
  exact ⟨rfl, rfl⟩
theorem d_back (a m : Int) (h0 : 0 ≤ a) (h1 : a < 256) (m0 : 0 ≤ m) (m1 : m < 256) : dB false (dB true a m) (dN true a m) = a ∧ dN false (dB true a m) (dN true a m) = m := by
  unfold dB dN
  simp only [cond_true, cond_false]
  omega
theorem said_1 (v : Int) (c : Bool) : Go.bits .and .u8 (saidF v c) 1 = cond c 1 0 := by
  have h : ∀ s z y h x p n c : Bool, Go.bits .and .u8 ((flagsOf s z y h x p n c : Nat) : Int) 1 = cond c 1 0 := by decide +kernel
  exact h ..
theorem rot_to (k v g x y : Int) (hk : k % 8 = k) (hv0 : 0 ≤ v) (hv1 : v < 256) (hg0 : 0 ≤ g) (hg1 : g < 256) (hx : trV k v (g % 2) = x) (hy : trO k v = y) (w : World) : Calls Try.prog 14 #[.int .i64 k, .int .u8 v, .int .u8 g] w fun e w' => ∃ f, e = .returned (.tuple #[.int .u8 x, .int .u8 f]) ∧ Go.bits .and .u8 f 1 = y ∧ w = w' := by
  have h := rot_any k v g hv0 hv1 hg0 hg1 w
  rw [hk, hx] at h
  refine h.mono ?_
  rintro e w' ⟨rfl, rfl⟩
  refine ⟨_, rfl, ?_, rfl⟩
  rw [said_1, ← out_c _ (trO_bd k v hv0 hv1), hy]
theorem dig_to (l : Bool) (a m g x y : Int) (ha0 : 0 ≤ a) (ha1 : a < 256) (hm0 : 0 ≤ m) (hm1 : m < 256) (hg0 : 0 ≤ g) (hg1 : g < 256) (hx : dB l a m = x) (hy : dN l a m = y) (w : World) : Calls Try.prog 18 #[.bool l, .int .u8 a, .int .u8 m, .int .u8 g] w fun e w' => ∃ f, e = .returned (.tuple #[.int .u8 x, .int .u8 y, .int .u8 f]) ∧ w = w' := by
  subst hx hy
  refine (digits_any l a m g ha0 ha1 hm0 hm1 hg0 hg1 w).mono ?_
  rintro e w' ⟨rfl, rfl⟩
  exact ⟨_, rfl, rfl⟩
def Rel (x y p q c : Nat → Int) (xx yy pp qq cc i : Value) : Prop := ∃ (j : Nat) (xv yv pv qv cv : Int), j ≤ 9 ∧ xx = .int .u8 xv ∧ yy = .int .u8 yv ∧ pp = .int .u8 pv ∧ qq = .int .u8 qv ∧ cc = .int .u8 cv ∧ i = .int .i64 j ∧ x (min j 8) = xv ∧ y j = yv ∧ p (min j 3) = pv ∧ q (min j 3) = qv ∧ c j = cv
theorem zz_tab : allB 256 (fun v => decide (trV 0 (trV 1 (v : Int) 0) 0 = (v : Int)) && (decide (trV 0 (trV 1 (v : Int) 1) 1 = (v : Int)))) = true := by decide +kernel
theorem zz_at (v g : Int) (h0 : 0 ≤ v) (h1 : v < 256) : trV 0 (trV 1 v (g % 2)) (g % 2) = v := by
  obtain ⟨v, rfl⟩ := Int.eq_ofNat_of_zero_le h0
  have t := allB_at zz_tab (show v < 256 by omega)
  simp only [Bool.and_eq_true, decide_eq_true_eq] at t
  rcases (by omega : g % 2 = 0 ∨ g % 2 = 1) with e | e
  · rw [e]; exact t.1
  · rw [e]; exact t.2
end Back
open Back in
set_option maxRecDepth 100000 in
set_option maxHeartbeats 4000000 in
theorem turnsBack_walk (a0 : Int) (a1 : Int) (a2 : Int) (wa0 : (Lit.int .u8 a0).wf = true) (wa1 : (Lit.int .u8 a1).wf = true) (wa2 : (Lit.int .u8 a2).wf = true) (w : World) :
    Calls Try.prog 7 #[.int .u8 a0, .int .u8 a1, .int .u8 a2] w fun e w' => e = .returned (.bool true) ∧ Below w.heap.size w w' := by
  obtain ⟨v0, v1⟩ := u8_bd wa0
  obtain ⟨m0, m1⟩ := u8_bd wa1
  obtain ⟨g0, g1⟩ := u8_bd wa2
  clear wa0 wa1 wa2
  obtain ⟨x, x00, x08, xs, xb⟩ : ∃ x : Nat → Int, x 0 = a0 ∧ x 8 = a0 ∧ (∀ j, trV 0 (x j) (a2 % 2) = x (j + 1)) ∧ ∀ j, 0 ≤ x j ∧ x j < 256 := ⟨X a0, rfl, x8 a0 v0 v1, fun j => rfl, x_bd a0 v0 v1⟩
  obtain ⟨y, c, y00, c00, y09, c09, ys, cs, yb⟩ : ∃ y c : Nat → Int, y 0 = a0 ∧ c 0 = a2 % 2 ∧ y 9 = a0 ∧ c 9 = a2 % 2 ∧ (∀ j, trV 2 (y j) (c j % 2) = y (j + 1)) ∧ (∀ j, trO 2 (y j) = c (j + 1)) ∧ ∀ j, 0 ≤ y j ∧ y j < 256 ∧ 0 ≤ c j ∧ c j < 256 :=
    ⟨fun j => (Y a0 (a2 % 2) j).1, fun j => (Y a0 (a2 % 2) j).2, rfl, rfl, by simp only [y9 a0 (a2 % 2) v0 v1 (by omega) (by omega)], by simp only [y9 a0 (a2 % 2) v0 v1 (by omega) (by omega)], fun j => rfl, fun j => rfl, y_bd a0 (a2 % 2) v0 v1 (by omega) (by omega)⟩
  obtain ⟨p, q, p00, q00, p03, q03, ps, qs, pb⟩ : ∃ p q : Nat → Int, p 0 = a1 ∧ q 0 = a0 ∧ p 3 = a1 ∧ q 3 = a0 ∧ (∀ j, dB true (p j) (q j) = p (j + 1)) ∧ (∀ j, dN true (p j) (q j) = q (j + 1)) ∧ ∀ j, 0 ≤ p j ∧ p j < 256 ∧ 0 ≤ q j ∧ q j < 256 :=
    ⟨fun j => (D a1 a0 j).1, fun j => (D a1 a0 j).2, rfl, rfl, (d3 a1 a0 m0 m1 v0 v1).1, (d3 a1 a0 m0 m1 v0 v1).2, fun j => rfl, fun j => rfl, d_bd a1 a0 m0 m1 v0 v1⟩
  have k1 := and1 a2 g0 g1
  obtain ⟨dk1, dk2⟩ := d_back a1 a0 m0 m1 v0 v1
  obtain ⟨r, hr⟩ : ∃ r, dB true a1 a0 = r := ⟨_, rfl⟩
  obtain ⟨s, hs⟩ : ∃ s, dN true a1 a0 = s := ⟨_, rfl⟩
  have rb : 0 ≤ r ∧ r < 256 := by have := pb 1; rw [← ps 0, p00, q00, hr] at this; exact ⟨this.1, this.2.1⟩
  have sb : 0 ≤ s ∧ s < 256 := by have := pb 1; rw [← qs 0, p00, q00, hs] at this; exact ⟨this.2.2.1, this.2.2.2⟩
  obtain ⟨r0, r1⟩ := rb
  obtain ⟨s0, s1⟩ := sb
  rw [hr, hs] at dk1 dk2
  obtain ⟨z, hz⟩ : ∃ z, trV 1 a0 (a2 % 2) = z := ⟨_, rfl⟩
  obtain ⟨z0, z1⟩ := trV_bd 1 a0 (a2 % 2) v0 v1 (by omega) (by omega)
  have zz : trV 0 z (a2 % 2) = a0 := by rw [← hz]; exact zz_at a0 (a2 % 2) v0 v1
  rw [hz] at z0 z1
  have XS := Lib.hid xs
  have XB := Lib.hid xb
  have YS := Lib.hid ys
  have CS := Lib.hid cs
  have YB := Lib.hid yb
  have PS := Lib.hid ps
  have QS := Lib.hid qs
  have PB := Lib.hid pb
  have HR := Lib.hid hr
  have HS := Lib.hid hs
  have DK1 := Lib.hid dk1
  have DK2 := Lib.hid dk2
  have HZ := Lib.hid hz
  have ZZ := Lib.hid zz
  have X08 := Lib.hid x08
  have Y09 := Lib.hid y09
  have C09 := Lib.hid c09
  have P03 := Lib.hid p03
  have Q03 := Lib.hid q03
  clear xs xb ys cs yb ps qs pb hr hs dk1 dk2 hz zz x08 y09 c09 p03 q03
  go_enter Try.func7, Try.ntmps7
  go_wp2_with (first | (go_at_call 9; with_reducible refine (alive_any _).mono ?_; rintro e w' ⟨rfl, rfl⟩))
  go_loopw [7, 8, 9, 10, 11, 12] (fun xx yy pp qq cc i wr => Rel x y p q c xx yy pp qq cc i ∧ wr = w) (fun _ _ _ _ _ i _ => (9 - intOf i).toNat)
  case atStart => exact ⟨⟨0, a0, a0, a1, a0, a2 % 2, by decide, rfl, rfl, rfl, rfl, rfl, rfl, x00, y00, p00, q00, c00⟩, rfl⟩
  case round =>
    obtain ⟨⟨j, xv, yv, pv, qv, cv, hj, rfl, rfl, rfl, rfl, rfl, rfl, ex, ey, ep, eq, ec⟩, rfl⟩ := hrel
    obtain ⟨hx0, hx1⟩ := XB.out (min j 8)
    obtain ⟨hy0, hy1, hc0, hc1⟩ := YB.out j
    obtain ⟨hp0, hp1, hq0, hq1⟩ := PB.out (min j 3)
    rw [ex] at hx0 hx1
    rw [ey] at hy0 hy1
    rw [ec] at hc0 hc1
    rw [ep] at hp0 hp1
    rw [eq] at hq0 hq1
    by_cases hlt : j < 9
    · obtain ⟨yn, eyn⟩ : ∃ yn, y (j + 1) = yn := ⟨_, rfl⟩
      obtain ⟨cn, ecn⟩ : ∃ cn, c (j + 1) = cn := ⟨_, rfl⟩
      have yn' := YS.out j
      have cn' := CS.out j
      rw [ey, ec, eyn] at yn'
      rw [ey, ecn] at cn'
      have YN := Lib.hid yn'
      have CN := Lib.hid cn'
      have EYN := Lib.hid eyn
      have ECN := Lib.hid ecn
      clear yn' cn' eyn ecn
      by_cases h8 : j < 8
      · obtain ⟨xn, exn⟩ : ∃ xn, x (min (j + 1) 8) = xn := ⟨_, rfl⟩
        have xn' := XS.out (min j 8)
        rw [ex, show min j 8 + 1 = min (j + 1) 8 by omega, exn] at xn'
        have XN := Lib.hid xn'
        have EXN := Lib.hid exn
        clear xn' exn
        by_cases h3 : j < 3
        · obtain ⟨pn, epn⟩ : ∃ pn, p (min (j + 1) 3) = pn := ⟨_, rfl⟩
          obtain ⟨qn, eqn⟩ : ∃ qn, q (min (j + 1) 3) = qn := ⟨_, rfl⟩
          have pn' := PS.out (min j 3)
          have qn' := QS.out (min j 3)
          rw [ep, eq, show min j 3 + 1 = min (j + 1) 3 by omega, epn] at pn'
          rw [ep, eq, show min j 3 + 1 = min (j + 1) 3 by omega, eqn] at qn'
          have PN := Lib.hid pn'
          have QN := Lib.hid qn'
          have EPN := Lib.hid epn
          have EQN := Lib.hid eqn
          clear pn' qn' epn eqn ex ey ep eq ec
          go_wp2_with (first | (go_at_call 14; with_reducible refine (rot_to 0 xv _ xn _ (by decide) hx0 hx1 g0 g1 XN.out rfl _).mono ?_; rintro e w' ⟨f1, rfl, hf1, rfl⟩) | (go_at_call 14; with_reducible refine (rot_to 2 yv cv yn cn (by decide) hy0 hy1 hc0 hc1 YN.out CN.out _).mono ?_; rintro e w' ⟨f2, rfl, hf2, rfl⟩) | (go_at_call 18; with_reducible refine (dig_to true pv qv _ pn qn hp0 hp1 hq0 hq1 g0 g1 PN.out QN.out _).mono ?_; rintro e w' ⟨f3, rfl, rfl⟩))
          go_roundw
          case rel => exact ⟨⟨j + 1, xn, yn, pn, qn, cn, by omega, rfl, rfl, rfl, rfl, by first | rfl | rw [hf2], by go_num, EXN.out, EYN.out, EPN.out, EQN.out, ECN.out⟩, by trivial⟩
          case measure => simp [intOf]; omega
        · have EP := Lib.hid ep
          have EQ := Lib.hid eq
          clear ex ey ep eq ec
          go_wp2_with (first | (go_at_call 14; with_reducible refine (rot_to 0 xv _ xn _ (by decide) hx0 hx1 g0 g1 XN.out rfl _).mono ?_; rintro e w' ⟨f1, rfl, hf1, rfl⟩) | (go_at_call 14; with_reducible refine (rot_to 2 yv cv yn cn (by decide) hy0 hy1 hc0 hc1 YN.out CN.out _).mono ?_; rintro e w' ⟨f2, rfl, hf2, rfl⟩))
          go_roundw
          case rel => exact ⟨⟨j + 1, xn, yn, pv, qv, cn, by omega, rfl, rfl, rfl, rfl, by first | rfl | rw [hf2], by go_num, EXN.out, EYN.out, by rw [← EP.out]; congr 1; omega, by rw [← EQ.out]; congr 1; omega, ECN.out⟩, by trivial⟩
          case measure => simp [intOf]; omega
      · have EX := Lib.hid ex
        have EP := Lib.hid ep
        have EQ := Lib.hid eq
        clear ex ey ep eq ec
        have h3 : ¬ j < 3 := by omega
        go_wp2_with (first | (go_at_call 14; with_reducible refine (rot_to 2 yv cv yn cn (by decide) hy0 hy1 hc0 hc1 YN.out CN.out _).mono ?_; rintro e w' ⟨f2, rfl, hf2, rfl⟩))
        go_roundw
        case rel => exact ⟨⟨j + 1, xv, yn, pv, qv, cn, by omega, rfl, rfl, rfl, rfl, by first | rfl | rw [hf2], by go_num, by rw [← EX.out]; congr 1; omega, EYN.out, by rw [← EP.out]; congr 1; omega, by rw [← EQ.out]; congr 1; omega, ECN.out⟩, by trivial⟩
        case measure => simp [intOf]; omega
    · have h9 : j = 9 := by omega
      subst h9
      rw [show min 9 8 = 8 from rfl, X08.out] at ex
      rw [show min 9 3 = 3 from rfl, P03.out] at ep
      rw [show min 9 3 = 3 from rfl, Q03.out] at eq
      rw [Y09.out] at ey
      rw [C09.out] at ec
      subst ex ey ep eq
      have tc : (cv == a2 % 2) = true := by rw [beq_iff_eq]; exact ec.symm
      clear ec
      go_wp2_with (first | (go_at_call 18; with_reducible refine (dig_to true _ _ _ r s m0 m1 v0 v1 g0 g1 HR.out HS.out _).mono ?_; rintro e w' ⟨f1, rfl, rfl⟩) | (go_at_call 18; with_reducible refine (dig_to false _ _ _ _ _ r0 r1 s0 s1 g0 g1 DK1.out DK2.out _).mono ?_; rintro e w' ⟨f2, rfl, rfl⟩) | (go_at_call 14; with_reducible refine (rot_to 1 _ _ z _ (by decide) v0 v1 g0 g1 HZ.out rfl _).mono ?_; rintro e w' ⟨f3, rfl, hf3, rfl⟩) | (go_at_call 14; with_reducible refine (rot_to 0 _ _ _ _ (by decide) z0 z1 g0 g1 ZZ.out rfl _).mono ?_; rintro e w' ⟨f4, rfl, hf4, rfl⟩))

      go_ret
      exact ⟨ret_bool (by simp), by first | exact Below.refl _ _ | go_grown⟩
end Go.Proofs.Ytlhbokennnjohaa
