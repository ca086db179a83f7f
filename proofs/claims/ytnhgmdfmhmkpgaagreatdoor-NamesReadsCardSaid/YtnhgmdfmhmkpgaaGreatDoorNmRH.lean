/- What instructions are called (layer 11): the reference's Name, way by way. No conditions but those stated. -/
import Derived.Test.YtnhgmdfmhmkpgaaGreatDoorNmRG
import Derived.Test.YtnhgmdfmhmkpgaaGreatDoorNmRC
import Derived.Test.YtnhgmdfmhmkpgaaGreatDoorNmI
import Derived.Test.YtnhgmdfmhmkpgaaGreatDoorNmR6
import Derived.Test.YtnhgmdfmhmkpgaaGreatDoorNmR8
import Derived.RegionTactic
import Derived.LoopTactic
import Derived.Deep.RegionHeld3
import Derived.Deep.DeepCutAuto
import Derived.Lib.Hide
namespace Go.Proofs.YtnhgmdfmhmkpgaaGreatDoor
open Go.RowKit
open Kit
set_option linter.unusedSimpArgs false
set_option linter.unusedVariables false
namespace Nm
theorem rep_at (old : ByteArray) {O P N S : Str} (hO : old.data.toList = O) (ho : 1 ≤ old.size) (ho2 : old.size ≤ 20) (hS : RA O N P = S) (hP : P.length ≤ 60) (hN : N.length ≤ 20) (a b : ByteArray) (ha : a.data.toList = P) (hb : b.data.toList = N) : HeldS 26 #[.string a, .string old, .string b] S 2000 := by
  have h := rreplace a old b (by rw [Lib.size_eq, ha]; exact hP) ho ho2 (by rw [Lib.size_eq, hb]; exact hN)
  rw [ha, hb, hO, hS] at h
  exact h
theorem has_at (old : ByteArray) {O P : Str} {c : Bool} (hO : old.data.toList = O) (ho : 1 ≤ old.size) (ho2 : old.size ≤ 20) (hc : Lib.contains P O = c) (hP : P.length ≤ 60) (a : ByteArray) (ha : a.data.toList = P) : Held 25 #[.string a, .string old] (.bool c) := by
  have h := has_any a old (by rw [Lib.size_eq, ha]; exact hP) ho ho2
  rw [ha, hO, hc] at h
  exact h
theorem rhexL_len (v : Nat) : (rhexL v).length = 2 := rfl
theorem rsgnL_len (v : Nat) (h : v < 256) : (rsgnL v).length ≤ 5 := by
  rw [← sgn_eq v h]; exact (sgn_ok v h).2.2.2.2
/-- What is kept where the digits are drawn. -/
def RT (w4 : World) (gb i x j y : Nat) (W : World) : Prop := W.cell? ⟨gb, i, none⟩ = some (.int .u8 (x : Nat)) ∧ W.cell? ⟨gb, j, none⟩ = some (.int .u8 (y : Nat)) ∧ NB w4 [] W
theorem RT.of {w4 : World} {gb i x j y : Nat} {f : FuncId} {args : Array Value} {X : Str} {n : Nat} (h : HeldS f args X n) {b : ByteArray} (hb : bs X = b) (W : World) (hW : RT w4 gb i x j y W) : Calls Tryz.prog f args W fun e w' => e = .returned (.string b) ∧ RT w4 gb i x j y w' :=
  (h W [] W (NB.start hW.2.2.gv)).mono fun e w' ⟨a, h1, h2, _, h4⟩ => ⟨by rw [h1, ← hb, bs_of h2], cell_below h4.bel hW.1, cell_below h4.bel hW.2.1, hW.2.2.below h4.bel⟩
set_option maxRecDepth 100000 in
set_option maxHeartbeats 4000000 in
theorem rn_0_nn (zs : List UInt8) (v : Value) (W : World) (hG : GV W) (hs : SrcOf W v zs) (hl : zs.length ≤ 40) (pg : Int) (hpg : pageL (byt zs) = (pg, 0)) (h0 : 0 ≤ pg) (P : Str) (hP : HeldS 7 #[.int .i64 pg, .int .u8 (byt zs 0 : Nat)] P 5000) (hPl : P.length ≤ 45) (hlt : pg < 5) (cd : Lib.contains P [43, 100] = false) (cn2 : Lib.contains P [110, 110] = true) (R : Str) (hR : RA [110, 110] (36 :: (rhexL (byt zs 2) ++ rhexL (byt zs 1))) P = R) :
    Calls Tryz.prog 9 #[v] W fun e w' => ∃ s : ByteArray, e = .returned (.tuple #[.string s, .int .i64 3]) ∧ s.data.toList = R ∧ Below W.heap.size W w' := by
  have hPg : ∀ W', Below W.heap.size W W' → Calls Tryz.prog 24 #[v] W' fun e w' => e = .returned (.tuple #[.int .i64 pg, .int .i64 0]) ∧ Below W'.heap.size W' w' := fun W' hb => by
    have h := rpage_any zs v W' (hG.below hb) (hs.below hb) hl
    rw [hpg] at h
    exact h
  have HPG := Lib.hid hPg
  have HPT := Lib.hid hP
  have HV := Lib.hid hs
  have HL := Lib.hid hl
  have hcd := Lib.hid (fun a ha => has_at { data := #[43, 100] } (P := P) rfl (by decide) (by decide) cd (by omega) a ha)
  have hcn2 := Lib.hid (fun a ha => has_at { data := #[110, 110] } (P := P) rfl (by decide) (by decide) cn2 (by omega) a ha)
  have hrr := Lib.hid (fun a b ha hb => rep_at { data := #[110, 110] } rfl (by decide) (by decide) hR (by omega) (by simp [rhexL_len]) a b ha hb)
  have hh1 := Lib.hid (rhex_any (byt zs 2) (byt_lt zs 2))
  have hh2 := Lib.hid (rhex_any (byt zs 1) (byt_lt zs 1))
  clear hP hpg hPg hs hl hPl cd cn2 hR
  have b0 := Below.refl W.heap.size W
  have p0 : ¬ pg < 0 := by omega
  have p5 : pg < 5 := hlt
  go_enter Tryz.func9, Tryz.ntmps9
  have c2 := b0.alloc b0.size (.cells #[] 5)
  go_upto_region 1 with fail
  go_wp2_with (at_builtin; refine app_any W _ c2 rfl _ _ rfl _ [] rfl (own_start W W b0) _ zs rfl (HV.out.below c2) (by have := HL.out; simp; omega) ?_)
  intro v3 w3 o3 b3
  have c3 := b3.alloc b3.size (.cells #[.int .u8 0, .int .u8 0, .int .u8 0, .int .u8 0, .int .u8 0, .int .u8 0] 5)
  go_wp2_with (at_builtin; refine app_any W _ c3 rfl _ _ rfl _ zs rfl (o3.below ((Below.refl _ _).alloc (Nat.le_refl _) _)) _ [0, 0, 0, 0, 0, 0] rfl (SrcOf.zeros6 w3) (by have := HL.out; simp; omega) ?_)
  intro v4 w4 o4 b4
  obtain ⟨p, cap, rfl, hl4, hc4⟩ := o4.bytes (by have := HL.out; simp; omega)
  obtain ⟨gb, go, rfl, hgb, hcell⟩ := hc4 (by simp)
  have hD : ∀ k, k < 6 → w4.cell? ⟨gb, go + k, none⟩ = some (.int .u8 (byt zs k : Nat)) := fun k hk => byt_same zs hcell k hk
  have D0 := Lib.hid (hD 0 (by decide))
  rw [Nat.add_zero] at D0
  have D1 := Lib.hid (hD 1 (by decide))
  have D2 := Lib.hid (hD 2 (by decide))
  have D3 := Lib.hid (hD 3 (by decide))
  have D4 := Lib.hid (hD 4 (by decide))
  have D5 := Lib.hid (hD 5 (by decide))
  obtain ⟨m, hm⟩ : ∃ m, (zs ++ [0, 0, 0, 0, 0, 0]).length = m := ⟨_, rfl⟩
  have m0 : 0 < m := by rw [← hm, List.length_append]; simp only [List.length_cons, List.length_nil]; omega
  have m1 : 1 < m := by rw [← hm, List.length_append]; simp only [List.length_cons, List.length_nil]; omega
  have m2 : 2 < m := by rw [← hm, List.length_append]; simp only [List.length_cons, List.length_nil]; omega
  have m3 : 3 < m := by rw [← hm, List.length_append]; simp only [List.length_cons, List.length_nil]; omega
  have m4 : 4 < m := by rw [← hm, List.length_append]; simp only [List.length_cons, List.length_nil]; omega
  have m5 : 5 < m := by rw [← hm, List.length_append]; simp only [List.length_cons, List.length_nil]; omega
  rw [hm]
  clear hcell hm hc4 hl4 o4 o3 hD
  have k4 := NB.start (hG.below b4)
  go_upto_region 13 with (first
    | (go_at_call 24; (with_reducible refine (HPG.out _ b4).mono ?_); rintro e w5 ⟨rfl, q5⟩; (have k5 := k4.below q5); (have e5 := cell_below k5.bel D0.out))
    | (go_at_call 7; (with_reducible refine (HPT.out _ _ _ k5).mono ?_); rintro e w6 ⟨s6, rfl, hs6, z6, k6⟩)
    | (go_at_call 25; (with_reducible refine (hcd.out s6 hs6 _ _ _ k6).mono ?_); rintro e w7 ⟨rfl, k7⟩)
    | (go_at_call 25; (with_reducible refine (hcn2.out s6 hs6 _ _ _ k7).mono ?_); rintro e w10 ⟨rfl, k10⟩; (have e10 := cell_below k10.bel D1.out); (have f10 := cell_below k10.bel D2.out)))
  obtain ⟨H1, hH1⟩ : ∃ H, bs (rhexL (byt zs 2)) = H := ⟨_, rfl⟩
  obtain ⟨H2, hH2⟩ : ∃ H, bs (rhexL (byt zs 1)) = H := ⟨_, rfl⟩
  obtain ⟨H3, hH3⟩ : ∃ H, bs R = H := ⟨_, rfl⟩
  have z1 : H1.size = 2 := by rw [← hH1]; rfl
  have z2 : H2.size = 2 := by rw [← hH2]; rfl
  have HA := Lib.hid (RT.of (w4 := w4) (gb := gb) (i := go + 1) (x := byt zs 1) (j := go + 2) (y := byt zs 2) hh1.out hH1)
  have HB := Lib.hid (RT.of (w4 := w4) (gb := gb) (i := go + 1) (x := byt zs 1) (j := go + 2) (y := byt zs 2) hh2.out hH2)
  have HC := Lib.hid (RT.of (w4 := w4) (gb := gb) (i := go + 1) (x := byt zs 1) (j := go + 2) (y := byt zs 2) (hrr.out s6 ({ data := #[36] } ++ H1 ++ H2) hs6 (by rw [← hH1, ← hH2]; simp [bs])) hH3)
  have H3d : H3.data.toList = R := by rw [← hH3]; rfl
  have HD := Lib.hid H3d
  clear hH1 hH2 hH3 H3d
  have u1 : (1 : Int) < (m : Int) := by omega
  have u2 : (2 : Int) < (m : Int) := by omega
  have u3 : IntKind.i64.wrap ((1 : Int) + 1) = 2 := by rw [IntKind.wrap_i64]; omega
  have u4 : IntKind.i64.wrap (2 : Int) = 2 := by rw [IntKind.wrap_i64]; omega
  go_region_held3 (fun w' => w'.cell? ⟨gb, go + 1, none⟩ = some (.int .u8 (byt zs 1 : Nat)) ∧ w'.cell? ⟨gb, go + 2, none⟩ = some (.int .u8 (byt zs 2 : Nat)) ∧ NB w4 [] w') (first | assumption | (exact ⟨by first | assumption | (simp [*]; done) | (go_simp; done), by first | assumption | (simp [*]; done) | (go_simp; done), by first | assumption | (exact NB.drew (by assumption))⟩)) (first | (go_at_call 28; (with_reducible refine (HA.out _ ?_).mono ?_); (unfold RT; exact ⟨by first | assumption | (simp [*]; done) | (go_simp; done), by first | assumption | (simp [*]; done) | (go_simp; done), by first | assumption | (exact NB.drew (by assumption))⟩); rintro e w' ⟨rfl, y1, y2, y3⟩) | (go_at_call 28; (with_reducible refine (HB.out _ ?_).mono ?_); (unfold RT; exact ⟨by first | assumption | (simp [*]; done) | (go_simp; done), by first | assumption | (simp [*]; done) | (go_simp; done), by first | assumption | (exact NB.drew (by assumption))⟩); rintro e w' ⟨rfl, y1, y2, y3⟩) | (go_at_call 26; (with_reducible refine (HC.out _ ?_).mono ?_); (unfold RT; exact ⟨by first | assumption | (simp [*]; done) | (go_simp; done), by first | assumption | (simp [*]; done) | (go_simp; done), by first | assumption | (exact NB.drew (by assumption))⟩); rintro e w' ⟨rfl, y1, y2, y3⟩))
  all_goals go_wp2_with fail
  all_goals first
    | (exfalso; (try simp only [ByteArray.size_append, size_mk, List.length_cons, List.length_nil] at *); omega)
    | (go_ret2; exact ⟨H3, rfl, HD.out, b4.trans ((by assumption : NB w4 [] _).bel.mono b4.size)⟩)
set_option maxRecDepth 100000 in
set_option maxHeartbeats 4000000 in
theorem rn_0_n (zs : List UInt8) (v : Value) (W : World) (hG : GV W) (hs : SrcOf W v zs) (hl : zs.length ≤ 40) (pg : Int) (hpg : pageL (byt zs) = (pg, 0)) (h0 : 0 ≤ pg) (P : Str) (hP : HeldS 7 #[.int .i64 pg, .int .u8 (byt zs 0 : Nat)] P 5000) (hPl : P.length ≤ 45) (hlt : pg < 5) (cd : Lib.contains P [43, 100] = false) (cn2 : Lib.contains P [110, 110] = false) (cn : Lib.contains P [110] = true) (R : Str) (hR : RA [110] (36 :: rhexL (byt zs 1)) P = R) :
    Calls Tryz.prog 9 #[v] W fun e w' => ∃ s : ByteArray, e = .returned (.tuple #[.string s, .int .i64 2]) ∧ s.data.toList = R ∧ Below W.heap.size W w' := by
  have hPg : ∀ W', Below W.heap.size W W' → Calls Tryz.prog 24 #[v] W' fun e w' => e = .returned (.tuple #[.int .i64 pg, .int .i64 0]) ∧ Below W'.heap.size W' w' := fun W' hb => by
    have h := rpage_any zs v W' (hG.below hb) (hs.below hb) hl
    rw [hpg] at h
    exact h
  have HPG := Lib.hid hPg
  have HPT := Lib.hid hP
  have HV := Lib.hid hs
  have HL := Lib.hid hl
  have hcd := Lib.hid (fun a ha => has_at { data := #[43, 100] } (P := P) rfl (by decide) (by decide) cd (by omega) a ha)
  have hcn2 := Lib.hid (fun a ha => has_at { data := #[110, 110] } (P := P) rfl (by decide) (by decide) cn2 (by omega) a ha)
  have hcn := Lib.hid (fun a ha => has_at { data := #[110] } (P := P) rfl (by decide) (by decide) cn (by omega) a ha)
  have hrr := Lib.hid (fun a b ha hb => rep_at { data := #[110] } rfl (by decide) (by decide) hR (by omega) (by simp [rhexL_len]) a b ha hb)
  have hh2 := Lib.hid (rhex_any (byt zs 1) (byt_lt zs 1))
  clear hP hpg hPg hs hl hPl cd cn2 cn hR
  have b0 := Below.refl W.heap.size W
  have p0 : ¬ pg < 0 := by omega
  have p5 : pg < 5 := hlt
  go_enter Tryz.func9, Tryz.ntmps9
  have c2 := b0.alloc b0.size (.cells #[] 5)
  go_upto_region 1 with fail
  go_wp2_with (at_builtin; refine app_any W _ c2 rfl _ _ rfl _ [] rfl (own_start W W b0) _ zs rfl (HV.out.below c2) (by have := HL.out; simp; omega) ?_)
  intro v3 w3 o3 b3
  have c3 := b3.alloc b3.size (.cells #[.int .u8 0, .int .u8 0, .int .u8 0, .int .u8 0, .int .u8 0, .int .u8 0] 5)
  go_wp2_with (at_builtin; refine app_any W _ c3 rfl _ _ rfl _ zs rfl (o3.below ((Below.refl _ _).alloc (Nat.le_refl _) _)) _ [0, 0, 0, 0, 0, 0] rfl (SrcOf.zeros6 w3) (by have := HL.out; simp; omega) ?_)
  intro v4 w4 o4 b4
  obtain ⟨p, cap, rfl, hl4, hc4⟩ := o4.bytes (by have := HL.out; simp; omega)
  obtain ⟨gb, go, rfl, hgb, hcell⟩ := hc4 (by simp)
  have hD : ∀ k, k < 6 → w4.cell? ⟨gb, go + k, none⟩ = some (.int .u8 (byt zs k : Nat)) := fun k hk => byt_same zs hcell k hk
  have D0 := Lib.hid (hD 0 (by decide))
  rw [Nat.add_zero] at D0
  have D1 := Lib.hid (hD 1 (by decide))
  have D2 := Lib.hid (hD 2 (by decide))
  have D3 := Lib.hid (hD 3 (by decide))
  have D4 := Lib.hid (hD 4 (by decide))
  have D5 := Lib.hid (hD 5 (by decide))
  obtain ⟨m, hm⟩ : ∃ m, (zs ++ [0, 0, 0, 0, 0, 0]).length = m := ⟨_, rfl⟩
  have m0 : 0 < m := by rw [← hm, List.length_append]; simp only [List.length_cons, List.length_nil]; omega
  have m1 : 1 < m := by rw [← hm, List.length_append]; simp only [List.length_cons, List.length_nil]; omega
  have m2 : 2 < m := by rw [← hm, List.length_append]; simp only [List.length_cons, List.length_nil]; omega
  have m3 : 3 < m := by rw [← hm, List.length_append]; simp only [List.length_cons, List.length_nil]; omega
  have m4 : 4 < m := by rw [← hm, List.length_append]; simp only [List.length_cons, List.length_nil]; omega
  have m5 : 5 < m := by rw [← hm, List.length_append]; simp only [List.length_cons, List.length_nil]; omega
  rw [hm]
  clear hcell hm hc4 hl4 o4 o3 hD
  have k4 := NB.start (hG.below b4)
  go_wp2_with (first
    | (go_at_call 24; (with_reducible refine (HPG.out _ b4).mono ?_); rintro e w5 ⟨rfl, q5⟩; (have k5 := k4.below q5); (have e5 := cell_below k5.bel D0.out))
    | (go_at_call 7; (with_reducible refine (HPT.out _ _ _ k5).mono ?_); rintro e w6 ⟨s6, rfl, hs6, z6, k6⟩)
    | (go_at_call 25; (with_reducible refine (hcd.out s6 hs6 _ _ _ k6).mono ?_); rintro e w7 ⟨rfl, k7⟩)
    | (go_at_call 25; (with_reducible refine (hcn2.out s6 hs6 _ _ _ k7).mono ?_); rintro e w10 ⟨rfl, k10⟩)
    | (go_at_call 25; (with_reducible refine (hcn.out s6 hs6 _ _ _ k10).mono ?_); rintro e w11 ⟨rfl, k11⟩; (have e11 := cell_below k11.bel D1.out))
    | (go_at_call 28; (with_reducible refine (hh2.out _ _ _ k11).mono ?_); rintro e w13 ⟨s13, rfl, hs13, z13, k13⟩)
    | (go_at_call 26; (refine (hrr.out s6 _ hs6 (by simp [hs13]) _ _ _ k13).mono ?_); rintro e w14 ⟨s14, rfl, hs14, z14, k14⟩))
  all_goals first | (exfalso; (try simp only [ByteArray.size_append, size_mk, List.length_cons, List.length_nil] at *); omega) | skip
  go_ret2
  exact ⟨s14, rfl, hs14, b4.trans (k14.bel.mono b4.size)⟩
set_option maxRecDepth 100000 in
set_option maxHeartbeats 4000000 in
theorem rn_0_e (zs : List UInt8) (v : Value) (W : World) (hG : GV W) (hs : SrcOf W v zs) (hl : zs.length ≤ 40) (pg : Int) (hpg : pageL (byt zs) = (pg, 0)) (h0 : 0 ≤ pg) (P : Str) (hP : HeldS 7 #[.int .i64 pg, .int .u8 (byt zs 0 : Nat)] P 5000) (hPl : P.length ≤ 45) (hlt : pg < 5) (cd : Lib.contains P [43, 100] = false) (cn2 : Lib.contains P [110, 110] = false) (cn : Lib.contains P [110] = false) (ce : Lib.contains P [101] = true) (R : Str) (hR : RA [101] (rsgnL (byt zs 1)) P = R) :
    Calls Tryz.prog 9 #[v] W fun e w' => ∃ s : ByteArray, e = .returned (.tuple #[.string s, .int .i64 2]) ∧ s.data.toList = R ∧ Below W.heap.size W w' := by
  have hPg : ∀ W', Below W.heap.size W W' → Calls Tryz.prog 24 #[v] W' fun e w' => e = .returned (.tuple #[.int .i64 pg, .int .i64 0]) ∧ Below W'.heap.size W' w' := fun W' hb => by
    have h := rpage_any zs v W' (hG.below hb) (hs.below hb) hl
    rw [hpg] at h
    exact h
  have HPG := Lib.hid hPg
  have HPT := Lib.hid hP
  have HV := Lib.hid hs
  have HL := Lib.hid hl
  have hcd := Lib.hid (fun a ha => has_at { data := #[43, 100] } (P := P) rfl (by decide) (by decide) cd (by omega) a ha)
  have hcn2 := Lib.hid (fun a ha => has_at { data := #[110, 110] } (P := P) rfl (by decide) (by decide) cn2 (by omega) a ha)
  have hcn := Lib.hid (fun a ha => has_at { data := #[110] } (P := P) rfl (by decide) (by decide) cn (by omega) a ha)
  have hce := Lib.hid (fun a ha => has_at { data := #[101] } (P := P) rfl (by decide) (by decide) ce (by omega) a ha)
  have hrr := Lib.hid (fun a b ha hb => rep_at { data := #[101] } rfl (by decide) (by decide) hR (by omega) (Nat.le_trans (rsgnL_len _ (byt_lt zs 1)) (by decide)) a b ha hb)
  have hse := Lib.hid (rsigned_any (byt zs 1) (byt_lt zs 1))
  clear hP hpg hPg hs hl hPl cd cn2 cn ce hR
  have b0 := Below.refl W.heap.size W
  have p0 : ¬ pg < 0 := by omega
  have p5 : pg < 5 := hlt
  go_enter Tryz.func9, Tryz.ntmps9
  have c2 := b0.alloc b0.size (.cells #[] 5)
  go_upto_region 1 with fail
  go_wp2_with (at_builtin; refine app_any W _ c2 rfl _ _ rfl _ [] rfl (own_start W W b0) _ zs rfl (HV.out.below c2) (by have := HL.out; simp; omega) ?_)
  intro v3 w3 o3 b3
  have c3 := b3.alloc b3.size (.cells #[.int .u8 0, .int .u8 0, .int .u8 0, .int .u8 0, .int .u8 0, .int .u8 0] 5)
  go_wp2_with (at_builtin; refine app_any W _ c3 rfl _ _ rfl _ zs rfl (o3.below ((Below.refl _ _).alloc (Nat.le_refl _) _)) _ [0, 0, 0, 0, 0, 0] rfl (SrcOf.zeros6 w3) (by have := HL.out; simp; omega) ?_)
  intro v4 w4 o4 b4
  obtain ⟨p, cap, rfl, hl4, hc4⟩ := o4.bytes (by have := HL.out; simp; omega)
  obtain ⟨gb, go, rfl, hgb, hcell⟩ := hc4 (by simp)
  have hD : ∀ k, k < 6 → w4.cell? ⟨gb, go + k, none⟩ = some (.int .u8 (byt zs k : Nat)) := fun k hk => byt_same zs hcell k hk
  have D0 := Lib.hid (hD 0 (by decide))
  rw [Nat.add_zero] at D0
  have D1 := Lib.hid (hD 1 (by decide))
  have D2 := Lib.hid (hD 2 (by decide))
  have D3 := Lib.hid (hD 3 (by decide))
  have D4 := Lib.hid (hD 4 (by decide))
  have D5 := Lib.hid (hD 5 (by decide))
  obtain ⟨m, hm⟩ : ∃ m, (zs ++ [0, 0, 0, 0, 0, 0]).length = m := ⟨_, rfl⟩
  have m0 : 0 < m := by rw [← hm, List.length_append]; simp only [List.length_cons, List.length_nil]; omega
  have m1 : 1 < m := by rw [← hm, List.length_append]; simp only [List.length_cons, List.length_nil]; omega
  have m2 : 2 < m := by rw [← hm, List.length_append]; simp only [List.length_cons, List.length_nil]; omega
  have m3 : 3 < m := by rw [← hm, List.length_append]; simp only [List.length_cons, List.length_nil]; omega
  have m4 : 4 < m := by rw [← hm, List.length_append]; simp only [List.length_cons, List.length_nil]; omega
  have m5 : 5 < m := by rw [← hm, List.length_append]; simp only [List.length_cons, List.length_nil]; omega
  rw [hm]
  clear hcell hm hc4 hl4 o4 o3 hD
  have k4 := NB.start (hG.below b4)
  go_wp2_with (first
    | (go_at_call 24; (with_reducible refine (HPG.out _ b4).mono ?_); rintro e w5 ⟨rfl, q5⟩; (have k5 := k4.below q5); (have e5 := cell_below k5.bel D0.out))
    | (go_at_call 7; (with_reducible refine (HPT.out _ _ _ k5).mono ?_); rintro e w6 ⟨s6, rfl, hs6, z6, k6⟩)
    | (go_at_call 25; (with_reducible refine (hcd.out s6 hs6 _ _ _ k6).mono ?_); rintro e w7 ⟨rfl, k7⟩)
    | (go_at_call 25; (with_reducible refine (hcn2.out s6 hs6 _ _ _ k7).mono ?_); rintro e w10 ⟨rfl, k10⟩)
    | (go_at_call 25; (with_reducible refine (hcn.out s6 hs6 _ _ _ k10).mono ?_); rintro e w11 ⟨rfl, k11⟩)
    | (go_at_call 25; (with_reducible refine (hce.out s6 hs6 _ _ _ k11).mono ?_); rintro e w12 ⟨rfl, k12⟩; (have e12 := cell_below k12.bel D1.out))
    | (go_at_call 27; (with_reducible refine (hse.out _ _ _ k12).mono ?_); rintro e w13 ⟨s13, rfl, hs13, z13, k13⟩)
    | (go_at_call 26; (with_reducible refine (hrr.out s6 s13 hs6 hs13 _ _ _ k13).mono ?_); rintro e w14 ⟨s14, rfl, hs14, z14, k14⟩))
  all_goals first | (exfalso; (try simp only [ByteArray.size_append, size_mk, List.length_cons, List.length_nil] at *); omega) | skip
  go_ret2
  exact ⟨s14, rfl, hs14, b4.trans (k14.bel.mono b4.size)⟩
set_option maxRecDepth 100000 in
set_option maxHeartbeats 4000000 in
theorem rn_0_z (zs : List UInt8) (v : Value) (W : World) (hG : GV W) (hs : SrcOf W v zs) (hl : zs.length ≤ 40) (pg : Int) (hpg : pageL (byt zs) = (pg, 0)) (h0 : 0 ≤ pg) (P : Str) (hP : HeldS 7 #[.int .i64 pg, .int .u8 (byt zs 0 : Nat)] P 5000) (hPl : P.length ≤ 45) (hlt : pg < 5) (cd : Lib.contains P [43, 100] = false) (cn2 : Lib.contains P [110, 110] = false) (cn : Lib.contains P [110] = false) (ce : Lib.contains P [101] = false) :
    Calls Tryz.prog 9 #[v] W fun e w' => ∃ s : ByteArray, e = .returned (.tuple #[.string s, .int .i64 1]) ∧ s.data.toList = P ∧ Below W.heap.size W w' := by
  have hPg : ∀ W', Below W.heap.size W W' → Calls Tryz.prog 24 #[v] W' fun e w' => e = .returned (.tuple #[.int .i64 pg, .int .i64 0]) ∧ Below W'.heap.size W' w' := fun W' hb => by
    have h := rpage_any zs v W' (hG.below hb) (hs.below hb) hl
    rw [hpg] at h
    exact h
  have HPG := Lib.hid hPg
  have HPT := Lib.hid hP
  have HV := Lib.hid hs
  have HL := Lib.hid hl
  have hcd := Lib.hid (fun a ha => has_at { data := #[43, 100] } (P := P) rfl (by decide) (by decide) cd (by omega) a ha)
  have hcn2 := Lib.hid (fun a ha => has_at { data := #[110, 110] } (P := P) rfl (by decide) (by decide) cn2 (by omega) a ha)
  have hcn := Lib.hid (fun a ha => has_at { data := #[110] } (P := P) rfl (by decide) (by decide) cn (by omega) a ha)
  have hce := Lib.hid (fun a ha => has_at { data := #[101] } (P := P) rfl (by decide) (by decide) ce (by omega) a ha)
  clear hP hpg hPg hs hl hPl cd cn2 cn ce
  have b0 := Below.refl W.heap.size W
  have p0 : ¬ pg < 0 := by omega
  have p5 : pg < 5 := hlt
  go_enter Tryz.func9, Tryz.ntmps9
  have c2 := b0.alloc b0.size (.cells #[] 5)
  go_upto_region 1 with fail
  go_wp2_with (at_builtin; refine app_any W _ c2 rfl _ _ rfl _ [] rfl (own_start W W b0) _ zs rfl (HV.out.below c2) (by have := HL.out; simp; omega) ?_)
  intro v3 w3 o3 b3
  have c3 := b3.alloc b3.size (.cells #[.int .u8 0, .int .u8 0, .int .u8 0, .int .u8 0, .int .u8 0, .int .u8 0] 5)
  go_wp2_with (at_builtin; refine app_any W _ c3 rfl _ _ rfl _ zs rfl (o3.below ((Below.refl _ _).alloc (Nat.le_refl _) _)) _ [0, 0, 0, 0, 0, 0] rfl (SrcOf.zeros6 w3) (by have := HL.out; simp; omega) ?_)
  intro v4 w4 o4 b4
  obtain ⟨p, cap, rfl, hl4, hc4⟩ := o4.bytes (by have := HL.out; simp; omega)
  obtain ⟨gb, go, rfl, hgb, hcell⟩ := hc4 (by simp)
  have hD : ∀ k, k < 6 → w4.cell? ⟨gb, go + k, none⟩ = some (.int .u8 (byt zs k : Nat)) := fun k hk => byt_same zs hcell k hk
  have D0 := Lib.hid (hD 0 (by decide))
  rw [Nat.add_zero] at D0
  have D1 := Lib.hid (hD 1 (by decide))
  have D2 := Lib.hid (hD 2 (by decide))
  have D3 := Lib.hid (hD 3 (by decide))
  have D4 := Lib.hid (hD 4 (by decide))
  have D5 := Lib.hid (hD 5 (by decide))
  obtain ⟨m, hm⟩ : ∃ m, (zs ++ [0, 0, 0, 0, 0, 0]).length = m := ⟨_, rfl⟩
  have m0 : 0 < m := by rw [← hm, List.length_append]; simp only [List.length_cons, List.length_nil]; omega
  have m1 : 1 < m := by rw [← hm, List.length_append]; simp only [List.length_cons, List.length_nil]; omega
  have m2 : 2 < m := by rw [← hm, List.length_append]; simp only [List.length_cons, List.length_nil]; omega
  have m3 : 3 < m := by rw [← hm, List.length_append]; simp only [List.length_cons, List.length_nil]; omega
  have m4 : 4 < m := by rw [← hm, List.length_append]; simp only [List.length_cons, List.length_nil]; omega
  have m5 : 5 < m := by rw [← hm, List.length_append]; simp only [List.length_cons, List.length_nil]; omega
  rw [hm]
  clear hcell hm hc4 hl4 o4 o3 hD
  have k4 := NB.start (hG.below b4)
  go_wp2_with (first
    | (go_at_call 24; (with_reducible refine (HPG.out _ b4).mono ?_); rintro e w5 ⟨rfl, q5⟩; (have k5 := k4.below q5); (have e5 := cell_below k5.bel D0.out))
    | (go_at_call 7; (with_reducible refine (HPT.out _ _ _ k5).mono ?_); rintro e w6 ⟨s6, rfl, hs6, z6, k6⟩)
    | (go_at_call 25; (with_reducible refine (hcd.out s6 hs6 _ _ _ k6).mono ?_); rintro e w7 ⟨rfl, k7⟩)
    | (go_at_call 25; (with_reducible refine (hcn2.out s6 hs6 _ _ _ k7).mono ?_); rintro e w10 ⟨rfl, k10⟩)
    | (go_at_call 25; (with_reducible refine (hcn.out s6 hs6 _ _ _ k10).mono ?_); rintro e w11 ⟨rfl, k11⟩)
    | (go_at_call 25; (with_reducible refine (hce.out s6 hs6 _ _ _ k11).mono ?_); rintro e w12 ⟨rfl, k12⟩))
  all_goals first | (exfalso; (try simp only [ByteArray.size_append, size_mk, List.length_cons, List.length_nil] at *); omega) | skip
  go_ret2
  exact ⟨s6, rfl, hs6, b4.trans (k12.bel.mono b4.size)⟩
set_option maxRecDepth 100000 in
set_option maxHeartbeats 4000000 in
theorem rn_1_nn (zs : List UInt8) (v : Value) (W : World) (hG : GV W) (hs : SrcOf W v zs) (hl : zs.length ≤ 40) (pg : Int) (hpg : pageL (byt zs) = (pg, 1)) (h0 : 0 ≤ pg) (P : Str) (hP : HeldS 7 #[.int .i64 pg, .int .u8 (byt zs 1 : Nat)] P 5000) (hPl : P.length ≤ 45) (hlt : pg < 5) (cd : Lib.contains P [43, 100] = false) (cn2 : Lib.contains P [110, 110] = true) (R : Str) (hR : RA [110, 110] (36 :: (rhexL (byt zs 3) ++ rhexL (byt zs 2))) P = R) :
    Calls Tryz.prog 9 #[v] W fun e w' => ∃ s : ByteArray, e = .returned (.tuple #[.string s, .int .i64 4]) ∧ s.data.toList = R ∧ Below W.heap.size W w' := by
  have hPg : ∀ W', Below W.heap.size W W' → Calls Tryz.prog 24 #[v] W' fun e w' => e = .returned (.tuple #[.int .i64 pg, .int .i64 1]) ∧ Below W'.heap.size W' w' := fun W' hb => by
    have h := rpage_any zs v W' (hG.below hb) (hs.below hb) hl
    rw [hpg] at h
    exact h
  have HPG := Lib.hid hPg
  have HPT := Lib.hid hP
  have HV := Lib.hid hs
  have HL := Lib.hid hl
  have hcd := Lib.hid (fun a ha => has_at { data := #[43, 100] } (P := P) rfl (by decide) (by decide) cd (by omega) a ha)
  have hcn2 := Lib.hid (fun a ha => has_at { data := #[110, 110] } (P := P) rfl (by decide) (by decide) cn2 (by omega) a ha)
  have hrr := Lib.hid (fun a b ha hb => rep_at { data := #[110, 110] } rfl (by decide) (by decide) hR (by omega) (by simp [rhexL_len]) a b ha hb)
  have hh1 := Lib.hid (rhex_any (byt zs 3) (byt_lt zs 3))
  have hh2 := Lib.hid (rhex_any (byt zs 2) (byt_lt zs 2))
  clear hP hpg hPg hs hl hPl cd cn2 hR
  have b0 := Below.refl W.heap.size W
  have p0 : ¬ pg < 0 := by omega
  have p5 : pg < 5 := hlt
  go_enter Tryz.func9, Tryz.ntmps9
  have c2 := b0.alloc b0.size (.cells #[] 5)
  go_upto_region 1 with fail
  go_wp2_with (at_builtin; refine app_any W _ c2 rfl _ _ rfl _ [] rfl (own_start W W b0) _ zs rfl (HV.out.below c2) (by have := HL.out; simp; omega) ?_)
  intro v3 w3 o3 b3
  have c3 := b3.alloc b3.size (.cells #[.int .u8 0, .int .u8 0, .int .u8 0, .int .u8 0, .int .u8 0, .int .u8 0] 5)
  go_wp2_with (at_builtin; refine app_any W _ c3 rfl _ _ rfl _ zs rfl (o3.below ((Below.refl _ _).alloc (Nat.le_refl _) _)) _ [0, 0, 0, 0, 0, 0] rfl (SrcOf.zeros6 w3) (by have := HL.out; simp; omega) ?_)
  intro v4 w4 o4 b4
  obtain ⟨p, cap, rfl, hl4, hc4⟩ := o4.bytes (by have := HL.out; simp; omega)
  obtain ⟨gb, go, rfl, hgb, hcell⟩ := hc4 (by simp)
  have hD : ∀ k, k < 6 → w4.cell? ⟨gb, go + k, none⟩ = some (.int .u8 (byt zs k : Nat)) := fun k hk => byt_same zs hcell k hk
  have D0 := Lib.hid (hD 0 (by decide))
  rw [Nat.add_zero] at D0
  have D1 := Lib.hid (hD 1 (by decide))
  have D2 := Lib.hid (hD 2 (by decide))
  have D3 := Lib.hid (hD 3 (by decide))
  have D4 := Lib.hid (hD 4 (by decide))
  have D5 := Lib.hid (hD 5 (by decide))
  obtain ⟨m, hm⟩ : ∃ m, (zs ++ [0, 0, 0, 0, 0, 0]).length = m := ⟨_, rfl⟩
  have m0 : 0 < m := by rw [← hm, List.length_append]; simp only [List.length_cons, List.length_nil]; omega
  have m1 : 1 < m := by rw [← hm, List.length_append]; simp only [List.length_cons, List.length_nil]; omega
  have m2 : 2 < m := by rw [← hm, List.length_append]; simp only [List.length_cons, List.length_nil]; omega
  have m3 : 3 < m := by rw [← hm, List.length_append]; simp only [List.length_cons, List.length_nil]; omega
  have m4 : 4 < m := by rw [← hm, List.length_append]; simp only [List.length_cons, List.length_nil]; omega
  have m5 : 5 < m := by rw [← hm, List.length_append]; simp only [List.length_cons, List.length_nil]; omega
  rw [hm]
  clear hcell hm hc4 hl4 o4 o3 hD
  have k4 := NB.start (hG.below b4)
  go_upto_region 13 with (first
    | (go_at_call 24; (with_reducible refine (HPG.out _ b4).mono ?_); rintro e w5 ⟨rfl, q5⟩; (have k5 := k4.below q5); (have e5 := cell_below k5.bel D1.out))
    | (go_at_call 7; (with_reducible refine (HPT.out _ _ _ k5).mono ?_); rintro e w6 ⟨s6, rfl, hs6, z6, k6⟩)
    | (go_at_call 25; (with_reducible refine (hcd.out s6 hs6 _ _ _ k6).mono ?_); rintro e w7 ⟨rfl, k7⟩)
    | (go_at_call 25; (with_reducible refine (hcn2.out s6 hs6 _ _ _ k7).mono ?_); rintro e w10 ⟨rfl, k10⟩; (have e10 := cell_below k10.bel D2.out); (have f10 := cell_below k10.bel D3.out)))
  obtain ⟨H1, hH1⟩ : ∃ H, bs (rhexL (byt zs 3)) = H := ⟨_, rfl⟩
  obtain ⟨H2, hH2⟩ : ∃ H, bs (rhexL (byt zs 2)) = H := ⟨_, rfl⟩
  obtain ⟨H3, hH3⟩ : ∃ H, bs R = H := ⟨_, rfl⟩
  have z1 : H1.size = 2 := by rw [← hH1]; rfl
  have z2 : H2.size = 2 := by rw [← hH2]; rfl
  have HA := Lib.hid (RT.of (w4 := w4) (gb := gb) (i := go + 2) (x := byt zs 2) (j := go + 3) (y := byt zs 3) hh1.out hH1)
  have HB := Lib.hid (RT.of (w4 := w4) (gb := gb) (i := go + 2) (x := byt zs 2) (j := go + 3) (y := byt zs 3) hh2.out hH2)
  have HC := Lib.hid (RT.of (w4 := w4) (gb := gb) (i := go + 2) (x := byt zs 2) (j := go + 3) (y := byt zs 3) (hrr.out s6 ({ data := #[36] } ++ H1 ++ H2) hs6 (by rw [← hH1, ← hH2]; simp [bs])) hH3)
  have H3d : H3.data.toList = R := by rw [← hH3]; rfl
  have HD := Lib.hid H3d
  clear hH1 hH2 hH3 H3d
  have u1 : (2 : Int) < (m : Int) := by omega
  have u2 : (3 : Int) < (m : Int) := by omega
  have u3 : IntKind.i64.wrap ((2 : Int) + 1) = 3 := by rw [IntKind.wrap_i64]; omega
  have u4 : IntKind.i64.wrap (3 : Int) = 3 := by rw [IntKind.wrap_i64]; omega
  go_region_held3 (fun w' => w'.cell? ⟨gb, go + 2, none⟩ = some (.int .u8 (byt zs 2 : Nat)) ∧ w'.cell? ⟨gb, go + 3, none⟩ = some (.int .u8 (byt zs 3 : Nat)) ∧ NB w4 [] w') (first | assumption | (exact ⟨by first | assumption | (simp [*]; done) | (go_simp; done), by first | assumption | (simp [*]; done) | (go_simp; done), by first | assumption | (exact NB.drew (by assumption))⟩)) (first | (go_at_call 28; (with_reducible refine (HA.out _ ?_).mono ?_); (unfold RT; exact ⟨by first | assumption | (simp [*]; done) | (go_simp; done), by first | assumption | (simp [*]; done) | (go_simp; done), by first | assumption | (exact NB.drew (by assumption))⟩); rintro e w' ⟨rfl, y1, y2, y3⟩) | (go_at_call 28; (with_reducible refine (HB.out _ ?_).mono ?_); (unfold RT; exact ⟨by first | assumption | (simp [*]; done) | (go_simp; done), by first | assumption | (simp [*]; done) | (go_simp; done), by first | assumption | (exact NB.drew (by assumption))⟩); rintro e w' ⟨rfl, y1, y2, y3⟩) | (go_at_call 26; (with_reducible refine (HC.out _ ?_).mono ?_); (unfold RT; exact ⟨by first | assumption | (simp [*]; done) | (go_simp; done), by first | assumption | (simp [*]; done) | (go_simp; done), by first | assumption | (exact NB.drew (by assumption))⟩); rintro e w' ⟨rfl, y1, y2, y3⟩))
  all_goals go_wp2_with fail
  all_goals first
    | (exfalso; (try simp only [ByteArray.size_append, size_mk, List.length_cons, List.length_nil] at *); omega)
    | (go_ret2; exact ⟨H3, rfl, HD.out, b4.trans ((by assumption : NB w4 [] _).bel.mono b4.size)⟩)
set_option maxRecDepth 100000 in
set_option maxHeartbeats 4000000 in
theorem rn_1_n (zs : List UInt8) (v : Value) (W : World) (hG : GV W) (hs : SrcOf W v zs) (hl : zs.length ≤ 40) (pg : Int) (hpg : pageL (byt zs) = (pg, 1)) (h0 : 0 ≤ pg) (P : Str) (hP : HeldS 7 #[.int .i64 pg, .int .u8 (byt zs 1 : Nat)] P 5000) (hPl : P.length ≤ 45) (hlt : pg < 5) (cd : Lib.contains P [43, 100] = false) (cn2 : Lib.contains P [110, 110] = false) (cn : Lib.contains P [110] = true) (R : Str) (hR : RA [110] (36 :: rhexL (byt zs 2)) P = R) :
    Calls Tryz.prog 9 #[v] W fun e w' => ∃ s : ByteArray, e = .returned (.tuple #[.string s, .int .i64 3]) ∧ s.data.toList = R ∧ Below W.heap.size W w' := by
  have hPg : ∀ W', Below W.heap.size W W' → Calls Tryz.prog 24 #[v] W' fun e w' => e = .returned (.tuple #[.int .i64 pg, .int .i64 1]) ∧ Below W'.heap.size W' w' := fun W' hb => by
    have h := rpage_any zs v W' (hG.below hb) (hs.below hb) hl
    rw [hpg] at h
    exact h
  have HPG := Lib.hid hPg
  have HPT := Lib.hid hP
  have HV := Lib.hid hs
  have HL := Lib.hid hl
  have hcd := Lib.hid (fun a ha => has_at { data := #[43, 100] } (P := P) rfl (by decide) (by decide) cd (by omega) a ha)
  have hcn2 := Lib.hid (fun a ha => has_at { data := #[110, 110] } (P := P) rfl (by decide) (by decide) cn2 (by omega) a ha)
  have hcn := Lib.hid (fun a ha => has_at { data := #[110] } (P := P) rfl (by decide) (by decide) cn (by omega) a ha)
  have hrr := Lib.hid (fun a b ha hb => rep_at { data := #[110] } rfl (by decide) (by decide) hR (by omega) (by simp [rhexL_len]) a b ha hb)
  have hh2 := Lib.hid (rhex_any (byt zs 2) (byt_lt zs 2))
  clear hP hpg hPg hs hl hPl cd cn2 cn hR
  have b0 := Below.refl W.heap.size W
  have p0 : ¬ pg < 0 := by omega
  have p5 : pg < 5 := hlt
  go_enter Tryz.func9, Tryz.ntmps9
  have c2 := b0.alloc b0.size (.cells #[] 5)
  go_upto_region 1 with fail
  go_wp2_with (at_builtin; refine app_any W _ c2 rfl _ _ rfl _ [] rfl (own_start W W b0) _ zs rfl (HV.out.below c2) (by have := HL.out; simp; omega) ?_)
  intro v3 w3 o3 b3
  have c3 := b3.alloc b3.size (.cells #[.int .u8 0, .int .u8 0, .int .u8 0, .int .u8 0, .int .u8 0, .int .u8 0] 5)
  go_wp2_with (at_builtin; refine app_any W _ c3 rfl _ _ rfl _ zs rfl (o3.below ((Below.refl _ _).alloc (Nat.le_refl _) _)) _ [0, 0, 0, 0, 0, 0] rfl (SrcOf.zeros6 w3) (by have := HL.out; simp; omega) ?_)
  intro v4 w4 o4 b4
  obtain ⟨p, cap, rfl, hl4, hc4⟩ := o4.bytes (by have := HL.out; simp; omega)
  obtain ⟨gb, go, rfl, hgb, hcell⟩ := hc4 (by simp)
  have hD : ∀ k, k < 6 → w4.cell? ⟨gb, go + k, none⟩ = some (.int .u8 (byt zs k : Nat)) := fun k hk => byt_same zs hcell k hk
  have D0 := Lib.hid (hD 0 (by decide))
  rw [Nat.add_zero] at D0
  have D1 := Lib.hid (hD 1 (by decide))
  have D2 := Lib.hid (hD 2 (by decide))
  have D3 := Lib.hid (hD 3 (by decide))
  have D4 := Lib.hid (hD 4 (by decide))
  have D5 := Lib.hid (hD 5 (by decide))
  obtain ⟨m, hm⟩ : ∃ m, (zs ++ [0, 0, 0, 0, 0, 0]).length = m := ⟨_, rfl⟩
  have m0 : 0 < m := by rw [← hm, List.length_append]; simp only [List.length_cons, List.length_nil]; omega
  have m1 : 1 < m := by rw [← hm, List.length_append]; simp only [List.length_cons, List.length_nil]; omega
  have m2 : 2 < m := by rw [← hm, List.length_append]; simp only [List.length_cons, List.length_nil]; omega
  have m3 : 3 < m := by rw [← hm, List.length_append]; simp only [List.length_cons, List.length_nil]; omega
  have m4 : 4 < m := by rw [← hm, List.length_append]; simp only [List.length_cons, List.length_nil]; omega
  have m5 : 5 < m := by rw [← hm, List.length_append]; simp only [List.length_cons, List.length_nil]; omega
  rw [hm]
  clear hcell hm hc4 hl4 o4 o3 hD
  have k4 := NB.start (hG.below b4)
  go_wp2_with (first
    | (go_at_call 24; (with_reducible refine (HPG.out _ b4).mono ?_); rintro e w5 ⟨rfl, q5⟩; (have k5 := k4.below q5); (have e5 := cell_below k5.bel D1.out))
    | (go_at_call 7; (with_reducible refine (HPT.out _ _ _ k5).mono ?_); rintro e w6 ⟨s6, rfl, hs6, z6, k6⟩)
    | (go_at_call 25; (with_reducible refine (hcd.out s6 hs6 _ _ _ k6).mono ?_); rintro e w7 ⟨rfl, k7⟩)
    | (go_at_call 25; (with_reducible refine (hcn2.out s6 hs6 _ _ _ k7).mono ?_); rintro e w10 ⟨rfl, k10⟩)
    | (go_at_call 25; (with_reducible refine (hcn.out s6 hs6 _ _ _ k10).mono ?_); rintro e w11 ⟨rfl, k11⟩; (have e11 := cell_below k11.bel D2.out))
    | (go_at_call 28; (with_reducible refine (hh2.out _ _ _ k11).mono ?_); rintro e w13 ⟨s13, rfl, hs13, z13, k13⟩)
    | (go_at_call 26; (refine (hrr.out s6 _ hs6 (by simp [hs13]) _ _ _ k13).mono ?_); rintro e w14 ⟨s14, rfl, hs14, z14, k14⟩))
  all_goals first | (exfalso; (try simp only [ByteArray.size_append, size_mk, List.length_cons, List.length_nil] at *); omega) | skip
  go_ret2
  exact ⟨s14, rfl, hs14, b4.trans (k14.bel.mono b4.size)⟩
set_option maxRecDepth 100000 in
set_option maxHeartbeats 4000000 in
theorem rn_1_e (zs : List UInt8) (v : Value) (W : World) (hG : GV W) (hs : SrcOf W v zs) (hl : zs.length ≤ 40) (pg : Int) (hpg : pageL (byt zs) = (pg, 1)) (h0 : 0 ≤ pg) (P : Str) (hP : HeldS 7 #[.int .i64 pg, .int .u8 (byt zs 1 : Nat)] P 5000) (hPl : P.length ≤ 45) (hlt : pg < 5) (cd : Lib.contains P [43, 100] = false) (cn2 : Lib.contains P [110, 110] = false) (cn : Lib.contains P [110] = false) (ce : Lib.contains P [101] = true) (R : Str) (hR : RA [101] (rsgnL (byt zs 2)) P = R) :
    Calls Tryz.prog 9 #[v] W fun e w' => ∃ s : ByteArray, e = .returned (.tuple #[.string s, .int .i64 3]) ∧ s.data.toList = R ∧ Below W.heap.size W w' := by
  have hPg : ∀ W', Below W.heap.size W W' → Calls Tryz.prog 24 #[v] W' fun e w' => e = .returned (.tuple #[.int .i64 pg, .int .i64 1]) ∧ Below W'.heap.size W' w' := fun W' hb => by
    have h := rpage_any zs v W' (hG.below hb) (hs.below hb) hl
    rw [hpg] at h
    exact h
  have HPG := Lib.hid hPg
  have HPT := Lib.hid hP
  have HV := Lib.hid hs
  have HL := Lib.hid hl
  have hcd := Lib.hid (fun a ha => has_at { data := #[43, 100] } (P := P) rfl (by decide) (by decide) cd (by omega) a ha)
  have hcn2 := Lib.hid (fun a ha => has_at { data := #[110, 110] } (P := P) rfl (by decide) (by decide) cn2 (by omega) a ha)
  have hcn := Lib.hid (fun a ha => has_at { data := #[110] } (P := P) rfl (by decide) (by decide) cn (by omega) a ha)
  have hce := Lib.hid (fun a ha => has_at { data := #[101] } (P := P) rfl (by decide) (by decide) ce (by omega) a ha)
  have hrr := Lib.hid (fun a b ha hb => rep_at { data := #[101] } rfl (by decide) (by decide) hR (by omega) (Nat.le_trans (rsgnL_len _ (byt_lt zs 2)) (by decide)) a b ha hb)
  have hse := Lib.hid (rsigned_any (byt zs 2) (byt_lt zs 2))
  clear hP hpg hPg hs hl hPl cd cn2 cn ce hR
  have b0 := Below.refl W.heap.size W
  have p0 : ¬ pg < 0 := by omega
  have p5 : pg < 5 := hlt
  go_enter Tryz.func9, Tryz.ntmps9
  have c2 := b0.alloc b0.size (.cells #[] 5)
  go_upto_region 1 with fail
  go_wp2_with (at_builtin; refine app_any W _ c2 rfl _ _ rfl _ [] rfl (own_start W W b0) _ zs rfl (HV.out.below c2) (by have := HL.out; simp; omega) ?_)
  intro v3 w3 o3 b3
  have c3 := b3.alloc b3.size (.cells #[.int .u8 0, .int .u8 0, .int .u8 0, .int .u8 0, .int .u8 0, .int .u8 0] 5)
  go_wp2_with (at_builtin; refine app_any W _ c3 rfl _ _ rfl _ zs rfl (o3.below ((Below.refl _ _).alloc (Nat.le_refl _) _)) _ [0, 0, 0, 0, 0, 0] rfl (SrcOf.zeros6 w3) (by have := HL.out; simp; omega) ?_)
  intro v4 w4 o4 b4
  obtain ⟨p, cap, rfl, hl4, hc4⟩ := o4.bytes (by have := HL.out; simp; omega)
  obtain ⟨gb, go, rfl, hgb, hcell⟩ := hc4 (by simp)
  have hD : ∀ k, k < 6 → w4.cell? ⟨gb, go + k, none⟩ = some (.int .u8 (byt zs k : Nat)) := fun k hk => byt_same zs hcell k hk
  have D0 := Lib.hid (hD 0 (by decide))
  rw [Nat.add_zero] at D0
  have D1 := Lib.hid (hD 1 (by decide))
  have D2 := Lib.hid (hD 2 (by decide))
  have D3 := Lib.hid (hD 3 (by decide))
  have D4 := Lib.hid (hD 4 (by decide))
  have D5 := Lib.hid (hD 5 (by decide))
  obtain ⟨m, hm⟩ : ∃ m, (zs ++ [0, 0, 0, 0, 0, 0]).length = m := ⟨_, rfl⟩
  have m0 : 0 < m := by rw [← hm, List.length_append]; simp only [List.length_cons, List.length_nil]; omega
  have m1 : 1 < m := by rw [← hm, List.length_append]; simp only [List.length_cons, List.length_nil]; omega
  have m2 : 2 < m := by rw [← hm, List.length_append]; simp only [List.length_cons, List.length_nil]; omega
  have m3 : 3 < m := by rw [← hm, List.length_append]; simp only [List.length_cons, List.length_nil]; omega
  have m4 : 4 < m := by rw [← hm, List.length_append]; simp only [List.length_cons, List.length_nil]; omega
  have m5 : 5 < m := by rw [← hm, List.length_append]; simp only [List.length_cons, List.length_nil]; omega
  rw [hm]
  clear hcell hm hc4 hl4 o4 o3 hD
  have k4 := NB.start (hG.below b4)
  go_wp2_with (first
    | (go_at_call 24; (with_reducible refine (HPG.out _ b4).mono ?_); rintro e w5 ⟨rfl, q5⟩; (have k5 := k4.below q5); (have e5 := cell_below k5.bel D1.out))
    | (go_at_call 7; (with_reducible refine (HPT.out _ _ _ k5).mono ?_); rintro e w6 ⟨s6, rfl, hs6, z6, k6⟩)
    | (go_at_call 25; (with_reducible refine (hcd.out s6 hs6 _ _ _ k6).mono ?_); rintro e w7 ⟨rfl, k7⟩)
    | (go_at_call 25; (with_reducible refine (hcn2.out s6 hs6 _ _ _ k7).mono ?_); rintro e w10 ⟨rfl, k10⟩)
    | (go_at_call 25; (with_reducible refine (hcn.out s6 hs6 _ _ _ k10).mono ?_); rintro e w11 ⟨rfl, k11⟩)
    | (go_at_call 25; (with_reducible refine (hce.out s6 hs6 _ _ _ k11).mono ?_); rintro e w12 ⟨rfl, k12⟩; (have e12 := cell_below k12.bel D2.out))
    | (go_at_call 27; (with_reducible refine (hse.out _ _ _ k12).mono ?_); rintro e w13 ⟨s13, rfl, hs13, z13, k13⟩)
    | (go_at_call 26; (with_reducible refine (hrr.out s6 s13 hs6 hs13 _ _ _ k13).mono ?_); rintro e w14 ⟨s14, rfl, hs14, z14, k14⟩))
  all_goals first | (exfalso; (try simp only [ByteArray.size_append, size_mk, List.length_cons, List.length_nil] at *); omega) | skip
  go_ret2
  exact ⟨s14, rfl, hs14, b4.trans (k14.bel.mono b4.size)⟩
set_option maxRecDepth 100000 in
set_option maxHeartbeats 4000000 in
theorem rn_1_z (zs : List UInt8) (v : Value) (W : World) (hG : GV W) (hs : SrcOf W v zs) (hl : zs.length ≤ 40) (pg : Int) (hpg : pageL (byt zs) = (pg, 1)) (h0 : 0 ≤ pg) (P : Str) (hP : HeldS 7 #[.int .i64 pg, .int .u8 (byt zs 1 : Nat)] P 5000) (hPl : P.length ≤ 45) (hlt : pg < 5) (cd : Lib.contains P [43, 100] = false) (cn2 : Lib.contains P [110, 110] = false) (cn : Lib.contains P [110] = false) (ce : Lib.contains P [101] = false) :
    Calls Tryz.prog 9 #[v] W fun e w' => ∃ s : ByteArray, e = .returned (.tuple #[.string s, .int .i64 2]) ∧ s.data.toList = P ∧ Below W.heap.size W w' := by
  have hPg : ∀ W', Below W.heap.size W W' → Calls Tryz.prog 24 #[v] W' fun e w' => e = .returned (.tuple #[.int .i64 pg, .int .i64 1]) ∧ Below W'.heap.size W' w' := fun W' hb => by
    have h := rpage_any zs v W' (hG.below hb) (hs.below hb) hl
    rw [hpg] at h
    exact h
  have HPG := Lib.hid hPg
  have HPT := Lib.hid hP
  have HV := Lib.hid hs
  have HL := Lib.hid hl
  have hcd := Lib.hid (fun a ha => has_at { data := #[43, 100] } (P := P) rfl (by decide) (by decide) cd (by omega) a ha)
  have hcn2 := Lib.hid (fun a ha => has_at { data := #[110, 110] } (P := P) rfl (by decide) (by decide) cn2 (by omega) a ha)
  have hcn := Lib.hid (fun a ha => has_at { data := #[110] } (P := P) rfl (by decide) (by decide) cn (by omega) a ha)
  have hce := Lib.hid (fun a ha => has_at { data := #[101] } (P := P) rfl (by decide) (by decide) ce (by omega) a ha)
  clear hP hpg hPg hs hl hPl cd cn2 cn ce
  have b0 := Below.refl W.heap.size W
  have p0 : ¬ pg < 0 := by omega
  have p5 : pg < 5 := hlt
  go_enter Tryz.func9, Tryz.ntmps9
  have c2 := b0.alloc b0.size (.cells #[] 5)
  go_upto_region 1 with fail
  go_wp2_with (at_builtin; refine app_any W _ c2 rfl _ _ rfl _ [] rfl (own_start W W b0) _ zs rfl (HV.out.below c2) (by have := HL.out; simp; omega) ?_)
  intro v3 w3 o3 b3
  have c3 := b3.alloc b3.size (.cells #[.int .u8 0, .int .u8 0, .int .u8 0, .int .u8 0, .int .u8 0, .int .u8 0] 5)
  go_wp2_with (at_builtin; refine app_any W _ c3 rfl _ _ rfl _ zs rfl (o3.below ((Below.refl _ _).alloc (Nat.le_refl _) _)) _ [0, 0, 0, 0, 0, 0] rfl (SrcOf.zeros6 w3) (by have := HL.out; simp; omega) ?_)
  intro v4 w4 o4 b4
  obtain ⟨p, cap, rfl, hl4, hc4⟩ := o4.bytes (by have := HL.out; simp; omega)
  obtain ⟨gb, go, rfl, hgb, hcell⟩ := hc4 (by simp)
  have hD : ∀ k, k < 6 → w4.cell? ⟨gb, go + k, none⟩ = some (.int .u8 (byt zs k : Nat)) := fun k hk => byt_same zs hcell k hk
  have D0 := Lib.hid (hD 0 (by decide))
  rw [Nat.add_zero] at D0
  have D1 := Lib.hid (hD 1 (by decide))
  have D2 := Lib.hid (hD 2 (by decide))
  have D3 := Lib.hid (hD 3 (by decide))
  have D4 := Lib.hid (hD 4 (by decide))
  have D5 := Lib.hid (hD 5 (by decide))
  obtain ⟨m, hm⟩ : ∃ m, (zs ++ [0, 0, 0, 0, 0, 0]).length = m := ⟨_, rfl⟩
  have m0 : 0 < m := by rw [← hm, List.length_append]; simp only [List.length_cons, List.length_nil]; omega
  have m1 : 1 < m := by rw [← hm, List.length_append]; simp only [List.length_cons, List.length_nil]; omega
  have m2 : 2 < m := by rw [← hm, List.length_append]; simp only [List.length_cons, List.length_nil]; omega
  have m3 : 3 < m := by rw [← hm, List.length_append]; simp only [List.length_cons, List.length_nil]; omega
  have m4 : 4 < m := by rw [← hm, List.length_append]; simp only [List.length_cons, List.length_nil]; omega
  have m5 : 5 < m := by rw [← hm, List.length_append]; simp only [List.length_cons, List.length_nil]; omega
  rw [hm]
  clear hcell hm hc4 hl4 o4 o3 hD
  have k4 := NB.start (hG.below b4)
  go_wp2_with (first
    | (go_at_call 24; (with_reducible refine (HPG.out _ b4).mono ?_); rintro e w5 ⟨rfl, q5⟩; (have k5 := k4.below q5); (have e5 := cell_below k5.bel D1.out))
    | (go_at_call 7; (with_reducible refine (HPT.out _ _ _ k5).mono ?_); rintro e w6 ⟨s6, rfl, hs6, z6, k6⟩)
    | (go_at_call 25; (with_reducible refine (hcd.out s6 hs6 _ _ _ k6).mono ?_); rintro e w7 ⟨rfl, k7⟩)
    | (go_at_call 25; (with_reducible refine (hcn2.out s6 hs6 _ _ _ k7).mono ?_); rintro e w10 ⟨rfl, k10⟩)
    | (go_at_call 25; (with_reducible refine (hcn.out s6 hs6 _ _ _ k10).mono ?_); rintro e w11 ⟨rfl, k11⟩)
    | (go_at_call 25; (with_reducible refine (hce.out s6 hs6 _ _ _ k11).mono ?_); rintro e w12 ⟨rfl, k12⟩))
  all_goals first | (exfalso; (try simp only [ByteArray.size_append, size_mk, List.length_cons, List.length_nil] at *); omega) | skip
  go_ret2
  exact ⟨s6, rfl, hs6, b4.trans (k12.bel.mono b4.size)⟩
set_option maxRecDepth 100000 in
set_option maxHeartbeats 4000000 in
theorem rn_1d_n (zs : List UInt8) (v : Value) (W : World) (hG : GV W) (hs : SrcOf W v zs) (hl : zs.length ≤ 40) (pg : Int) (hpg : pageL (byt zs) = (pg, 1)) (h0 : 0 ≤ pg) (P : Str) (hP : HeldS 7 #[.int .i64 pg, .int .u8 (byt zs 1 : Nat)] P 5000) (hPl : P.length ≤ 45) (hlt : pg < 5) (cd : Lib.contains P [43, 100] = true) (S : Str) (hS : RA [43, 100] (rsgnL (byt zs 2)) P = S) (hSl : S.length ≤ 60) (cn2 : Lib.contains S [110, 110] = false) (cn : Lib.contains S [110] = true) (R : Str) (hR : RA [110] (36 :: rhexL (byt zs 3)) S = R) :
    Calls Tryz.prog 9 #[v] W fun e w' => ∃ s : ByteArray, e = .returned (.tuple #[.string s, .int .i64 4]) ∧ s.data.toList = R ∧ Below W.heap.size W w' := by
  have hPg : ∀ W', Below W.heap.size W W' → Calls Tryz.prog 24 #[v] W' fun e w' => e = .returned (.tuple #[.int .i64 pg, .int .i64 1]) ∧ Below W'.heap.size W' w' := fun W' hb => by
    have h := rpage_any zs v W' (hG.below hb) (hs.below hb) hl
    rw [hpg] at h
    exact h
  have HPG := Lib.hid hPg
  have HPT := Lib.hid hP
  have HV := Lib.hid hs
  have HL := Lib.hid hl
  have hcd := Lib.hid (fun a ha => has_at { data := #[43, 100] } (P := P) rfl (by decide) (by decide) cd (by omega) a ha)
  have hrd := Lib.hid (fun a b ha hb => rep_at { data := #[43, 100] } rfl (by decide) (by decide) hS (by omega) (Nat.le_trans (rsgnL_len _ (byt_lt zs 2)) (by decide)) a b ha hb)
  have hsd := Lib.hid (rsigned_any (byt zs 2) (byt_lt zs 2))
  have hcn2 := Lib.hid (fun a ha => has_at { data := #[110, 110] } (P := S) rfl (by decide) (by decide) cn2 (by omega) a ha)
  have hcn := Lib.hid (fun a ha => has_at { data := #[110] } (P := S) rfl (by decide) (by decide) cn (by omega) a ha)
  have hrr := Lib.hid (fun a b ha hb => rep_at { data := #[110] } rfl (by decide) (by decide) hR (by omega) (by simp [rhexL_len]) a b ha hb)
  have hh2 := Lib.hid (rhex_any (byt zs 3) (byt_lt zs 3))
  clear hP hpg hPg hs hl hPl cd cn2 cn hR hS hSl
  have b0 := Below.refl W.heap.size W
  have p0 : ¬ pg < 0 := by omega
  have p5 : pg < 5 := hlt
  go_enter Tryz.func9, Tryz.ntmps9
  have c2 := b0.alloc b0.size (.cells #[] 5)
  go_upto_region 1 with fail
  go_wp2_with (at_builtin; refine app_any W _ c2 rfl _ _ rfl _ [] rfl (own_start W W b0) _ zs rfl (HV.out.below c2) (by have := HL.out; simp; omega) ?_)
  intro v3 w3 o3 b3
  have c3 := b3.alloc b3.size (.cells #[.int .u8 0, .int .u8 0, .int .u8 0, .int .u8 0, .int .u8 0, .int .u8 0] 5)
  go_wp2_with (at_builtin; refine app_any W _ c3 rfl _ _ rfl _ zs rfl (o3.below ((Below.refl _ _).alloc (Nat.le_refl _) _)) _ [0, 0, 0, 0, 0, 0] rfl (SrcOf.zeros6 w3) (by have := HL.out; simp; omega) ?_)
  intro v4 w4 o4 b4
  obtain ⟨p, cap, rfl, hl4, hc4⟩ := o4.bytes (by have := HL.out; simp; omega)
  obtain ⟨gb, go, rfl, hgb, hcell⟩ := hc4 (by simp)
  have hD : ∀ k, k < 6 → w4.cell? ⟨gb, go + k, none⟩ = some (.int .u8 (byt zs k : Nat)) := fun k hk => byt_same zs hcell k hk
  have D0 := Lib.hid (hD 0 (by decide))
  rw [Nat.add_zero] at D0
  have D1 := Lib.hid (hD 1 (by decide))
  have D2 := Lib.hid (hD 2 (by decide))
  have D3 := Lib.hid (hD 3 (by decide))
  have D4 := Lib.hid (hD 4 (by decide))
  have D5 := Lib.hid (hD 5 (by decide))
  obtain ⟨m, hm⟩ : ∃ m, (zs ++ [0, 0, 0, 0, 0, 0]).length = m := ⟨_, rfl⟩
  have m0 : 0 < m := by rw [← hm, List.length_append]; simp only [List.length_cons, List.length_nil]; omega
  have m1 : 1 < m := by rw [← hm, List.length_append]; simp only [List.length_cons, List.length_nil]; omega
  have m2 : 2 < m := by rw [← hm, List.length_append]; simp only [List.length_cons, List.length_nil]; omega
  have m3 : 3 < m := by rw [← hm, List.length_append]; simp only [List.length_cons, List.length_nil]; omega
  have m4 : 4 < m := by rw [← hm, List.length_append]; simp only [List.length_cons, List.length_nil]; omega
  have m5 : 5 < m := by rw [← hm, List.length_append]; simp only [List.length_cons, List.length_nil]; omega
  rw [hm]
  clear hcell hm hc4 hl4 o4 o3 hD
  have k4 := NB.start (hG.below b4)
  go_wp2_with (first
    | (go_at_call 24; (with_reducible refine (HPG.out _ b4).mono ?_); rintro e w5 ⟨rfl, q5⟩; (have k5 := k4.below q5); (have e5 := cell_below k5.bel D1.out))
    | (go_at_call 7; (with_reducible refine (HPT.out _ _ _ k5).mono ?_); rintro e w6 ⟨s6, rfl, hs6, z6, k6⟩)
    | (go_at_call 25; (with_reducible refine (hcd.out s6 hs6 _ _ _ k6).mono ?_); rintro e w7 ⟨rfl, k7⟩; (have e7 := cell_below k7.bel D2.out))
    | (go_at_call 27; (with_reducible refine (hsd.out _ _ _ k7).mono ?_); rintro e w8 ⟨s8, rfl, hs8, z8, k8⟩)
    | (go_at_call 26; (with_reducible refine (hrd.out s6 s8 hs6 hs8 _ _ _ k8).mono ?_); rintro e w9 ⟨s9, rfl, hs9, z9, k9⟩)
    | (go_at_call 25; (with_reducible refine (hcn2.out s9 hs9 _ _ _ k9).mono ?_); rintro e w10 ⟨rfl, k10⟩)
    | (go_at_call 25; (with_reducible refine (hcn.out s9 hs9 _ _ _ k10).mono ?_); rintro e w11 ⟨rfl, k11⟩; (have e11 := cell_below k11.bel D3.out))
    | (go_at_call 28; (with_reducible refine (hh2.out _ _ _ k11).mono ?_); rintro e w13 ⟨s13, rfl, hs13, z13, k13⟩)
    | (go_at_call 26; (refine (hrr.out s9 _ hs9 (by simp [hs13]) _ _ _ k13).mono ?_); rintro e w14 ⟨s14, rfl, hs14, z14, k14⟩))
  all_goals first | (exfalso; (try simp only [ByteArray.size_append, size_mk, List.length_cons, List.length_nil] at *); omega) | skip
  go_ret2
  exact ⟨s14, rfl, hs14, b4.trans (k14.bel.mono b4.size)⟩
set_option maxRecDepth 100000 in
set_option maxHeartbeats 4000000 in
theorem rn_1d_z (zs : List UInt8) (v : Value) (W : World) (hG : GV W) (hs : SrcOf W v zs) (hl : zs.length ≤ 40) (pg : Int) (hpg : pageL (byt zs) = (pg, 1)) (h0 : 0 ≤ pg) (P : Str) (hP : HeldS 7 #[.int .i64 pg, .int .u8 (byt zs 1 : Nat)] P 5000) (hPl : P.length ≤ 45) (hlt : pg < 5) (cd : Lib.contains P [43, 100] = true) (S : Str) (hS : RA [43, 100] (rsgnL (byt zs 2)) P = S) (hSl : S.length ≤ 60) (cn2 : Lib.contains S [110, 110] = false) (cn : Lib.contains S [110] = false) (ce : Lib.contains S [101] = false) :
    Calls Tryz.prog 9 #[v] W fun e w' => ∃ s : ByteArray, e = .returned (.tuple #[.string s, .int .i64 3]) ∧ s.data.toList = S ∧ Below W.heap.size W w' := by
  have hPg : ∀ W', Below W.heap.size W W' → Calls Tryz.prog 24 #[v] W' fun e w' => e = .returned (.tuple #[.int .i64 pg, .int .i64 1]) ∧ Below W'.heap.size W' w' := fun W' hb => by
    have h := rpage_any zs v W' (hG.below hb) (hs.below hb) hl
    rw [hpg] at h
    exact h
  have HPG := Lib.hid hPg
  have HPT := Lib.hid hP
  have HV := Lib.hid hs
  have HL := Lib.hid hl
  have hcd := Lib.hid (fun a ha => has_at { data := #[43, 100] } (P := P) rfl (by decide) (by decide) cd (by omega) a ha)
  have hrd := Lib.hid (fun a b ha hb => rep_at { data := #[43, 100] } rfl (by decide) (by decide) hS (by omega) (Nat.le_trans (rsgnL_len _ (byt_lt zs 2)) (by decide)) a b ha hb)
  have hsd := Lib.hid (rsigned_any (byt zs 2) (byt_lt zs 2))
  have hcn2 := Lib.hid (fun a ha => has_at { data := #[110, 110] } (P := S) rfl (by decide) (by decide) cn2 (by omega) a ha)
  have hcn := Lib.hid (fun a ha => has_at { data := #[110] } (P := S) rfl (by decide) (by decide) cn (by omega) a ha)
  have hce := Lib.hid (fun a ha => has_at { data := #[101] } (P := S) rfl (by decide) (by decide) ce (by omega) a ha)
  clear hP hpg hPg hs hl hPl cd cn2 cn ce hS hSl
  have b0 := Below.refl W.heap.size W
  have p0 : ¬ pg < 0 := by omega
  have p5 : pg < 5 := hlt
  go_enter Tryz.func9, Tryz.ntmps9
  have c2 := b0.alloc b0.size (.cells #[] 5)
  go_upto_region 1 with fail
  go_wp2_with (at_builtin; refine app_any W _ c2 rfl _ _ rfl _ [] rfl (own_start W W b0) _ zs rfl (HV.out.below c2) (by have := HL.out; simp; omega) ?_)
  intro v3 w3 o3 b3
  have c3 := b3.alloc b3.size (.cells #[.int .u8 0, .int .u8 0, .int .u8 0, .int .u8 0, .int .u8 0, .int .u8 0] 5)
  go_wp2_with (at_builtin; refine app_any W _ c3 rfl _ _ rfl _ zs rfl (o3.below ((Below.refl _ _).alloc (Nat.le_refl _) _)) _ [0, 0, 0, 0, 0, 0] rfl (SrcOf.zeros6 w3) (by have := HL.out; simp; omega) ?_)
  intro v4 w4 o4 b4
  obtain ⟨p, cap, rfl, hl4, hc4⟩ := o4.bytes (by have := HL.out; simp; omega)
  obtain ⟨gb, go, rfl, hgb, hcell⟩ := hc4 (by simp)
  have hD : ∀ k, k < 6 → w4.cell? ⟨gb, go + k, none⟩ = some (.int .u8 (byt zs k : Nat)) := fun k hk => byt_same zs hcell k hk
  have D0 := Lib.hid (hD 0 (by decide))
  rw [Nat.add_zero] at D0
  have D1 := Lib.hid (hD 1 (by decide))
  have D2 := Lib.hid (hD 2 (by decide))
  have D3 := Lib.hid (hD 3 (by decide))
  have D4 := Lib.hid (hD 4 (by decide))
  have D5 := Lib.hid (hD 5 (by decide))
  obtain ⟨m, hm⟩ : ∃ m, (zs ++ [0, 0, 0, 0, 0, 0]).length = m := ⟨_, rfl⟩
  have m0 : 0 < m := by rw [← hm, List.length_append]; simp only [List.length_cons, List.length_nil]; omega
  have m1 : 1 < m := by rw [← hm, List.length_append]; simp only [List.length_cons, List.length_nil]; omega
  have m2 : 2 < m := by rw [← hm, List.length_append]; simp only [List.length_cons, List.length_nil]; omega
  have m3 : 3 < m := by rw [← hm, List.length_append]; simp only [List.length_cons, List.length_nil]; omega
  have m4 : 4 < m := by rw [← hm, List.length_append]; simp only [List.length_cons, List.length_nil]; omega
  have m5 : 5 < m := by rw [← hm, List.length_append]; simp only [List.length_cons, List.length_nil]; omega
  rw [hm]
  clear hcell hm hc4 hl4 o4 o3 hD
  have k4 := NB.start (hG.below b4)
  go_wp2_with (first
    | (go_at_call 24; (with_reducible refine (HPG.out _ b4).mono ?_); rintro e w5 ⟨rfl, q5⟩; (have k5 := k4.below q5); (have e5 := cell_below k5.bel D1.out))
    | (go_at_call 7; (with_reducible refine (HPT.out _ _ _ k5).mono ?_); rintro e w6 ⟨s6, rfl, hs6, z6, k6⟩)
    | (go_at_call 25; (with_reducible refine (hcd.out s6 hs6 _ _ _ k6).mono ?_); rintro e w7 ⟨rfl, k7⟩; (have e7 := cell_below k7.bel D2.out))
    | (go_at_call 27; (with_reducible refine (hsd.out _ _ _ k7).mono ?_); rintro e w8 ⟨s8, rfl, hs8, z8, k8⟩)
    | (go_at_call 26; (with_reducible refine (hrd.out s6 s8 hs6 hs8 _ _ _ k8).mono ?_); rintro e w9 ⟨s9, rfl, hs9, z9, k9⟩)
    | (go_at_call 25; (with_reducible refine (hcn2.out s9 hs9 _ _ _ k9).mono ?_); rintro e w10 ⟨rfl, k10⟩)
    | (go_at_call 25; (with_reducible refine (hcn.out s9 hs9 _ _ _ k10).mono ?_); rintro e w11 ⟨rfl, k11⟩)
    | (go_at_call 25; (with_reducible refine (hce.out s9 hs9 _ _ _ k11).mono ?_); rintro e w12 ⟨rfl, k12⟩))
  all_goals first | (exfalso; (try simp only [ByteArray.size_append, size_mk, List.length_cons, List.length_nil] at *); omega) | skip
  go_ret2
  exact ⟨s9, rfl, hs9, b4.trans (k12.bel.mono b4.size)⟩
set_option maxRecDepth 100000 in
set_option maxHeartbeats 4000000 in
theorem rn_3d_z (zs : List UInt8) (v : Value) (W : World) (hG : GV W) (hs : SrcOf W v zs) (hl : zs.length ≤ 40) (pg : Int) (hpg : pageL (byt zs) = (pg, 3)) (h0 : 0 ≤ pg) (P : Str) (hP : HeldS 7 #[.int .i64 pg, .int .u8 (byt zs 3 : Nat)] P 5000) (hPl : P.length ≤ 45) (hlt : 5 ≤ pg) (cd : Lib.contains P [43, 100] = true) (S : Str) (hS : RA [43, 100] (rsgnL (byt zs 2)) P = S) (hSl : S.length ≤ 60) (cn2 : Lib.contains S [110, 110] = false) (cn : Lib.contains S [110] = false) (ce : Lib.contains S [101] = false) :
    Calls Tryz.prog 9 #[v] W fun e w' => ∃ s : ByteArray, e = .returned (.tuple #[.string s, .int .i64 4]) ∧ s.data.toList = S ∧ Below W.heap.size W w' := by
  have hPg : ∀ W', Below W.heap.size W W' → Calls Tryz.prog 24 #[v] W' fun e w' => e = .returned (.tuple #[.int .i64 pg, .int .i64 3]) ∧ Below W'.heap.size W' w' := fun W' hb => by
    have h := rpage_any zs v W' (hG.below hb) (hs.below hb) hl
    rw [hpg] at h
    exact h
  have HPG := Lib.hid hPg
  have HPT := Lib.hid hP
  have HV := Lib.hid hs
  have HL := Lib.hid hl
  have hcd := Lib.hid (fun a ha => has_at { data := #[43, 100] } (P := P) rfl (by decide) (by decide) cd (by omega) a ha)
  have hrd := Lib.hid (fun a b ha hb => rep_at { data := #[43, 100] } rfl (by decide) (by decide) hS (by omega) (Nat.le_trans (rsgnL_len _ (byt_lt zs 2)) (by decide)) a b ha hb)
  have hsd := Lib.hid (rsigned_any (byt zs 2) (byt_lt zs 2))
  have hcn2 := Lib.hid (fun a ha => has_at { data := #[110, 110] } (P := S) rfl (by decide) (by decide) cn2 (by omega) a ha)
  have hcn := Lib.hid (fun a ha => has_at { data := #[110] } (P := S) rfl (by decide) (by decide) cn (by omega) a ha)
  have hce := Lib.hid (fun a ha => has_at { data := #[101] } (P := S) rfl (by decide) (by decide) ce (by omega) a ha)
  clear hP hpg hPg hs hl hPl cd cn2 cn ce hS hSl
  have b0 := Below.refl W.heap.size W
  have p0 : ¬ pg < 0 := by omega
  have p5 : ¬ pg < 5 := by omega
  go_enter Tryz.func9, Tryz.ntmps9
  have c2 := b0.alloc b0.size (.cells #[] 5)
  go_upto_region 1 with fail
  go_wp2_with (at_builtin; refine app_any W _ c2 rfl _ _ rfl _ [] rfl (own_start W W b0) _ zs rfl (HV.out.below c2) (by have := HL.out; simp; omega) ?_)
  intro v3 w3 o3 b3
  have c3 := b3.alloc b3.size (.cells #[.int .u8 0, .int .u8 0, .int .u8 0, .int .u8 0, .int .u8 0, .int .u8 0] 5)
  go_wp2_with (at_builtin; refine app_any W _ c3 rfl _ _ rfl _ zs rfl (o3.below ((Below.refl _ _).alloc (Nat.le_refl _) _)) _ [0, 0, 0, 0, 0, 0] rfl (SrcOf.zeros6 w3) (by have := HL.out; simp; omega) ?_)
  intro v4 w4 o4 b4
  obtain ⟨p, cap, rfl, hl4, hc4⟩ := o4.bytes (by have := HL.out; simp; omega)
  obtain ⟨gb, go, rfl, hgb, hcell⟩ := hc4 (by simp)
  have hD : ∀ k, k < 6 → w4.cell? ⟨gb, go + k, none⟩ = some (.int .u8 (byt zs k : Nat)) := fun k hk => byt_same zs hcell k hk
  have D0 := Lib.hid (hD 0 (by decide))
  rw [Nat.add_zero] at D0
  have D1 := Lib.hid (hD 1 (by decide))
  have D2 := Lib.hid (hD 2 (by decide))
  have D3 := Lib.hid (hD 3 (by decide))
  have D4 := Lib.hid (hD 4 (by decide))
  have D5 := Lib.hid (hD 5 (by decide))
  obtain ⟨m, hm⟩ : ∃ m, (zs ++ [0, 0, 0, 0, 0, 0]).length = m := ⟨_, rfl⟩
  have m0 : 0 < m := by rw [← hm, List.length_append]; simp only [List.length_cons, List.length_nil]; omega
  have m1 : 1 < m := by rw [← hm, List.length_append]; simp only [List.length_cons, List.length_nil]; omega
  have m2 : 2 < m := by rw [← hm, List.length_append]; simp only [List.length_cons, List.length_nil]; omega
  have m3 : 3 < m := by rw [← hm, List.length_append]; simp only [List.length_cons, List.length_nil]; omega
  have m4 : 4 < m := by rw [← hm, List.length_append]; simp only [List.length_cons, List.length_nil]; omega
  have m5 : 5 < m := by rw [← hm, List.length_append]; simp only [List.length_cons, List.length_nil]; omega
  rw [hm]
  clear hcell hm hc4 hl4 o4 o3 hD
  have k4 := NB.start (hG.below b4)
  go_wp2_with (first
    | (go_at_call 24; (with_reducible refine (HPG.out _ b4).mono ?_); rintro e w5 ⟨rfl, q5⟩; (have k5 := k4.below q5); (have e5 := cell_below k5.bel D3.out))
    | (go_at_call 7; (with_reducible refine (HPT.out _ _ _ k5).mono ?_); rintro e w6 ⟨s6, rfl, hs6, z6, k6⟩)
    | (go_at_call 25; (with_reducible refine (hcd.out s6 hs6 _ _ _ k6).mono ?_); rintro e w7 ⟨rfl, k7⟩; (have e7 := cell_below k7.bel D2.out))
    | (go_at_call 27; (with_reducible refine (hsd.out _ _ _ k7).mono ?_); rintro e w8 ⟨s8, rfl, hs8, z8, k8⟩)
    | (go_at_call 26; (with_reducible refine (hrd.out s6 s8 hs6 hs8 _ _ _ k8).mono ?_); rintro e w9 ⟨s9, rfl, hs9, z9, k9⟩)
    | (go_at_call 25; (with_reducible refine (hcn2.out s9 hs9 _ _ _ k9).mono ?_); rintro e w10 ⟨rfl, k10⟩)
    | (go_at_call 25; (with_reducible refine (hcn.out s9 hs9 _ _ _ k10).mono ?_); rintro e w11 ⟨rfl, k11⟩)
    | (go_at_call 25; (with_reducible refine (hce.out s9 hs9 _ _ _ k11).mono ?_); rintro e w12 ⟨rfl, k12⟩))
  all_goals first | (exfalso; (try simp only [ByteArray.size_append, size_mk, List.length_cons, List.length_nil] at *); omega) | skip
  go_ret2
  exact ⟨s9, rfl, hs9, b4.trans (k12.bel.mono b4.size)⟩
set_option maxRecDepth 100000 in
set_option maxHeartbeats 4000000 in
theorem rn_neg (zs : List UInt8) (v : Value) (W : World) (hG : GV W) (hs : SrcOf W v zs) (hl : zs.length ≤ 40) (hpg : pageL (byt zs) = (-1, 0)) :
    Calls Tryz.prog 9 #[v] W fun e w' => ∃ s : ByteArray, e = .returned (.tuple #[.string s, .int .i64 1]) ∧ s.data.toList = rplainL (byt zs 0) ∧ Below W.heap.size W w' := by
  have hPg : ∀ W', Below W.heap.size W W' → Calls Tryz.prog 24 #[v] W' fun e w' => e = .returned (.tuple #[.int .i64 (-1), .int .i64 0]) ∧ Below W'.heap.size W' w' := fun W' hb => by
    have h := rpage_any zs v W' (hG.below hb) (hs.below hb) hl
    rw [hpg] at h
    exact h
  have HPG := Lib.hid hPg
  have HV := Lib.hid hs
  have HL := Lib.hid hl
  have HPL := Lib.hid (rplain_any (byt zs 0) (byt_lt zs 0))
  clear hpg hPg hs hl
  have b0 := Below.refl W.heap.size W
  go_enter Tryz.func9, Tryz.ntmps9
  have c2 := b0.alloc b0.size (.cells #[] 5)
  go_upto_region 1 with fail
  go_wp2_with (at_builtin; refine app_any W _ c2 rfl _ _ rfl _ [] rfl (own_start W W b0) _ zs rfl (HV.out.below c2) (by have := HL.out; simp; omega) ?_)
  intro v3 w3 o3 b3
  have c3 := b3.alloc b3.size (.cells #[.int .u8 0, .int .u8 0, .int .u8 0, .int .u8 0, .int .u8 0, .int .u8 0] 5)
  go_wp2_with (at_builtin; refine app_any W _ c3 rfl _ _ rfl _ zs rfl (o3.below ((Below.refl _ _).alloc (Nat.le_refl _) _)) _ [0, 0, 0, 0, 0, 0] rfl (SrcOf.zeros6 w3) (by have := HL.out; simp; omega) ?_)
  intro v4 w4 o4 b4
  obtain ⟨p, cap, rfl, hl4, hc4⟩ := o4.bytes (by have := HL.out; simp; omega)
  obtain ⟨gb, go, rfl, hgb, hcell⟩ := hc4 (by simp)
  have hD := byt_same zs hcell 0 (by decide)
  rw [Nat.add_zero] at hD
  have D0 := Lib.hid hD
  obtain ⟨m, hm⟩ : ∃ m, (zs ++ [0, 0, 0, 0, 0, 0]).length = m := ⟨_, rfl⟩
  have m0 : 0 < m := by rw [← hm, List.length_append]; simp only [List.length_cons, List.length_nil]; omega
  rw [hm]
  clear hcell hm hc4 hl4 o4 o3 hD
  have k4 := NB.start (hG.below b4)
  go_wp2_with (first
    | (go_at_call 24; (with_reducible refine (HPG.out _ b4).mono ?_); rintro e w5 ⟨rfl, q5⟩; (have k5 := k4.below q5); (have e5 := cell_below k5.bel D0.out))
    | (go_at_call 16; (with_reducible refine (HPL.out _ _ _ k5).mono ?_); rintro e w6 ⟨s6, rfl, hs6, z6, k6⟩))
  go_ret2
  exact ⟨s6, rfl, hs6, b4.trans (k6.bel.mono b4.size)⟩
end Nm
end Go.Proofs.YtnhgmdfmhmkpgaaGreatDoor
