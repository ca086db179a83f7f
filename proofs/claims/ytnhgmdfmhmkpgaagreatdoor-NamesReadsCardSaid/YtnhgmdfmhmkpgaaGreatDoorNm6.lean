/- What instructions are called (layer 11): indexed. No conditions but those stated. -/
import Derived.Test.YtnhgmdfmhmkpgaaGreatDoorNm5
import Derived.Test.YtnhgmdfmhmkpgaaGreatDoorNm6a
import Derived.Test.YtnhgmdfmhmkpgaaGreatDoorNmR2
namespace Go.Proofs.YtnhgmdfmhmkpgaaGreatDoor
open Go.RowKit
open Kit
set_option linter.unusedSimpArgs false
set_option linter.unusedVariables false
namespace Nm
set_option maxRecDepth 100000 in
set_option maxHeartbeats 4000000 in
theorem index_any (x y z p q : Int) (hx : 0 ≤ x ∧ x < 4) (hy : 0 ≤ y ∧ y < 8) (hz : 0 ≤ z ∧ z < 8) (hp : 0 ≤ p ∧ p < 4) (hq : 0 ≤ q ∧ q < 2) (ix : ByteArray) (hix : ix.size = 2) : HeldS 15 #[.agg #[.int .i64 x, .int .i64 y, .int .i64 z, .int .i64 p, .int .i64 q], .string ix] (indexL (plainL x y z p q) ix.data.toList) 5000 := heldS' fun W hW => by
  have k0 := (NB.start hW).alloc #[.int .i64 x, .int .i64 y, .int .i64 z, .int .i64 p, .int .i64 q] 30
  have hP := plain_any x y z p q hx hy hz hp hq
  generalize plainL x y z p q = P at *
  have HP := Lib.hid hP
  clear hP hx hy hz hp hq
  go_enter Tryz.func15, Tryz.ntmps15
  go_upto_region 2 with (go_at_call 11; with_reducible refine (HP.out _ _ _ k0).mono ?_; rintro e w1 ⟨a1, rfl, ha1, hz1, k1⟩)
  subst ha1
  have hl1 : a1.data.toList.length = a1.size := (Lib.size_eq a1).symm
  have hl2 : ix.data.toList.length = ix.size := (Lib.size_eq ix).symm
  clear HP k0
  by_cases e1 : a1.data.toList = [69, 88, 32, 68, 69, 44, 72, 76]
  case pos =>
    have t1 : (a1.toList == [69, 88, 32, 68, 69, 44, 72, 76]) = true := by rw [Lib.toList_data, e1]; rfl
    have hR : indexL a1.data.toList ix.data.toList = a1.data.toList := by unfold indexL; rw [if_pos e1]
    have HR := Lib.hid hR
    clear hR e1
    go_wp2_with fail
    go_ret
    exact ⟨_, rfl, HR.out.symm, by omega, _, k1⟩
  have t1 : (a1.toList == [69, 88, 32, 68, 69, 44, 72, 76]) = false := by rw [Lib.toList_data]; exact beq_eq_false_iff_ne.2 e1
  by_cases e2 : a1.data.toList = [74, 80, 32, 40, 72, 76, 41]
  case pos =>
    have t2 : (a1.toList == [74, 80, 32, 40, 72, 76, 41]) = true := by rw [Lib.toList_data, e2]; rfl
    have hR : indexL a1.data.toList ix.data.toList = [74, 80, 32, 40] ++ (ix.data.toList ++ [41]) := by unfold indexL; rw [if_neg e1, if_pos e2]
    have HR := Lib.hid hR
    clear hR e1 e2
    go_wp2_with fail
    all_goals first | (exfalso; (try simp only [ByteArray.size_append, size_mk, List.length_cons, List.length_nil] at *); omega) | skip
    go_ret
    exact ⟨_, rfl, by rw [HR.out]; simp, (by (try simp only [ByteArray.size_append, size_mk, List.length_cons, List.length_nil]); omega), _, k1⟩
  have t2 : (a1.toList == [74, 80, 32, 40, 72, 76, 41]) = false := by rw [Lib.toList_data]; exact beq_eq_false_iff_ne.2 e2
  have hR : indexL a1.data.toList ix.data.toList = if Lib.contains a1.data.toList [40, 72, 76, 41] then Lib.replace a1.data.toList [40, 72, 76, 41] ([40] ++ (ix.data.toList ++ [43, 100, 41])) 1 else if Lib.contains a1.data.toList [72, 76] then Lib.replaceAll a1.data.toList [72, 76] ix.data.toList else if (Lib.cut a1.data.toList [32]).2.1 = [] then (Lib.cut a1.data.toList [32]).1 else (Lib.cut a1.data.toList [32]).1 ++ ([32] ++ Lib.join ((Lib.split (Lib.cut a1.data.toList [32]).2.1 [44]).map (fx' ix.data.toList)) [44]) := by unfold indexL; rw [if_neg e1, if_neg e2]
  clear e1 e2
  cases c1 : Lib.contains a1.data.toList [40, 72, 76, 41]
  case true =>
    rw [c1, if_pos rfl] at hR
    have hH : Held 35 #[.string a1, .string { data := #[40, 72, 76, 41] }] (.bool true) := by have := contains_any a1 { data := #[40, 72, 76, 41] } (by omega); rw [show ({ data := #[40, 72, 76, 41] } : ByteArray).data.toList = [40, 72, 76, 41] from rfl, c1] at this; exact this
    clear c1
    have HR := Lib.hid hR
    clear hR
    go_wp2_with (first | (go_at_call 35; (with_reducible refine (hH _ _ _ (by assumption)).mono ?_); rintro e w2 ⟨rfl, k2⟩) | (go_at_call 36; (with_reducible refine (replace_any _ _ _ _ (by decide) (by omega) (by (try simp only [ByteArray.size_append, size_mk, List.length_cons, List.length_nil]); omega) _ _ _ (by assumption)).mono ?_); rintro e w3 ⟨a3, rfl, ha3, hz3, k3⟩))
    all_goals first | (exfalso; (try simp only [ByteArray.size_append, size_mk, List.length_cons, List.length_nil] at *); omega) | skip
    go_ret
    exact ⟨_, rfl, by rw [HR.out, ha3]; simp, by omega, _, by assumption⟩
  rw [c1, if_neg (by simp)] at hR
  have hH1 : Held 35 #[.string a1, .string { data := #[40, 72, 76, 41] }] (.bool false) := by have := contains_any a1 { data := #[40, 72, 76, 41] } (by omega); rw [show ({ data := #[40, 72, 76, 41] } : ByteArray).data.toList = [40, 72, 76, 41] from rfl, c1] at this; exact this
  clear c1
  cases c2 : Lib.contains a1.data.toList [72, 76]
  case true =>
    rw [c2, if_pos rfl] at hR
    have hH2 : Held 35 #[.string a1, .string { data := #[72, 76] }] (.bool true) := by have := contains_any a1 { data := #[72, 76] } (by omega); rw [show ({ data := #[72, 76] } : ByteArray).data.toList = [72, 76] from rfl, c2] at this; exact this
    clear c2
    have HR := Lib.hid hR
    clear hR
    go_wp2_with (first | (go_at_call 35; (with_reducible refine (hH1 _ _ _ (by assumption)).mono ?_); rintro e w2 ⟨rfl, k2⟩) | (go_at_call 35; (with_reducible refine (hH2 _ _ _ (by assumption)).mono ?_); rintro e w4 ⟨rfl, k4⟩) | (go_at_call 37; (with_reducible refine (replaceall_any _ _ _ (by decide) (by omega) (by omega) _ _ _ (by assumption)).mono ?_); rintro e w3 ⟨a3, rfl, ha3, hz3, k3⟩))
    all_goals first | (exfalso; (try simp only [ByteArray.size_append, size_mk, List.length_cons, List.length_nil] at *); omega) | skip
    go_ret
    exact ⟨_, rfl, by rw [HR.out, ha3], by omega, _, by assumption⟩
  rw [c2, if_neg (by simp)] at hR
  have hH2 : Held 35 #[.string a1, .string { data := #[72, 76] }] (.bool false) := by have := contains_any a1 { data := #[72, 76] } (by omega); rw [show ({ data := #[72, 76] } : ByteArray).data.toList = [72, 76] from rfl, c2] at this; exact this
  clear c2
  have hC := cut_lib a1 { data := #[32] } (by omega)
  rw [show ({ data := #[32] } : ByteArray).data.toList = [32] from rfl] at hC
  obtain ⟨cl1, cl2⟩ := cut_len a1.data.toList [32]
  generalize (Lib.cut a1.data.toList [32]).2.2 = found at *
  generalize (Lib.cut a1.data.toList [32]).2.1 = W1 at *
  generalize (Lib.cut a1.data.toList [32]).1 = W0 at *
  obtain ⟨B1, hB1⟩ : ∃ B1, bs W1 = B1 := ⟨_, rfl⟩
  obtain ⟨B0, hB0⟩ : ∃ B0, bs W0 = B0 := ⟨_, rfl⟩
  have hb1 : B1.data.toList = W1 := by rw [← hB1]; rfl
  have hb0 : B0.data.toList = W0 := by rw [← hB0]; rfl
  have sz1 : B1.size ≤ 40 := by rw [← hB1, bs_size]; omega
  have sz0 : B0.size ≤ 40 := by rw [← hB0, bs_size]; omega
  rw [hB1, hB0] at hC
  have HC1 := Lib.hid hC
  clear hC hB1 hB0
  subst hb1 hb0
  have hl3 : B1.data.toList.length = B1.size := (Lib.size_eq B1).symm
  have hS := split_lib B1 { data := #[44] } (by omega) (by decide) _ rfl
  rw [show ({ data := #[44] } : ByteArray).data.toList = [44] from rfl] at hS
  obtain ⟨hs3, hs4⟩ := splitK_le [44] (Lib.count B1.data.toList [44]) B1.data.toList
  have hs5 := splitK_pos [44] (Lib.count B1.data.toList [44]) B1.data.toList
  have hcn : Lib.count B1.data.toList [44] ≤ B1.size := cnt_le B1 { data := #[44] } (by decide)
  change ∀ x ∈ Lib.split B1.data.toList [44], _ at hs3
  change (Lib.split B1.data.toList [44]).length ≤ _ at hs4
  change 0 < (Lib.split B1.data.toList [44]).length at hs5
  generalize Lib.split B1.data.toList [44] = ps at *
  obtain ⟨m, hm⟩ : ∃ m, ps.length = m := ⟨_, rfl⟩
  rw [hm] at hS hs4 hs5
  have HS := Lib.hid hS
  have HR := Lib.hid hR
  clear hS hR
  go_upto_region 12 with (first | (go_at_call 35; (with_reducible refine (hH1 _ _ _ (by assumption)).mono ?_); rintro e w2 ⟨rfl, k2⟩) | (go_at_call 35; (with_reducible refine (hH2 _ _ _ (by assumption)).mono ?_); rintro e w4 ⟨rfl, k4⟩) | (go_at_call 38; (with_reducible refine (HC1.out _ _ _ (by assumption)).mono ?_); rintro e w5 ⟨rfl, k5⟩) | (go_at_call 39; (refine (HS.out _ _ _ (by assumption)).mono ?_); rintro e w6 ⟨g6, rfl, k6, l6⟩))
  rw [← SH_zero ix.data.toList] at k6
  have k7 : NB W [(g6, SH ix.data.toList ps 0, 9)] w6 := k6.sub (by intro p' hp'; rw [List.mem_singleton] at hp'; subst hp'; simp)
  clear k1 k2 k4 k5 k6 hH1 hH2
  go_wp2_with fail
  go_loopw [48] (fun s48 wr => ∃ (i : Nat), i ≤ m ∧ s48 = .int .i64 i ∧ NB W ((g6, SH ix.data.toList ps i, 9) :: []) wr) (fun s48 _ => m - (intOf s48).toNat)
  case atStart => exact ⟨0, by omega, rfl, k7⟩
  case round =>
    obtain ⟨i, hi, rfl, kr⟩ := hrel
    by_cases hlt : i < m
    case pos =>
      have n0 : (0 : Int) ≤ (i : Int) := by omega
      have n1 : (i : Int) < (m : Int) := by omega
      have hx := getD_some (xs := ps) (j := i) hm hlt
      have hxl := hs3 _ (List.mem_of_getElem? hx)
      have dx := (cell_of _ _ i kr.h0).trans (SH_get ix.data.toList ps i _ hx)
      have fr := free_of _ _ i kr.h0
      have hN := SH_next ix.data.toList ps i _ hx
      have hSm := SH_same ix.data.toList ps i _ hx
      have gl := heap_lt kr.h0
      generalize ps.getD i [] = xx at *
      obtain ⟨X, hX⟩ : ∃ X, bs xx = X := ⟨_, rfl⟩
      have hXd : X.data.toList = xx := by rw [← hX]; rfl
      have hXs : X.size ≤ 40 := by rw [← hX, bs_size]; omega
      rw [hX] at dx
      have HN := Lib.hid hN
      have HSM := Lib.hid hSm
      clear hN hSm hxl hX
      subst hXd
      by_cases x1 : X.data.toList = [72] ∨ X.data.toList = [76]
      case pos =>
        have hfx : bs (fx' ix.data.toList X.data.toList) = ix ++ X := (bs_of (by unfold fx'; rw [if_pos x1]; simp)).symm
        have hN := HN.out
        rw [hfx] at hN
        have HN2 := Lib.hid hN
        have fin : ∀ W', W' = wr.setCell ⟨g6, i, none⟩ (.string (ix ++ X)) → NB W ((g6, SH ix.data.toList ps (i + 1), 9) :: []) W' := fun W' e => by
          rw [e]
          refine kr.set g6 i _ (SH ix.data.toList ps i) 9 (by simp) (by omega) hW _ HN2.out _ ?_
          intro p' hp'
          rw [List.mem_singleton] at hp'
          exact .inl hp'
        have HF := Lib.hid fin
        clear fin hN HN HSM hfx hx
        rcases x1 with x1 | x1
        · have u1 : (X.toList == [72]) = true := by rw [Lib.toList_data, x1]; rfl
          clear x1
          go_wp2_with fail
          all_goals first | (exfalso; (try simp only [ByteArray.size_append, size_mk, List.length_cons, List.length_nil] at *); omega) | skip
          go_roundw
          case rel => exact ⟨i + 1, by omega, by go_num, HF.out _ rfl⟩
          case measure => simp [intOf] <;> omega
        · have u1 : (X.toList == [72]) = false := by rw [Lib.toList_data, x1]; rfl
          have u2 : (X.toList == [76]) = true := by rw [Lib.toList_data, x1]; rfl
          clear x1
          go_wp2_with fail
          all_goals first | (exfalso; (try simp only [ByteArray.size_append, size_mk, List.length_cons, List.length_nil] at *); omega) | skip
          go_roundw
          case rel => exact ⟨i + 1, by omega, by go_num, HF.out _ rfl⟩
          case measure => simp [intOf] <;> omega
      case neg =>
        have u1 : (X.toList == [72]) = false := by rw [Lib.toList_data]; exact beq_eq_false_iff_ne.2 fun e => x1 (.inl e)
        have u2 : (X.toList == [76]) = false := by rw [Lib.toList_data]; exact beq_eq_false_iff_ne.2 fun e => x1 (.inr e)
        have hfx : fx' ix.data.toList X.data.toList = X.data.toList := by unfold fx'; rw [if_neg x1]
        have hE := HSM.out hfx
        have HE := Lib.hid hE
        clear hE HN HSM hfx hx x1
        go_wp2_with fail
        go_roundw
        case rel => exact ⟨i + 1, by omega, by go_num, by rw [← HE.out]; exact kr⟩
        case measure => simp [intOf] <;> omega
    case neg =>
      have he : i = m := by omega
      subst he
      rw [SH_all _ _ _ hm] at kr
      by_cases e3 : B1.data.toList = []
      case pos =>
        have t3 : (B1.toList == []) = true := by rw [Lib.toList_data, e3]; rfl
        have hR := HR.out
        rw [if_pos e3] at hR
        clear HR
        have HR2 := Lib.hid hR
        clear hR e3
        go_wp2_with fail
        go_ret
        exact ⟨_, rfl, HR2.out.symm, by omega, _, kr⟩
      have t3 : (B1.toList == []) = false := by rw [Lib.toList_data]; exact beq_eq_false_iff_ne.2 e3
      have hR := HR.out
      rw [if_neg e3] at hR
      have HR2 := Lib.hid hR
      clear hR HR e3
      have hJl : (Lib.join (ps.map (fx' ix.data.toList)) [44]).length ≤ 4000 := by
        have h1 := join_len 42 [44] (ps.map (fx' ix.data.toList)) (fun y hy => by
          obtain ⟨z, hz, rfl⟩ := List.mem_map.1 hy
          have := hs3 z hz
          exact fx_len _ _ 40 2 (by omega) (by omega))
        rw [List.length_map, hm] at h1
        have h2 : (42 + ([44] : Str).length) * i ≤ (42 + ([44] : Str).length) * 41 := Nat.mul_le_mul_left _ (by omega)
        simp only [List.length_cons, List.length_nil] at h1 h2
        omega
      have hJ := join_lib g6 i i (ps.map (fx' ix.data.toList)) { data := #[44] } (by rw [List.length_map, hm]) (Nat.le_refl _) (by omega) (by rw [show ({ data := #[44] } : ByteArray).data.toList = [44] from rfl]; exact hJl)
      rw [show ({ data := #[44] } : ByteArray).data.toList = [44] from rfl] at hJ
      have HJ := Lib.hid hJ
      clear hJ
      go_wp2_with (go_at_call 40; (refine (HJ.out _ _ _ kr).mono ?_); rintro e w8 ⟨a8, rfl, ha8, hz8, k8⟩)
      all_goals first | (exfalso; (try simp only [ByteArray.size_append, size_mk, List.length_cons, List.length_nil] at *); omega) | skip
      go_ret
      exact ⟨_, rfl, by rw [HR2.out, ← ha8]; simp, (by (try simp only [ByteArray.size_append, size_mk, List.length_cons, List.length_nil]); omega), _, k8⟩
end Nm
end Go.Proofs.YtnhgmdfmhmkpgaaGreatDoor
