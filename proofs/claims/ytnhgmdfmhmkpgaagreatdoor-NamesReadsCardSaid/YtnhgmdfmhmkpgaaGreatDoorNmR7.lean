/- What instructions are called (layer 11): the reference: indexed. No conditions but those stated. -/
import Derived.Test.YtnhgmdfmhmkpgaaGreatDoorNmR2
import Derived.Test.YtnhgmdfmhmkpgaaGreatDoorNmR6
import Derived.RegionTactic
import Derived.LoopTactic
import Derived.Deep.RegionHeld3
import Derived.Deep.DeepCutAuto
import Derived.Lib.Hide
namespace Go.Proofs.YtnhgmdfmhmkpgaaGreatDoor
open Go.RowKit
open Kit
set_option linter.unusedSimpArgs false
set_option linter.unusedVariables false
namespace Nm
theorem spl_le (m : UInt8) : ∀ (l part : Str), (∀ x ∈ spl m part l, x.length ≤ part.length + l.length) ∧ (spl m part l).length ≤ l.length + 1
  | [], part => by simp [spl]
  | c :: t, part => by
    by_cases hc : c = m
    · rw [spl, if_pos hc]
      obtain ⟨h1, h2⟩ := spl_le m t []
      refine ⟨fun x hx => ?_, by simp; exact h2⟩
      rcases List.mem_cons.1 hx with rfl | hx
      · omega
      · have := h1 x hx; simp at this ⊢; omega
    · rw [spl, if_neg hc]
      obtain ⟨h1, h2⟩ := spl_le m t (part ++ [c])
      refine ⟨fun x hx => ?_, by simp; omega⟩
      have := h1 x hx
      simp at this ⊢; omega
theorem spl_pos (m : UInt8) : ∀ (l part : Str), 0 < (spl m part l).length
  | [], part => by simp [spl]
  | c :: t, part => by
    rw [spl]
    split
    · simp
    · exact spl_pos m t _
def fx (ix x : Str) : Str := if x = [72] ∨ x = [76] then ix ++ x else x
def rj (ix : Str) : Bool → List Str → Str
  | _, [] => []
  | b, x :: t => (if b then [] else [44]) ++ (fx ix x ++ rj ix false t)
def rindexL (P ix : Str) : Str :=
  if P = [69, 88, 32, 68, 69, 44, 72, 76] then P else if P = [74, 80, 32, 40, 72, 76, 41] then [74, 80, 32, 40] ++ (ix ++ [41]) else
  if Lib.contains P [40, 72, 76, 41] then RA [40, 72, 76, 41] ([40] ++ (ix ++ [43, 100, 41])) P else if Lib.contains P [72, 76] then RA [72, 76] ix P else
  if (spl 32 [] P).length < 2 then P else ((spl 32 [] P).getD 0 [] ++ [32]) ++ rj ix true (spl 44 [] ((spl 32 [] P).getD 1 []))
set_option maxRecDepth 100000 in
set_option maxHeartbeats 4000000 in
theorem rindexed (o : Nat) (ho : o < 256) (ix : ByteArray) (hix : ix.size = 2) : HeldS 20 #[.int .u8 (o : Nat), .string ix] (rindexL (rplainL o) ix.data.toList) 4000 := heldS' fun W hW => by
  have k0 := NB.start hW
  have hP := rplain_any o ho
  generalize rplainL o = P at *
  have HP := Lib.hid hP
  clear hP
  go_enter Tryz.func20, Tryz.ntmps20
  go_upto_region 2 with (go_at_call 16; refine (HP.out _ _ _ k0).mono ?_; rintro e w1 ⟨a1, rfl, ha1, hz1, k1⟩)
  subst ha1
  have hl1 : a1.data.toList.length = a1.size := (Lib.size_eq a1).symm
  by_cases e1 : a1.data.toList = [69, 88, 32, 68, 69, 44, 72, 76]
  case pos =>
    have t1 : (a1.toList == [69, 88, 32, 68, 69, 44, 72, 76]) = true := by rw [Lib.toList_data, e1]; rfl
    have hR : rindexL a1.data.toList ix.data.toList = a1.data.toList := by unfold rindexL; rw [if_pos e1]
    have HR := Lib.hid hR
    clear hR e1
    go_wp2_with fail
    go_ret
    exact ⟨_, rfl, HR.out.symm, by omega, _, k1⟩
  have t1 : (a1.toList == [69, 88, 32, 68, 69, 44, 72, 76]) = false := by rw [Lib.toList_data]; exact beq_eq_false_iff_ne.2 e1
  by_cases e2 : a1.data.toList = [74, 80, 32, 40, 72, 76, 41]
  case pos =>
    have t2 : (a1.toList == [74, 80, 32, 40, 72, 76, 41]) = true := by rw [Lib.toList_data, e2]; rfl
    have hR : rindexL a1.data.toList ix.data.toList = [74, 80, 32, 40] ++ (ix.data.toList ++ [41]) := by unfold rindexL; rw [if_neg e1, if_pos e2]
    have HR := Lib.hid hR
    clear hR e1 e2
    go_wp2_with fail
    all_goals first | (exfalso; (try simp only [ByteArray.size_append, size_mk, List.length_cons, List.length_nil] at *); omega) | skip
    go_ret
    exact ⟨_, rfl, by rw [HR.out]; simp, by (try simp only [ByteArray.size_append, size_mk, List.length_cons, List.length_nil]); omega, _, k1⟩
  have t2 : (a1.toList == [74, 80, 32, 40, 72, 76, 41]) = false := by rw [Lib.toList_data]; exact beq_eq_false_iff_ne.2 e2
  have hR : rindexL a1.data.toList ix.data.toList = if Lib.contains a1.data.toList [40, 72, 76, 41] then RA [40, 72, 76, 41] ([40] ++ (ix.data.toList ++ [43, 100, 41])) a1.data.toList else if Lib.contains a1.data.toList [72, 76] then RA [72, 76] ix.data.toList a1.data.toList else if (spl 32 [] a1.data.toList).length < 2 then a1.data.toList else ((spl 32 [] a1.data.toList).getD 0 [] ++ [32]) ++ rj ix.data.toList true (spl 44 [] ((spl 32 [] a1.data.toList).getD 1 [])) := by unfold rindexL; rw [if_neg e1, if_neg e2]
  clear e1 e2
  cases c1 : Lib.contains a1.data.toList [40, 72, 76, 41]
  case true =>
    rw [c1, if_pos rfl] at hR
    have hH : Held 25 #[.string a1, .string { data := #[40, 72, 76, 41] }] (.bool true) := by have := has_any a1 { data := #[40, 72, 76, 41] } (by omega) (by decide) (by decide); rw [show ({ data := #[40, 72, 76, 41] } : ByteArray).data.toList = [40, 72, 76, 41] from rfl, c1] at this; exact this
    clear c1
    have HR := Lib.hid hR
    clear hR
    go_wp2_with (first | (go_at_call 25; (with_reducible refine (hH _ _ _ k1).mono ?_); rintro e w2 ⟨rfl, k2⟩) | (go_at_call 26; (with_reducible refine (rreplace _ _ _ (by omega) (by decide) (by decide) (by (try simp only [ByteArray.size_append, size_mk, List.length_cons, List.length_nil]); omega) _ _ _ (by assumption)).mono ?_); rintro e w3 ⟨a3, rfl, ha3, hz3, k3⟩))
    all_goals first | (exfalso; (try simp only [ByteArray.size_append, size_mk, List.length_cons, List.length_nil] at *); omega) | skip
    go_ret
    exact ⟨_, rfl, by rw [HR.out, ha3]; simp, by omega, _, by assumption⟩
  rw [c1, if_neg (by simp)] at hR
  have hH1 : Held 25 #[.string a1, .string { data := #[40, 72, 76, 41] }] (.bool false) := by have := has_any a1 { data := #[40, 72, 76, 41] } (by omega) (by decide) (by decide); rw [show ({ data := #[40, 72, 76, 41] } : ByteArray).data.toList = [40, 72, 76, 41] from rfl, c1] at this; exact this
  clear c1
  cases c2 : Lib.contains a1.data.toList [72, 76]
  case true =>
    rw [c2, if_pos rfl] at hR
    have hH2 : Held 25 #[.string a1, .string { data := #[72, 76] }] (.bool true) := by have := has_any a1 { data := #[72, 76] } (by omega) (by decide) (by decide); rw [show ({ data := #[72, 76] } : ByteArray).data.toList = [72, 76] from rfl, c2] at this; exact this
    clear c2
    have HR := Lib.hid hR
    clear hR
    go_wp2_with (first | (go_at_call 25; (with_reducible refine (hH1 _ _ _ (by assumption)).mono ?_); rintro e w2 ⟨rfl, k2⟩) | (go_at_call 25; (with_reducible refine (hH2 _ _ _ (by assumption)).mono ?_); rintro e w4 ⟨rfl, k4⟩) | (go_at_call 26; (with_reducible refine (rreplace _ _ _ (by omega) (by decide) (by decide) (by (try simp only [ByteArray.size_append, size_mk, List.length_cons, List.length_nil]); omega) _ _ _ (by assumption)).mono ?_); rintro e w3 ⟨a3, rfl, ha3, hz3, k3⟩))
    all_goals first | (exfalso; (try simp only [ByteArray.size_append, size_mk, List.length_cons, List.length_nil] at *); omega) | skip
    go_ret
    exact ⟨_, rfl, by rw [HR.out, ha3], by omega, _, by assumption⟩
  rw [c2, if_neg (by simp)] at hR
  have hH2 : Held 25 #[.string a1, .string { data := #[72, 76] }] (.bool false) := by have := has_any a1 { data := #[72, 76] } (by omega) (by decide) (by decide); rw [show ({ data := #[72, 76] } : ByteArray).data.toList = [72, 76] from rfl, c2] at this; exact this
  clear c2
  obtain ⟨hs1, hs2⟩ := spl_le 32 a1.data.toList []
  have hS := split_l a1 32 (by omega) (spl 32 [] a1.data.toList) _ rfl rfl (spl_pos _ _ _)
  change HeldL 42 #[.string a1, .int .u8 32] _ _ at hS
  generalize spl 32 [] a1.data.toList = ws at *
  obtain ⟨n, hn⟩ : ∃ n, ws.length = n := ⟨_, rfl⟩
  rw [hn] at hS hs2 hR
  have HS := Lib.hid hS
  clear hS
  by_cases h2 : n < 2
  case pos =>
    rw [if_pos h2] at hR
    have HR := Lib.hid hR
    clear hR
    have h2' : (n : Int) < 2 := by omega
    go_wp2_with (first | (go_at_call 25; (with_reducible refine (hH1 _ _ _ (by assumption)).mono ?_); rintro e w2 ⟨rfl, k2⟩) | (go_at_call 25; (with_reducible refine (hH2 _ _ _ (by assumption)).mono ?_); rintro e w4 ⟨rfl, k4⟩) | (go_at_call 42; (with_reducible refine (HS.out _ _ _ (by assumption)).mono ?_); rintro e w5 ⟨g5, p5, u5, rfl, k5, l5, q5⟩))
    go_ret
    exact ⟨_, rfl, HR.out.symm, by omega, _, k5⟩
  rw [if_neg h2] at hR
  have h2' : ¬ (n : Int) < 2 := by omega
  have w0x := getD_some (xs := ws) (j := 0) hn (by omega)
  have w1x := getD_some (xs := ws) (j := 1) hn (by omega)
  have w0l := hs1 _ (List.mem_of_getElem? w0x)
  have w1l := hs1 _ (List.mem_of_getElem? w1x)
  have i1 : (1 : Int) < (n : Int) := by omega
  have i0 : (0 : Int) < (n : Int) := by omega
  generalize ws.getD 0 [] = W0 at *
  generalize ws.getD 1 [] = W1 at *
  obtain ⟨B1, hB1⟩ : ∃ B1, bs W1 = B1 := ⟨_, rfl⟩
  obtain ⟨B0, hB0⟩ : ∃ B0, bs W0 = B0 := ⟨_, rfl⟩
  have hb1 : B1.data.toList = W1 := by rw [← hB1]; rfl
  have hb0 : B0.data.toList = W0 := by rw [← hB0]; rfl
  have sz1 : B1.size ≤ 40 := by rw [← hB1, bs_size]; simp at w1l; omega
  have sz0 : B0.size ≤ 40 := by rw [← hB0, bs_size]; simp at w0l; omega
  obtain ⟨hs3, hs4⟩ := spl_le 44 B1.data.toList []
  have hS2 := split_l B1 44 (by omega) (spl 44 [] B1.data.toList) _ rfl rfl (spl_pos _ _ _)
  change HeldL 42 #[.string B1, .int .u8 44] _ _ at hS2
  have hl3 : B1.data.toList.length = B1.size := (Lib.size_eq B1).symm
  rw [← hb1, ← hb0] at hR
  generalize spl 44 [] B1.data.toList = ps at *
  obtain ⟨m, hm⟩ : ∃ m, ps.length = m := ⟨_, rfl⟩
  rw [hm] at hS2 hs4
  have HS2 := Lib.hid hS2
  clear hS2 hs1
  have HR := Lib.hid hR
  clear hR
  have HB1 := Lib.hid hB1
  have HB0 := Lib.hid hB0
  clear hB1 hB0 hb1
  go_upto_region 15 with (first | (go_at_call 25; (with_reducible refine (hH1 _ _ _ (by assumption)).mono ?_); rintro e w2 ⟨rfl, k2⟩) | (go_at_call 25; (with_reducible refine (hH2 _ _ _ (by assumption)).mono ?_); rintro e w4 ⟨rfl, k4⟩) | (go_at_call 42; (with_reducible refine (HS.out _ _ _ (by assumption)).mono ?_); rintro e w5 ⟨g5, p5, u5, rfl, k5, l5, q5⟩; (have d1 := (cell_of _ _ 1 k5.h0).trans (q5 1 W1 w1x)); rw [HB1.out] at d1) | (go_at_call 42; (with_reducible refine (HS2.out _ _ _ (by assumption)).mono ?_); rintro e w6 ⟨g6, p6, u6, rfl, k6, l6, q6⟩; (have d0 := (cell_of _ _ 0 k6.h1).trans (q5 0 W0 w0x)); rw [HB0.out] at d0))
  go_wp2_with fail
  go_loopw [8, 49] (fun s8 s49 wr => wr = w6 ∧ ∃ (i : Nat) (p : ByteArray), i ≤ m ∧ s49 = .int .i64 i ∧ s8 = .string p ∧ p.size ≤ 50 * i + 50 ∧ Hid (p.data.toList ++ rj ix.data.toList (i == 0) (ps.drop i) = rindexL a1.data.toList ix.data.toList)) (fun _ s49 _ => m - (intOf s49).toNat)
  case atStart => exact ⟨by first | rfl | trivial, 0, _, by omega, rfl, rfl, by (try simp only [ByteArray.size_append, size_mk, List.length_cons, List.length_nil]); omega, Lib.hid (by rw [HR.out]; simp)⟩
  case round =>
    obtain ⟨rfl, i, p, hi, rfl, rfl, hp, HI⟩ := hrel
    by_cases hlt : i < m
    case pos =>
      have n0 : (0 : Int) ≤ (i : Int) := by omega
      have n1 : (i : Int) < (m : Int) := by omega
      have hx := getD_some (xs := ps) (j := i) hm hlt
      have hxl := hs3 _ (List.mem_of_getElem? hx)
      have dx := (cell_of _ _ i k6.h0).trans (q6 i _ hx)
      have hdr : ps.drop i = ps.getD i [] :: ps.drop (i + 1) := Lib.drop_at hx
      have hI := HI.out
      rw [hdr, rj] at hI
      generalize ps.getD i [] = x at *
      obtain ⟨X, hX⟩ : ∃ X, bs x = X := ⟨_, rfl⟩
      have hXd : X.data.toList = x := by rw [← hX]; rfl
      have hXs : X.size ≤ 40 := by rw [← hX, bs_size]; simp at hxl; omega
      rw [hX] at dx
      have hII := Lib.hid hI
      clear hI hdr HI hx hxl hX
      subst hXd
      have hfin : ∀ (q : ByteArray), q.data.toList = p.data.toList ++ ((if (i == 0) = true then [] else [44]) ++ fx ix.data.toList X.data.toList) → Hid (q.data.toList ++ rj ix.data.toList (i + 1 == 0) (ps.drop (i + 1)) = rindexL a1.data.toList ix.data.toList) := fun q hq => Lib.hid (by rw [hq, ← hII.out]; simp)
      have HF := Lib.hid hfin
      clear hfin
      by_cases x1 : X.data.toList = [72]
      case pos =>
        have u1 : (X.toList == [72]) = true := by rw [Lib.toList_data, x1]; rfl
        have hfx : fx ix.data.toList X.data.toList = ix.data.toList ++ X.data.toList := by unfold fx; rw [if_pos (.inl x1)]
        have HFX := Lib.hid hfx
        clear hfx x1
        by_cases hz : i = 0
        · have v1 : ¬ (0 : Int) < (i : Int) := by omega
          have HZ := Lib.hid hz
          clear hz
          go_wp2_with fail
          all_goals first | (exfalso; (try simp only [ByteArray.size_append, size_mk, List.length_cons, List.length_nil] at *); omega) | skip
          go_roundw
          case rel => exact ⟨by first | rfl | trivial, i + 1, _, by omega, by go_num, rfl, by (try simp only [ByteArray.size_append, size_mk, List.length_cons, List.length_nil]); omega, HF.out _ (by rw [HFX.out]; simp [HZ.out])⟩
          case measure => simp [intOf] <;> omega
        · have v1 : (0 : Int) < (i : Int) := by omega
          have HZ := Lib.hid hz
          clear hz
          go_wp2_with fail
          all_goals first | (exfalso; (try simp only [ByteArray.size_append, size_mk, List.length_cons, List.length_nil] at *); omega) | skip
          go_roundw
          case rel => exact ⟨by first | rfl | trivial, i + 1, _, by omega, by go_num, rfl, by (try simp only [ByteArray.size_append, size_mk, List.length_cons, List.length_nil]); omega, HF.out _ (by rw [HFX.out]; simp [HZ.out])⟩
          case measure => simp [intOf] <;> omega
      have u1 : (X.toList == [72]) = false := by rw [Lib.toList_data]; exact beq_eq_false_iff_ne.2 x1
      by_cases x2 : X.data.toList = [76]
      case pos =>
        have u2 : (X.toList == [76]) = true := by rw [Lib.toList_data, x2]; rfl
        have hfx : fx ix.data.toList X.data.toList = ix.data.toList ++ X.data.toList := by unfold fx; rw [if_pos (.inr x2)]
        have HFX := Lib.hid hfx
        clear hfx x1 x2
        by_cases hz : i = 0
        · have v1 : ¬ (0 : Int) < (i : Int) := by omega
          have HZ := Lib.hid hz
          clear hz
          go_wp2_with fail
          all_goals first | (exfalso; (try simp only [ByteArray.size_append, size_mk, List.length_cons, List.length_nil] at *); omega) | skip
          go_roundw
          case rel => exact ⟨by first | rfl | trivial, i + 1, _, by omega, by go_num, rfl, by (try simp only [ByteArray.size_append, size_mk, List.length_cons, List.length_nil]); omega, HF.out _ (by rw [HFX.out]; simp [HZ.out])⟩
          case measure => simp [intOf] <;> omega
        · have v1 : (0 : Int) < (i : Int) := by omega
          have HZ := Lib.hid hz
          clear hz
          go_wp2_with fail
          all_goals first | (exfalso; (try simp only [ByteArray.size_append, size_mk, List.length_cons, List.length_nil] at *); omega) | skip
          go_roundw
          case rel => exact ⟨by first | rfl | trivial, i + 1, _, by omega, by go_num, rfl, by (try simp only [ByteArray.size_append, size_mk, List.length_cons, List.length_nil]); omega, HF.out _ (by rw [HFX.out]; simp [HZ.out])⟩
          case measure => simp [intOf] <;> omega
      have u2 : (X.toList == [76]) = false := by rw [Lib.toList_data]; exact beq_eq_false_iff_ne.2 x2
      have hfx : fx ix.data.toList X.data.toList = X.data.toList := by unfold fx; rw [if_neg (by rintro (h | h) <;> contradiction)]
      have HFX := Lib.hid hfx
      clear hfx x1 x2
      by_cases hz : i = 0
      · have v1 : ¬ (0 : Int) < (i : Int) := by omega
        have HZ := Lib.hid hz
        clear hz
        go_wp2_with fail
        all_goals first | (exfalso; (try simp only [ByteArray.size_append, size_mk, List.length_cons, List.length_nil] at *); omega) | skip
        go_roundw
        case rel => exact ⟨by first | rfl | trivial, i + 1, _, by omega, by go_num, rfl, by (try simp only [ByteArray.size_append, size_mk, List.length_cons, List.length_nil]); omega, HF.out _ (by rw [HFX.out]; simp [HZ.out])⟩
        case measure => simp [intOf] <;> omega
      · have v1 : (0 : Int) < (i : Int) := by omega
        have HZ := Lib.hid hz
        clear hz
        go_wp2_with fail
        all_goals first | (exfalso; (try simp only [ByteArray.size_append, size_mk, List.length_cons, List.length_nil] at *); omega) | skip
        go_roundw
        case rel => exact ⟨by first | rfl | trivial, i + 1, _, by omega, by go_num, rfl, by (try simp only [ByteArray.size_append, size_mk, List.length_cons, List.length_nil]); omega, HF.out _ (by rw [HFX.out]; simp [HZ.out])⟩
        case measure => simp [intOf] <;> omega
    case neg =>
      have he : i = m := by omega
      subst he
      have hI := HI.out
      rw [List.drop_of_length_le (by omega), rj, List.append_nil] at hI
      clear HI
      go_wp2_with fail
      go_ret
      exact ⟨_, rfl, hI, by omega, _, k6⟩
end Nm
end Go.Proofs.YtnhgmdfmhmkpgaaGreatDoor
