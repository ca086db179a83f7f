/- What instructions are called (layer 11): the reference's Name gives the program's name. No conditions but those stated. -/
import Derived.Test.YtnhgmdfmhmkpgaaGreatDoorNmRH
import Derived.Test.YtnhgmdfmhmkpgaaGreatDoorNmR9
import Derived.Test.YtnhgmdfmhmkpgaaGreatDoorNmY
namespace Go.Proofs.YtnhgmdfmhmkpgaaGreatDoor
open Go.RowKit
open Kit
set_option linter.unusedSimpArgs false
set_option linter.unusedVariables false
namespace Nm
abbrev NameIs (zs : List UInt8) (v : Value) (W : World) (X : Str × Nat) : Prop := Calls Tryz.prog 9 #[v] W fun e w' => ∃ (s : ByteArray) (n : Nat), e = .returned (.tuple #[.string s, .int .i64 (n : Nat)]) ∧ (s.data.toList, n) = X ∧ Below W.heap.size W w'
theorem NameIs.of {zs : List UInt8} {v : Value} {W : World} {S : Str} {n : Nat} {m : Int} (hm : m = (n : Int)) (h : Calls Tryz.prog 9 #[v] W fun e w' => ∃ s : ByteArray, e = .returned (.tuple #[.string s, .int .i64 m]) ∧ s.data.toList = S ∧ Below W.heap.size W w') : NameIs zs v W (S, n) :=
  h.mono fun e w' ⟨s, h1, h2, h3⟩ => ⟨s, n, by rw [h1, hm], by rw [h2], h3⟩
theorem pat_held (pg : Nat) (o : Nat) (ho : o < 256) : HeldS 7 #[.int .i64 (pg : Int), .int .u8 (o : Nat)] (patL (pg : Int) o) 5000 := by
  rw [pat_eq (pg : Int) o ho]; exact rpat_any (pg : Int) o ho
theorem nf {b : Bool} (h : ¬ b = true) : b = false := Bool.eq_false_iff.2 h
theorem nd_0 (zs : List UInt8) (v : Value) (W : World) (hG : GV W) (hs : SrcOf W v zs) (hl : zs.length ≤ 40) (pg : Nat) (hp : pg < 5) (hpg : pageL (byt zs) = ((pg : Int), 0)) (cd : Lib.contains (patL (pg : Int) (byt zs 0)) [43, 100] = false) :
    NameIs zs v W (st2 (patL (pg : Int) (byt zs 0)) (byt zs) 1) := by
  have hP := pat_held pg (byt zs 0) (byt_lt zs 0)
  have hPl := pat_len (pg : Int) (byt zs 0) (byt_lt zs 0)
  have hO := (once_pat (by omega : pg < 7) (byt_lt zs 0)).2
  unfold st2
  by_cases c1 : Lib.contains (patL (pg : Int) (byt zs 0)) [110, 110] = true
  · rw [if_pos c1]
    exact NameIs.of (by rfl) (rn_0_nn zs v W hG hs hl pg hpg (by omega) _ hP hPl (by omega) cd c1 _ (ra_nn hO _ _ (byt_lt zs _) (byt_lt zs _)))
  rw [if_neg c1]
  by_cases c2 : Lib.contains (patL (pg : Int) (byt zs 0)) [110] = true
  · rw [if_pos c2]
    exact NameIs.of (by rfl) (rn_0_n zs v W hG hs hl pg hpg (by omega) _ hP hPl (by omega) cd (nf c1) c2 _ (ra_n hO (nf c1) _ (byt_lt zs _)))
  rw [if_neg c2]
  by_cases c3 : Lib.contains (patL (pg : Int) (byt zs 0)) [101] = true
  · rw [if_pos c3]
    exact NameIs.of (by rfl) (rn_0_e zs v W hG hs hl pg hpg (by omega) _ hP hPl (by omega) cd (nf c1) (nf c2) c3 _ (ra_e hO _ (byt_lt zs _)))
  · rw [if_neg c3]
    exact NameIs.of (by rfl) (rn_0_z zs v W hG hs hl pg hpg (by omega) _ hP hPl (by omega) cd (nf c1) (nf c2) (nf c3))
theorem nd_1 (zs : List UInt8) (v : Value) (W : World) (hG : GV W) (hs : SrcOf W v zs) (hl : zs.length ≤ 40) (pg : Nat) (hp : pg < 5) (hpg : pageL (byt zs) = ((pg : Int), 1)) (cd : Lib.contains (patL (pg : Int) (byt zs 1)) [43, 100] = false) :
    NameIs zs v W (st2 (patL (pg : Int) (byt zs 1)) (byt zs) 2) := by
  have hP := pat_held pg (byt zs 1) (byt_lt zs 1)
  have hPl := pat_len (pg : Int) (byt zs 1) (byt_lt zs 1)
  have hO := (once_pat (by omega : pg < 7) (byt_lt zs 1)).2
  unfold st2
  by_cases c1 : Lib.contains (patL (pg : Int) (byt zs 1)) [110, 110] = true
  · rw [if_pos c1]
    exact NameIs.of (by rfl) (rn_1_nn zs v W hG hs hl pg hpg (by omega) _ hP hPl (by omega) cd c1 _ (ra_nn hO _ _ (byt_lt zs _) (byt_lt zs _)))
  rw [if_neg c1]
  by_cases c2 : Lib.contains (patL (pg : Int) (byt zs 1)) [110] = true
  · rw [if_pos c2]
    exact NameIs.of (by rfl) (rn_1_n zs v W hG hs hl pg hpg (by omega) _ hP hPl (by omega) cd (nf c1) c2 _ (ra_n hO (nf c1) _ (byt_lt zs _)))
  rw [if_neg c2]
  by_cases c3 : Lib.contains (patL (pg : Int) (byt zs 1)) [101] = true
  · rw [if_pos c3]
    exact NameIs.of (by rfl) (rn_1_e zs v W hG hs hl pg hpg (by omega) _ hP hPl (by omega) cd (nf c1) (nf c2) c3 _ (ra_e hO _ (byt_lt zs _)))
  · rw [if_neg c3]
    exact NameIs.of (by rfl) (rn_1_z zs v W hG hs hl pg hpg (by omega) _ hP hPl (by omega) cd (nf c1) (nf c2) (nf c3))
theorem fill_0 (zs : List UInt8) (v : Value) (W : World) (hG : GV W) (hs : SrcOf W v zs) (hl : zs.length ≤ 40) (hpg : pageL (byt zs) = (0, 0)) :
    NameIs zs v W (fillL (patL 0 (byt zs 0)) 0 false (byt zs) 1) := by
  have cd : Lib.contains (patL ((0 : Nat) : Int) (byt zs 0)) [43, 100] = false := by
    cases h : Lib.contains (patL ((0 : Nat) : Int) (byt zs 0)) [43, 100]
    · rfl
    · have := (mark_yes (by decide : 0 < 7) (byt_lt zs 0) h).1; omega
  have h := nd_0 zs v W hG hs hl 0 (by decide) hpg cd
  unfold fillL st1
  rw [if_neg (by rw [show patL 0 (byt zs 0) = patL ((0 : Nat) : Int) (byt zs 0) from rfl, cd]; simp)]
  exact h
theorem fill_1 (zs : List UInt8) (v : Value) (W : World) (hG : GV W) (hs : SrcOf W v zs) (hl : zs.length ≤ 40) (pg : Nat) (hp : pg < 5) (hpg : pageL (byt zs) = ((pg : Int), 1)) :
    NameIs zs v W (fillL (patL (pg : Int) (byt zs 1)) 0 false (byt zs) 2) := by
  by_cases cd : Lib.contains (patL (pg : Int) (byt zs 1)) [43, 100] = true
  · have hP := pat_held pg (byt zs 1) (byt_lt zs 1)
    have hPl := pat_len (pg : Int) (byt zs 1) (byt_lt zs 1)
    obtain ⟨S, hS⟩ : ∃ S, Lib.replace (patL (pg : Int) (byt zs 1)) [43, 100] (sgnL (byt zs 2)) 1 = S := ⟨_, rfl⟩
    obtain ⟨s1, s2, s3, s4, _, hO⟩ := once_set (by omega : pg < 7) (byt_lt zs 1) cd (byt zs 2) (byt_lt zs 2) S hS
    unfold fillL st1
    rw [if_pos cd, if_neg (by simp), hS]
    show NameIs zs v W (st2 S (byt zs) 3)
    unfold st2
    rw [if_neg (by rw [s3]; simp)]
    by_cases c2 : Lib.contains S [110] = true
    · rw [if_pos c2]
      exact NameIs.of (by rfl) (rn_1d_n zs v W hG hs hl pg hpg (by omega) _ hP hPl (by omega) cd S s2 s1 s3 c2 _ (ra_n hO s3 _ (byt_lt zs _)))
    · rw [if_neg c2, if_neg (by rw [s4]; simp)]
      exact NameIs.of (by rfl) (rn_1d_z zs v W hG hs hl pg hpg (by omega) _ hP hPl (by omega) cd S s2 s1 s3 (nf c2) s4)
  · have h := nd_1 zs v W hG hs hl pg hp hpg (nf cd)
    unfold fillL st1
    rw [if_neg cd]
    exact h
theorem fill_3 (zs : List UInt8) (v : Value) (W : World) (hG : GV W) (hs : SrcOf W v zs) (hl : zs.length ≤ 40) (pg : Nat) (h5 : 5 ≤ pg) (hp : pg < 7) (hpg : pageL (byt zs) = ((pg : Int), 3)) :
    NameIs zs v W (fillL (patL (pg : Int) (byt zs 3)) (byt zs 2) true (byt zs) 4) := by
  have cd : Lib.contains (patL (pg : Int) (byt zs 3)) [43, 100] = true := by
    cases h : Lib.contains (patL (pg : Int) (byt zs 3)) [43, 100]
    · have := mark_no hp (byt_lt zs 3) h; omega
    · rfl
  have hP := pat_held pg (byt zs 3) (byt_lt zs 3)
  have hPl := pat_len (pg : Int) (byt zs 3) (byt_lt zs 3)
  obtain ⟨S, hS⟩ : ∃ S, Lib.replace (patL (pg : Int) (byt zs 3)) [43, 100] (sgnL (byt zs 2)) 1 = S := ⟨_, rfl⟩
  obtain ⟨s1, s2, s3, s4, s5, hO⟩ := once_set hp (byt_lt zs 3) cd (byt zs 2) (byt_lt zs 2) S hS
  unfold fillL st1
  rw [if_pos cd, if_pos rfl, hS]
  show NameIs zs v W (st2 S (byt zs) 4)
  unfold st2
  rw [if_neg (by rw [s3]; simp), if_neg (by rw [s5 h5]; simp), if_neg (by rw [s4]; simp)]
  exact NameIs.of (by rfl) (rn_3d_z zs v W hG hs hl pg hpg (by omega) _ hP hPl (by omega) cd S s2 s1 s3 (s5 h5) s4)
theorem fill_n (zs : List UInt8) (v : Value) (W : World) (hG : GV W) (hs : SrcOf W v zs) (hl : zs.length ≤ 40) (x : Nat) (hx : byt zs 0 = x) (hpg : pageL (byt zs) = (-1, 0)) :
    NameIs zs v W (patL 0 x, 1) := by
  rw [← hx, pat_eq 0 _ (byt_lt zs 0), show rpatL 0 (byt zs 0) = rplainL (byt zs 0) from rfl]
  exact NameIs.of (by rfl) (rn_neg zs v W hG hs hl hpg)
theorem rname_any (zs : List UInt8) (v : Value) (W : World) (hG : GV W) (hs : SrcOf W v zs) (hl : zs.length ≤ 40) : NameIs zs v W (nameL (byt zs)) := by
  unfold nameL
  by_cases h1 : byt zs 0 = 203
  · rw [if_pos h1]
    exact fill_1 zs v W hG hs hl 1 (by decide) (by unfold pageL; rw [if_pos h1]; rfl)
  rw [if_neg h1]
  by_cases h2 : byt zs 0 = 237
  · rw [if_pos h2]
    exact fill_1 zs v W hG hs hl 2 (by decide) (by unfold pageL; rw [if_neg h1, if_pos h2]; rfl)
  rw [if_neg h2]
  have hpage : byt zs 0 = 221 ∨ byt zs 0 = 253 → pageL (byt zs) = (if byt zs 1 = 221 ∨ byt zs 1 = 237 ∨ byt zs 1 = 253 then (-1, 0) else if byt zs 1 = 203 then ((if byt zs 0 = 253 then 4 else 3) + 2, 3) else ((if byt zs 0 = 253 then 4 else 3), 1)) := fun h => by
    unfold pageL; rw [if_neg h1, if_neg h2, if_pos h]
  by_cases h3 : byt zs 0 = 253
  · rw [if_pos h3]
    have hp := hpage (Or.inr h3)
    unfold prefL
    by_cases c1 : byt zs 1 = 221 ∨ byt zs 1 = 237 ∨ byt zs 1 = 253
    · rw [if_pos c1] at hp ⊢
      exact fill_n zs v W hG hs hl 253 h3 hp
    rw [if_neg c1] at hp ⊢
    by_cases c2 : byt zs 1 = 203
    · rw [if_pos c2, if_pos h3] at hp
      rw [if_pos c2]
      exact fill_3 zs v W hG hs hl 6 (by decide) (by decide) (by rw [hp]; rfl)
    · rw [if_neg c2, if_pos h3] at hp
      rw [if_neg c2]
      exact fill_1 zs v W hG hs hl 4 (by decide) (by rw [hp]; rfl)
  rw [if_neg h3]
  by_cases h4 : byt zs 0 = 221
  · rw [if_pos h4]
    have hp := hpage (Or.inl h4)
    unfold prefL
    by_cases c1 : byt zs 1 = 221 ∨ byt zs 1 = 237 ∨ byt zs 1 = 253
    · rw [if_pos c1] at hp ⊢
      exact fill_n zs v W hG hs hl 221 h4 hp
    rw [if_neg c1] at hp ⊢
    by_cases c2 : byt zs 1 = 203
    · rw [if_pos c2, if_neg h3] at hp
      rw [if_pos c2]
      exact fill_3 zs v W hG hs hl 5 (by decide) (by decide) (by rw [hp]; rfl)
    · rw [if_neg c2, if_neg h3] at hp
      rw [if_neg c2]
      exact fill_1 zs v W hG hs hl 3 (by decide) (by rw [hp]; rfl)
  · rw [if_neg h4]
    exact fill_0 zs v W hG hs hl (by unfold pageL; rw [if_neg h1, if_neg h2, if_neg (by omega)])
theorem st2_le (P : Str) (f : Nat → Nat) (a : Nat) : (st2 P f a).2 ≤ a + 2 := by
  unfold st2; repeat' split
  all_goals simp
theorem le_1 (zs : List UInt8) (pg : Nat) (hp : pg < 7) (o : Nat) (ho : o < 256) (d a : Nat) : (fillL (patL (pg : Int) o) d false (byt zs) a).2 ≤ a + 2 := by
  unfold fillL st1
  by_cases cd : Lib.contains (patL (pg : Int) o) [43, 100] = true
  · rw [if_pos cd, if_neg (by simp)]
    obtain ⟨S, hS⟩ : ∃ S, Lib.replace (patL (pg : Int) o) [43, 100] (sgnL (byt zs a)) 1 = S := ⟨_, rfl⟩
    obtain ⟨s1, s2, s3, s4, _, hO⟩ := once_set hp ho cd (byt zs a) (byt_lt zs a) S hS
    rw [hS]
    show (st2 S (byt zs) (a + 1)).2 ≤ a + 2
    unfold st2
    rw [if_neg (by rw [s3]; simp)]
    repeat' split
    all_goals simp
  · rw [if_neg cd]
    exact st2_le _ _ _
theorem le_3 (zs : List UInt8) (pg : Nat) (h5 : 5 ≤ pg) (hp : pg < 7) (o : Nat) (ho : o < 256) : (fillL (patL (pg : Int) o) (byt zs 2) true (byt zs) 4).2 ≤ 4 := by
  unfold fillL st1
  have cd : Lib.contains (patL (pg : Int) o) [43, 100] = true := by
    cases h : Lib.contains (patL (pg : Int) o) [43, 100]
    · have := mark_no hp ho h; omega
    · rfl
  rw [if_pos cd, if_pos rfl]
  obtain ⟨S, hS⟩ : ∃ S, Lib.replace (patL (pg : Int) o) [43, 100] (sgnL (byt zs 2)) 1 = S := ⟨_, rfl⟩
  obtain ⟨s1, s2, s3, s4, s5, hO⟩ := once_set hp ho cd (byt zs 2) (byt_lt zs 2) S hS
  rw [hS]
  show (st2 S (byt zs) 4).2 ≤ 4
  unfold st2
  rw [if_neg (by rw [s3]; simp), if_neg (by rw [s5 h5]; simp), if_neg (by rw [s4]; simp)]
  exact Nat.le_refl 4
theorem pref_le (zs : List UInt8) (x pg dbl : Nat) (hp : pg < 7) (h5 : 5 ≤ dbl) (hd : dbl < 7) : (prefL x (pg : Int) (dbl : Int) (byt zs)).2 ≤ 4 := by
  unfold prefL
  split
  · simp
  split
  · exact le_3 zs dbl h5 hd _ (byt_lt zs 3)
  · exact le_1 zs pg hp _ (byt_lt zs 1) 0 2
theorem nameL_le (zs : List UInt8) : (nameL (byt zs)).2 ≤ 4 := by
  unfold nameL
  split
  · exact le_1 zs 1 (by decide) _ (byt_lt zs 1) 0 2
  split
  · exact le_1 zs 2 (by decide) _ (byt_lt zs 1) 0 2
  split
  · exact pref_le zs 253 4 6 (by decide) (by decide) (by decide)
  split
  · exact pref_le zs 221 3 5 (by decide) (by decide) (by decide)
  · exact Nat.le_trans (le_1 zs 0 (by decide) _ (byt_lt zs 0) 0 1) (by decide)
end Nm
end Go.Proofs.YtnhgmdfmhmkpgaaGreatDoor
