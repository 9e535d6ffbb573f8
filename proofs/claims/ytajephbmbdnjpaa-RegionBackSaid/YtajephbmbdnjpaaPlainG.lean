/- What is proved: plain laws: the two Mergeables answer alike, and what a true answer says. Condition: enough rounds. -/
import Derived.Test.YtajephbmbdnjpaaPlainR
import Derived.Test.YtajephbmbdnjpaaRegx6
import Derived.Test.YtajephbmbdnjpaaRegx16
namespace Go.Proofs.Ytajephbmbdnjpaa.PlainG
open Go.RowKit Go.Proofs.Ytajephbmbdnjpaa.Reg Go.Proofs.Ytajephbmbdnjpaa.Plain Go.Proofs.YtajephbmbdnjpaaW.PrintWords Go.Proofs.YtajephbmbdnjpaaW.PrintLast Go.Proofs.YtajephbmbdnjpaaW.PrintMore
set_option linter.unusedVariables false

theorem chk0 {s p pr fl fi ix : Int} (h : chkV s p pr fl fi ix = 0) : 1 ≤ p ∧ (pr = 1 ∨ pr = 3) ∧ 0 ≤ fl ∧ fl ≤ 15 ∧ -1 ≤ fi ∧ fi ≤ 3 ∧ 0 ≤ s ∧ s + p ≤ 512 ∧ 0 ≤ ix ∧ (fi = -1 → ix = 0) ∧ (fi ≠ -1 → ix + p ≤ 16) ∧ (fl % 2 = 1 → fi ≠ -1) ∧ (fl / 2 % 2 = 1 → fi = -1) ∧ (fl / 8 % 2 = 1 → fi = -1) := by
  unfold chkV at h
  by_cases hb : badA p pr fl fi
  · rw [if_pos hb] at h; exact absurd h (by decide)
  · rw [if_neg hb] at h
    unfold rng at h
    by_cases hr : s < 0 ∨ 512 < s + p ∨ ix < 0 ∨ (0 < ix ∧ fi = -1) ∨ (fi ≠ -1 ∧ 16 < ix + p)
    · rw [if_pos hr] at h; exact absurd h (by decide)
    · clear h
      unfold badA at hb
      refine ⟨by omega, by omega, by omega, by omega, by omega, by omega, by omega, by omega, by omega, by omega, by omega, by omega, by omega, by omega⟩

theorem mergeables (k : Nat) (hk : 8 ≤ k) (s p pr fl fi ix s' p' pr' fl' fi' ix' : Int) :
    ∃ b, region_Mergeable.f k s p pr fl fi ix s' p' pr' fl' fi' ix' = some b ∧ estoversref22_Mergeable.f k s p pr fl fi ix s' p' pr' fl' fi' ix' = some b := by
  have r1 := check_f k hk s p pr fl fi ix
  have r2 := check_f k hk s' p' pr' fl' fi' ix'
  have q1 := rcheck_f k hk s p pr fl fi ix
  have q2 := rcheck_f k hk s' p' pr' fl' fi' ix'
  unfold region_Mergeable.f estoversref22_Mergeable.f
  rw [r1, r2, q1, q2, Option.bind_some, Option.bind_some, Option.bind_some, Option.bind_some]
  clear r1 r2 q1 q2
  obtain ⟨k, rfl⟩ : ∃ j, k = j + 1 := ⟨k - 1, by omega⟩
  have f1 : region_Mergeable.j0 (k + 1) true s p pr fl fi ix s' p' pr' fl' fi' ix' = some false := by
    rw [region_Mergeable.j0]; rw [if_pos rfl]
  have g1 : estoversref22_Mergeable.j0 (k + 1) true s p pr fl fi ix s' p' pr' fl' fi' ix' = some false := by
    rw [estoversref22_Mergeable.j0]; rw [if_pos rfl]
  by_cases hA : chkV s p pr fl fi ix = 0
  · rw [if_pos hA, if_pos hA]
    by_cases hB : chkV s' p' pr' fl' fi' ix' = 0
    · rw [if_pos hB, if_pos hB]
      obtain ⟨a1, a2, a3, a4, a5, a6, a7, a8, a9, a10, a11, -, -, -⟩ := chk0 hA
      obtain ⟨b1, b2, b3, b4, b5, b6, b7, b8, b9, b10, b11, -, -, -⟩ := chk0 hB
      have e1 : region_has.f s p pr fl fi ix 2 = some (decide (fl / 2 % 2 = 1)) := by rw [← has2 fl a3 a4]; rfl
      have e2 : region_has.f s' p' pr' fl' fi' ix' 2 = some (decide (fl' / 2 % 2 = 1)) := by rw [← has2 fl' b3 b4]; rfl
      have e3 := flag_f s p pr fl fi ix 2 (by omega) a3 a4 (by omega)
      rw [e1, e2, Option.bind_some, Option.bind_some]
      have hw : wrap64 (s + p) = s + p := w64 (by omega) (by omega)
      have hw2 : wrap64 (ix + p) = ix + p := w64 (by omega) (by omega)
      by_cases hf : fl / 2 % 2 = 1
      · rw [if_pos (by simpa using hf), f1]
        refine ⟨false, rfl, ?_⟩
        rw [estoversref22_Mergeable.j0]
        rw [e3, Option.bind_some, if_pos (show decide (fl / 2 % 2 = 1) = true from decide_eq_true hf)]
        split <;> rfl
      · rw [if_neg (by simpa using hf)]
        by_cases hf' : fl' / 2 % 2 = 1
        · rw [decide_eq_true hf', f1]
          refine ⟨false, rfl, ?_⟩
          rw [estoversref22_Mergeable.j0]
          rw [e3, Option.bind_some, if_neg (show ¬ decide (fl / 2 % 2 = 1) = true by simpa using hf), if_neg (show ¬ fl = fl' by rintro rfl; exact hf hf')]
          repeat' split
          all_goals rfl
        · rw [decide_eq_false hf']
          rw [region_Mergeable.j0, estoversref22_Mergeable.j0]
          rw [e3, Option.bind_some, if_neg (show ¬ decide (fl / 2 % 2 = 1) = true by simpa using hf), if_neg (show ¬ false = true by decide), hw, hw2]
          by_cases h1 : s + p = s'
          · rw [if_neg (show ¬ (s + p != s') = true by simpa using h1)]
            by_cases h2 : pr = pr'
            · rw [if_pos h2]
              by_cases h3 : fl = fl'
              · rw [if_pos h3]
                by_cases h4 : fi = fi'
                · rw [if_pos h4]
                  by_cases h5 : fi = -1
                  · rw [if_pos (show fi < 0 by omega), if_pos h5]
                    have h6 : ix = ix' := by rw [a10 h5, b10 (by omega)]
                    exact ⟨true, by simp [h1, h2, h3, h4, h6], rfl⟩
                  · rw [if_neg (show ¬ fi < 0 by omega), if_neg h5]
                    exact ⟨_, rfl, by rw [beq_iff_eq.2 h1, beq_iff_eq.2 h2, beq_iff_eq.2 h3, beq_iff_eq.2 h4, Bool.true_and, Bool.true_and, Bool.true_and, Bool.true_and, BEq.comm]⟩
                · rw [if_neg h4]
                  by_cases h5 : fi = -1
                  · rw [if_pos h5]; exact ⟨false, by simp [h4], rfl⟩
                  · rw [if_neg h5]; exact ⟨false, by simp [h4], rfl⟩
              · rw [if_neg h3]
                by_cases h5 : fi = -1
                · rw [if_pos h5]; exact ⟨false, by simp [h3], rfl⟩
                · rw [if_neg h5]; exact ⟨false, by simp [h3], rfl⟩
            · rw [if_neg h2]
              by_cases h5 : fi = -1
              · rw [if_pos h5]; exact ⟨false, by simp [h2], rfl⟩
              · rw [if_neg h5]; exact ⟨false, by simp [h2], rfl⟩
          · rw [if_pos (show (s + p != s') = true by simpa using h1)]
            by_cases h5 : fi = -1
            · rw [if_pos h5]; exact ⟨false, by simp [h1], rfl⟩
            · rw [if_neg h5]; exact ⟨false, by simp [h1], rfl⟩
    · rw [if_neg hB, if_neg hB, f1, g1]; exact ⟨_, rfl, rfl⟩
  · rw [if_neg hA, if_neg hA, f1, g1]; exact ⟨_, rfl, rfl⟩

theorem merge_true (k : Nat) (hk : 8 ≤ k) (s p pr fl fi ix s' p' pr' fl' fi' ix' : Int) (h : estoversref22_Mergeable.f k s p pr fl fi ix s' p' pr' fl' fi' ix' = some true) : chkV s p pr fl fi ix = 0 ∧ chkV s' p' pr' fl' fi' ix' = 0 ∧ s + p = s' := by
  have q1 := rcheck_f k hk s p pr fl fi ix
  have q2 := rcheck_f k hk s' p' pr' fl' fi' ix'
  unfold estoversref22_Mergeable.f at h
  rw [q1, q2, Option.bind_some, Option.bind_some] at h
  obtain ⟨k, rfl⟩ : ∃ j, k = j + 1 := ⟨k - 1, by omega⟩
  have g1 : estoversref22_Mergeable.j0 (k + 1) true s p pr fl fi ix s' p' pr' fl' fi' ix' = some false := by
    rw [estoversref22_Mergeable.j0]; rw [if_pos rfl]
  by_cases hA : chkV s p pr fl fi ix = 0
  · rw [if_pos hA] at h
    by_cases hB : chkV s' p' pr' fl' fi' ix' = 0
    · rw [if_pos hB] at h
      obtain ⟨a1, a2, a3, a4, a5, a6, a7, a8, a9, a10, a11, -, -, -⟩ := chk0 hA
      rw [w64 (x := s + p) (by omega) (by omega)] at h
      by_cases hs : s + p = s'
      · exact ⟨hA, hB, hs⟩
      · rw [show (s + p != s') = true by simpa using hs, g1] at h
        exact absurd h (by simp)
    · rw [if_neg hB, g1] at h
      exact absurd h (by simp)
  · rw [if_neg hA, g1] at h
    exact absurd h (by simp)
end Go.Proofs.Ytajephbmbdnjpaa.PlainG
