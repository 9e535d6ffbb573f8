/- What is proved: plain laws: what Has, Page, Permits and the reference's Overlap answer. Condition: enough rounds. -/
import Derived.Test.YtajephbmbdnjpaaPlainE
import Derived.Test.YtajephbmbdnjpaaRegx11
import Derived.Test.YtajephbmbdnjpaaRegx12
import Derived.Test.YtajephbmbdnjpaaRegx13
import Derived.Test.YtajephbmbdnjpaaRegx25
import Derived.Test.YtajephbmbdnjpaaRegx27
import Derived.Test.YtajephbmbdnjpaaRegx29
import Derived.Test.YtajephbmbdnjpaaRegx30
namespace Go.Proofs.Ytajephbmbdnjpaa.PlainG
open Go.RowKit Go.Proofs.Ytajephbmbdnjpaa.Reg Go.Proofs.Ytajephbmbdnjpaa.Plain Go.Proofs.YtajephbmbdnjpaaW.PrintWords Go.Proofs.YtajephbmbdnjpaaW.PrintLast Go.Proofs.YtajephbmbdnjpaaW.PrintMore
set_option linter.unusedVariables false

theorem has_v (k : Nat) (hk : 8 ≤ k) (s p pr fl fi ix x : Int) : region_Has.f k s p pr fl fi ix x = some (decide (chkV s p pr fl fi ix = 0 ∧ s ≤ x ∧ x < s + p)) ∧ estoversref22_Has.f k s p pr fl fi ix x = some (decide (chkV s p pr fl fi ix = 0 ∧ s ≤ x ∧ x < s + p)) := by
  have r1 := check_f k hk s p pr fl fi ix
  have q1 := rcheck_f k hk s p pr fl fi ix
  unfold region_Has.f estoversref22_Has.f
  rw [r1, q1, Option.bind_some]
  by_cases hA : chkV s p pr fl fi ix = 0
  · obtain ⟨a1, a2, a3, a4, a5, a6, a7, a8, a9, a10, a11, -, -, -⟩ := chk0 hA
    rw [if_pos hA, w64 (by omega) (by omega)]
    by_cases hx : x ≥ s
    · rw [if_pos hx]
      by_cases hy : x < s + p
      · rw [decide_eq_true hy, decide_eq_true (show chkV s p pr fl fi ix = 0 ∧ s ≤ x ∧ x < s + p from ⟨hA, hx, hy⟩)]
        exact ⟨rfl, rfl⟩
      · rw [decide_eq_false hy, decide_eq_false (show ¬ (chkV s p pr fl fi ix = 0 ∧ s ≤ x ∧ x < s + p) from fun h => hy h.2.2)]
        exact ⟨rfl, rfl⟩
    · rw [if_neg hx, decide_eq_false (show ¬ (chkV s p pr fl fi ix = 0 ∧ s ≤ x ∧ x < s + p) from fun h => hx h.2.1)]
      exact ⟨rfl, rfl⟩
  · rw [if_neg hA, decide_eq_false (show ¬ (chkV s p pr fl fi ix = 0 ∧ s ≤ x ∧ x < s + p) from fun h => hA h.1)]
    exact ⟨rfl, rfl⟩

theorem page_v (k : Nat) (hk : 8 ≤ k) (s p pr fl fi ix x : Int) : ∃ v, region_Page.f k s p pr fl fi ix x = some v ∧ estoversref22_Page.f k s p pr fl fi ix x = some v := by
  obtain ⟨h1, h2⟩ := has_v k hk s p pr fl fi ix x
  unfold region_Page.f estoversref22_Page.f
  rw [h1, h2, Option.bind_some, Option.bind_some]
  by_cases hA : chkV s p pr fl fi ix = 0 ∧ s ≤ x ∧ x < s + p
  · obtain ⟨a1, a2, a3, a4, a5, a6, a7, a8, a9, a10, a11, -, -, -⟩ := chk0 hA.1
    rw [if_pos (decide_eq_true hA), if_pos (decide_eq_true hA)]
    by_cases hf : fi = -1
    · rw [if_pos hf, if_pos (show fi < 0 by omega)]; exact ⟨_, rfl, rfl⟩
    · rw [if_neg hf, if_neg (show ¬ fi < 0 by omega)]; exact ⟨_, rfl, rfl⟩
  · rw [if_neg (by simpa using hA), if_neg (by simpa using hA)]; exact ⟨_, rfl, rfl⟩

theorem permits_v (k : Nat) (hk : 8 ≤ k) (s p pr fl fi ix : Int) (b : Bool) : ∃ v, region_Permits.f k s p pr fl fi ix b = some v ∧ estoversref22_Permits.f k s p pr fl fi ix b = some v := by
  have r1 := check_f k hk s p pr fl fi ix
  have q1 := rcheck_f k hk s p pr fl fi ix
  unfold region_Permits.f estoversref22_Permits.f
  rw [r1, q1, Option.bind_some, Option.bind_some]
  by_cases hA : chkV s p pr fl fi ix = 0
  · obtain ⟨a1, a2, a3, a4, a5, a6, a7, a8, a9, a10, a11, -, -, -⟩ := chk0 hA
    rw [if_pos hA, if_pos hA]
    cases b
    · rw [if_neg (by decide), if_neg (by decide)]; exact ⟨_, rfl, rfl⟩
    · rw [if_pos rfl, if_pos rfl]
      rcases a2 with rfl | rfl
      · exact ⟨false, by decide +kernel, rfl⟩
      · exact ⟨true, by decide +kernel, rfl⟩
  · rw [if_neg hA, if_neg hA]; exact ⟨_, rfl, rfl⟩

theorem rover_l (n : Nat) (s p pr fl fi ix s' p' pr' fl' fi' ix' : Int) (hA : chkV s p pr fl fi ix = 0) (hB : chkV s' p' pr' fl' fi' ix' = 0) : ∀ x : Int, s ≤ x → x ≤ s + p → s + p - x < n →
    estoversref22_Overlap.l0 (n + 8) x s p pr fl fi ix s' p' pr' fl' fi' ix' = some (decide (x < s' + p' ∧ s' < s + p ∧ x < s + p)) := by
  obtain ⟨a1, a2, a3, a4, a5, a6, a7, a8, a9, a10, a11, -, -, -⟩ := chk0 hA
  obtain ⟨b1, b2, b3, b4, b5, b6, b7, b8, b9, b10, b11, -, -, -⟩ := chk0 hB
  induction n with
  | zero => intro x h0 h1 h2; omega
  | succ n ih =>
    intro x h0 h1 h2
    have hx := (has_v (n + 8) (by omega) s' p' pr' fl' fi' ix' x).2
    rw [show n + 1 + 8 = (n + 8) + 1 by omega, estoversref22_Overlap.l0, w64 (x := s + p) (by omega) (by omega), hx, Option.bind_some]
    by_cases hl : x < s + p
    · rw [if_pos hl]
      by_cases hh : chkV s' p' pr' fl' fi' ix' = 0 ∧ s' ≤ x ∧ x < s' + p'
      · rw [if_pos (decide_eq_true hh), decide_eq_true (show x < s' + p' ∧ s' < s + p ∧ x < s + p by omega)]
      · rw [if_neg (by simpa using hh), w64 (x := x + 1) (by omega) (by omega), ih (x + 1) (by omega) (by omega) (by omega)]
        congr 1
        have hh' : ¬ (s' ≤ x ∧ x < s' + p') := fun h => hh ⟨hB, h⟩
        exact decide_eq_decide.2 ⟨fun h => by omega, fun h => by omega⟩
    · rw [if_neg hl, decide_eq_false fun h => hl h.2.2]

theorem rover_v (k : Nat) (hk : 540 ≤ k) (s p pr fl fi ix s' p' pr' fl' fi' ix' : Int) : estoversref22_Overlap.f k s p pr fl fi ix s' p' pr' fl' fi' ix' = some (decide (ovP s p pr fl fi ix s' p' pr' fl' fi' ix')) := by
  have r1 := rcheck_f k (by omega) s p pr fl fi ix
  have r2 := rcheck_f k (by omega) s' p' pr' fl' fi' ix'
  unfold estoversref22_Overlap.f
  rw [r1, r2, Option.bind_some, Option.bind_some]
  obtain ⟨n, rfl⟩ : ∃ n, k = (n + 8) + 1 := ⟨k - 9, by omega⟩
  by_cases hA : chkV s p pr fl fi ix = 0
  · rw [if_pos hA]
    by_cases hB : chkV s' p' pr' fl' fi' ix' = 0
    · rw [show (chkV s' p' pr' fl' fi' ix' != 0) = false by simpa using hB, estoversref22_Overlap.j0, if_neg (by decide)]
      obtain ⟨a1, a2, a3, a4, a5, a6, a7, a8, a9, a10, a11, -, -, -⟩ := chk0 hA
      rw [rover_l n s p pr fl fi ix s' p' pr' fl' fi' ix' hA hB s (by omega) (by omega) (by omega)]
      congr 1
      exact decide_eq_decide.2 ⟨fun h => ⟨hA, hB, h.1, h.2.1⟩, fun h => ⟨h.2.2.1, h.2.2.2, by omega⟩⟩
    · rw [show (chkV s' p' pr' fl' fi' ix' != 0) = true by simpa using hB, estoversref22_Overlap.j0, if_pos rfl, decide_eq_false fun h => hB h.2.1]
  · rw [if_neg hA, estoversref22_Overlap.j0, if_pos rfl, decide_eq_false fun h => hA h.1]

end Go.Proofs.Ytajephbmbdnjpaa.PlainG
