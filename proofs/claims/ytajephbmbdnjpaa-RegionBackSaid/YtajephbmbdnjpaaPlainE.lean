/- What is proved: plain laws: what End answers, and when two regions overlap. Condition: enough rounds. -/
import Derived.Test.YtajephbmbdnjpaaPlainG
import Derived.Test.YtajephbmbdnjpaaRegx8
import Derived.Test.YtajephbmbdnjpaaRegx26
import Derived.Test.YtajephbmbdnjpaaRegx28
namespace Go.Proofs.Ytajephbmbdnjpaa.PlainG
open Go.RowKit Go.Proofs.Ytajephbmbdnjpaa.Reg Go.Proofs.Ytajephbmbdnjpaa.Plain Go.Proofs.YtajephbmbdnjpaaW.PrintWords Go.Proofs.YtajephbmbdnjpaaW.PrintLast Go.Proofs.YtajephbmbdnjpaaW.PrintMore
set_option linter.unusedVariables false

theorem end_v (k : Nat) (hk : 8 ≤ k) (s p pr fl fi ix : Int) : region_End.f k s p pr fl fi ix = some (if chkV s p pr fl fi ix = 0 then s + p else 0) ∧ estoversref22_End.f k s p pr fl fi ix = some (if chkV s p pr fl fi ix = 0 then s + p else 0) := by
  have r1 := check_f k hk s p pr fl fi ix
  have q1 := rcheck_f k hk s p pr fl fi ix
  unfold region_End.f estoversref22_End.f
  rw [r1, q1, Option.bind_some]
  by_cases hA : chkV s p pr fl fi ix = 0
  · obtain ⟨a1, a2, a3, a4, a5, a6, a7, a8, a9, a10, a11, -, -, -⟩ := chk0 hA
    rw [if_pos hA, if_pos hA, w64 (by omega) (by omega)]
    exact ⟨rfl, rfl⟩
  · rw [if_neg hA, if_neg hA]
    exact ⟨rfl, rfl⟩

/-- Where two regions meet. -/
def ovP (s p pr fl fi ix s' p' pr' fl' fi' ix' : Int) : Prop := chkV s p pr fl fi ix = 0 ∧ chkV s' p' pr' fl' fi' ix' = 0 ∧ s < s' + p' ∧ s' < s + p
instance (s p pr fl fi ix s' p' pr' fl' fi' ix' : Int) : Decidable (ovP s p pr fl fi ix s' p' pr' fl' fi' ix') := by unfold ovP; infer_instance

theorem overlap_v (k : Nat) (hk : 8 ≤ k) (s p pr fl fi ix s' p' pr' fl' fi' ix' : Int) : region_Overlap.f k s p pr fl fi ix s' p' pr' fl' fi' ix' = some (decide (ovP s p pr fl fi ix s' p' pr' fl' fi' ix')) := by
  have r1 := check_f k hk s p pr fl fi ix
  have r2 := check_f k hk s' p' pr' fl' fi' ix'
  have e1 := (end_v k hk s p pr fl fi ix).1
  have e2 := (end_v k hk s' p' pr' fl' fi' ix').1
  unfold region_Overlap.f
  rw [r1, r2, e1, e2, Option.bind_some, Option.bind_some, Option.bind_some, Option.bind_some]
  by_cases hA : chkV s p pr fl fi ix = 0
  · rw [if_pos hA]
    by_cases hB : chkV s' p' pr' fl' fi' ix' = 0
    · rw [if_pos hB, if_pos hA, if_pos hB]
      by_cases h1 : s < s' + p'
      · rw [if_pos h1]
        congr 1
        exact decide_eq_decide.2 ⟨fun h => ⟨hA, hB, h1, h⟩, fun h => h.2.2.2⟩
      · rw [if_neg h1, decide_eq_false fun h => h1 h.2.2.1]
    · rw [if_neg hB, decide_eq_false fun h => hB h.2.1]
  · rw [if_neg hA, decide_eq_false fun h => hA h.1]

end Go.Proofs.Ytajephbmbdnjpaa.PlainG
