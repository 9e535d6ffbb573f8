/- What is proved: the law RegionMerges answers true. Condition: ints of the machine. -/
import Derived.Test.YtajephbmbdnjpaaPlainM
import Derived.Test.YtajephbmbdnjpaaMer
namespace Go.Proofs.Ytajephbmbdnjpaa
open Go.RowKit Go.Proofs.Ytajephbmbdnjpaa.Reg Go.Proofs.Ytajephbmbdnjpaa.Plain Go.Proofs.Ytajephbmbdnjpaa.Hand
set_option linter.unusedVariables false
theorem Pure.RegionMerges (a0_0 a0_1 a0_2 a0_3 a0_4 a0_5 a1_0 a1_1 a1_2 a1_3 a1_4 a1_5 : Int) (ha0_0 : -9223372036854775808 ≤ a0_0 ∧ a0_0 ≤ 9223372036854775807) (ha0_1 : -9223372036854775808 ≤ a0_1 ∧ a0_1 ≤ 9223372036854775807) (ha0_2 : -9223372036854775808 ≤ a0_2 ∧ a0_2 ≤ 9223372036854775807) (ha0_3 : -9223372036854775808 ≤ a0_3 ∧ a0_3 ≤ 9223372036854775807) (ha0_4 : -9223372036854775808 ≤ a0_4 ∧ a0_4 ≤ 9223372036854775807) (ha0_5 : -9223372036854775808 ≤ a0_5 ∧ a0_5 ≤ 9223372036854775807) (ha1_0 : -9223372036854775808 ≤ a1_0 ∧ a1_0 ≤ 9223372036854775807) (ha1_1 : -9223372036854775808 ≤ a1_1 ∧ a1_1 ≤ 9223372036854775807) (ha1_2 : -9223372036854775808 ≤ a1_2 ∧ a1_2 ≤ 9223372036854775807) (ha1_3 : -9223372036854775808 ≤ a1_3 ∧ a1_3 ≤ 9223372036854775807) (ha1_4 : -9223372036854775808 ≤ a1_4 ∧ a1_4 ≤ 9223372036854775807) (ha1_5 : -9223372036854775808 ≤ a1_5 ∧ a1_5 ≤ 9223372036854775807) (W : World) : Calls Try.prog 4 #[.agg #[.int .i64 a0_0, .int .i64 a0_1, .int .i64 a0_2, .int .i64 a0_3, .int .i64 a0_4, .int .i64 a0_5], .agg #[.int .i64 a1_0, .int .i64 a1_1, .int .i64 a1_2, .int .i64 a1_3, .int .i64 a1_4, .int .i64 a1_5]] W fun e w' => e = .returned (.bool true) ∧ Below W.heap.size W w' := by
  obtain ⟨m, h1, h2⟩ := merges 8 (Nat.le_refl 8) a0_0 a0_1 a0_2 a0_3 a0_4 a0_5 a1_0 a1_1 a1_2 a1_3 a1_4 a1_5
  obtain ⟨b, h3, h4⟩ := mergeables 8 (Nat.le_refl 8) a0_0 a0_1 a0_2 a0_3 a0_4 a0_5 a1_0 a1_1 a1_2 a1_3 a1_4 a1_5
  refine merges_calls 8 a0_0 a0_1 a0_2 a0_3 a0_4 a0_5 a1_0 a1_1 a1_2 a1_3 a1_4 a1_5 W ?_
  unfold Hand.estoverslaw22_RegionMerges.f
  rw [h1, h2, Option.bind_some, Option.bind_some, if_pos (by simp), if_pos rfl, h3, h4, Option.bind_some, Option.bind_some, if_pos (by simp)]
  rfl
end Go.Proofs.Ytajephbmbdnjpaa
