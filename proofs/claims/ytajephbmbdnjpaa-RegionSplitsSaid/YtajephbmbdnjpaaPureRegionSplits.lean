/- What is proved: the law RegionSplits answers true. Condition: ints of the machine. -/
import Derived.Test.YtajephbmbdnjpaaPlainM
import Derived.Test.YtajephbmbdnjpaaSpl
namespace Go.Proofs.Ytajephbmbdnjpaa
open Go.RowKit Go.Proofs.Ytajephbmbdnjpaa.Reg Go.Proofs.Ytajephbmbdnjpaa.Plain Go.Proofs.Ytajephbmbdnjpaa.Hand
set_option linter.unusedVariables false
theorem Pure.RegionSplits (a0_0 a0_1 a0_2 a0_3 a0_4 a0_5 a1 : Int) (ha0_0 : -9223372036854775808 ≤ a0_0 ∧ a0_0 ≤ 9223372036854775807) (ha0_1 : -9223372036854775808 ≤ a0_1 ∧ a0_1 ≤ 9223372036854775807) (ha0_2 : -9223372036854775808 ≤ a0_2 ∧ a0_2 ≤ 9223372036854775807) (ha0_3 : -9223372036854775808 ≤ a0_3 ∧ a0_3 ≤ 9223372036854775807) (ha0_4 : -9223372036854775808 ≤ a0_4 ∧ a0_4 ≤ 9223372036854775807) (ha0_5 : -9223372036854775808 ≤ a0_5 ∧ a0_5 ≤ 9223372036854775807) (ha1 : -9223372036854775808 ≤ a1 ∧ a1 ≤ 9223372036854775807) (W : World) : Calls Try.prog 5 #[.agg #[.int .i64 a0_0, .int .i64 a0_1, .int .i64 a0_2, .int .i64 a0_3, .int .i64 a0_4, .int .i64 a0_5], .int .i64 a1] W fun e w' => e = .returned (.bool true) ∧ Below W.heap.size W w' := by
  obtain ⟨⟨x1, x2, x3, x4, x5, x6, x7, x8, x9, x10, x11, x12, x13⟩, h1, h2⟩ := splits 8 (Nat.le_refl 8) a0_0 a0_1 a0_2 a0_3 a0_4 a0_5 a1
  exact splits_calls 8 a0_0 a0_1 a0_2 a0_3 a0_4 a0_5 a1 x1 x2 x3 x4 x5 x6 x7 x8 x9 x10 x11 x12 x13 W h1 h2
end Go.Proofs.Ytajephbmbdnjpaa
