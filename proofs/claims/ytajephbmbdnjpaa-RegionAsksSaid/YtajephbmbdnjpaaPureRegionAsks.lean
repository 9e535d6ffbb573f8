/- What is proved: the law RegionAsks answers true. Condition: ints of the machine. -/
import Derived.Test.YtajephbmbdnjpaaPlainH
import Derived.Test.YtajephbmbdnjpaaRegx31
namespace Go.Proofs.Ytajephbmbdnjpaa
open Go.RowKit Go.Proofs.Ytajephbmbdnjpaa.Reg Go.Proofs.Ytajephbmbdnjpaa.Plain Go.Proofs.Ytajephbmbdnjpaa.PlainG Go.Proofs.Ytajephbmbdnjpaa.Hand Go.Proofs.YtajephbmbdnjpaaW.PrintWords Go.Proofs.YtajephbmbdnjpaaW.PrintLast Go.Proofs.YtajephbmbdnjpaaW.PrintMore
set_option linter.unusedVariables false
theorem Pure.RegionAsks (a0_0 a0_1 a0_2 a0_3 a0_4 a0_5 a1_0 a1_1 a1_2 a1_3 a1_4 a1_5 a2 : Int) (ha0_0 : -9223372036854775808 ≤ a0_0 ∧ a0_0 ≤ 9223372036854775807) (ha0_1 : -9223372036854775808 ≤ a0_1 ∧ a0_1 ≤ 9223372036854775807) (ha0_2 : -9223372036854775808 ≤ a0_2 ∧ a0_2 ≤ 9223372036854775807) (ha0_3 : -9223372036854775808 ≤ a0_3 ∧ a0_3 ≤ 9223372036854775807) (ha0_4 : -9223372036854775808 ≤ a0_4 ∧ a0_4 ≤ 9223372036854775807) (ha0_5 : -9223372036854775808 ≤ a0_5 ∧ a0_5 ≤ 9223372036854775807) (ha1_0 : -9223372036854775808 ≤ a1_0 ∧ a1_0 ≤ 9223372036854775807) (ha1_1 : -9223372036854775808 ≤ a1_1 ∧ a1_1 ≤ 9223372036854775807) (ha1_2 : -9223372036854775808 ≤ a1_2 ∧ a1_2 ≤ 9223372036854775807) (ha1_3 : -9223372036854775808 ≤ a1_3 ∧ a1_3 ≤ 9223372036854775807) (ha1_4 : -9223372036854775808 ≤ a1_4 ∧ a1_4 ≤ 9223372036854775807) (ha1_5 : -9223372036854775808 ≤ a1_5 ∧ a1_5 ≤ 9223372036854775807) (ha2 : -9223372036854775808 ≤ a2 ∧ a2 ≤ 9223372036854775807) (W : World) : Calls Try.prog 8 #[.agg #[.int .i64 a0_0, .int .i64 a0_1, .int .i64 a0_2, .int .i64 a0_3, .int .i64 a0_4, .int .i64 a0_5], .agg #[.int .i64 a1_0, .int .i64 a1_1, .int .i64 a1_2, .int .i64 a1_3, .int .i64 a1_4, .int .i64 a1_5], .int .i64 a2] W fun e w' => e = .returned (.bool true) ∧ Below W.heap.size W w' := by
  refine Reg.estoverslaw22_RegionAsks.calls 600 a0_0 a0_1 a0_2 a0_3 a0_4 a0_5 a1_0 a1_1 a1_2 a1_3 a1_4 a1_5 a2 true W ?_
  unfold estoverslaw22_RegionAsks.f
  obtain ⟨v0, p0, q0⟩ := permits_v 599 (by omega) a0_0 a0_1 a0_2 a0_3 a0_4 a0_5 false
  obtain ⟨v1, p1, q1⟩ := permits_v 598 (by omega) a0_0 a0_1 a0_2 a0_3 a0_4 a0_5 true
  obtain ⟨e1, e2⟩ := end_v 597 (by omega) a0_0 a0_1 a0_2 a0_3 a0_4 a0_5
  obtain ⟨h1, h2⟩ := has_v 597 (by omega) a0_0 a0_1 a0_2 a0_3 a0_4 a0_5 a2
  have o1 := overlap_v 597 (by omega) a0_0 a0_1 a0_2 a0_3 a0_4 a0_5 a1_0 a1_1 a1_2 a1_3 a1_4 a1_5
  have o2 := rover_v 597 (by omega) a0_0 a0_1 a0_2 a0_3 a0_4 a0_5 a1_0 a1_1 a1_2 a1_3 a1_4 a1_5
  obtain ⟨g, g1, g2⟩ := page_v 597 (by omega) a0_0 a0_1 a0_2 a0_3 a0_4 a0_5 a2
  rw [show (600 : Nat) = 599 + 1 from rfl, estoverslaw22_RegionAsks.l0, if_pos (by decide), show ((0 : Int) == 1) = false from rfl, p0, q0, Option.bind_some, Option.bind_some, if_neg (by simp), show wrap64 (0 + 1) = 1 by decide +kernel]
  rw [show (599 : Nat) = 598 + 1 from rfl, estoverslaw22_RegionAsks.l0, if_pos (by decide), show ((1 : Int) == 1) = true from rfl, p1, q1, Option.bind_some, Option.bind_some, if_neg (by simp), show wrap64 (1 + 1) = 2 by decide +kernel]
  rw [show (598 : Nat) = 597 + 1 from rfl, estoverslaw22_RegionAsks.l0, if_neg (by decide), e1, e2, Option.bind_some, Option.bind_some, if_pos rfl, h1, h2, Option.bind_some, Option.bind_some, if_pos (by simp), o1, o2, Option.bind_some, Option.bind_some, if_pos (by simp), g1, g2, Option.bind_some, Option.bind_some, if_pos rfl]
  rfl
end Go.Proofs.Ytajephbmbdnjpaa
