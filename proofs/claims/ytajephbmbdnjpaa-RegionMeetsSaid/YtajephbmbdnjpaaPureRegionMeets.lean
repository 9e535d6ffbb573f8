/- What is proved: the law RegionMeets answers true. Condition: ints of the machine. -/
import Derived.Test.YtajephbmbdnjpaaPlainE
import Derived.Test.YtajephbmbdnjpaaRegx33
namespace Go.Proofs.Ytajephbmbdnjpaa
open Go.RowKit Go.Proofs.Ytajephbmbdnjpaa.Reg Go.Proofs.Ytajephbmbdnjpaa.Plain Go.Proofs.Ytajephbmbdnjpaa.PlainG Go.Proofs.Ytajephbmbdnjpaa.Hand Go.Proofs.YtajephbmbdnjpaaW.PrintWords Go.Proofs.YtajephbmbdnjpaaW.PrintLast Go.Proofs.YtajephbmbdnjpaaW.PrintMore
set_option linter.unusedVariables false
theorem Pure.RegionMeets (a0_0 a0_1 a0_2 a0_3 a0_4 a0_5 a1_0 a1_1 a1_2 a1_3 a1_4 a1_5 : Int) (ha0_0 : -9223372036854775808 ≤ a0_0 ∧ a0_0 ≤ 9223372036854775807) (ha0_1 : -9223372036854775808 ≤ a0_1 ∧ a0_1 ≤ 9223372036854775807) (ha0_2 : -9223372036854775808 ≤ a0_2 ∧ a0_2 ≤ 9223372036854775807) (ha0_3 : -9223372036854775808 ≤ a0_3 ∧ a0_3 ≤ 9223372036854775807) (ha0_4 : -9223372036854775808 ≤ a0_4 ∧ a0_4 ≤ 9223372036854775807) (ha0_5 : -9223372036854775808 ≤ a0_5 ∧ a0_5 ≤ 9223372036854775807) (ha1_0 : -9223372036854775808 ≤ a1_0 ∧ a1_0 ≤ 9223372036854775807) (ha1_1 : -9223372036854775808 ≤ a1_1 ∧ a1_1 ≤ 9223372036854775807) (ha1_2 : -9223372036854775808 ≤ a1_2 ∧ a1_2 ≤ 9223372036854775807) (ha1_3 : -9223372036854775808 ≤ a1_3 ∧ a1_3 ≤ 9223372036854775807) (ha1_4 : -9223372036854775808 ≤ a1_4 ∧ a1_4 ≤ 9223372036854775807) (ha1_5 : -9223372036854775808 ≤ a1_5 ∧ a1_5 ≤ 9223372036854775807) (W : World) : Calls Try.prog 10 #[.agg #[.int .i64 a0_0, .int .i64 a0_1, .int .i64 a0_2, .int .i64 a0_3, .int .i64 a0_4, .int .i64 a0_5], .agg #[.int .i64 a1_0, .int .i64 a1_1, .int .i64 a1_2, .int .i64 a1_3, .int .i64 a1_4, .int .i64 a1_5]] W fun e w' => e = .returned (.bool true) ∧ Below W.heap.size W w' := by
  refine Reg.estoverslaw22_RegionMeets.calls 9 a0_0 a0_1 a0_2 a0_3 a0_4 a0_5 a1_0 a1_1 a1_2 a1_3 a1_4 a1_5 true W ?_
  obtain ⟨c, m1, m2⟩ := mergeables 9 (by omega) a0_0 a0_1 a0_2 a0_3 a0_4 a0_5 a1_0 a1_1 a1_2 a1_3 a1_4 a1_5
  obtain ⟨d, n1, n2⟩ := mergeables 9 (by omega) a1_0 a1_1 a1_2 a1_3 a1_4 a1_5 a0_0 a0_1 a0_2 a0_3 a0_4 a0_5
  have o1 := overlap_v 9 (by omega) a0_0 a0_1 a0_2 a0_3 a0_4 a0_5 a1_0 a1_1 a1_2 a1_3 a1_4 a1_5
  have o2 := overlap_v 9 (by omega) a1_0 a1_1 a1_2 a1_3 a1_4 a1_5 a0_0 a0_1 a0_2 a0_3 a0_4 a0_5
  have o3 := overlap_v 8 (by omega) a0_0 a0_1 a0_2 a0_3 a0_4 a0_5 a0_0 a0_1 a0_2 a0_3 a0_4 a0_5
  have k1 := check_f 8 (by omega) a0_0 a0_1 a0_2 a0_3 a0_4 a0_5
  have e1 := (end_v 9 (by omega) a0_0 a0_1 a0_2 a0_3 a0_4 a0_5).1
  have ho : decide (ovP a0_0 a0_1 a0_2 a0_3 a0_4 a0_5 a1_0 a1_1 a1_2 a1_3 a1_4 a1_5) = decide (ovP a1_0 a1_1 a1_2 a1_3 a1_4 a1_5 a0_0 a0_1 a0_2 a0_3 a0_4 a0_5) := decide_eq_decide.2 ⟨fun h => ⟨h.2.1, h.1, h.2.2.2, h.2.2.1⟩, fun h => ⟨h.2.1, h.1, h.2.2.2, h.2.2.1⟩⟩
  have hj : Reg.estoverslaw22_RegionMeets.j0 9 false a0_0 a0_1 a0_2 a0_3 a0_4 a0_5 = some true := by
    rw [estoverslaw22_RegionMeets.j0, if_neg (by decide), o3, k1, Option.bind_some, Option.bind_some]
    rw [if_pos]
    · rfl
    · by_cases hA : chkV a0_0 a0_1 a0_2 a0_3 a0_4 a0_5 = 0
      · obtain ⟨h1, h2, h3, h4, h5, h6, h7, h8, h9, h10, h11, -, -, -⟩ := chk0 hA
        rw [decide_eq_true (show ovP a0_0 a0_1 a0_2 a0_3 a0_4 a0_5 a0_0 a0_1 a0_2 a0_3 a0_4 a0_5 from ⟨hA, hA, by omega, by omega⟩), hA]
        rfl
      · rw [decide_eq_false fun h : ovP a0_0 a0_1 a0_2 a0_3 a0_4 a0_5 a0_0 a0_1 a0_2 a0_3 a0_4 a0_5 => hA h.1, show (chkV a0_0 a0_1 a0_2 a0_3 a0_4 a0_5 == 0) = false by simpa using hA]
        rfl
  unfold estoverslaw22_RegionMeets.f
  rw [o1, o2, m1, n1, e1, Option.bind_some, Option.bind_some, Option.bind_some, Option.bind_some, Option.bind_some, Option.bind_some, ← ho, if_neg (by simp)]
  cases c
  · rw [if_neg (by decide)]
    exact hj
  · rw [if_pos rfl]
    obtain ⟨hA, hB, hs⟩ := merge_true 9 (by omega) a0_0 a0_1 a0_2 a0_3 a0_4 a0_5 a1_0 a1_1 a1_2 a1_3 a1_4 a1_5 m2
    obtain ⟨h1, h2, h3, h4, h5, h6, h7, h8, h9, h10, h11, -, -, -⟩ := chk0 hA
    obtain ⟨g1, g2, g3, g4, g5, g6, g7, g8, g9, g10, g11, -, -, -⟩ := chk0 hB
    rw [if_neg (show ¬ decide (ovP a0_0 a0_1 a0_2 a0_3 a0_4 a0_5 a1_0 a1_1 a1_2 a1_3 a1_4 a1_5) = true by intro h; have h := (of_decide_eq_true h).2.2; omega)]
    cases d
    · rw [if_neg (by decide), if_pos hA, show (a0_0 + a0_1 != a1_0) = false by simpa using hs]
      exact hj
    · have := merge_true 9 (by omega) a1_0 a1_1 a1_2 a1_3 a1_4 a1_5 a0_0 a0_1 a0_2 a0_3 a0_4 a0_5 n2
      omega
end Go.Proofs.Ytajephbmbdnjpaa
