/- What is proved: the plain function of the law RegionChecks answers true. Condition: ints of the machine. -/
import Derived.Test.YtajephbmbdnjpaaPlainR
import Derived.Test.YtajephbmbdnjpaaRegx15
namespace Go.Proofs.Ytajephbmbdnjpaa
open Go.Proofs.Ytajephbmbdnjpaa.Reg Go.Proofs.Ytajephbmbdnjpaa.Plain
set_option linter.unusedVariables false
theorem Pure.RegionChecks (a b c d e f : Int) (ha : -9223372036854775808 ≤ a ∧ a ≤ 9223372036854775807) (hb : -9223372036854775808 ≤ b ∧ b ≤ 9223372036854775807) (hc : -9223372036854775808 ≤ c ∧ c ≤ 9223372036854775807) (hd : -9223372036854775808 ≤ d ∧ d ≤ 9223372036854775807) (he : -9223372036854775808 ≤ e ∧ e ≤ 9223372036854775807) (hf : -9223372036854775808 ≤ f ∧ f ≤ 9223372036854775807) : ∃ k, Reg.estoverslaw22_RegionChecks.f k a b c d e f = some true := by
  refine ⟨8, ?_⟩
  unfold estoverslaw22_RegionChecks.f
  rw [check_f 8 (Nat.le_refl 8) a b c d e f, Option.bind_some, rcheck_f 8 (Nat.le_refl 8) a b c d e f, Option.bind_some, if_pos rfl]
  rfl
end Go.Proofs.Ytajephbmbdnjpaa
