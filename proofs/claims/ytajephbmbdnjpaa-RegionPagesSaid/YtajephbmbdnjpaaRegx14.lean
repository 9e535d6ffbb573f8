/- Turned out by a program of this session (wip/tools/prt.py). -/
import Derived.Test.YtajephbmbdnjpaaAwake
import Derived.Test.YtajephbmbdnjpaaRegx0
namespace Go.Proofs.Ytajephbmbdnjpaa.Reg
open Go.RowKit Go.Proofs.YtajephbmbdnjpaaW.PrintWords Go.Proofs.YtajephbmbdnjpaaW.PrintLast Go.Proofs.YtajephbmbdnjpaaW.PrintMore
attribute [local go_sem] max2_int min2_int max_two min_two max_three min_three max_four min_four   -- for this text's walks alone
set_option linter.unusedVariables false
set_option linter.unusedSimpArgs false

/-! ### estoverslaw22_awake: function 13 · estovers/estoverslaw22.awake -/
def estoverslaw22_awake.f : Option (Bool) := some true
theorem estoverslaw22_awake.calls (r : Bool) (w : World) (h : estoverslaw22_awake.f = some r) : Calls Try.prog 13 #[] w fun e w' => e = .returned (.bool r) ∧ Below w.heap.size w w' := by
 cases h
 exact Go.Proofs.Ytajephbmbdnjpaa.Hand.awake_any w

end Go.Proofs.Ytajephbmbdnjpaa.Reg
