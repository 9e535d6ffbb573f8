/- Turned out by a program of this session (wip/tools/prt.py). -/
import Derived.Test.YtpfbajjpommjmaaClone
import Derived.Test.YtpfbajjpommjmaaTopx0
namespace Go.Proofs.Ytpfbajjpommjmaa.Top
open Go.RowKit Go.Proofs.YtpfbajjpommjmaaW.PrintWords Go.Proofs.YtpfbajjpommjmaaW.PrintLast Go.Proofs.YtpfbajjpommjmaaW.PrintMore
attribute [local go_sem] max2_int min2_int max_two min_two max_three min_three max_four min_four   -- for this text's walks alone
set_option linter.unusedVariables false
set_option linter.unusedSimpArgs false

/-! ### bytes_Clone: function 15 · bytes.Clone -/
def bytes_Clone.f (l0 : List Int) : Option (List Int) := if l0.length ≤ 140737488355328 then some l0 else none
theorem bytes_Clone.calls (A0 : Option Addr) (c0 : Nat) (l0 : List Int) (r : List Int) (w : World) (hr0 : Kd.C (Kd.int .u8) w A0 l0.length l0) (hc0 : l0.length ≤ c0) (h : bytes_Clone.f l0 = some r) :
  Calls Try.prog 15 #[.slice A0 l0.length c0] w fun e w' => ∃ v0_ : Value, e = .returned v0_ ∧ Kd.R (Kd.int .u8) 5 w' w.heap.size (fun _ => True) v0_ r ∧ Below w.heap.size w w' := by
 unfold bytes_Clone.f at h
 by_cases hl : l0.length ≤ 140737488355328
 ·rw [if_pos hl] at h
  obtain rfl := Option.some.inj h
  exact Go.Proofs.Ytpfbajjpommjmaa.Hand.clone_any A0 c0 l0 w hr0 hc0 hl
 ·rw [if_neg hl] at h
  exact absurd h (by simp)

end Go.Proofs.Ytpfbajjpommjmaa.Top
