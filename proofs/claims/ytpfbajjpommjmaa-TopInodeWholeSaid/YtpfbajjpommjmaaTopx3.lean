/- Turned out by a program of this session (wip/tools/prt.py). -/
import Derived.Test.YtpfbajjpommjmaaEnc
import Derived.Test.YtpfbajjpommjmaaTopx0
namespace Go.Proofs.Ytpfbajjpommjmaa.Top
open Go.RowKit Go.Proofs.YtpfbajjpommjmaaW.PrintWords Go.Proofs.YtpfbajjpommjmaaW.PrintLast Go.Proofs.YtpfbajjpommjmaaW.PrintMore
attribute [local go_sem] max2_int min2_int max_two min_two max_three min_three max_four min_four   -- for this text's walks alone
set_option linter.unusedVariables false
set_option linter.unusedSimpArgs false

/-! ### inode_Encode: function 12 · estovers/inode.Encode -/
def inode_Encode.f (a0 a1 : Int) : Option (List Int × Int) := some (Go.Proofs.Ytpfbajjpommjmaa.Hand.encf a0 a1)
theorem inode_Encode.calls (a0 a1 : Int) (r1 : List Int) (r2 : Int) (w : World) (h : inode_Encode.f a0 a1 = some (r1, r2)) :
  Calls Try.prog 12 #[.int .i64 a0, .int .i64 a1] w fun e w' => ∃ v0_ : Value, e = .returned (.tuple #[v0_, .int .i64 r2]) ∧ Kd.R (Kd.int .u8) 5 w' w.heap.size (fun _ => True) v0_ r1 ∧ Below w.heap.size w w' := by
 have h' : Go.Proofs.Ytpfbajjpommjmaa.Hand.encf a0 a1 = (r1, r2) := Option.some.inj h
 exact Go.Proofs.Ytpfbajjpommjmaa.Hand.encode_any a0 a1 r1 r2 w h'

end Go.Proofs.Ytpfbajjpommjmaa.Top
