/- Turned out by a program of this session (wip/tools/prt.py). -/
import Derived.Test.YtpfbajjpommjmaaTopx0
namespace Go.Proofs.Ytpfbajjpommjmaa.Top
open Go.RowKit Go.Proofs.YtpfbajjpommjmaaW.PrintWords Go.Proofs.YtpfbajjpommjmaaW.PrintLast Go.Proofs.YtpfbajjpommjmaaW.PrintMore
attribute [local go_sem] max2_int min2_int max_two min_two max_three min_three max_four min_four   -- for this text's walks alone
set_option linter.unusedVariables false
set_option linter.unusedSimpArgs false

/-! ### device_page: function 25 -/
def device_page.f (l0 : List Int) : Option (Bool) := some ((l0.length : Int) == 32)
set_option maxHeartbeats 8000000 in
set_option maxRecDepth 100000 in
theorem device_page.calls (A0 : Option Addr) (c0 : Nat) (l0 : List Int) (r : Bool) (w : World) (hr0 : Kd.C (Kd.int .u8) w A0 l0.length l0) (hc0 : l0.length ≤ c0) (h : device_page.f l0 = some r) :
  Calls Try.prog 25 #[.slice A0 l0.length c0] w fun e w' => e = .returned (.bool r) ∧ Drawn0 w w' := by
 have HR0 := Aside0.mk hr0
 have HC0 := Aside0.mk hc0
 clear hr0 hc0
 have H : (some ((l0.length : Int) == 32)) = some r := h
 clear h
 obtain rfl := Option.some.inj H
 go_enter Try.func25, Try.ntmps25
 go_wp2
 go_ret
 exact ⟨by first | rfl | (simp; done) | (simp [*]; done), by repeat (first | exact Drawn0.refl _ | apply Drawn0.step)⟩

end Go.Proofs.Ytpfbajjpommjmaa.Top
