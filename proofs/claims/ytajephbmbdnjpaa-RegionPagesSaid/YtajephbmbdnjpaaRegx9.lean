/- Turned out by a program of this session (wip/tools/prt.py). -/
import Derived.Test.YtajephbmbdnjpaaSplit
import Derived.Test.YtajephbmbdnjpaaRegx0
import Derived.Test.YtajephbmbdnjpaaRegx3
namespace Go.Proofs.Ytajephbmbdnjpaa.Reg
open Go.RowKit Go.Proofs.YtajephbmbdnjpaaW.PrintWords Go.Proofs.YtajephbmbdnjpaaW.PrintLast Go.Proofs.YtajephbmbdnjpaaW.PrintMore
attribute [local go_sem] max2_int min2_int max_two min_two max_three min_three max_four min_four   -- for this text's walks alone
set_option linter.unusedVariables false
set_option linter.unusedSimpArgs false

/-! ### region_Split: function 18 · estovers/region.Split -/
def region_Split.f (k : Nat) (a0_0 a0_1 a0_2 a0_3 a0_4 a0_5 a1 : Int) : Option (Int × Int × Int × Int × Int × Int × Int × Int × Int × Int × Int × Int × Int) :=
 (region_Check.f k a0_0 a0_1 a0_2 a0_3 a0_4 a0_5).bind fun c => if c = 0 then (if a1 ≤ a0_0 then some (0, 0, 0, 0, 0, 0, 0, 0, 0, 0, 0, 0, 2) else if wrap64 (a0_0 + a0_1) ≤ a1 then some (0, 0, 0, 0, 0, 0, 0, 0, 0, 0, 0, 0, 2) else
  if a0_4 = -1 then some (a0_0, (wrap64 (a1 - a0_0)), a0_2, a0_3, a0_4, a0_5, a1, wrap64 (a0_1 - (wrap64 (a1 - a0_0))), a0_2, Go.bits .andNot .i64 a0_3 2, a0_4, a0_5, 0) else some (a0_0, (wrap64 (a1 - a0_0)), a0_2, a0_3, a0_4, a0_5, a1, wrap64 (a0_1 - (wrap64 (a1 - a0_0))), a0_2, Go.bits .andNot .i64 a0_3 2, a0_4, wrap64 (a0_5 + (wrap64 (a1 - a0_0))), 0)) else some (0, 0, 0, 0, 0, 0, 0, 0, 0, 0, 0, 0, c)
theorem region_Split.mono : ∀ a0 a1 a2 a3 a4 a5 a6 k, LeO (region_Split.f k a0 a1 a2 a3 a4 a5 a6) (region_Split.f (k + 1) a0 a1 a2 a3 a4 a5 a6) := by
 intro a0 a1 a2 a3 a4 a5 a6 k
 unfold region_Split.f
 exact LeO.bind (region_Check.mono _ _ _ _ _ _ _) (fun _ => LeO.refl _)
theorem region_Split.calls (k : Nat) (a0_0 a0_1 a0_2 a0_3 a0_4 a0_5 a1 r1 r2 r3 r4 r5 r6 r7 r8 r9 r10 r11 r12 r13 : Int) (w : World) (h : region_Split.f k a0_0 a0_1 a0_2 a0_3 a0_4 a0_5 a1 = some (r1, r2, r3, r4, r5, r6, r7, r8, r9, r10, r11, r12, r13)) :
  Calls Try.prog 18 #[.agg #[.int .i64 a0_0, .int .i64 a0_1, .int .i64 a0_2, .int .i64 a0_3, .int .i64 a0_4, .int .i64 a0_5], .int .i64 a1] w fun e w' => e = .returned (.tuple #[.agg #[.int .i64 r1, .int .i64 r2, .int .i64 r3, .int .i64 r4, .int .i64 r5, .int .i64 r6], .agg #[.int .i64 r7, .int .i64 r8, .int .i64 r9, .int .i64 r10, .int .i64 r11, .int .i64 r12], .int .i64 r13]) ∧ Below w.heap.size w w' := by
 unfold region_Split.f at h
 obtain ⟨c, hc, h⟩ := Option.bind_eq_some_iff.1 h
 by_cases h0 : c = 0
 ·subst h0
  rw [if_pos rfl] at h
  by_cases h1 : a1 ≤ a0_0
  ·rw [if_pos h1] at h
   simp only [Option.some.injEq, Prod.mk.injEq] at h
   obtain ⟨rfl, rfl, rfl, rfl, rfl, rfl, rfl, rfl, rfl, rfl, rfl, rfl, rfl⟩ := h
   exact Hand.split_range1 k a0_0 a0_1 a0_2 a0_3 a0_4 a0_5 a1 w hc h1
  ·rw [if_neg h1] at h
   by_cases h2 : wrap64 (a0_0 + a0_1) ≤ a1
   ·rw [if_pos h2] at h
    simp only [Option.some.injEq, Prod.mk.injEq] at h
    obtain ⟨rfl, rfl, rfl, rfl, rfl, rfl, rfl, rfl, rfl, rfl, rfl, rfl, rfl⟩ := h
    exact Hand.split_range2 k a0_0 a0_1 a0_2 a0_3 a0_4 a0_5 a1 w hc h1 h2
   ·rw [if_neg h2] at h
    by_cases h3 : a0_4 = -1
    ·rw [if_pos h3] at h
     simp only [Option.some.injEq, Prod.mk.injEq] at h
     obtain ⟨rfl, rfl, rfl, rfl, rfl, rfl, rfl, rfl, rfl, rfl, rfl, rfl, rfl⟩ := h
     exact Hand.split_anon k a0_0 a0_1 a0_2 a0_3 a0_4 a0_5 a1 w hc h1 h2 h3
    ·rw [if_neg h3] at h
     simp only [Option.some.injEq, Prod.mk.injEq] at h
     obtain ⟨rfl, rfl, rfl, rfl, rfl, rfl, rfl, rfl, rfl, rfl, rfl, rfl, rfl⟩ := h
     exact Hand.split_file k a0_0 a0_1 a0_2 a0_3 a0_4 a0_5 a1 w hc h1 h2 h3
 ·rw [if_neg h0] at h
  simp only [Option.some.injEq, Prod.mk.injEq] at h
  obtain ⟨rfl, rfl, rfl, rfl, rfl, rfl, rfl, rfl, rfl, rfl, rfl, rfl, rfl⟩ := h
  exact Hand.split_bad k a0_0 a0_1 a0_2 a0_3 a0_4 a0_5 a1 c w hc h0

end Go.Proofs.Ytajephbmbdnjpaa.Reg
