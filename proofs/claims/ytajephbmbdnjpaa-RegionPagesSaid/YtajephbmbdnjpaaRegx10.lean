/- Turned out by a program of this session (wip/tools/prt.py). -/
import Derived.Test.YtajephbmbdnjpaaCut
import Derived.Test.YtajephbmbdnjpaaRegx0
import Derived.Test.YtajephbmbdnjpaaRegx3
import Derived.Test.YtajephbmbdnjpaaRegx9
namespace Go.Proofs.Ytajephbmbdnjpaa.Reg
open Go.RowKit Go.Proofs.YtajephbmbdnjpaaW.PrintWords Go.Proofs.YtajephbmbdnjpaaW.PrintLast Go.Proofs.YtajephbmbdnjpaaW.PrintMore
attribute [local go_sem] max2_int min2_int max_two min_two max_three min_three max_four min_four   -- for this text's walks alone
set_option linter.unusedVariables false
set_option linter.unusedSimpArgs false

/-! ### region_Cut: function 20 · estovers/region.Cut -/
def region_Cut.f (k : Nat) (a0_0 a0_1 a0_2 a0_3 a0_4 a0_5 a1 a2 : Int) : Option (List (S23) × Int) :=
 (region_Check.f k a0_0 a0_1 a0_2 a0_3 a0_4 a0_5).bind fun c => if c = 0 then (if a2 < 1 then some ([], 1) else if a1 < 0 then some ([], 2) else if 512 < a1 then some ([], 2) else if 512 - a1 < a2 then some ([], 2) else
  if wrap64 (a0_0 + a0_1) ≤ a1 then some ([⟨a0_0, a0_1, a0_2, a0_3, a0_4, a0_5⟩], 0) else if a1 + a2 ≤ a0_0 then some ([⟨a0_0, a0_1, a0_2, a0_3, a0_4, a0_5⟩], 0) else
  (region_Split.f k a0_0 a0_1 a0_2 a0_3 a0_4 a0_5 a1).bind fun x => (region_Split.f k a0_0 a0_1 a0_2 a0_3 a0_4 a0_5 (a1 + a2)).bind fun y =>
   if x.2.2.2.2.2.2.2.2.2.2.2.2 = 0 then (if y.2.2.2.2.2.2.2.2.2.2.2.2 = 0 then some ([⟨x.1, x.2.1, x.2.2.1, x.2.2.2.1, x.2.2.2.2.1, x.2.2.2.2.2.1⟩, ⟨y.2.2.2.2.2.2.1, y.2.2.2.2.2.2.2.1, y.2.2.2.2.2.2.2.2.1, y.2.2.2.2.2.2.2.2.2.1, y.2.2.2.2.2.2.2.2.2.2.1, y.2.2.2.2.2.2.2.2.2.2.2.1⟩], 0) else some ([⟨x.1, x.2.1, x.2.2.1, x.2.2.2.1, x.2.2.2.2.1, x.2.2.2.2.2.1⟩], 0))
   else (if y.2.2.2.2.2.2.2.2.2.2.2.2 = 0 then some ([⟨y.2.2.2.2.2.2.1, y.2.2.2.2.2.2.2.1, y.2.2.2.2.2.2.2.2.1, y.2.2.2.2.2.2.2.2.2.1, y.2.2.2.2.2.2.2.2.2.2.1, y.2.2.2.2.2.2.2.2.2.2.2.1⟩], 0) else some ([], 0))) else some ([], c)
theorem region_Cut.mono : ∀ a0 a1 a2 a3 a4 a5 a6 a7 k, LeO (region_Cut.f k a0 a1 a2 a3 a4 a5 a6 a7) (region_Cut.f (k + 1) a0 a1 a2 a3 a4 a5 a6 a7) := by
 intro a0 a1 a2 a3 a4 a5 a6 a7 k
 unfold region_Cut.f
 refine LeO.bind (region_Check.mono _ _ _ _ _ _ _) (fun _ => ?_)
 repeat' (first | exact LeO.refl _ | (with_reducible refine LeO.ite ?_ ?_) | (with_reducible refine LeO.bind (region_Split.mono _ _ _ _ _ _ _ _) (fun _ => ?_)))
theorem region_Cut.calls (k : Nat) (a0_0 a0_1 a0_2 a0_3 a0_4 a0_5 a1 a2 : Int) (r1 : List (S23)) (r2 : Int) (w : World) (h : region_Cut.f k a0_0 a0_1 a0_2 a0_3 a0_4 a0_5 a1 a2 = some (r1, r2)) :
  Calls Try.prog 20 #[.agg #[.int .i64 a0_0, .int .i64 a0_1, .int .i64 a0_2, .int .i64 a0_3, .int .i64 a0_4, .int .i64 a0_5], .int .i64 a1, .int .i64 a2] w fun e w' => ∃ v0_ : Value, e = .returned (.tuple #[v0_, .int .i64 r2]) ∧ Kd.R k23 23 w' w.heap.size (fun _ => True) v0_ r1 ∧ Below w.heap.size w w' := by
 unfold region_Cut.f at h
 obtain ⟨c, hc, h⟩ := Option.bind_eq_some_iff.1 h
 by_cases h0 : c = 0
 ·subst h0
  rw [if_pos rfl] at h
  by_cases h1 : a2 < 1
  ·rw [if_pos h1] at h
   cases h
   exact Hand.cut_arg k a0_0 a0_1 a0_2 a0_3 a0_4 a0_5 a1 a2 w hc h1
  rw [if_neg h1] at h
  by_cases h2 : a1 < 0
  ·rw [if_pos h2] at h
   cases h
   exact Hand.cut_range1 k a0_0 a0_1 a0_2 a0_3 a0_4 a0_5 a1 a2 w hc h1 h2
  rw [if_neg h2] at h
  by_cases h3 : 512 < a1
  ·rw [if_pos h3] at h
   cases h
   exact Hand.cut_range2 k a0_0 a0_1 a0_2 a0_3 a0_4 a0_5 a1 a2 w hc h1 h2 h3
  rw [if_neg h3] at h
  by_cases h4 : 512 - a1 < a2
  ·rw [if_pos h4] at h
   cases h
   exact Hand.cut_range3 k a0_0 a0_1 a0_2 a0_3 a0_4 a0_5 a1 a2 w hc h1 h2 h3 h4
  rw [if_neg h4] at h
  by_cases h5 : wrap64 (a0_0 + a0_1) ≤ a1
  ·rw [if_pos h5] at h
   cases h
   exact Hand.cut_none1 k a0_0 a0_1 a0_2 a0_3 a0_4 a0_5 a1 a2 w hc h1 h2 h3 h4 h5
  rw [if_neg h5] at h
  by_cases h6 : a1 + a2 ≤ a0_0
  ·rw [if_pos h6] at h
   cases h
   exact Hand.cut_none2 k a0_0 a0_1 a0_2 a0_3 a0_4 a0_5 a1 a2 w hc h1 h2 h3 h4 h5 h6
  rw [if_neg h6] at h
  obtain ⟨⟨x1, x2, x3, x4, x5, x6, x7, x8, x9, x10, x11, x12, x13⟩, hx, h⟩ := Option.bind_eq_some_iff.1 h
  obtain ⟨⟨y1, y2, y3, y4, y5, y6, y7, y8, y9, y10, y11, y12, y13⟩, hy, h⟩ := Option.bind_eq_some_iff.1 h
  dsimp only at h
  by_cases hx0 : x13 = 0
  ·rw [if_pos hx0] at h
   by_cases hy0 : y13 = 0
   ·rw [if_pos hy0] at h
    cases h
    exact Hand.cut_main11 k a0_0 a0_1 a0_2 a0_3 a0_4 a0_5 a1 a2 w hc h1 h2 h3 h4 h5 h6 _ _ _ _ _ _ _ _ _ _ _ _ _ _ _ _ _ _ _ _ _ _ _ _ _ _ hx hy hx0 hy0
   ·rw [if_neg hy0] at h
    cases h
    exact Hand.cut_main10 k a0_0 a0_1 a0_2 a0_3 a0_4 a0_5 a1 a2 w hc h1 h2 h3 h4 h5 h6 _ _ _ _ _ _ _ _ _ _ _ _ _ _ _ _ _ _ _ _ _ _ _ _ _ _ hx hy hx0 hy0
  ·rw [if_neg hx0] at h
   by_cases hy0 : y13 = 0
   ·rw [if_pos hy0] at h
    cases h
    exact Hand.cut_main01 k a0_0 a0_1 a0_2 a0_3 a0_4 a0_5 a1 a2 w hc h1 h2 h3 h4 h5 h6 _ _ _ _ _ _ _ _ _ _ _ _ _ _ _ _ _ _ _ _ _ _ _ _ _ _ hx hy hx0 hy0
   ·rw [if_neg hy0] at h
    cases h
    exact Hand.cut_main00 k a0_0 a0_1 a0_2 a0_3 a0_4 a0_5 a1 a2 w hc h1 h2 h3 h4 h5 h6 _ _ _ _ _ _ _ _ _ _ _ _ _ _ _ _ _ _ _ _ _ _ _ _ _ _ hx hy hx0 hy0
 ·rw [if_neg h0] at h
  cases h
  exact Hand.cut_bad k a0_0 a0_1 a0_2 a0_3 a0_4 a0_5 a1 a2 _ w hc h0

end Go.Proofs.Ytajephbmbdnjpaa.Reg
