/- What is proved: the law RegionSplits answers true where the plain functions of the two Splits agree. Condition: they answer within k rounds. -/
import Derived.Test.YtajephbmbdnjpaaRegx1
import Derived.Test.YtajephbmbdnjpaaRegx14
import Derived.Test.YtajephbmbdnjpaaRegx19
namespace Go.Proofs.Ytajephbmbdnjpaa.Hand
open Go.RowKit Go.Proofs.YtajephbmbdnjpaaW.PrintWords Go.Proofs.YtajephbmbdnjpaaW.PrintLast Go.Proofs.YtajephbmbdnjpaaW.PrintMore Go.Proofs.Ytajephbmbdnjpaa.Reg
attribute [local go_sem high] eqA23
set_option linter.unusedVariables false
set_option linter.unusedSimpArgs false

set_option maxHeartbeats 2000000 in
set_option maxRecDepth 100000 in
theorem splits_calls (k : Nat) (a0_0 a0_1 a0_2 a0_3 a0_4 a0_5 a1 x1 x2 x3 x4 x5 x6 x7 x8 x9 x10 x11 x12 x13 : Int) (w : World) (h1 : region_Split.f k a0_0 a0_1 a0_2 a0_3 a0_4 a0_5 a1 = some (x1, x2, x3, x4, x5, x6, x7, x8, x9, x10, x11, x12, x13)) (h2 : estoversref22_Split.f k a0_0 a0_1 a0_2 a0_3 a0_4 a0_5 a1 = some (x1, x2, x3, x4, x5, x6, x7, x8, x9, x10, x11, x12, x13)) :
    Calls Try.prog 5 #[.agg #[.int .i64 a0_0, .int .i64 a0_1, .int .i64 a0_2, .int .i64 a0_3, .int .i64 a0_4, .int .i64 a0_5], .int .i64 a1] w fun e w' => e = .returned (.bool true) ∧ Below w.heap.size w w' := by
  have hu23 := Try.underlying23
  go_enter Try.func5, Try.ntmps5
  go_wp2_with (first | (go_at_call 18; (with_reducible refine (region_Split.calls k a0_0 a0_1 a0_2 a0_3 a0_4 a0_5 a1 x1 x2 x3 x4 x5 x6 x7 x8 x9 x10 x11 x12 x13 _ h1).mono ?_); rintro e w1 ⟨rfl, hb⟩; have F1 := Aside0.mk (blk_below (blk_new w _) hb); have L1 := Aside0.mk (below_step (below_alloc (Below.refl w.heap.size w) _) hb); clear hb; obtain ⟨r0, r1, r2, r3, r4, r5, s0, s1, s2, s3, s4, s5⟩ := box6 F1.out; have la := blk_lt F1.out) | (go_at_call 19; (with_reducible refine (estoversref22_Split.calls k a0_0 a0_1 a0_2 a0_3 a0_4 a0_5 a1 x1 x2 x3 x4 x5 x6 x7 x8 x9 x10 x11 x12 x13 _ h2).mono ?_); rintro e w2 ⟨rfl, hb⟩; have F2 := Aside0.mk (blk_below (blk_alloc (blk_alloc F1.out _) _) hb); have G2 := Aside0.mk (blk_below (two w1 _ _).1 hb); have M2 := Aside0.mk (blk_below (two w1 _ _).2 hb); have L2 := Aside0.mk (below_step (below_alloc (below_alloc L1.out _) _) hb); clear hb r0 r1 r2 r3 r4 r5 s0 s1 s2 s3 s4 s5 la; obtain ⟨p0, p1, p2, p3, p4, p5, q0, q1, q2, q3, q4, q5⟩ := box6 G2.out; obtain ⟨u0, u1, u2, u3, u4, u5, v0, v1, v2, v3, v4, v5⟩ := box6 M2.out; have lb := blk_lt G2.out; have lc := blk_lt M2.out) | (go_at_call 13; (with_reducible refine (Reg.estoverslaw22_awake.calls true _ rfl).mono ?_); rintro e w3 ⟨rfl, hb⟩; have L3 := Aside0.mk (below_step (below_alloc (below_alloc L2.out _) _) hb); clear hb))
  go_ret
  exact ⟨rfl, L3.out⟩
end Go.Proofs.Ytajephbmbdnjpaa.Hand
