/- What is proved: a call of region.Split returns the parts that its plain function names, and leaves all that was there as it was. Condition: the plain function of Check answers within k rounds. -/
import Derived.Test.YtajephbmbdnjpaaRegx0
import Derived.Test.YtajephbmbdnjpaaRegx3
import Derived.Test.YtajephbmbdnjpaaRegx8
import Derived.RegionTactic
import Derived.BigRegion
import Derived.Outline
import Derived.Lib.Hide
namespace Go.Proofs.Ytajephbmbdnjpaa.Hand
open Go.RowKit Go.Proofs.YtajephbmbdnjpaaW.PrintWords Go.Proofs.YtajephbmbdnjpaaW.PrintLast Go.Proofs.YtajephbmbdnjpaaW.PrintMore Go.Proofs.Ytajephbmbdnjpaa.Reg
set_option linter.unusedVariables false
set_option linter.unusedSimpArgs false

theorem end_f (k : Nat) (s p pr fl fi ix : Int) (h : region_Check.f k s p pr fl fi ix = some 0) : region_End.f k s p pr fl fi ix = some (wrap64 (s + p)) := by
  unfold region_End.f
  rw [h]
  rfl

abbrev rg (s p pr fl fi ix : Int) : Array Value := #[.int .i64 s, .int .i64 p, .int .i64 pr, .int .i64 fl, .int .i64 fi, .int .i64 ix]
abbrev z6 : Array Value := #[.int .i64 0, .int .i64 0, .int .i64 0, .int .i64 0, .int .i64 0, .int .i64 0]

/-- Three blocks laid one behind the other. -/
theorem three (w : World) (a b c : Obj) : (((w.alloc a).alloc b).alloc c).heap[w.heap.size]? = some a ∧ (((w.alloc a).alloc b).alloc c).heap[w.heap.size + 1]? = some b ∧ (((w.alloc a).alloc b).alloc c).heap[w.heap.size + 1 + 1]? = some c := by
  show (((w.heap.push a).push b).push c)[w.heap.size]? = _ ∧ (((w.heap.push a).push b).push c)[w.heap.size + 1]? = _ ∧ (((w.heap.push a).push b).push c)[w.heap.size + 1 + 1]? = _
  refine ⟨?_, ?_, ?_⟩ <;> simp only [Array.getElem?_push, Array.size_push] <;> simp <;> omega

set_option maxHeartbeats 1000000 in
set_option maxRecDepth 100000 in
theorem split_bad (k : Nat) (s p pr fl fi ix pg c : Int) (w : World) (h : region_Check.f k s p pr fl fi ix = some c) (hc : c ≠ 0) :
    Calls Try.prog 18 #[.agg (rg s p pr fl fi ix), .int .i64 pg] w fun e w' => e = .returned (.tuple #[.agg z6, .agg z6, .int .i64 c]) ∧ Below w.heap.size w w' := by
  have hu23 := Try.underlying23
  have hc0 : (c == 0) = false := beq_eq_false_iff_ne.2 hc
  have hc1 : (c != 0) = true := bne_iff_ne.2 hc
  obtain ⟨t1, t2, t3⟩ := three w (.cells (rg s p pr fl fi ix) 23) (.cells z6 23) (.cells z6 23)
  have T1 := Aside0.mk t1
  have T2 := Aside0.mk t2
  have T3 := Aside0.mk t3
  clear t1 t2 t3
  go_enter Try.func18, Try.ntmps18
  go_wp2_with (go_at_call 11; (with_reducible refine (region_Check.calls k s p pr fl fi ix c _ h).mono ?_); rintro e w1 ⟨rfl, hb⟩; have B1 := Aside0.mk (blk_below T1.out hb); have B2 := blk_below T2.out hb; have B3 := blk_below T3.out hb; obtain ⟨p0, p1, p2, p3, p4, p5, q0, q1, q2, q3, q4, q5⟩ := box6 B2; obtain ⟨u0, u1, u2, u3, u4, u5, v0, v1, v2, v3, v4, v5⟩ := box6 B3; have L1 := Aside0.mk (below_step (below_alloc (below_alloc (below_alloc (Below.refl w.heap.size w) _) _) _) hb); clear hb)
  have hsz := L1.out.size
  refine bodyPost_ret (v := .tuple #[.agg z6, .agg z6, .int .i64 c]) (by simp [results, Try.results18, go_sem, p0, p1, p2, p3, p4, p5, q0, q1, q2, q3, q4, q5, u0, u1, u2, u3, u4, u5, v0, v1, v2, v3, v4, v5]) rfl ⟨rfl, ?_⟩
  repeat' (with_reducible refine below_set ?_ ?_)
  all_goals first | (with_reducible exact L1.out) | omega

set_option maxHeartbeats 1000000 in
set_option maxRecDepth 100000 in
theorem split_range1 (k : Nat) (s p pr fl fi ix pg : Int) (w : World) (h : region_Check.f k s p pr fl fi ix = some 0) (hp : pg ≤ s) :
    Calls Try.prog 18 #[.agg (rg s p pr fl fi ix), .int .i64 pg] w fun e w' => e = .returned (.tuple #[.agg z6, .agg z6, .int .i64 2]) ∧ Below w.heap.size w w' := by
  have hu23 := Try.underlying23
  have hp1 : decide (pg ≤ s) = true := decide_eq_true hp
  obtain ⟨t1, t2, t3⟩ := three w (.cells (rg s p pr fl fi ix) 23) (.cells z6 23) (.cells z6 23)
  have T1 := Aside0.mk t1
  have T2 := Aside0.mk t2
  have T3 := Aside0.mk t3
  clear t1 t2 t3
  go_enter Try.func18, Try.ntmps18
  go_upto_region 5 with (go_at_call 11; (with_reducible refine (region_Check.calls k s p pr fl fi ix 0 _ h).mono ?_); rintro e w1 ⟨rfl, hb⟩; have B1 := Aside0.mk (blk_below T1.out hb); have B2 := Aside0.mk (blk_below T2.out hb); have B3 := Aside0.mk (blk_below T3.out hb); obtain ⟨r0, r1, r2, r3, r4, r5, s0, s1, s2, s3, s4, s5⟩ := box6 B1.out; have L1 := Aside0.mk (below_step (below_alloc (below_alloc (below_alloc (Below.refl w.heap.size w) _) _) _) hb); clear hb)
  obtain ⟨p0, p1, p2, p3, p4, p5, q0, q1, q2, q3, q4, q5⟩ := box6 B2.out
  obtain ⟨u0, u1, u2, u3, u4, u5, v0, v1, v2, v3, v4, v5⟩ := box6 B3.out
  go_wp2
  have hsz := L1.out.size
  refine bodyPost_ret (v := .tuple #[.agg z6, .agg z6, .int .i64 2]) (by simp [results, Try.results18, go_sem, p0, p1, p2, p3, p4, p5, q0, q1, q2, q3, q4, q5, u0, u1, u2, u3, u4, u5, v0, v1, v2, v3, v4, v5]) rfl ⟨rfl, ?_⟩
  repeat' (with_reducible refine below_set ?_ ?_)
  all_goals first | (with_reducible exact L1.out) | omega

set_option maxHeartbeats 1000000 in
set_option maxRecDepth 100000 in
theorem split_range2 (k : Nat) (s p pr fl fi ix pg : Int) (w : World) (h : region_Check.f k s p pr fl fi ix = some 0) (hp : ¬ pg ≤ s) (hq : wrap64 (s + p) ≤ pg) :
    Calls Try.prog 18 #[.agg (rg s p pr fl fi ix), .int .i64 pg] w fun e w' => e = .returned (.tuple #[.agg z6, .agg z6, .int .i64 2]) ∧ Below w.heap.size w w' := by
  have hu23 := Try.underlying23
  have hp1 : decide (pg ≤ s) = false := decide_eq_false hp
  have he := end_f k s p pr fl fi ix h
  generalize wrap64 (s + p) = en at *
  have hq1 : decide (en ≤ pg) = true := decide_eq_true hq
  obtain ⟨t1, t2, t3⟩ := three w (.cells (rg s p pr fl fi ix) 23) (.cells z6 23) (.cells z6 23)
  have T1 := Aside0.mk t1
  have T2 := Aside0.mk t2
  have T3 := Aside0.mk t3
  clear t1 t2 t3
  go_enter Try.func18, Try.ntmps18
  go_upto_region 5 with (first | (go_at_call 11; (with_reducible refine (region_Check.calls k s p pr fl fi ix 0 _ h).mono ?_); rintro e w1 ⟨rfl, hb⟩; have B1 := Aside0.mk (blk_below T1.out hb); have B2 := Aside0.mk (blk_below T2.out hb); have B3 := Aside0.mk (blk_below T3.out hb); obtain ⟨r0, r1, r2, r3, r4, r5, s0, s1, s2, s3, s4, s5⟩ := box6 B1.out; have L1 := Aside0.mk (below_step (below_alloc (below_alloc (below_alloc (Below.refl w.heap.size w) _) _) _) hb); clear hb) | (go_at_call 27; (with_reducible refine (region_End.calls k s p pr fl fi ix _ _ he).mono ?_); rintro e w2 ⟨rfl, hb⟩; have C1 := Aside0.mk (blk_below B1.out hb); have C2 := Aside0.mk (blk_below B2.out hb); have C3 := Aside0.mk (blk_below B3.out hb); have M1 := Aside0.mk (below_step L1.out hb); clear hb B1 B2 B3 L1 r0 r1 r2 r3 r4 r5 s0 s1 s2 s3 s4 s5))
  obtain ⟨p0, p1, p2, p3, p4, p5, q0, q1, q2, q3, q4, q5⟩ := box6 C2.out
  obtain ⟨u0, u1, u2, u3, u4, u5, v0, v1, v2, v3, v4, v5⟩ := box6 C3.out
  go_wp2
  have hsz := M1.out.size
  refine bodyPost_ret (v := .tuple #[.agg z6, .agg z6, .int .i64 2]) (by simp [results, Try.results18, go_sem, p0, p1, p2, p3, p4, p5, q0, q1, q2, q3, q4, q5, u0, u1, u2, u3, u4, u5, v0, v1, v2, v3, v4, v5]) rfl ⟨rfl, ?_⟩
  repeat' (with_reducible refine below_set ?_ ?_)
  all_goals first | (with_reducible exact M1.out) | omega

set_option maxHeartbeats 1000000 in
set_option maxRecDepth 100000 in
theorem split_anon (k : Nat) (s p pr fl fi ix pg : Int) (w : World) (h : region_Check.f k s p pr fl fi ix = some 0) (hp : ¬ pg ≤ s) (hq : ¬ wrap64 (s + p) ≤ pg) (hf : fi = -1) :
    Calls Try.prog 18 #[.agg (rg s p pr fl fi ix), .int .i64 pg] w fun e w' => e = .returned (.tuple #[.agg (rg s (wrap64 (pg - s)) pr fl fi ix), .agg (rg pg (wrap64 (p - wrap64 (pg - s))) pr (Go.bits .andNot .i64 fl 2) fi ix), .int .i64 0]) ∧ Below w.heap.size w w' := by
  have hu23 := Try.underlying23
  have hp1 : decide (pg ≤ s) = false := decide_eq_false hp
  have he := end_f k s p pr fl fi ix h
  generalize wrap64 (s + p) = en at *
  have hq1 : decide (en ≤ pg) = false := decide_eq_false hq
  have hf1 : (fi != -1) = false := bne_eq_false_iff_eq.2 hf
  have hf2 : (fi == -1) = true := beq_iff_eq.2 hf
  clear hf
  obtain ⟨t1, t2, t3⟩ := three w (.cells (rg s p pr fl fi ix) 23) (.cells z6 23) (.cells z6 23)
  have T1 := Aside0.mk t1
  have T2 := Aside0.mk t2
  have T3 := Aside0.mk t3
  clear t1 t2 t3
  go_enter Try.func18, Try.ntmps18
  go_upto_region 6 with (first | (go_at_call 11; (with_reducible refine (region_Check.calls k s p pr fl fi ix 0 _ h).mono ?_); rintro e w1 ⟨rfl, hb⟩; have B1 := Aside0.mk (blk_below T1.out hb); have B2 := Aside0.mk (blk_below T2.out hb); have B3 := Aside0.mk (blk_below T3.out hb); obtain ⟨r0, r1, r2, r3, r4, r5, s0, s1, s2, s3, s4, s5⟩ := box6 B1.out; have L1 := Aside0.mk (below_step (below_alloc (below_alloc (below_alloc (Below.refl w.heap.size w) _) _) _) hb); clear hb) | (go_at_call 27; (with_reducible refine (region_End.calls k s p pr fl fi ix _ _ he).mono ?_); rintro e w2 ⟨rfl, hb⟩; have C1 := Aside0.mk (blk_below B1.out hb); have C2 := Aside0.mk (blk_below B2.out hb); have C3 := Aside0.mk (blk_below B3.out hb); have M1 := Aside0.mk (below_step L1.out hb); clear hb B1 B2 B3 L1 r0 r1 r2 r3 r4 r5 s0 s1 s2 s3 s4 s5))
  obtain ⟨r0, r1, r2, r3, r4, r5, s0, s1, s2, s3, s4, s5⟩ := box6 C1.out
  obtain ⟨p0, p1, p2, p3, p4, p5, q0, q1, q2, q3, q4, q5⟩ := box6 C2.out
  obtain ⟨u0, u1, u2, u3, u4, u5, v0, v1, v2, v3, v4, v5⟩ := box6 C3.out
  have l1 := blk_lt C1.out
  have l2 := blk_lt C2.out
  have l3 := blk_lt C3.out
  go_wp2
  go_region
  all_goals go_wp2
  all_goals go_region
  all_goals go_wp2
  have hsz := M1.out.size
  all_goals
    refine bodyPost_ret (v := .tuple #[.agg (rg s (wrap64 (pg - s)) pr fl fi ix), .agg (rg pg (wrap64 (p - wrap64 (pg - s))) pr (Go.bits .andNot .i64 fl 2) fi ix), .int .i64 0]) (by simp [results, Try.results18, go_sem, p0, p1, p2, p3, p4, p5, q0, q1, q2, q3, q4, q5, u0, u1, u2, u3, u4, u5, v0, v1, v2, v3, v4, v5, l1, l2, l3]) rfl ⟨rfl, ?_⟩
    repeat' (with_reducible first | refine below_drew1 ?_ | refine below_alloc ?_ _ | refine below_set ?_ ?_)
    all_goals first | (with_reducible exact M1.out) | omega

set_option maxHeartbeats 1000000 in
set_option maxRecDepth 100000 in
theorem split_file (k : Nat) (s p pr fl fi ix pg : Int) (w : World) (h : region_Check.f k s p pr fl fi ix = some 0) (hp : ¬ pg ≤ s) (hq : ¬ wrap64 (s + p) ≤ pg) (hf : fi ≠ -1) :
    Calls Try.prog 18 #[.agg (rg s p pr fl fi ix), .int .i64 pg] w fun e w' => e = .returned (.tuple #[.agg (rg s (wrap64 (pg - s)) pr fl fi ix), .agg (rg pg (wrap64 (p - wrap64 (pg - s))) pr (Go.bits .andNot .i64 fl 2) fi (wrap64 (ix + wrap64 (pg - s)))), .int .i64 0]) ∧ Below w.heap.size w w' := by
  have hu23 := Try.underlying23
  have hp1 : decide (pg ≤ s) = false := decide_eq_false hp
  have he := end_f k s p pr fl fi ix h
  generalize wrap64 (s + p) = en at *
  have hq1 : decide (en ≤ pg) = false := decide_eq_false hq
  have hf1 : (fi != -1) = true := bne_iff_ne.2 hf
  have hf2 : (fi == -1) = false := beq_eq_false_iff_ne.2 hf
  clear hf
  obtain ⟨t1, t2, t3⟩ := three w (.cells (rg s p pr fl fi ix) 23) (.cells z6 23) (.cells z6 23)
  have T1 := Aside0.mk t1
  have T2 := Aside0.mk t2
  have T3 := Aside0.mk t3
  clear t1 t2 t3
  go_enter Try.func18, Try.ntmps18
  go_upto_region 6 with (first | (go_at_call 11; (with_reducible refine (region_Check.calls k s p pr fl fi ix 0 _ h).mono ?_); rintro e w1 ⟨rfl, hb⟩; have B1 := Aside0.mk (blk_below T1.out hb); have B2 := Aside0.mk (blk_below T2.out hb); have B3 := Aside0.mk (blk_below T3.out hb); obtain ⟨r0, r1, r2, r3, r4, r5, s0, s1, s2, s3, s4, s5⟩ := box6 B1.out; have L1 := Aside0.mk (below_step (below_alloc (below_alloc (below_alloc (Below.refl w.heap.size w) _) _) _) hb); clear hb) | (go_at_call 27; (with_reducible refine (region_End.calls k s p pr fl fi ix _ _ he).mono ?_); rintro e w2 ⟨rfl, hb⟩; have C1 := Aside0.mk (blk_below B1.out hb); have C2 := Aside0.mk (blk_below B2.out hb); have C3 := Aside0.mk (blk_below B3.out hb); have M1 := Aside0.mk (below_step L1.out hb); clear hb B1 B2 B3 L1 r0 r1 r2 r3 r4 r5 s0 s1 s2 s3 s4 s5))
  obtain ⟨r0, r1, r2, r3, r4, r5, s0, s1, s2, s3, s4, s5⟩ := box6 C1.out
  obtain ⟨p0, p1, p2, p3, p4, p5, q0, q1, q2, q3, q4, q5⟩ := box6 C2.out
  obtain ⟨u0, u1, u2, u3, u4, u5, v0, v1, v2, v3, v4, v5⟩ := box6 C3.out
  have l1 := blk_lt C1.out
  have l2 := blk_lt C2.out
  have l3 := blk_lt C3.out
  go_wp2
  go_region
  all_goals go_wp2
  all_goals go_region
  all_goals go_wp2
  have hsz := M1.out.size
  all_goals
    refine bodyPost_ret (v := .tuple #[.agg (rg s (wrap64 (pg - s)) pr fl fi ix), .agg (rg pg (wrap64 (p - wrap64 (pg - s))) pr (Go.bits .andNot .i64 fl 2) fi (wrap64 (ix + wrap64 (pg - s)))), .int .i64 0]) (by simp [results, Try.results18, go_sem, p0, p1, p2, p3, p4, p5, q0, q1, q2, q3, q4, q5, u0, u1, u2, u3, u4, u5, v0, v1, v2, v3, v4, v5, l1, l2, l3]) rfl ⟨rfl, ?_⟩
    repeat' (with_reducible first | refine below_drew1 ?_ | refine below_alloc ?_ _ | refine below_set ?_ ?_)
    all_goals first | (with_reducible exact M1.out) | omega

end Go.Proofs.Ytajephbmbdnjpaa.Hand
