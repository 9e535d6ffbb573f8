/- What is proved: a call of region.Cut returns the list that its plain function names, in memory of its own, and leaves all that was there as it was. Condition: the plain functions of Check and Split answer within k rounds. -/
import Derived.Test.YtajephbmbdnjpaaRegx0
import Derived.Test.YtajephbmbdnjpaaRegx9
import Derived.Outline
namespace Go.Proofs.Ytajephbmbdnjpaa.Hand
open Go.RowKit Go.Proofs.YtajephbmbdnjpaaW.PrintWords Go.Proofs.YtajephbmbdnjpaaW.PrintLast Go.Proofs.YtajephbmbdnjpaaW.PrintMore Go.Proofs.Ytajephbmbdnjpaa.Reg
set_option linter.unusedVariables false
set_option linter.unusedSimpArgs false

theorem info23 : (Try.prog.info? 23).map (fun i => (i.zero, i.size, i.bytes)) = some (some (.agg #[(.int .i64 0), (.int .i64 0), (.int .i64 0), (.int .i64 0), (.int .i64 0), (.int .i64 0)]), 6, 48) := by kernel_rfl

theorem two (w : World) (a b : Obj) : ((w.alloc a).alloc b).heap[w.heap.size]? = some a ∧ ((w.alloc a).alloc b).heap[w.heap.size + 1]? = some b := by
  show ((w.heap.push a).push b)[w.heap.size]? = _ ∧ ((w.heap.push a).push b)[w.heap.size + 1]? = _
  refine ⟨?_, ?_⟩ <;> simp only [Array.getElem?_push, Array.size_push] <;> simp

theorem one_R (W : World) (base : Nat) (hb : base ≤ W.heap.size) (x : S23) :
    Kd.R k23 23 (W.alloc (.cells #[.int .i64 x.f0, .int .i64 x.f1, .int .i64 x.f2, .int .i64 x.f3, .int .i64 x.f4, .int .i64 x.f5] 23)) base (fun _ => True) (.slice (some ⟨W.heap.size, 0, none⟩) 1 1) [x] := by
  refine ⟨fun _ _ => trivial, [.int .i64 x.f0, .int .i64 x.f1, .int .i64 x.f2, .int .i64 x.f3, .int .i64 x.f4, .int .i64 x.f5], World.ownsRow_lit (base := base) (e := 23) (size := 6) W _ 1 hb (by decide) rfl, rfl, fun j p hj => ?_⟩
  match j, hj with
  | 0, hj =>
    have e : x = p := by simpa using hj
    subst e
    exact k23_mkM _ _ _ x
  | j + 1, hj => simp at hj

set_option maxHeartbeats 1000000 in
set_option maxRecDepth 100000 in
theorem cut_bad (k : Nat) (s p pr fl fi ix pg ct : Int) (c : Int) (w : World) (h : region_Check.f k s p pr fl fi ix = some c) (hc : c ≠ 0) :
    Calls Try.prog 20 #[.agg #[.int .i64 s, .int .i64 p, .int .i64 pr, .int .i64 fl, .int .i64 fi, .int .i64 ix], .int .i64 pg, .int .i64 ct] w fun e w' => ∃ v0_ : Value, e = .returned (.tuple #[v0_, .int .i64 c]) ∧ Kd.R k23 23 w' w.heap.size (fun _ => True) v0_ [] ∧ Below w.heap.size w w' := by
  have hu23 := Try.underlying23
  have hc0 : (c == 0) = false := beq_eq_false_iff_ne.2 hc
  have hc1 : (c != 0) = true := bne_iff_ne.2 hc
  go_enter Try.func20, Try.ntmps20
  go_wp2_with (go_at_call 11; (with_reducible refine (region_Check.calls k s p pr fl fi ix c _ h).mono ?_); rintro e w1 ⟨rfl, hb⟩; have B1 := Aside0.mk (blk_below (blk_new w _) hb); obtain ⟨r0, r1, r2, r3, r4, r5, s0, s1, s2, s3, s4, s5⟩ := box6 B1.out; have L1 := Aside0.mk (below_step (below_alloc (Below.refl w.heap.size w) _) hb); clear hb)
  go_ret2
  exact ⟨_, rfl, Kd.R_nil _ _ _ _ _, L1.out⟩

set_option maxHeartbeats 1000000 in
set_option maxRecDepth 100000 in
theorem cut_arg (k : Nat) (s p pr fl fi ix pg ct : Int) (w : World) (h : region_Check.f k s p pr fl fi ix = some 0) (h1 : ct < 1) :
    Calls Try.prog 20 #[.agg #[.int .i64 s, .int .i64 p, .int .i64 pr, .int .i64 fl, .int .i64 fi, .int .i64 ix], .int .i64 pg, .int .i64 ct] w fun e w' => ∃ v0_ : Value, e = .returned (.tuple #[v0_, .int .i64 1]) ∧ Kd.R k23 23 w' w.heap.size (fun _ => True) v0_ [] ∧ Below w.heap.size w w' := by
  have hu23 := Try.underlying23
  have d1 : decide (ct < 1) = true := decide_eq_true h1
  go_enter Try.func20, Try.ntmps20
  go_wp2_with (go_at_call 11; (with_reducible refine (region_Check.calls k s p pr fl fi ix 0 _ h).mono ?_); rintro e w1 ⟨rfl, hb⟩; have B1 := Aside0.mk (blk_below (blk_new w _) hb); obtain ⟨r0, r1, r2, r3, r4, r5, s0, s1, s2, s3, s4, s5⟩ := box6 B1.out; have L1 := Aside0.mk (below_step (below_alloc (Below.refl w.heap.size w) _) hb); clear hb)
  go_ret2
  exact ⟨_, rfl, Kd.R_nil _ _ _ _ _, L1.out⟩

set_option maxHeartbeats 1000000 in
set_option maxRecDepth 100000 in
theorem cut_range1 (k : Nat) (s p pr fl fi ix pg ct : Int) (w : World) (h : region_Check.f k s p pr fl fi ix = some 0) (h1 : ¬ ct < 1) (h2 : pg < 0) :
    Calls Try.prog 20 #[.agg #[.int .i64 s, .int .i64 p, .int .i64 pr, .int .i64 fl, .int .i64 fi, .int .i64 ix], .int .i64 pg, .int .i64 ct] w fun e w' => ∃ v0_ : Value, e = .returned (.tuple #[v0_, .int .i64 2]) ∧ Kd.R k23 23 w' w.heap.size (fun _ => True) v0_ [] ∧ Below w.heap.size w w' := by
  have hu23 := Try.underlying23
  have d1 : decide (ct < 1) = false := decide_eq_false h1
  have d2 : decide (pg < 0) = true := decide_eq_true h2
  go_enter Try.func20, Try.ntmps20
  go_wp2_with (go_at_call 11; (with_reducible refine (region_Check.calls k s p pr fl fi ix 0 _ h).mono ?_); rintro e w1 ⟨rfl, hb⟩; have B1 := Aside0.mk (blk_below (blk_new w _) hb); obtain ⟨r0, r1, r2, r3, r4, r5, s0, s1, s2, s3, s4, s5⟩ := box6 B1.out; have L1 := Aside0.mk (below_step (below_alloc (Below.refl w.heap.size w) _) hb); clear hb)
  go_ret2
  exact ⟨_, rfl, Kd.R_nil _ _ _ _ _, L1.out⟩

set_option maxHeartbeats 1000000 in
set_option maxRecDepth 100000 in
theorem cut_range2 (k : Nat) (s p pr fl fi ix pg ct : Int) (w : World) (h : region_Check.f k s p pr fl fi ix = some 0) (h1 : ¬ ct < 1) (h2 : ¬ pg < 0) (h3 : 512 < pg) :
    Calls Try.prog 20 #[.agg #[.int .i64 s, .int .i64 p, .int .i64 pr, .int .i64 fl, .int .i64 fi, .int .i64 ix], .int .i64 pg, .int .i64 ct] w fun e w' => ∃ v0_ : Value, e = .returned (.tuple #[v0_, .int .i64 2]) ∧ Kd.R k23 23 w' w.heap.size (fun _ => True) v0_ [] ∧ Below w.heap.size w w' := by
  have hu23 := Try.underlying23
  have d1 : decide (ct < 1) = false := decide_eq_false h1
  have d2 : decide (pg < 0) = false := decide_eq_false h2
  have d3 : decide (512 < pg) = true := decide_eq_true h3
  go_enter Try.func20, Try.ntmps20
  go_wp2_with (go_at_call 11; (with_reducible refine (region_Check.calls k s p pr fl fi ix 0 _ h).mono ?_); rintro e w1 ⟨rfl, hb⟩; have B1 := Aside0.mk (blk_below (blk_new w _) hb); obtain ⟨r0, r1, r2, r3, r4, r5, s0, s1, s2, s3, s4, s5⟩ := box6 B1.out; have L1 := Aside0.mk (below_step (below_alloc (Below.refl w.heap.size w) _) hb); clear hb)
  go_ret2
  exact ⟨_, rfl, Kd.R_nil _ _ _ _ _, L1.out⟩

set_option maxHeartbeats 1000000 in
set_option maxRecDepth 100000 in
theorem cut_range3 (k : Nat) (s p pr fl fi ix pg ct : Int) (w : World) (h : region_Check.f k s p pr fl fi ix = some 0) (h1 : ¬ ct < 1) (h2 : ¬ pg < 0) (h3 : ¬ 512 < pg) (h4 : 512 - pg < ct) :
    Calls Try.prog 20 #[.agg #[.int .i64 s, .int .i64 p, .int .i64 pr, .int .i64 fl, .int .i64 fi, .int .i64 ix], .int .i64 pg, .int .i64 ct] w fun e w' => ∃ v0_ : Value, e = .returned (.tuple #[v0_, .int .i64 2]) ∧ Kd.R k23 23 w' w.heap.size (fun _ => True) v0_ [] ∧ Below w.heap.size w w' := by
  have hu23 := Try.underlying23
  have d1 : decide (ct < 1) = false := decide_eq_false h1
  have d2 : decide (pg < 0) = false := decide_eq_false h2
  have d3 : decide (512 < pg) = false := decide_eq_false h3
  have b0 : 0 ≤ pg := by omega
  have b1 : pg ≤ 512 := by omega
  have b2 : 1 ≤ ct := by omega
  have d4 : decide (512 - pg < ct) = true := decide_eq_true h4
  go_enter Try.func20, Try.ntmps20
  go_wp2_with (go_at_call 11; (with_reducible refine (region_Check.calls k s p pr fl fi ix 0 _ h).mono ?_); rintro e w1 ⟨rfl, hb⟩; have B1 := Aside0.mk (blk_below (blk_new w _) hb); obtain ⟨r0, r1, r2, r3, r4, r5, s0, s1, s2, s3, s4, s5⟩ := box6 B1.out; have L1 := Aside0.mk (below_step (below_alloc (Below.refl w.heap.size w) _) hb); clear hb)
  go_ret2
  exact ⟨_, rfl, Kd.R_nil _ _ _ _ _, L1.out⟩

set_option maxHeartbeats 1000000 in
set_option maxRecDepth 100000 in
theorem cut_none1 (k : Nat) (s p pr fl fi ix pg ct : Int) (w : World) (h : region_Check.f k s p pr fl fi ix = some 0) (h1 : ¬ ct < 1) (h2 : ¬ pg < 0) (h3 : ¬ 512 < pg) (h4 : ¬ 512 - pg < ct) (h5 : wrap64 (s + p) ≤ pg) :
    Calls Try.prog 20 #[.agg #[.int .i64 s, .int .i64 p, .int .i64 pr, .int .i64 fl, .int .i64 fi, .int .i64 ix], .int .i64 pg, .int .i64 ct] w fun e w' => ∃ v0_ : Value, e = .returned (.tuple #[v0_, .int .i64 0]) ∧ Kd.R k23 23 w' w.heap.size (fun _ => True) v0_ [⟨s, p, pr, fl, fi, ix⟩] ∧ Below w.heap.size w w' := by
  have hu23 := Try.underlying23
  have d1 : decide (ct < 1) = false := decide_eq_false h1
  have d2 : decide (pg < 0) = false := decide_eq_false h2
  have d3 : decide (512 < pg) = false := decide_eq_false h3
  have b0 : 0 ≤ pg := by omega
  have b1 : pg ≤ 512 := by omega
  have b2 : 1 ≤ ct := by omega
  have b3 : ct ≤ 512 := by omega
  have d4 : decide (512 - pg < ct) = false := decide_eq_false h4
  have he := end_f k s p pr fl fi ix h
  generalize wrap64 (s + p) = en at *
  have d5 : decide (en ≤ pg) = true := decide_eq_true h5
  go_enter Try.func20, Try.ntmps20
  go_wp2_with (first | (go_at_call 11; (with_reducible refine (region_Check.calls k s p pr fl fi ix 0 _ h).mono ?_); rintro e w1 ⟨rfl, hb⟩; have B1 := Aside0.mk (blk_below (blk_new w _) hb); obtain ⟨r0, r1, r2, r3, r4, r5, s0, s1, s2, s3, s4, s5⟩ := box6 B1.out; have L1 := Aside0.mk (below_step (below_alloc (Below.refl w.heap.size w) _) hb); clear hb) | (go_at_call 27; (with_reducible refine (region_End.calls k s p pr fl fi ix _ _ he).mono ?_); rintro e w2 ⟨rfl, hb⟩; have C1 := Aside0.mk (blk_below B1.out hb); have M1 := Aside0.mk (below_step L1.out hb); clear hb B1 L1 r0 r1 r2 r3 r4 r5 s0 s1 s2 s3 s4 s5; obtain ⟨r0, r1, r2, r3, r4, r5, s0, s1, s2, s3, s4, s5⟩ := box6 C1.out))
  go_ret2
  exact ⟨_, rfl, one_R w2 w.heap.size M1.out.size ⟨s, p, pr, fl, fi, ix⟩, below_alloc M1.out _⟩

set_option maxHeartbeats 1000000 in
set_option maxRecDepth 100000 in
theorem cut_none2 (k : Nat) (s p pr fl fi ix pg ct : Int) (w : World) (h : region_Check.f k s p pr fl fi ix = some 0) (h1 : ¬ ct < 1) (h2 : ¬ pg < 0) (h3 : ¬ 512 < pg) (h4 : ¬ 512 - pg < ct) (h5 : ¬ wrap64 (s + p) ≤ pg) (h6 : pg + ct ≤ s) :
    Calls Try.prog 20 #[.agg #[.int .i64 s, .int .i64 p, .int .i64 pr, .int .i64 fl, .int .i64 fi, .int .i64 ix], .int .i64 pg, .int .i64 ct] w fun e w' => ∃ v0_ : Value, e = .returned (.tuple #[v0_, .int .i64 0]) ∧ Kd.R k23 23 w' w.heap.size (fun _ => True) v0_ [⟨s, p, pr, fl, fi, ix⟩] ∧ Below w.heap.size w w' := by
  have hu23 := Try.underlying23
  have d1 : decide (ct < 1) = false := decide_eq_false h1
  have d2 : decide (pg < 0) = false := decide_eq_false h2
  have d3 : decide (512 < pg) = false := decide_eq_false h3
  have b0 : 0 ≤ pg := by omega
  have b1 : pg ≤ 512 := by omega
  have b2 : 1 ≤ ct := by omega
  have b3 : ct ≤ 512 := by omega
  have d4 : decide (512 - pg < ct) = false := decide_eq_false h4
  have he := end_f k s p pr fl fi ix h
  generalize wrap64 (s + p) = en at *
  have d5 : decide (en ≤ pg) = false := decide_eq_false h5
  have d6 : decide (pg + ct ≤ s) = true := decide_eq_true h6
  go_enter Try.func20, Try.ntmps20
  go_wp2_with (first | (go_at_call 11; (with_reducible refine (region_Check.calls k s p pr fl fi ix 0 _ h).mono ?_); rintro e w1 ⟨rfl, hb⟩; have B1 := Aside0.mk (blk_below (blk_new w _) hb); obtain ⟨r0, r1, r2, r3, r4, r5, s0, s1, s2, s3, s4, s5⟩ := box6 B1.out; have L1 := Aside0.mk (below_step (below_alloc (Below.refl w.heap.size w) _) hb); clear hb) | (go_at_call 27; (with_reducible refine (region_End.calls k s p pr fl fi ix _ _ he).mono ?_); rintro e w2 ⟨rfl, hb⟩; have C1 := Aside0.mk (blk_below B1.out hb); have M1 := Aside0.mk (below_step L1.out hb); clear hb B1 L1 r0 r1 r2 r3 r4 r5 s0 s1 s2 s3 s4 s5; obtain ⟨r0, r1, r2, r3, r4, r5, s0, s1, s2, s3, s4, s5⟩ := box6 C1.out))
  go_ret2
  exact ⟨_, rfl, one_R w2 w.heap.size M1.out.size ⟨s, p, pr, fl, fi, ix⟩, below_alloc M1.out _⟩

set_option maxHeartbeats 1000000 in
set_option maxRecDepth 100000 in
theorem cut_main11 (k : Nat) (s p pr fl fi ix pg ct : Int) (w : World) (h : region_Check.f k s p pr fl fi ix = some 0) (h1 : ¬ ct < 1) (h2 : ¬ pg < 0) (h3 : ¬ 512 < pg) (h4 : ¬ 512 - pg < ct) (h5 : ¬ wrap64 (s + p) ≤ pg) (h6 : ¬ pg + ct ≤ s) (x1 x2 x3 x4 x5 x6 x7 x8 x9 x10 x11 x12 x13 y1 y2 y3 y4 y5 y6 y7 y8 y9 y10 y11 y12 y13 : Int) (hx : region_Split.f k s p pr fl fi ix pg = some (x1, x2, x3, x4, x5, x6, x7, x8, x9, x10, x11, x12, x13)) (hy : region_Split.f k s p pr fl fi ix (pg + ct) = some (y1, y2, y3, y4, y5, y6, y7, y8, y9, y10, y11, y12, y13)) (hx0 : x13 = 0) (hy0 : y13 = 0) :
    Calls Try.prog 20 #[.agg #[.int .i64 s, .int .i64 p, .int .i64 pr, .int .i64 fl, .int .i64 fi, .int .i64 ix], .int .i64 pg, .int .i64 ct] w fun e w' => ∃ v0_ : Value, e = .returned (.tuple #[v0_, .int .i64 0]) ∧ Kd.R k23 23 w' w.heap.size (fun _ => True) v0_ [⟨x1, x2, x3, x4, x5, x6⟩, ⟨y7, y8, y9, y10, y11, y12⟩] ∧ Below w.heap.size w w' := by
  have hu23 := Try.underlying23
  have d1 : decide (ct < 1) = false := decide_eq_false h1
  have d2 : decide (pg < 0) = false := decide_eq_false h2
  have d3 : decide (512 < pg) = false := decide_eq_false h3
  have b0 : 0 ≤ pg := by omega
  have b1 : pg ≤ 512 := by omega
  have b2 : 1 ≤ ct := by omega
  have b3 : ct ≤ 512 := by omega
  have d4 : decide (512 - pg < ct) = false := decide_eq_false h4
  have he := end_f k s p pr fl fi ix h
  generalize wrap64 (s + p) = en at *
  have d5 : decide (en ≤ pg) = false := decide_eq_false h5
  have d6 : decide (pg + ct ≤ s) = false := decide_eq_false h6
  subst hx0
  subst hy0
  go_enter Try.func20, Try.ntmps20
  go_wp2_with (first | (go_at_call 11; (with_reducible refine (region_Check.calls k s p pr fl fi ix 0 _ h).mono ?_); rintro e w1 ⟨rfl, hb⟩; have B1 := Aside0.mk (blk_below (blk_new w _) hb); obtain ⟨r0, r1, r2, r3, r4, r5, s0, s1, s2, s3, s4, s5⟩ := box6 B1.out; have L1 := Aside0.mk (below_step (below_alloc (Below.refl w.heap.size w) _) hb); clear hb) | (go_at_call 27; (with_reducible refine (region_End.calls k s p pr fl fi ix _ _ he).mono ?_); rintro e w2 ⟨rfl, hb⟩; have C1 := Aside0.mk (blk_below B1.out hb); have M1 := Aside0.mk (below_step L1.out hb); clear hb B1 L1 r0 r1 r2 r3 r4 r5 s0 s1 s2 s3 s4 s5; obtain ⟨r0, r1, r2, r3, r4, r5, s0, s1, s2, s3, s4, s5⟩ := box6 C1.out) | (go_at_call 18; (with_reducible refine (region_Split.calls k s p pr fl fi ix pg x1 x2 x3 x4 x5 x6 x7 x8 x9 x10 x11 x12 0 _ hx).mono ?_); rintro e w3 ⟨rfl, hb⟩; have D1 := Aside0.mk (blk_below C1.out hb); have N1 := Aside0.mk (below_step M1.out hb); clear hb C1 M1 r0 r1 r2 r3 r4 r5 s0 s1 s2 s3 s4 s5; obtain ⟨r0, r1, r2, r3, r4, r5, s0, s1, s2, s3, s4, s5⟩ := box6 D1.out; have ld := blk_lt D1.out) | (at_builtin; refine Kd.R_append k23 (w0 := w) w.heap.size rfl (.tmp 58) (.tmp 60) 33 23 (.agg #[(.int .i64 0), (.int .i64 0), (.int .i64 0), (.int .i64 0), (.int .i64 0), (.int .i64 0)]) 48 rfl Try.underlying33 info23 rfl (by decide) (by omega) (.slice none 0 0) ([] : List S23) (⟨x1, x2, x3, x4, x5, x6⟩ : S23) [.int .i64 x1, .int .i64 x2, .int .i64 x3, .int .i64 x4, .int .i64 x5, .int .i64 x6] (fun _ => True) (fun _ => False) rfl ?aX ?aP (fun _ hk => hk.elim) (fun _ _ => trivial) ?aO ?aB ?aS ?aL ?_; (case aX => first | rfl | (go_simp; done) | (go_simp; rfl)); (case aP => exact k23_mkM _ _ _ (⟨x1, x2, x3, x4, x5, x6⟩ : S23)); (case aO => exact Kd.R_nil _ _ _ _ _); (case aB => exact (below_alloc (below_alloc N1.out (.cells #[.int .i64 x1, .int .i64 x2, .int .i64 x3, .int .i64 x4, .int .i64 x5, .int .i64 x6] 23)) (.cells #[.int .i64 x7, .int .i64 x8, .int .i64 x9, .int .i64 x10, .int .i64 x11, .int .i64 x12] 23))); (case aS => exact Below.size (below_alloc (below_alloc N1.out (.cells #[.int .i64 x1, .int .i64 x2, .int .i64 x3, .int .i64 x4, .int .i64 x5, .int .i64 x6] 23)) (.cells #[.int .i64 x7, .int .i64 x8, .int .i64 x9, .int .i64 x10, .int .i64 x11, .int .i64 x12] 23))); (case aL => simp); intro v1 w4 hR1 hb4 hg4 _; have E1 := Aside0.mk (blk_grown (blk_alloc (blk_alloc D1.out _) _) hg4 (by simp [Value.ownBlock])); have R1 := Aside0.mk hR1; have P1 := Aside0.mk hb4; clear hR1 hb4 hg4 r0 r1 r2 r3 r4 r5 s0 s1 s2 s3 s4 s5 ld; obtain ⟨r0, r1, r2, r3, r4, r5, s0, s1, s2, s3, s4, s5⟩ := box6 E1.out))
  refine (region_Split.calls k s p pr fl fi ix (pg + ct) y1 y2 y3 y4 y5 y6 y7 y8 y9 y10 y11 y12 0 _ hy).mono ?_
  rintro e w5 ⟨rfl, hb⟩
  have R2 := Aside0.mk (Kd.R_below R1.out hb)
  have Q1 := Aside0.mk (below_step P1.out hb)
  clear hb
  go_wp2_with (at_builtin; refine Kd.R_append k23 (w0 := w) w.heap.size rfl (.tmp 73) (.tmp 75) 33 23 (.agg #[(.int .i64 0), (.int .i64 0), (.int .i64 0), (.int .i64 0), (.int .i64 0), (.int .i64 0)]) 48 rfl Try.underlying33 info23 rfl (by decide) (by omega) v1 ([⟨x1, x2, x3, x4, x5, x6⟩] : List S23) (⟨y7, y8, y9, y10, y11, y12⟩ : S23) [.int .i64 y7, .int .i64 y8, .int .i64 y9, .int .i64 y10, .int .i64 y11, .int .i64 y12] (fun _ => True) (fun _ => False) rfl ?aX ?aP (fun _ hk => hk.elim) (fun _ _ => trivial) ?aO ?aB ?aS ?aL ?_; (case aX => first | rfl | (go_simp; done) | (go_simp; rfl)); (case aP => exact k23_mkM _ _ _ (⟨y7, y8, y9, y10, y11, y12⟩ : S23)); (case aO => exact Kd.R_alloc (Kd.R_alloc R2.out _) _); (case aB => exact (below_alloc (below_alloc Q1.out (.cells #[.int .i64 y1, .int .i64 y2, .int .i64 y3, .int .i64 y4, .int .i64 y5, .int .i64 y6] 23)) (.cells #[.int .i64 y7, .int .i64 y8, .int .i64 y9, .int .i64 y10, .int .i64 y11, .int .i64 y12] 23))); (case aS => exact Below.size (below_alloc (below_alloc Q1.out (.cells #[.int .i64 y1, .int .i64 y2, .int .i64 y3, .int .i64 y4, .int .i64 y5, .int .i64 y6] 23)) (.cells #[.int .i64 y7, .int .i64 y8, .int .i64 y9, .int .i64 y10, .int .i64 y11, .int .i64 y12] 23))); (case aL => simp); intro v2 w6 hR6 hb6 hg6 _; have R6 := Aside0.mk hR6; have P6 := Aside0.mk hb6; clear hR6 hb6 hg6)
  go_ret2
  exact ⟨_, rfl, R6.out, P6.out⟩

set_option maxHeartbeats 1000000 in
set_option maxRecDepth 100000 in
theorem cut_main10 (k : Nat) (s p pr fl fi ix pg ct : Int) (w : World) (h : region_Check.f k s p pr fl fi ix = some 0) (h1 : ¬ ct < 1) (h2 : ¬ pg < 0) (h3 : ¬ 512 < pg) (h4 : ¬ 512 - pg < ct) (h5 : ¬ wrap64 (s + p) ≤ pg) (h6 : ¬ pg + ct ≤ s) (x1 x2 x3 x4 x5 x6 x7 x8 x9 x10 x11 x12 x13 y1 y2 y3 y4 y5 y6 y7 y8 y9 y10 y11 y12 y13 : Int) (hx : region_Split.f k s p pr fl fi ix pg = some (x1, x2, x3, x4, x5, x6, x7, x8, x9, x10, x11, x12, x13)) (hy : region_Split.f k s p pr fl fi ix (pg + ct) = some (y1, y2, y3, y4, y5, y6, y7, y8, y9, y10, y11, y12, y13)) (hx0 : x13 = 0) (hy0 : y13 ≠ 0) :
    Calls Try.prog 20 #[.agg #[.int .i64 s, .int .i64 p, .int .i64 pr, .int .i64 fl, .int .i64 fi, .int .i64 ix], .int .i64 pg, .int .i64 ct] w fun e w' => ∃ v0_ : Value, e = .returned (.tuple #[v0_, .int .i64 0]) ∧ Kd.R k23 23 w' w.heap.size (fun _ => True) v0_ [⟨x1, x2, x3, x4, x5, x6⟩] ∧ Below w.heap.size w w' := by
  have hu23 := Try.underlying23
  have d1 : decide (ct < 1) = false := decide_eq_false h1
  have d2 : decide (pg < 0) = false := decide_eq_false h2
  have d3 : decide (512 < pg) = false := decide_eq_false h3
  have b0 : 0 ≤ pg := by omega
  have b1 : pg ≤ 512 := by omega
  have b2 : 1 ≤ ct := by omega
  have b3 : ct ≤ 512 := by omega
  have d4 : decide (512 - pg < ct) = false := decide_eq_false h4
  have he := end_f k s p pr fl fi ix h
  generalize wrap64 (s + p) = en at *
  have d5 : decide (en ≤ pg) = false := decide_eq_false h5
  have d6 : decide (pg + ct ≤ s) = false := decide_eq_false h6
  subst hx0
  have ey : (y13 == 0) = false := beq_eq_false_iff_ne.2 hy0
  go_enter Try.func20, Try.ntmps20
  go_wp2_with (first | (go_at_call 11; (with_reducible refine (region_Check.calls k s p pr fl fi ix 0 _ h).mono ?_); rintro e w1 ⟨rfl, hb⟩; have B1 := Aside0.mk (blk_below (blk_new w _) hb); obtain ⟨r0, r1, r2, r3, r4, r5, s0, s1, s2, s3, s4, s5⟩ := box6 B1.out; have L1 := Aside0.mk (below_step (below_alloc (Below.refl w.heap.size w) _) hb); clear hb) | (go_at_call 27; (with_reducible refine (region_End.calls k s p pr fl fi ix _ _ he).mono ?_); rintro e w2 ⟨rfl, hb⟩; have C1 := Aside0.mk (blk_below B1.out hb); have M1 := Aside0.mk (below_step L1.out hb); clear hb B1 L1 r0 r1 r2 r3 r4 r5 s0 s1 s2 s3 s4 s5; obtain ⟨r0, r1, r2, r3, r4, r5, s0, s1, s2, s3, s4, s5⟩ := box6 C1.out) | (go_at_call 18; (with_reducible refine (region_Split.calls k s p pr fl fi ix pg x1 x2 x3 x4 x5 x6 x7 x8 x9 x10 x11 x12 0 _ hx).mono ?_); rintro e w3 ⟨rfl, hb⟩; have D1 := Aside0.mk (blk_below C1.out hb); have N1 := Aside0.mk (below_step M1.out hb); clear hb C1 M1 r0 r1 r2 r3 r4 r5 s0 s1 s2 s3 s4 s5; obtain ⟨r0, r1, r2, r3, r4, r5, s0, s1, s2, s3, s4, s5⟩ := box6 D1.out; have ld := blk_lt D1.out) | (at_builtin; refine Kd.R_append k23 (w0 := w) w.heap.size rfl (.tmp 58) (.tmp 60) 33 23 (.agg #[(.int .i64 0), (.int .i64 0), (.int .i64 0), (.int .i64 0), (.int .i64 0), (.int .i64 0)]) 48 rfl Try.underlying33 info23 rfl (by decide) (by omega) (.slice none 0 0) ([] : List S23) (⟨x1, x2, x3, x4, x5, x6⟩ : S23) [.int .i64 x1, .int .i64 x2, .int .i64 x3, .int .i64 x4, .int .i64 x5, .int .i64 x6] (fun _ => True) (fun _ => False) rfl ?aX ?aP (fun _ hk => hk.elim) (fun _ _ => trivial) ?aO ?aB ?aS ?aL ?_; (case aX => first | rfl | (go_simp; done) | (go_simp; rfl)); (case aP => exact k23_mkM _ _ _ (⟨x1, x2, x3, x4, x5, x6⟩ : S23)); (case aO => exact Kd.R_nil _ _ _ _ _); (case aB => exact (below_alloc (below_alloc N1.out (.cells #[.int .i64 x1, .int .i64 x2, .int .i64 x3, .int .i64 x4, .int .i64 x5, .int .i64 x6] 23)) (.cells #[.int .i64 x7, .int .i64 x8, .int .i64 x9, .int .i64 x10, .int .i64 x11, .int .i64 x12] 23))); (case aS => exact Below.size (below_alloc (below_alloc N1.out (.cells #[.int .i64 x1, .int .i64 x2, .int .i64 x3, .int .i64 x4, .int .i64 x5, .int .i64 x6] 23)) (.cells #[.int .i64 x7, .int .i64 x8, .int .i64 x9, .int .i64 x10, .int .i64 x11, .int .i64 x12] 23))); (case aL => simp); intro v1 w4 hR1 hb4 hg4 _; have E1 := Aside0.mk (blk_grown (blk_alloc (blk_alloc D1.out _) _) hg4 (by simp [Value.ownBlock])); have R1 := Aside0.mk hR1; have P1 := Aside0.mk hb4; clear hR1 hb4 hg4 r0 r1 r2 r3 r4 r5 s0 s1 s2 s3 s4 s5 ld; obtain ⟨r0, r1, r2, r3, r4, r5, s0, s1, s2, s3, s4, s5⟩ := box6 E1.out))
  refine (region_Split.calls k s p pr fl fi ix (pg + ct) y1 y2 y3 y4 y5 y6 y7 y8 y9 y10 y11 y12 y13 _ hy).mono ?_
  rintro e w5 ⟨rfl, hb⟩
  have R2 := Aside0.mk (Kd.R_below R1.out hb)
  have Q1 := Aside0.mk (below_step P1.out hb)
  clear hb
  go_wp2
  go_ret2
  exact ⟨_, rfl, Kd.R_alloc (Kd.R_alloc R2.out _) _, below_alloc (below_alloc Q1.out _) _⟩

set_option maxHeartbeats 1000000 in
set_option maxRecDepth 100000 in
theorem cut_main01 (k : Nat) (s p pr fl fi ix pg ct : Int) (w : World) (h : region_Check.f k s p pr fl fi ix = some 0) (h1 : ¬ ct < 1) (h2 : ¬ pg < 0) (h3 : ¬ 512 < pg) (h4 : ¬ 512 - pg < ct) (h5 : ¬ wrap64 (s + p) ≤ pg) (h6 : ¬ pg + ct ≤ s) (x1 x2 x3 x4 x5 x6 x7 x8 x9 x10 x11 x12 x13 y1 y2 y3 y4 y5 y6 y7 y8 y9 y10 y11 y12 y13 : Int) (hx : region_Split.f k s p pr fl fi ix pg = some (x1, x2, x3, x4, x5, x6, x7, x8, x9, x10, x11, x12, x13)) (hy : region_Split.f k s p pr fl fi ix (pg + ct) = some (y1, y2, y3, y4, y5, y6, y7, y8, y9, y10, y11, y12, y13)) (hx0 : x13 ≠ 0) (hy0 : y13 = 0) :
    Calls Try.prog 20 #[.agg #[.int .i64 s, .int .i64 p, .int .i64 pr, .int .i64 fl, .int .i64 fi, .int .i64 ix], .int .i64 pg, .int .i64 ct] w fun e w' => ∃ v0_ : Value, e = .returned (.tuple #[v0_, .int .i64 0]) ∧ Kd.R k23 23 w' w.heap.size (fun _ => True) v0_ [⟨y7, y8, y9, y10, y11, y12⟩] ∧ Below w.heap.size w w' := by
  have hu23 := Try.underlying23
  have d1 : decide (ct < 1) = false := decide_eq_false h1
  have d2 : decide (pg < 0) = false := decide_eq_false h2
  have d3 : decide (512 < pg) = false := decide_eq_false h3
  have b0 : 0 ≤ pg := by omega
  have b1 : pg ≤ 512 := by omega
  have b2 : 1 ≤ ct := by omega
  have b3 : ct ≤ 512 := by omega
  have d4 : decide (512 - pg < ct) = false := decide_eq_false h4
  have he := end_f k s p pr fl fi ix h
  generalize wrap64 (s + p) = en at *
  have d5 : decide (en ≤ pg) = false := decide_eq_false h5
  have d6 : decide (pg + ct ≤ s) = false := decide_eq_false h6
  have ex : (x13 == 0) = false := beq_eq_false_iff_ne.2 hx0
  subst hy0
  go_enter Try.func20, Try.ntmps20
  go_wp2_with (first | (go_at_call 11; (with_reducible refine (region_Check.calls k s p pr fl fi ix 0 _ h).mono ?_); rintro e w1 ⟨rfl, hb⟩; have B1 := Aside0.mk (blk_below (blk_new w _) hb); obtain ⟨r0, r1, r2, r3, r4, r5, s0, s1, s2, s3, s4, s5⟩ := box6 B1.out; have L1 := Aside0.mk (below_step (below_alloc (Below.refl w.heap.size w) _) hb); clear hb) | (go_at_call 27; (with_reducible refine (region_End.calls k s p pr fl fi ix _ _ he).mono ?_); rintro e w2 ⟨rfl, hb⟩; have C1 := Aside0.mk (blk_below B1.out hb); have M1 := Aside0.mk (below_step L1.out hb); clear hb B1 L1 r0 r1 r2 r3 r4 r5 s0 s1 s2 s3 s4 s5; obtain ⟨r0, r1, r2, r3, r4, r5, s0, s1, s2, s3, s4, s5⟩ := box6 C1.out) | (go_at_call 18; (with_reducible refine (region_Split.calls k s p pr fl fi ix pg x1 x2 x3 x4 x5 x6 x7 x8 x9 x10 x11 x12 x13 _ hx).mono ?_); rintro e w3 ⟨rfl, hb⟩; have D1 := Aside0.mk (blk_below C1.out hb); have N1 := Aside0.mk (below_step M1.out hb); clear hb C1 M1 r0 r1 r2 r3 r4 r5 s0 s1 s2 s3 s4 s5; obtain ⟨r0, r1, r2, r3, r4, r5, s0, s1, s2, s3, s4, s5⟩ := box6 D1.out; have ld := blk_lt D1.out))
  refine (region_Split.calls k s p pr fl fi ix (pg + ct) y1 y2 y3 y4 y5 y6 y7 y8 y9 y10 y11 y12 0 _ hy).mono ?_
  rintro e w5 ⟨rfl, hb⟩
  have Q1 := Aside0.mk (below_step (below_alloc (below_alloc N1.out _) _) hb)
  clear hb
  go_wp2_with (at_builtin; refine Kd.R_append k23 (w0 := w) w.heap.size rfl (.tmp 73) (.tmp 75) 33 23 (.agg #[(.int .i64 0), (.int .i64 0), (.int .i64 0), (.int .i64 0), (.int .i64 0), (.int .i64 0)]) 48 rfl Try.underlying33 info23 rfl (by decide) (by omega) (.slice none 0 0) ([] : List S23) (⟨y7, y8, y9, y10, y11, y12⟩ : S23) [.int .i64 y7, .int .i64 y8, .int .i64 y9, .int .i64 y10, .int .i64 y11, .int .i64 y12] (fun _ => True) (fun _ => False) rfl ?aX ?aP (fun _ hk => hk.elim) (fun _ _ => trivial) ?aO ?aB ?aS ?aL ?_; (case aX => first | rfl | (go_simp; done) | (go_simp; rfl)); (case aP => exact k23_mkM _ _ _ (⟨y7, y8, y9, y10, y11, y12⟩ : S23)); (case aO => exact Kd.R_nil _ _ _ _ _); (case aB => exact (below_alloc (below_alloc Q1.out (.cells #[.int .i64 y1, .int .i64 y2, .int .i64 y3, .int .i64 y4, .int .i64 y5, .int .i64 y6] 23)) (.cells #[.int .i64 y7, .int .i64 y8, .int .i64 y9, .int .i64 y10, .int .i64 y11, .int .i64 y12] 23))); (case aS => exact Below.size (below_alloc (below_alloc Q1.out (.cells #[.int .i64 y1, .int .i64 y2, .int .i64 y3, .int .i64 y4, .int .i64 y5, .int .i64 y6] 23)) (.cells #[.int .i64 y7, .int .i64 y8, .int .i64 y9, .int .i64 y10, .int .i64 y11, .int .i64 y12] 23))); (case aL => simp); intro v2 w6 hR6 hb6 hg6 _; have R6 := Aside0.mk hR6; have P6 := Aside0.mk hb6; clear hR6 hb6 hg6)
  go_ret2
  exact ⟨_, rfl, R6.out, P6.out⟩

set_option maxHeartbeats 1000000 in
set_option maxRecDepth 100000 in
theorem cut_main00 (k : Nat) (s p pr fl fi ix pg ct : Int) (w : World) (h : region_Check.f k s p pr fl fi ix = some 0) (h1 : ¬ ct < 1) (h2 : ¬ pg < 0) (h3 : ¬ 512 < pg) (h4 : ¬ 512 - pg < ct) (h5 : ¬ wrap64 (s + p) ≤ pg) (h6 : ¬ pg + ct ≤ s) (x1 x2 x3 x4 x5 x6 x7 x8 x9 x10 x11 x12 x13 y1 y2 y3 y4 y5 y6 y7 y8 y9 y10 y11 y12 y13 : Int) (hx : region_Split.f k s p pr fl fi ix pg = some (x1, x2, x3, x4, x5, x6, x7, x8, x9, x10, x11, x12, x13)) (hy : region_Split.f k s p pr fl fi ix (pg + ct) = some (y1, y2, y3, y4, y5, y6, y7, y8, y9, y10, y11, y12, y13)) (hx0 : x13 ≠ 0) (hy0 : y13 ≠ 0) :
    Calls Try.prog 20 #[.agg #[.int .i64 s, .int .i64 p, .int .i64 pr, .int .i64 fl, .int .i64 fi, .int .i64 ix], .int .i64 pg, .int .i64 ct] w fun e w' => ∃ v0_ : Value, e = .returned (.tuple #[v0_, .int .i64 0]) ∧ Kd.R k23 23 w' w.heap.size (fun _ => True) v0_ [] ∧ Below w.heap.size w w' := by
  have hu23 := Try.underlying23
  have d1 : decide (ct < 1) = false := decide_eq_false h1
  have d2 : decide (pg < 0) = false := decide_eq_false h2
  have d3 : decide (512 < pg) = false := decide_eq_false h3
  have b0 : 0 ≤ pg := by omega
  have b1 : pg ≤ 512 := by omega
  have b2 : 1 ≤ ct := by omega
  have b3 : ct ≤ 512 := by omega
  have d4 : decide (512 - pg < ct) = false := decide_eq_false h4
  have he := end_f k s p pr fl fi ix h
  generalize wrap64 (s + p) = en at *
  have d5 : decide (en ≤ pg) = false := decide_eq_false h5
  have d6 : decide (pg + ct ≤ s) = false := decide_eq_false h6
  have ex : (x13 == 0) = false := beq_eq_false_iff_ne.2 hx0
  have ey : (y13 == 0) = false := beq_eq_false_iff_ne.2 hy0
  go_enter Try.func20, Try.ntmps20
  go_wp2_with (first | (go_at_call 11; (with_reducible refine (region_Check.calls k s p pr fl fi ix 0 _ h).mono ?_); rintro e w1 ⟨rfl, hb⟩; have B1 := Aside0.mk (blk_below (blk_new w _) hb); obtain ⟨r0, r1, r2, r3, r4, r5, s0, s1, s2, s3, s4, s5⟩ := box6 B1.out; have L1 := Aside0.mk (below_step (below_alloc (Below.refl w.heap.size w) _) hb); clear hb) | (go_at_call 27; (with_reducible refine (region_End.calls k s p pr fl fi ix _ _ he).mono ?_); rintro e w2 ⟨rfl, hb⟩; have C1 := Aside0.mk (blk_below B1.out hb); have M1 := Aside0.mk (below_step L1.out hb); clear hb B1 L1 r0 r1 r2 r3 r4 r5 s0 s1 s2 s3 s4 s5; obtain ⟨r0, r1, r2, r3, r4, r5, s0, s1, s2, s3, s4, s5⟩ := box6 C1.out) | (go_at_call 18; (with_reducible refine (region_Split.calls k s p pr fl fi ix pg x1 x2 x3 x4 x5 x6 x7 x8 x9 x10 x11 x12 x13 _ hx).mono ?_); rintro e w3 ⟨rfl, hb⟩; have D1 := Aside0.mk (blk_below C1.out hb); have N1 := Aside0.mk (below_step M1.out hb); clear hb C1 M1 r0 r1 r2 r3 r4 r5 s0 s1 s2 s3 s4 s5; obtain ⟨r0, r1, r2, r3, r4, r5, s0, s1, s2, s3, s4, s5⟩ := box6 D1.out; have ld := blk_lt D1.out))
  refine (region_Split.calls k s p pr fl fi ix (pg + ct) y1 y2 y3 y4 y5 y6 y7 y8 y9 y10 y11 y12 y13 _ hy).mono ?_
  rintro e w5 ⟨rfl, hb⟩
  have Q1 := Aside0.mk (below_step (below_alloc (below_alloc N1.out _) _) hb)
  clear hb
  go_wp2
  go_ret2
  exact ⟨_, rfl, Kd.R_nil _ _ _ _ _, below_alloc (below_alloc Q1.out _) _⟩

end Go.Proofs.Ytajephbmbdnjpaa.Hand
