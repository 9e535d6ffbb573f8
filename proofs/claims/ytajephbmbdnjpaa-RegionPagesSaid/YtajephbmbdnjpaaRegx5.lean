/- Turned out by a program of this session (wip/tools/prt.py). -/
import Derived.Test.YtajephbmbdnjpaaRegx0
import Derived.Test.YtajephbmbdnjpaaRegx4
namespace Go.Proofs.Ytajephbmbdnjpaa.Reg
open Go.RowKit Go.Proofs.YtajephbmbdnjpaaW.PrintWords Go.Proofs.YtajephbmbdnjpaaW.PrintLast Go.Proofs.YtajephbmbdnjpaaW.PrintMore
attribute [local go_sem] max2_int min2_int max_two min_two max_three min_three max_four min_four   -- for this text's walks alone
set_option linter.unusedVariables false
set_option linter.unusedSimpArgs false

/-! ### estoversref22_Check: function 12 -/
mutual
def estoversref22_Check.j0 : Nat → Bool → Int → Int → Int → Int → Int → Int → Option (Int)
 | 0, _, _, _, _, _, _, _ => none
 | k + 1, x15, x108000, x108001, x108002, x108003, x108004, x108005 => if x15 = true then (some 1) else (if x108003 < 0 then (estoversref22_Check.j1 k true x108000 x108001 x108002 x108003 x108004 x108005) else (if x108003 > 15 then (estoversref22_Check.j1 k true x108000 x108001 x108002 x108003 x108004 x108005) else (if x108004 < (-1) then (estoversref22_Check.j1 k true x108000 x108001 x108002 x108003 x108004 x108005) else (estoversref22_Check.j1 k (decide (x108004 ≥ 4)) x108000 x108001 x108002 x108003 x108004 x108005))))
def estoversref22_Check.j1 : Nat → Bool → Int → Int → Int → Int → Int → Int → Option (Int)
 | 0, _, _, _, _, _, _, _ => none
 | k + 1, x33, x108000, x108001, x108002, x108003, x108004, x108005 => if x33 = true then (some 1) else (if x108004 < 0 then ((estoversref22_flag.f x108000 x108001 x108002 x108003 x108004 x108005 1).bind fun t108 => (if t108 = true then (estoversref22_Check.j2 k true x108000 x108001 x108002 x108003 x108004 x108005) else (if x108004 ≥ 0 then ((estoversref22_flag.f x108000 x108001 x108002 x108003 x108004 x108005 2).bind fun t109 => (if t109 = true then (estoversref22_Check.j2 k true x108000 x108001 x108002 x108003 x108004 x108005) else ((estoversref22_flag.f x108000 x108001 x108002 x108003 x108004 x108005 8).bind fun t110 => (estoversref22_Check.j2 k t110 x108000 x108001 x108002 x108003 x108004 x108005)))) else (estoversref22_Check.j2 k false x108000 x108001 x108002 x108003 x108004 x108005)))) else (if x108004 ≥ 0 then ((estoversref22_flag.f x108000 x108001 x108002 x108003 x108004 x108005 2).bind fun t111 => (if t111 = true then (estoversref22_Check.j2 k true x108000 x108001 x108002 x108003 x108004 x108005) else ((estoversref22_flag.f x108000 x108001 x108002 x108003 x108004 x108005 8).bind fun t112 => (estoversref22_Check.j2 k t112 x108000 x108001 x108002 x108003 x108004 x108005)))) else (estoversref22_Check.j2 k false x108000 x108001 x108002 x108003 x108004 x108005)))
def estoversref22_Check.j2 : Nat → Bool → Int → Int → Int → Int → Int → Int → Option (Int)
 | 0, _, _, _, _, _, _, _ => none
 | k + 1, x53, x108000, x108001, x108002, x108003, x108004, x108005 => if x53 = true then (some 1) else (if x108000 < 0 then (estoversref22_Check.j3 k true x108000 x108001 x108002 x108003 x108004 x108005) else (if x108001 > 512 then (estoversref22_Check.j3 k true x108000 x108001 x108002 x108003 x108004 x108005) else (if x108000 > (wrap64 (512 - x108001)) then (estoversref22_Check.j3 k true x108000 x108001 x108002 x108003 x108004 x108005) else (estoversref22_Check.j3 k (decide (x108005 < 0)) x108000 x108001 x108002 x108003 x108004 x108005))))
def estoversref22_Check.j3 : Nat → Bool → Int → Int → Int → Int → Int → Int → Option (Int)
 | 0, _, _, _, _, _, _, _ => none
 | k + 1, x74, x108000, x108001, x108002, x108003, x108004, x108005 => if x74 = true then (some 2) else (if x108004 < 0 then (if x108005 > 0 then (some 2) else (if x108004 ≥ 0 then (if x108001 > 16 then (some 2) else (if x108005 > (wrap64 (16 - x108001)) then (some 2) else (some 0))) else (some 0))) else (if x108004 ≥ 0 then (if x108001 > 16 then (some 2) else (if x108005 > (wrap64 (16 - x108001)) then (some 2) else (some 0))) else (some 0)))
end
def estoversref22_Check.f (k : Nat) (a0_0 : Int) (a0_1 : Int) (a0_2 : Int) (a0_3 : Int) (a0_4 : Int) (a0_5 : Int) : Option (Int) := if a0_1 < 1 then (estoversref22_Check.j0 k true a0_0 a0_1 a0_2 a0_3 a0_4 a0_5) else (if a0_2 = 1 then (estoversref22_Check.j0 k false a0_0 a0_1 a0_2 a0_3 a0_4 a0_5) else (estoversref22_Check.j0 k (a0_2 != 3) a0_0 a0_1 a0_2 a0_3 a0_4 a0_5))
theorem estoversref22_Check.mono_l : ∀ k, (∀ y0 y1 y2 y3 y4 y5 y6, LeO (estoversref22_Check.j0 k y0 y1 y2 y3 y4 y5 y6) (estoversref22_Check.j0 (k + 1) y0 y1 y2 y3 y4 y5 y6)) ∧ (∀ y0 y1 y2 y3 y4 y5 y6, LeO (estoversref22_Check.j1 k y0 y1 y2 y3 y4 y5 y6) (estoversref22_Check.j1 (k + 1) y0 y1 y2 y3 y4 y5 y6)) ∧ (∀ y0 y1 y2 y3 y4 y5 y6, LeO (estoversref22_Check.j2 k y0 y1 y2 y3 y4 y5 y6) (estoversref22_Check.j2 (k + 1) y0 y1 y2 y3 y4 y5 y6)) ∧ (∀ y0 y1 y2 y3 y4 y5 y6, LeO (estoversref22_Check.j3 k y0 y1 y2 y3 y4 y5 y6) (estoversref22_Check.j3 (k + 1) y0 y1 y2 y3 y4 y5 y6))
 | 0 => ⟨fun _ _ _ _ _ _ _ r h => by simp [estoversref22_Check.j0] at h, fun _ _ _ _ _ _ _ r h => by simp [estoversref22_Check.j1] at h, fun _ _ _ _ _ _ _ r h => by simp [estoversref22_Check.j2] at h, fun _ _ _ _ _ _ _ r h => by simp [estoversref22_Check.j3] at h⟩
 | k + 1 => by
  obtain ⟨ih0, ih1, ih2, ih3⟩ := estoversref22_Check.mono_l k
  refine ⟨?_, ?_, ?_, ?_⟩
  ·intro y0 y1 y2 y3 y4 y5 y6
   unfold estoversref22_Check.j0
   repeat' first
   | (with_reducible exact ih0 _ _ _ _ _ _ _)
   | (with_reducible exact ih1 _ _ _ _ _ _ _)
   | (with_reducible exact ih2 _ _ _ _ _ _ _)
   | (with_reducible exact ih3 _ _ _ _ _ _ _)
   | (with_reducible exact LeO.refl _)
   | (with_reducible exact LeO.none _)
   | (with_reducible refine LeO.ite ?_ ?_)
   | (with_reducible refine LeO.bind ?_ (fun _ => ?_))
   | exact ih0 _ _ _ _ _ _ _
   | exact ih1 _ _ _ _ _ _ _
   | exact ih2 _ _ _ _ _ _ _
   | exact ih3 _ _ _ _ _ _ _
   | exact LeO.none _
   | refine LeO.ite ?_ ?_
   | refine LeO.bind ?_ (fun _ => ?_)
  ·intro y0 y1 y2 y3 y4 y5 y6
   unfold estoversref22_Check.j1
   repeat' first
   | (with_reducible exact ih0 _ _ _ _ _ _ _)
   | (with_reducible exact ih1 _ _ _ _ _ _ _)
   | (with_reducible exact ih2 _ _ _ _ _ _ _)
   | (with_reducible exact ih3 _ _ _ _ _ _ _)
   | (with_reducible exact LeO.refl _)
   | (with_reducible exact LeO.none _)
   | (with_reducible refine LeO.ite ?_ ?_)
   | (with_reducible refine LeO.bind ?_ (fun _ => ?_))
   | exact ih0 _ _ _ _ _ _ _
   | exact ih1 _ _ _ _ _ _ _
   | exact ih2 _ _ _ _ _ _ _
   | exact ih3 _ _ _ _ _ _ _
   | exact LeO.none _
   | refine LeO.ite ?_ ?_
   | refine LeO.bind ?_ (fun _ => ?_)
  ·intro y0 y1 y2 y3 y4 y5 y6
   unfold estoversref22_Check.j2
   repeat' first
   | (with_reducible exact ih0 _ _ _ _ _ _ _)
   | (with_reducible exact ih1 _ _ _ _ _ _ _)
   | (with_reducible exact ih2 _ _ _ _ _ _ _)
   | (with_reducible exact ih3 _ _ _ _ _ _ _)
   | (with_reducible exact LeO.refl _)
   | (with_reducible exact LeO.none _)
   | (with_reducible refine LeO.ite ?_ ?_)
   | (with_reducible refine LeO.bind ?_ (fun _ => ?_))
   | exact ih0 _ _ _ _ _ _ _
   | exact ih1 _ _ _ _ _ _ _
   | exact ih2 _ _ _ _ _ _ _
   | exact ih3 _ _ _ _ _ _ _
   | exact LeO.none _
   | refine LeO.ite ?_ ?_
   | refine LeO.bind ?_ (fun _ => ?_)
  ·intro y0 y1 y2 y3 y4 y5 y6
   unfold estoversref22_Check.j3
   repeat' first
   | (with_reducible exact ih0 _ _ _ _ _ _ _)
   | (with_reducible exact ih1 _ _ _ _ _ _ _)
   | (with_reducible exact ih2 _ _ _ _ _ _ _)
   | (with_reducible exact ih3 _ _ _ _ _ _ _)
   | (with_reducible exact LeO.refl _)
   | (with_reducible exact LeO.none _)
   | (with_reducible refine LeO.ite ?_ ?_)
   | (with_reducible refine LeO.bind ?_ (fun _ => ?_))
   | exact ih0 _ _ _ _ _ _ _
   | exact ih1 _ _ _ _ _ _ _
   | exact ih2 _ _ _ _ _ _ _
   | exact ih3 _ _ _ _ _ _ _
   | exact LeO.none _
   | refine LeO.ite ?_ ?_
   | refine LeO.bind ?_ (fun _ => ?_)
theorem estoversref22_Check.mono : ∀ a0 a1 a2 a3 a4 a5 k, LeO (estoversref22_Check.f k a0 a1 a2 a3 a4 a5) (estoversref22_Check.f (k + 1) a0 a1 a2 a3 a4 a5) := by
 intro a0 a1 a2 a3 a4 a5 k
 obtain ⟨ih0, ih1, ih2, ih3⟩ := estoversref22_Check.mono_l k
 unfold estoversref22_Check.f
 repeat' first
   | (with_reducible exact ih0 _ _ _ _ _ _ _)
   | (with_reducible exact ih1 _ _ _ _ _ _ _)
   | (with_reducible exact ih2 _ _ _ _ _ _ _)
   | (with_reducible exact ih3 _ _ _ _ _ _ _)
   | (with_reducible exact LeO.refl _)
   | (with_reducible exact LeO.none _)
   | (with_reducible refine LeO.ite ?_ ?_)
   | (with_reducible refine LeO.bind ?_ (fun _ => ?_))
   | exact ih0 _ _ _ _ _ _ _
   | exact ih1 _ _ _ _ _ _ _
   | exact ih2 _ _ _ _ _ _ _
   | exact ih3 _ _ _ _ _ _ _
   | exact LeO.none _
   | refine LeO.ite ?_ ?_
   | refine LeO.bind ?_ (fun _ => ?_)
set_option maxHeartbeats 8000000 in
set_option maxRecDepth 100000 in
theorem estoversref22_Check.calls (k : Nat) (a0_0 : Int) (a0_1 : Int) (a0_2 : Int) (a0_3 : Int) (a0_4 : Int) (a0_5 : Int) (r : Int) (w : World) (h : estoversref22_Check.f k a0_0 a0_1 a0_2 a0_3 a0_4 a0_5 = some r) :
  Calls Try.prog 12 #[.agg #[.int .i64 a0_0, .int .i64 a0_1, .int .i64 a0_2, .int .i64 a0_3, .int .i64 a0_4, .int .i64 a0_5]] w fun e w' => e = .returned (.int .i64 r) ∧ Below w.heap.size w w' := by
 have hu23 := Try.underlying23
 have HB := Aside0.mk (Below.refl w.heap.size w)
 have H : (if a0_1 < 1 then (estoversref22_Check.j0 k true a0_0 a0_1 a0_2 a0_3 a0_4 a0_5) else (if a0_2 = 1 then (estoversref22_Check.j0 k false a0_0 a0_1 a0_2 a0_3 a0_4 a0_5) else (estoversref22_Check.j0 k (a0_2 != 3) a0_0 a0_1 a0_2 a0_3 a0_4 a0_5))) = some r := h
 clear h
 have HC2 := Aside0.mk H
 clear H
 go_enter Try.func12, Try.ntmps12
 go_upto_region 1 with (first | ((with_reducible refine gate_dst (N := 1) rfl ?_); refine box_event ?hg (N := 1) ?hd (cs := #[.int .i64 a0_0, .int .i64 a0_1, .int .i64 a0_2, .int .i64 a0_3, .int .i64 a0_4, .int .i64 a0_5]) (t := 23) ?hr ?_; (case hd => rfl); (case hg => rfl); (case hr => first | (go_simp; done) | (go_simp; rfl)); intro gb107 hg w3 hbox hb; have n0_ := Aside0.mk (below_step (by repeat (first | (with_reducible first | exact HB.out | apply below_alloc | apply pw_below_drewN | apply below_drew1) | exact HB.out)) hb); have n1_ := Aside0.mk (hbox); have n2_ := Aside0.mk ((by rw [hg]; exact (below_size (by repeat (first | (with_reducible first | exact HB.out | apply below_alloc | apply pw_below_drewN | apply below_drew1) | exact HB.out))) : w.heap.size ≤ gb107)); have n3_ := Aside0.mk ((by rw [hg]; exact (below_size (by repeat (first | (with_reducible first | exact HB.out | apply below_alloc | apply pw_below_drewN | apply below_drew1) | exact HB.out))) : w.heap.size ≤ gb107)); clear HB; have HB := n0_; have BK107 := n1_; have GW107 := n2_; have GE107 := n3_; clear n0_ n1_ n2_ n3_; clear hb hbox hg))
 (try simp only [Act.put, List.setIfInBounds_toArray, List.set_cons_zero, List.set_cons_succ])
 go_cut [15] (fun v15 wc => ∃ (kq : Nat) (x15_1 : Bool), v15 = .bool x15_1 ∧ Aside0 (estoversref22_Check.j0 kq x15_1 a0_0 a0_1 a0_2 a0_3 a0_4 a0_5 = some r) ∧ Aside0 (kq ≤ k) ∧ Aside0 (wc.heap[gb107]? = some (.cells #[.int .i64 a0_0, .int .i64 a0_1, .int .i64 a0_2, .int .i64 a0_3, .int .i64 a0_4, .int .i64 a0_5] 23 (0, 0))) ∧ Aside0 (Below w.heap.size w wc))
 case first =>
  have H := HC2.out
  clear HC2
  by_cases c4 : a0_1 < 1
  ·rw [if_pos c4] at H
   have c4b0 : decide (a0_1 < 1) = true := decide_eq_true c4
   clear c4
   (first | rw [c4b0] | (simp only [i64_w, i32_w]; rw [c4b0]) | skip)
   have H' := Aside0.mk H
   clear H
   obtain ⟨hcz5_0, hcz5_1, hcz5_2, hcz5_3, hcz5_4, hcz5_5, hfz5_0, hfz5_1, hfz5_2, hfz5_3, hfz5_4, hfz5_5⟩ := box6 BK107.out
   go_wp2
   go_meet
   case rel => exact ⟨_, (true), (by first | rfl | (simp; done) | (simp [*]; done)), H', ⟨by first | omega | exact Nat.le_refl _⟩, ⟨by (with_reducible repeat (first | refine blk_drewN ?_ _ | refine blk_drew ?_ | refine blk_alloc ?_ _)); exact BK107.out⟩, ⟨by repeat (first | (with_reducible first | exact HB.out | apply below_alloc | apply pw_below_drewN | apply below_drew1 | refine below_set ?_ GE107.out) | exact HB.out)⟩⟩
  ·rw [if_neg c4] at H
   have c4b0 : decide (a0_1 < 1) = false := decide_eq_false c4
   clear c4
   (first | rw [c4b0] | (simp only [i64_w, i32_w]; rw [c4b0]) | skip)
   by_cases c6 : a0_2 = 1
   ·rw [if_pos c6] at H
    have c6b0 : (a0_2 == 1) = true := beq_iff_eq.mpr c6
    have c6b1 : (a0_2 != 1) = false := bne_eq_false_iff_eq.mpr c6
    clear c6
    have H' := Aside0.mk H
    clear H
    obtain ⟨hcz7_0, hcz7_1, hcz7_2, hcz7_3, hcz7_4, hcz7_5, hfz7_0, hfz7_1, hfz7_2, hfz7_3, hfz7_4, hfz7_5⟩ := box6 BK107.out
    go_wp2
    go_meet
    case rel => exact ⟨_, (false), (by first | rfl | (simp; done) | (simp [*]; done)), H', ⟨by first | omega | exact Nat.le_refl _⟩, ⟨by (with_reducible repeat (first | refine blk_drewN ?_ _ | refine blk_drew ?_ | refine blk_alloc ?_ _)); exact BK107.out⟩, ⟨by repeat (first | (with_reducible first | exact HB.out | apply below_alloc | apply pw_below_drewN | apply below_drew1 | refine below_set ?_ GE107.out) | exact HB.out)⟩⟩
   ·rw [if_neg c6] at H
    have c6b0 : (a0_2 == 1) = false := beq_eq_false_iff_ne.mpr c6
    have c6b1 : (a0_2 != 1) = true := bne_iff_ne.mpr c6
    have H' := Aside0.mk H
    clear H
    obtain ⟨hcz8_0, hcz8_1, hcz8_2, hcz8_3, hcz8_4, hcz8_5, hfz8_0, hfz8_1, hfz8_2, hfz8_3, hfz8_4, hfz8_5⟩ := box6 BK107.out
    go_wp2
    go_meet
    case rel => exact ⟨_, ((a0_2 != 3)), (by first | rfl | (simp; done) | (simp [*]; done)), H', ⟨by first | omega | exact Nat.le_refl _⟩, ⟨by (with_reducible repeat (first | refine blk_drewN ?_ _ | refine blk_drew ?_ | refine blk_alloc ?_ _)); exact BK107.out⟩, ⟨by repeat (first | (with_reducible first | exact HB.out | apply below_alloc | apply pw_below_drewN | apply below_drew1 | refine below_set ?_ GE107.out) | exact HB.out)⟩⟩
 case rest =>
  clear HC2
  (try clear hcz5_0 hcz5_1 hcz5_2 hcz5_3 hcz5_4 hcz5_5 hfz5_0 hfz5_1 hfz5_2 hfz5_3 hfz5_4 hfz5_5); (try clear hcz7_0 hcz7_1 hcz7_2 hcz7_3 hcz7_4 hcz7_5 hfz7_0 hfz7_1 hfz7_2 hfz7_3 hfz7_4 hfz7_5); (try clear hcz8_0 hcz8_1 hcz8_2 hcz8_3 hcz8_4 hcz8_5 hfz8_0 hfz8_1 hfz8_2 hfz8_3 hfz8_4 hfz8_5); (try clear c1); (try clear p2); (try clear c4); (try clear c4b0); (try clear c6); (try clear c6b0); (try clear c6b1)
  obtain ⟨kq, x15_1, rfl, HA, HJ1, BK107, HB⟩ := hcut
  cases kq with
  | zero => exact absurd HA.out (by simp [estoversref22_Check.j0])
  | succ kj1 =>
   have H := HA.out
   clear HA
   simp only [estoversref22_Check.j0] at H
   by_cases c9 : x15_1 = true
   ·subst c9
    have H1 : (some 1) = some r := by rw [if_pos rfl] at H; exact H
    clear H
    have H := H1
    clear H1
    obtain rfl := Option.some.inj H
    go_wp2
    go_ret
    exact ⟨by first | rfl | (simp [errW_none, errW_some] <;> rfl) | (simp [*, errW_none, errW_some] <;> rfl), by repeat (first | (with_reducible first | exact HB.out | apply below_alloc | apply pw_below_drewN | apply below_drew1 | refine below_set ?_ GE107.out) | exact HB.out)⟩
   ·replace c9 := Bool.eq_false_iff.mpr c9
    subst c9
    have H1 : (if a0_3 < 0 then (estoversref22_Check.j1 kj1 true a0_0 a0_1 a0_2 a0_3 a0_4 a0_5) else (if a0_3 > 15 then (estoversref22_Check.j1 kj1 true a0_0 a0_1 a0_2 a0_3 a0_4 a0_5) else (if a0_4 < (-1) then (estoversref22_Check.j1 kj1 true a0_0 a0_1 a0_2 a0_3 a0_4 a0_5) else (estoversref22_Check.j1 kj1 (decide (a0_4 ≥ 4)) a0_0 a0_1 a0_2 a0_3 a0_4 a0_5)))) = some r := by rw [if_neg (show ¬ (false = true) by decide)] at H; exact H
    clear H
    have H := H1
    clear H1
    have HC10 := Aside0.mk H
    clear H
    go_upto_region 3 with (fail)
    go_cut [33] (fun v33 wc => ∃ (kq : Nat) (x33_9 : Bool), v33 = .bool x33_9 ∧ Aside0 (estoversref22_Check.j1 kq x33_9 a0_0 a0_1 a0_2 a0_3 a0_4 a0_5 = some r) ∧ Aside0 (kq ≤ kj1) ∧ Aside0 (wc.heap[gb107]? = some (.cells #[.int .i64 a0_0, .int .i64 a0_1, .int .i64 a0_2, .int .i64 a0_3, .int .i64 a0_4, .int .i64 a0_5] 23 (0, 0))) ∧ Aside0 (Below w.heap.size w wc))
    case first =>
     have H := HC10.out
     clear HC10
     by_cases c11 : a0_3 < 0
     ·rw [if_pos c11] at H
      have c11b0 : decide (a0_3 < 0) = true := decide_eq_true c11
      clear c11
      (first | rw [c11b0] | (simp only [i64_w, i32_w]; rw [c11b0]) | skip)
      have H' := Aside0.mk H
      clear H
      obtain ⟨hcz12_0, hcz12_1, hcz12_2, hcz12_3, hcz12_4, hcz12_5, hfz12_0, hfz12_1, hfz12_2, hfz12_3, hfz12_4, hfz12_5⟩ := box6 BK107.out
      go_wp2
      go_meet
      case rel => exact ⟨_, (true), (by first | rfl | (simp; done) | (simp [*]; done)), H', ⟨by have := HJ1.out; first | omega | exact Nat.le_refl _⟩, ⟨by (with_reducible repeat (first | refine blk_drewN ?_ _ | refine blk_drew ?_ | refine blk_alloc ?_ _)); exact BK107.out⟩, ⟨by repeat (first | (with_reducible first | exact HB.out | apply below_alloc | apply pw_below_drewN | apply below_drew1 | refine below_set ?_ GE107.out) | exact HB.out)⟩⟩
     ·rw [if_neg c11] at H
      have c11b0 : decide (a0_3 < 0) = false := decide_eq_false c11
      clear c11
      (first | rw [c11b0] | (simp only [i64_w, i32_w]; rw [c11b0]) | skip)
      by_cases c13 : a0_3 > 15
      ·rw [if_pos c13] at H
       have c13b0 : decide (15 < a0_3) = true := decide_eq_true c13
       clear c13
       have H' := Aside0.mk H
       clear H
       obtain ⟨hcz14_0, hcz14_1, hcz14_2, hcz14_3, hcz14_4, hcz14_5, hfz14_0, hfz14_1, hfz14_2, hfz14_3, hfz14_4, hfz14_5⟩ := box6 BK107.out
       go_wp2
       go_meet
       case rel => exact ⟨_, (true), (by first | rfl | (simp; done) | (simp [*]; done)), H', ⟨by have := HJ1.out; first | omega | exact Nat.le_refl _⟩, ⟨by (with_reducible repeat (first | refine blk_drewN ?_ _ | refine blk_drew ?_ | refine blk_alloc ?_ _)); exact BK107.out⟩, ⟨by repeat (first | (with_reducible first | exact HB.out | apply below_alloc | apply pw_below_drewN | apply below_drew1 | refine below_set ?_ GE107.out) | exact HB.out)⟩⟩
      ·rw [if_neg c13] at H
       have c13b0 : decide (15 < a0_3) = false := decide_eq_false c13
       clear c13
       by_cases c15 : a0_4 < (-1)
       ·rw [if_pos c15] at H
        have c15b0 : decide (a0_4 < (-1)) = true := decide_eq_true c15
        clear c15
        have H' := Aside0.mk H
        clear H
        obtain ⟨hcz16_0, hcz16_1, hcz16_2, hcz16_3, hcz16_4, hcz16_5, hfz16_0, hfz16_1, hfz16_2, hfz16_3, hfz16_4, hfz16_5⟩ := box6 BK107.out
        go_wp2
        go_meet
        case rel => exact ⟨_, (true), (by first | rfl | (simp; done) | (simp [*]; done)), H', ⟨by have := HJ1.out; first | omega | exact Nat.le_refl _⟩, ⟨by (with_reducible repeat (first | refine blk_drewN ?_ _ | refine blk_drew ?_ | refine blk_alloc ?_ _)); exact BK107.out⟩, ⟨by repeat (first | (with_reducible first | exact HB.out | apply below_alloc | apply pw_below_drewN | apply below_drew1 | refine below_set ?_ GE107.out) | exact HB.out)⟩⟩
       ·rw [if_neg c15] at H
        have c15b0 : decide (a0_4 < (-1)) = false := decide_eq_false c15
        clear c15
        have H' := Aside0.mk H
        clear H
        obtain ⟨hcz17_0, hcz17_1, hcz17_2, hcz17_3, hcz17_4, hcz17_5, hfz17_0, hfz17_1, hfz17_2, hfz17_3, hfz17_4, hfz17_5⟩ := box6 BK107.out
        go_wp2
        go_meet
        case rel => exact ⟨_, (decide (a0_4 ≥ 4)), (by first | rfl | (simp; done) | (simp [*]; done)), H', ⟨by have := HJ1.out; first | omega | exact Nat.le_refl _⟩, ⟨by (with_reducible repeat (first | refine blk_drewN ?_ _ | refine blk_drew ?_ | refine blk_alloc ?_ _)); exact BK107.out⟩, ⟨by repeat (first | (with_reducible first | exact HB.out | apply below_alloc | apply pw_below_drewN | apply below_drew1 | refine below_set ?_ GE107.out) | exact HB.out)⟩⟩
    case rest =>
     clear HC10
     (try clear hcz12_0 hcz12_1 hcz12_2 hcz12_3 hcz12_4 hcz12_5 hfz12_0 hfz12_1 hfz12_2 hfz12_3 hfz12_4 hfz12_5); (try clear hcz14_0 hcz14_1 hcz14_2 hcz14_3 hcz14_4 hcz14_5 hfz14_0 hfz14_1 hfz14_2 hfz14_3 hfz14_4 hfz14_5); (try clear hcz16_0 hcz16_1 hcz16_2 hcz16_3 hcz16_4 hcz16_5 hfz16_0 hfz16_1 hfz16_2 hfz16_3 hfz16_4 hfz16_5); (try clear hcz17_0 hcz17_1 hcz17_2 hcz17_3 hcz17_4 hcz17_5 hfz17_0 hfz17_1 hfz17_2 hfz17_3 hfz17_4 hfz17_5); (try clear hcz5_0 hcz5_1 hcz5_2 hcz5_3 hcz5_4 hcz5_5 hfz5_0 hfz5_1 hfz5_2 hfz5_3 hfz5_4 hfz5_5); (try clear hcz7_0 hcz7_1 hcz7_2 hcz7_3 hcz7_4 hcz7_5 hfz7_0 hfz7_1 hfz7_2 hfz7_3 hfz7_4 hfz7_5); (try clear hcz8_0 hcz8_1 hcz8_2 hcz8_3 hcz8_4 hcz8_5 hfz8_0 hfz8_1 hfz8_2 hfz8_3 hfz8_4 hfz8_5); (try clear c1); (try clear p2); (try clear c4); (try clear c4b0); (try clear c6); (try clear c6b0); (try clear c6b1); (try clear c9); (try clear c11); (try clear c11b0); (try clear c12); (try clear c13); (try clear c13b0); (try clear c15); (try clear c15b0); (try clear p2)
     obtain ⟨kq, x33_9, rfl, HA, HJ9, BK107, HB⟩ := hcut
     cases kq with
     | zero => exact absurd HA.out (by simp [estoversref22_Check.j1])
     | succ kj9 =>
      have H := HA.out
      clear HA
      simp only [estoversref22_Check.j1] at H
      by_cases c18 : x33_9 = true
      ·subst c18
       have H1 : (some 1) = some r := by rw [if_pos rfl] at H; exact H
       clear H
       have H := H1
       clear H1
       obtain rfl := Option.some.inj H
       go_wp2
       go_ret
       exact ⟨by first | rfl | (simp [errW_none, errW_some] <;> rfl) | (simp [*, errW_none, errW_some] <;> rfl), by repeat (first | (with_reducible first | exact HB.out | apply below_alloc | apply pw_below_drewN | apply below_drew1 | refine below_set ?_ GE107.out) | exact HB.out)⟩
      ·replace c18 := Bool.eq_false_iff.mpr c18
       subst c18
       have H1 : (if a0_4 < 0 then ((estoversref22_flag.f a0_0 a0_1 a0_2 a0_3 a0_4 a0_5 1).bind fun t108 => (if t108 = true then (estoversref22_Check.j2 kj9 true a0_0 a0_1 a0_2 a0_3 a0_4 a0_5) else (if a0_4 ≥ 0 then ((estoversref22_flag.f a0_0 a0_1 a0_2 a0_3 a0_4 a0_5 2).bind fun t109 => (if t109 = true then (estoversref22_Check.j2 kj9 true a0_0 a0_1 a0_2 a0_3 a0_4 a0_5) else ((estoversref22_flag.f a0_0 a0_1 a0_2 a0_3 a0_4 a0_5 8).bind fun t110 => (estoversref22_Check.j2 kj9 t110 a0_0 a0_1 a0_2 a0_3 a0_4 a0_5)))) else (estoversref22_Check.j2 kj9 false a0_0 a0_1 a0_2 a0_3 a0_4 a0_5)))) else (if a0_4 ≥ 0 then ((estoversref22_flag.f a0_0 a0_1 a0_2 a0_3 a0_4 a0_5 2).bind fun t111 => (if t111 = true then (estoversref22_Check.j2 kj9 true a0_0 a0_1 a0_2 a0_3 a0_4 a0_5) else ((estoversref22_flag.f a0_0 a0_1 a0_2 a0_3 a0_4 a0_5 8).bind fun t112 => (estoversref22_Check.j2 kj9 t112 a0_0 a0_1 a0_2 a0_3 a0_4 a0_5)))) else (estoversref22_Check.j2 kj9 false a0_0 a0_1 a0_2 a0_3 a0_4 a0_5))) = some r := by rw [if_neg (show ¬ (false = true) by decide)] at H; exact H
       clear H
       have H := H1
       clear H1
       have HC19 := Aside0.mk H
       clear H
       go_upto_region 5 with (fail)
       go_cut [53] (fun v53 wc => ∃ (kq : Nat) (x53_18 : Bool), v53 = .bool x53_18 ∧ Aside0 (estoversref22_Check.j2 kq x53_18 a0_0 a0_1 a0_2 a0_3 a0_4 a0_5 = some r) ∧ Aside0 (kq ≤ kj9) ∧ Aside0 (wc.heap[gb107]? = some (.cells #[.int .i64 a0_0, .int .i64 a0_1, .int .i64 a0_2, .int .i64 a0_3, .int .i64 a0_4, .int .i64 a0_5] 23 (0, 0))) ∧ Aside0 (Below w.heap.size w wc))
       case first =>
        have H := HC19.out
        clear HC19
        by_cases c20 : a0_4 < 0
        ·rw [if_pos c20] at H
         have c20b0 : decide (a0_4 < 0) = true := decide_eq_true c20
         clear c20
         (first | rw [c20b0] | (simp only [i64_w, i32_w]; rw [c20b0]) | skip)
         replace H := Option.bind_eq_some_iff.mp H
         obtain ⟨t108, A210, H⟩ := H
         replace H : (if t108 = true then (estoversref22_Check.j2 kj9 true a0_0 a0_1 a0_2 a0_3 a0_4 a0_5) else (if a0_4 ≥ 0 then ((estoversref22_flag.f a0_0 a0_1 a0_2 a0_3 a0_4 a0_5 2).bind fun t109 => (if t109 = true then (estoversref22_Check.j2 kj9 true a0_0 a0_1 a0_2 a0_3 a0_4 a0_5) else ((estoversref22_flag.f a0_0 a0_1 a0_2 a0_3 a0_4 a0_5 8).bind fun t110 => (estoversref22_Check.j2 kj9 t110 a0_0 a0_1 a0_2 a0_3 a0_4 a0_5)))) else (estoversref22_Check.j2 kj9 false a0_0 a0_1 a0_2 a0_3 a0_4 a0_5))) = some r := H
         have A21 := Aside0.mk A210
         clear A210
         by_cases c22 : t108 = true
         ·subst c22
          have H1 : (estoversref22_Check.j2 kj9 true a0_0 a0_1 a0_2 a0_3 a0_4 a0_5) = some r := by rw [if_pos rfl] at H; exact H
          clear H
          have H := H1
          clear H1
          have H' := Aside0.mk H
          clear H
          obtain ⟨hcz23_0, hcz23_1, hcz23_2, hcz23_3, hcz23_4, hcz23_5, hfz23_0, hfz23_1, hfz23_2, hfz23_3, hfz23_4, hfz23_5⟩ := box6 BK107.out
          go_wp2_with (first | (go_at_call 34; (with_reducible refine (estoversref22_flag.calls a0_0 a0_1 a0_2 a0_3 a0_4 a0_5 1 true _ A21.out).mono ?_); rintro e w24 ⟨rfl, hb⟩; have n0_ := Aside0.mk (blk_below (g := gb107) (by (with_reducible repeat (first | refine blk_drewN ?_ _ | refine blk_drew ?_ | refine blk_alloc ?_ _)); exact BK107.out) hb); have n1_ := Aside0.mk (below_step (by repeat (first | (with_reducible first | exact HB.out | apply below_alloc | apply pw_below_drewN | apply below_drew1 | refine below_set ?_ GE107.out) | exact HB.out)) hb); clear BK107; clear HB; have BK107 := n0_; have HB := n1_; clear n0_ n1_; (try clear hb); (try clear hb2); (try clear hk); (try clear hi)))
          go_meet
          case rel => exact ⟨_, (true), (by first | rfl | (simp; done) | (simp [*]; done)), H', ⟨by have := HJ1.out; have := HJ9.out; first | omega | exact Nat.le_refl _⟩, ⟨by (with_reducible repeat (first | refine blk_drewN ?_ _ | refine blk_drew ?_ | refine blk_alloc ?_ _)); exact BK107.out⟩, ⟨by repeat (first | (with_reducible first | exact HB.out | apply below_alloc | apply pw_below_drewN | apply below_drew1 | refine below_set ?_ GE107.out) | exact HB.out)⟩⟩
         ·replace c22 := Bool.eq_false_iff.mpr c22
          subst c22
          have H1 : (if a0_4 ≥ 0 then ((estoversref22_flag.f a0_0 a0_1 a0_2 a0_3 a0_4 a0_5 2).bind fun t109 => (if t109 = true then (estoversref22_Check.j2 kj9 true a0_0 a0_1 a0_2 a0_3 a0_4 a0_5) else ((estoversref22_flag.f a0_0 a0_1 a0_2 a0_3 a0_4 a0_5 8).bind fun t110 => (estoversref22_Check.j2 kj9 t110 a0_0 a0_1 a0_2 a0_3 a0_4 a0_5)))) else (estoversref22_Check.j2 kj9 false a0_0 a0_1 a0_2 a0_3 a0_4 a0_5)) = some r := by rw [if_neg (show ¬ (false = true) by decide)] at H; exact H
          clear H
          have H := H1
          clear H1
          by_cases c25 : a0_4 ≥ 0
          ·rw [if_pos c25] at H
           have c25b0 : decide (0 ≤ a0_4) = true := decide_eq_true c25
           clear c25
           replace H := Option.bind_eq_some_iff.mp H
           obtain ⟨t109, A260, H⟩ := H
           replace H : (if t109 = true then (estoversref22_Check.j2 kj9 true a0_0 a0_1 a0_2 a0_3 a0_4 a0_5) else ((estoversref22_flag.f a0_0 a0_1 a0_2 a0_3 a0_4 a0_5 8).bind fun t110 => (estoversref22_Check.j2 kj9 t110 a0_0 a0_1 a0_2 a0_3 a0_4 a0_5))) = some r := H
           have A26 := Aside0.mk A260
           clear A260
           by_cases c27 : t109 = true
           ·subst c27
            have H1 : (estoversref22_Check.j2 kj9 true a0_0 a0_1 a0_2 a0_3 a0_4 a0_5) = some r := by rw [if_pos rfl] at H; exact H
            clear H
            have H := H1
            clear H1
            have H' := Aside0.mk H
            clear H
            obtain ⟨hcz28_0, hcz28_1, hcz28_2, hcz28_3, hcz28_4, hcz28_5, hfz28_0, hfz28_1, hfz28_2, hfz28_3, hfz28_4, hfz28_5⟩ := box6 BK107.out
            go_wp2_with (first | (go_at_call 34; (with_reducible refine (estoversref22_flag.calls a0_0 a0_1 a0_2 a0_3 a0_4 a0_5 1 false _ A21.out).mono ?_); rintro e w29 ⟨rfl, hb⟩; have n0_ := Aside0.mk (blk_below (g := gb107) (by (with_reducible repeat (first | refine blk_drewN ?_ _ | refine blk_drew ?_ | refine blk_alloc ?_ _)); exact BK107.out) hb); have n1_ := Aside0.mk (below_step (by repeat (first | (with_reducible first | exact HB.out | apply below_alloc | apply pw_below_drewN | apply below_drew1 | refine below_set ?_ GE107.out) | exact HB.out)) hb); clear BK107; clear HB; have BK107 := n0_; have HB := n1_; clear n0_ n1_; (try clear hb); (try clear hb2); (try clear hk); (try clear hi); obtain ⟨hcz30_0, hcz30_1, hcz30_2, hcz30_3, hcz30_4, hcz30_5, hfz30_0, hfz30_1, hfz30_2, hfz30_3, hfz30_4, hfz30_5⟩ := box6 BK107.out) | (go_at_call 34; (with_reducible refine (estoversref22_flag.calls a0_0 a0_1 a0_2 a0_3 a0_4 a0_5 2 true _ A26.out).mono ?_); rintro e w31 ⟨rfl, hb⟩; have n0_ := Aside0.mk (blk_below (g := gb107) (by (with_reducible repeat (first | refine blk_drewN ?_ _ | refine blk_drew ?_ | refine blk_alloc ?_ _)); exact BK107.out) hb); have n1_ := Aside0.mk (below_step (by repeat (first | (with_reducible first | exact HB.out | apply below_alloc | apply pw_below_drewN | apply below_drew1 | refine below_set ?_ GE107.out) | exact HB.out)) hb); clear BK107; clear HB; have BK107 := n0_; have HB := n1_; clear n0_ n1_; (try clear hb); (try clear hb2); (try clear hk); (try clear hi)))
            go_meet
            case rel => exact ⟨_, (true), (by first | rfl | (simp; done) | (simp [*]; done)), H', ⟨by have := HJ1.out; have := HJ9.out; first | omega | exact Nat.le_refl _⟩, ⟨by (with_reducible repeat (first | refine blk_drewN ?_ _ | refine blk_drew ?_ | refine blk_alloc ?_ _)); exact BK107.out⟩, ⟨by repeat (first | (with_reducible first | exact HB.out | apply below_alloc | apply pw_below_drewN | apply below_drew1 | refine below_set ?_ GE107.out) | exact HB.out)⟩⟩
           ·replace c27 := Bool.eq_false_iff.mpr c27
            subst c27
            have H1 : ((estoversref22_flag.f a0_0 a0_1 a0_2 a0_3 a0_4 a0_5 8).bind fun t110 => (estoversref22_Check.j2 kj9 t110 a0_0 a0_1 a0_2 a0_3 a0_4 a0_5)) = some r := by rw [if_neg (show ¬ (false = true) by decide)] at H; exact H
            clear H
            have H := H1
            clear H1
            replace H := Option.bind_eq_some_iff.mp H
            obtain ⟨t110, A320, H⟩ := H
            replace H : (estoversref22_Check.j2 kj9 t110 a0_0 a0_1 a0_2 a0_3 a0_4 a0_5) = some r := H
            have A32 := Aside0.mk A320
            clear A320
            have H' := Aside0.mk H
            clear H
            obtain ⟨hcz33_0, hcz33_1, hcz33_2, hcz33_3, hcz33_4, hcz33_5, hfz33_0, hfz33_1, hfz33_2, hfz33_3, hfz33_4, hfz33_5⟩ := box6 BK107.out
            go_wp2_with (first | (go_at_call 34; (with_reducible refine (estoversref22_flag.calls a0_0 a0_1 a0_2 a0_3 a0_4 a0_5 1 false _ A21.out).mono ?_); rintro e w34 ⟨rfl, hb⟩; have n0_ := Aside0.mk (blk_below (g := gb107) (by (with_reducible repeat (first | refine blk_drewN ?_ _ | refine blk_drew ?_ | refine blk_alloc ?_ _)); exact BK107.out) hb); have n1_ := Aside0.mk (below_step (by repeat (first | (with_reducible first | exact HB.out | apply below_alloc | apply pw_below_drewN | apply below_drew1 | refine below_set ?_ GE107.out) | exact HB.out)) hb); clear BK107; clear HB; have BK107 := n0_; have HB := n1_; clear n0_ n1_; (try clear hb); (try clear hb2); (try clear hk); (try clear hi); obtain ⟨hcz35_0, hcz35_1, hcz35_2, hcz35_3, hcz35_4, hcz35_5, hfz35_0, hfz35_1, hfz35_2, hfz35_3, hfz35_4, hfz35_5⟩ := box6 BK107.out) | (go_at_call 34; (with_reducible refine (estoversref22_flag.calls a0_0 a0_1 a0_2 a0_3 a0_4 a0_5 2 false _ A26.out).mono ?_); rintro e w36 ⟨rfl, hb⟩; have n0_ := Aside0.mk (blk_below (g := gb107) (by (with_reducible repeat (first | refine blk_drewN ?_ _ | refine blk_drew ?_ | refine blk_alloc ?_ _)); exact BK107.out) hb); have n1_ := Aside0.mk (below_step (by repeat (first | (with_reducible first | exact HB.out | apply below_alloc | apply pw_below_drewN | apply below_drew1 | refine below_set ?_ GE107.out) | exact HB.out)) hb); clear BK107; clear HB; have BK107 := n0_; have HB := n1_; clear n0_ n1_; (try clear hb); (try clear hb2); (try clear hk); (try clear hi); obtain ⟨hcz37_0, hcz37_1, hcz37_2, hcz37_3, hcz37_4, hcz37_5, hfz37_0, hfz37_1, hfz37_2, hfz37_3, hfz37_4, hfz37_5⟩ := box6 BK107.out) | (go_at_call 34; (with_reducible refine (estoversref22_flag.calls a0_0 a0_1 a0_2 a0_3 a0_4 a0_5 8 t110 _ A32.out).mono ?_); rintro e w38 ⟨rfl, hb⟩; have n0_ := Aside0.mk (blk_below (g := gb107) (by (with_reducible repeat (first | refine blk_drewN ?_ _ | refine blk_drew ?_ | refine blk_alloc ?_ _)); exact BK107.out) hb); have n1_ := Aside0.mk (below_step (by repeat (first | (with_reducible first | exact HB.out | apply below_alloc | apply pw_below_drewN | apply below_drew1 | refine below_set ?_ GE107.out) | exact HB.out)) hb); clear BK107; clear HB; have BK107 := n0_; have HB := n1_; clear n0_ n1_; (try clear hb); (try clear hb2); (try clear hk); (try clear hi)))
            go_meet
            case rel => exact ⟨_, (t110), (by first | rfl | (simp; done) | (simp [*]; done)), H', ⟨by have := HJ1.out; have := HJ9.out; first | omega | exact Nat.le_refl _⟩, ⟨by (with_reducible repeat (first | refine blk_drewN ?_ _ | refine blk_drew ?_ | refine blk_alloc ?_ _)); exact BK107.out⟩, ⟨by repeat (first | (with_reducible first | exact HB.out | apply below_alloc | apply pw_below_drewN | apply below_drew1 | refine below_set ?_ GE107.out) | exact HB.out)⟩⟩
          ·rw [if_neg c25] at H
           have c25b0 : decide (0 ≤ a0_4) = false := decide_eq_false c25
           clear c25
           have H' := Aside0.mk H
           clear H
           obtain ⟨hcz39_0, hcz39_1, hcz39_2, hcz39_3, hcz39_4, hcz39_5, hfz39_0, hfz39_1, hfz39_2, hfz39_3, hfz39_4, hfz39_5⟩ := box6 BK107.out
           go_wp2_with (first | (go_at_call 34; (with_reducible refine (estoversref22_flag.calls a0_0 a0_1 a0_2 a0_3 a0_4 a0_5 1 false _ A21.out).mono ?_); rintro e w40 ⟨rfl, hb⟩; have n0_ := Aside0.mk (blk_below (g := gb107) (by (with_reducible repeat (first | refine blk_drewN ?_ _ | refine blk_drew ?_ | refine blk_alloc ?_ _)); exact BK107.out) hb); have n1_ := Aside0.mk (below_step (by repeat (first | (with_reducible first | exact HB.out | apply below_alloc | apply pw_below_drewN | apply below_drew1 | refine below_set ?_ GE107.out) | exact HB.out)) hb); clear BK107; clear HB; have BK107 := n0_; have HB := n1_; clear n0_ n1_; (try clear hb); (try clear hb2); (try clear hk); (try clear hi); obtain ⟨hcz41_0, hcz41_1, hcz41_2, hcz41_3, hcz41_4, hcz41_5, hfz41_0, hfz41_1, hfz41_2, hfz41_3, hfz41_4, hfz41_5⟩ := box6 BK107.out))
           go_meet
           case rel => exact ⟨_, (false), (by first | rfl | (simp; done) | (simp [*]; done)), H', ⟨by have := HJ1.out; have := HJ9.out; first | omega | exact Nat.le_refl _⟩, ⟨by (with_reducible repeat (first | refine blk_drewN ?_ _ | refine blk_drew ?_ | refine blk_alloc ?_ _)); exact BK107.out⟩, ⟨by repeat (first | (with_reducible first | exact HB.out | apply below_alloc | apply pw_below_drewN | apply below_drew1 | refine below_set ?_ GE107.out) | exact HB.out)⟩⟩
        ·rw [if_neg c20] at H
         have c20b0 : decide (a0_4 < 0) = false := decide_eq_false c20
         clear c20
         (first | rw [c20b0] | (simp only [i64_w, i32_w]; rw [c20b0]) | skip)
         by_cases c42 : a0_4 ≥ 0
         ·rw [if_pos c42] at H
          have c42b0 : decide (0 ≤ a0_4) = true := decide_eq_true c42
          clear c42
          replace H := Option.bind_eq_some_iff.mp H
          obtain ⟨t111, A430, H⟩ := H
          replace H : (if t111 = true then (estoversref22_Check.j2 kj9 true a0_0 a0_1 a0_2 a0_3 a0_4 a0_5) else ((estoversref22_flag.f a0_0 a0_1 a0_2 a0_3 a0_4 a0_5 8).bind fun t112 => (estoversref22_Check.j2 kj9 t112 a0_0 a0_1 a0_2 a0_3 a0_4 a0_5))) = some r := H
          have A43 := Aside0.mk A430
          clear A430
          by_cases c44 : t111 = true
          ·subst c44
           have H1 : (estoversref22_Check.j2 kj9 true a0_0 a0_1 a0_2 a0_3 a0_4 a0_5) = some r := by rw [if_pos rfl] at H; exact H
           clear H
           have H := H1
           clear H1
           have H' := Aside0.mk H
           clear H
           obtain ⟨hcz45_0, hcz45_1, hcz45_2, hcz45_3, hcz45_4, hcz45_5, hfz45_0, hfz45_1, hfz45_2, hfz45_3, hfz45_4, hfz45_5⟩ := box6 BK107.out
           go_wp2_with (first | (go_at_call 34; (with_reducible refine (estoversref22_flag.calls a0_0 a0_1 a0_2 a0_3 a0_4 a0_5 2 true _ A43.out).mono ?_); rintro e w46 ⟨rfl, hb⟩; have n0_ := Aside0.mk (blk_below (g := gb107) (by (with_reducible repeat (first | refine blk_drewN ?_ _ | refine blk_drew ?_ | refine blk_alloc ?_ _)); exact BK107.out) hb); have n1_ := Aside0.mk (below_step (by repeat (first | (with_reducible first | exact HB.out | apply below_alloc | apply pw_below_drewN | apply below_drew1 | refine below_set ?_ GE107.out) | exact HB.out)) hb); clear BK107; clear HB; have BK107 := n0_; have HB := n1_; clear n0_ n1_; (try clear hb); (try clear hb2); (try clear hk); (try clear hi)))
           go_meet
           case rel => exact ⟨_, (true), (by first | rfl | (simp; done) | (simp [*]; done)), H', ⟨by have := HJ1.out; have := HJ9.out; first | omega | exact Nat.le_refl _⟩, ⟨by (with_reducible repeat (first | refine blk_drewN ?_ _ | refine blk_drew ?_ | refine blk_alloc ?_ _)); exact BK107.out⟩, ⟨by repeat (first | (with_reducible first | exact HB.out | apply below_alloc | apply pw_below_drewN | apply below_drew1 | refine below_set ?_ GE107.out) | exact HB.out)⟩⟩
          ·replace c44 := Bool.eq_false_iff.mpr c44
           subst c44
           have H1 : ((estoversref22_flag.f a0_0 a0_1 a0_2 a0_3 a0_4 a0_5 8).bind fun t112 => (estoversref22_Check.j2 kj9 t112 a0_0 a0_1 a0_2 a0_3 a0_4 a0_5)) = some r := by rw [if_neg (show ¬ (false = true) by decide)] at H; exact H
           clear H
           have H := H1
           clear H1
           replace H := Option.bind_eq_some_iff.mp H
           obtain ⟨t112, A470, H⟩ := H
           replace H : (estoversref22_Check.j2 kj9 t112 a0_0 a0_1 a0_2 a0_3 a0_4 a0_5) = some r := H
           have A47 := Aside0.mk A470
           clear A470
           have H' := Aside0.mk H
           clear H
           obtain ⟨hcz48_0, hcz48_1, hcz48_2, hcz48_3, hcz48_4, hcz48_5, hfz48_0, hfz48_1, hfz48_2, hfz48_3, hfz48_4, hfz48_5⟩ := box6 BK107.out
           go_wp2_with (first | (go_at_call 34; (with_reducible refine (estoversref22_flag.calls a0_0 a0_1 a0_2 a0_3 a0_4 a0_5 2 false _ A43.out).mono ?_); rintro e w49 ⟨rfl, hb⟩; have n0_ := Aside0.mk (blk_below (g := gb107) (by (with_reducible repeat (first | refine blk_drewN ?_ _ | refine blk_drew ?_ | refine blk_alloc ?_ _)); exact BK107.out) hb); have n1_ := Aside0.mk (below_step (by repeat (first | (with_reducible first | exact HB.out | apply below_alloc | apply pw_below_drewN | apply below_drew1 | refine below_set ?_ GE107.out) | exact HB.out)) hb); clear BK107; clear HB; have BK107 := n0_; have HB := n1_; clear n0_ n1_; (try clear hb); (try clear hb2); (try clear hk); (try clear hi); obtain ⟨hcz50_0, hcz50_1, hcz50_2, hcz50_3, hcz50_4, hcz50_5, hfz50_0, hfz50_1, hfz50_2, hfz50_3, hfz50_4, hfz50_5⟩ := box6 BK107.out) | (go_at_call 34; (with_reducible refine (estoversref22_flag.calls a0_0 a0_1 a0_2 a0_3 a0_4 a0_5 8 t112 _ A47.out).mono ?_); rintro e w51 ⟨rfl, hb⟩; have n0_ := Aside0.mk (blk_below (g := gb107) (by (with_reducible repeat (first | refine blk_drewN ?_ _ | refine blk_drew ?_ | refine blk_alloc ?_ _)); exact BK107.out) hb); have n1_ := Aside0.mk (below_step (by repeat (first | (with_reducible first | exact HB.out | apply below_alloc | apply pw_below_drewN | apply below_drew1 | refine below_set ?_ GE107.out) | exact HB.out)) hb); clear BK107; clear HB; have BK107 := n0_; have HB := n1_; clear n0_ n1_; (try clear hb); (try clear hb2); (try clear hk); (try clear hi)))
           go_meet
           case rel => exact ⟨_, (t112), (by first | rfl | (simp; done) | (simp [*]; done)), H', ⟨by have := HJ1.out; have := HJ9.out; first | omega | exact Nat.le_refl _⟩, ⟨by (with_reducible repeat (first | refine blk_drewN ?_ _ | refine blk_drew ?_ | refine blk_alloc ?_ _)); exact BK107.out⟩, ⟨by repeat (first | (with_reducible first | exact HB.out | apply below_alloc | apply pw_below_drewN | apply below_drew1 | refine below_set ?_ GE107.out) | exact HB.out)⟩⟩
         ·rw [if_neg c42] at H
          have c42b0 : decide (0 ≤ a0_4) = false := decide_eq_false c42
          clear c42
          have H' := Aside0.mk H
          clear H
          obtain ⟨hcz52_0, hcz52_1, hcz52_2, hcz52_3, hcz52_4, hcz52_5, hfz52_0, hfz52_1, hfz52_2, hfz52_3, hfz52_4, hfz52_5⟩ := box6 BK107.out
          go_wp2
          go_meet
          case rel => exact ⟨_, (false), (by first | rfl | (simp; done) | (simp [*]; done)), H', ⟨by have := HJ1.out; have := HJ9.out; first | omega | exact Nat.le_refl _⟩, ⟨by (with_reducible repeat (first | refine blk_drewN ?_ _ | refine blk_drew ?_ | refine blk_alloc ?_ _)); exact BK107.out⟩, ⟨by repeat (first | (with_reducible first | exact HB.out | apply below_alloc | apply pw_below_drewN | apply below_drew1 | refine below_set ?_ GE107.out) | exact HB.out)⟩⟩
       case rest =>
        clear HC19
        (try clear hcz12_0 hcz12_1 hcz12_2 hcz12_3 hcz12_4 hcz12_5 hfz12_0 hfz12_1 hfz12_2 hfz12_3 hfz12_4 hfz12_5); (try clear hcz14_0 hcz14_1 hcz14_2 hcz14_3 hcz14_4 hcz14_5 hfz14_0 hfz14_1 hfz14_2 hfz14_3 hfz14_4 hfz14_5); (try clear hcz16_0 hcz16_1 hcz16_2 hcz16_3 hcz16_4 hcz16_5 hfz16_0 hfz16_1 hfz16_2 hfz16_3 hfz16_4 hfz16_5); (try clear hcz17_0 hcz17_1 hcz17_2 hcz17_3 hcz17_4 hcz17_5 hfz17_0 hfz17_1 hfz17_2 hfz17_3 hfz17_4 hfz17_5); (try clear hcz23_0 hcz23_1 hcz23_2 hcz23_3 hcz23_4 hcz23_5 hfz23_0 hfz23_1 hfz23_2 hfz23_3 hfz23_4 hfz23_5); (try clear hcz28_0 hcz28_1 hcz28_2 hcz28_3 hcz28_4 hcz28_5 hfz28_0 hfz28_1 hfz28_2 hfz28_3 hfz28_4 hfz28_5); (try clear hcz30_0 hcz30_1 hcz30_2 hcz30_3 hcz30_4 hcz30_5 hfz30_0 hfz30_1 hfz30_2 hfz30_3 hfz30_4 hfz30_5); (try clear hcz33_0 hcz33_1 hcz33_2 hcz33_3 hcz33_4 hcz33_5 hfz33_0 hfz33_1 hfz33_2 hfz33_3 hfz33_4 hfz33_5); (try clear hcz35_0 hcz35_1 hcz35_2 hcz35_3 hcz35_4 hcz35_5 hfz35_0 hfz35_1 hfz35_2 hfz35_3 hfz35_4 hfz35_5); (try clear hcz37_0 hcz37_1 hcz37_2 hcz37_3 hcz37_4 hcz37_5 hfz37_0 hfz37_1 hfz37_2 hfz37_3 hfz37_4 hfz37_5); (try clear hcz39_0 hcz39_1 hcz39_2 hcz39_3 hcz39_4 hcz39_5 hfz39_0 hfz39_1 hfz39_2 hfz39_3 hfz39_4 hfz39_5); (try clear hcz41_0 hcz41_1 hcz41_2 hcz41_3 hcz41_4 hcz41_5 hfz41_0 hfz41_1 hfz41_2 hfz41_3 hfz41_4 hfz41_5); (try clear hcz45_0 hcz45_1 hcz45_2 hcz45_3 hcz45_4 hcz45_5 hfz45_0 hfz45_1 hfz45_2 hfz45_3 hfz45_4 hfz45_5); (try clear hcz48_0 hcz48_1 hcz48_2 hcz48_3 hcz48_4 hcz48_5 hfz48_0 hfz48_1 hfz48_2 hfz48_3 hfz48_4 hfz48_5); (try clear hcz50_0 hcz50_1 hcz50_2 hcz50_3 hcz50_4 hcz50_5 hfz50_0 hfz50_1 hfz50_2 hfz50_3 hfz50_4 hfz50_5); (try clear hcz52_0 hcz52_1 hcz52_2 hcz52_3 hcz52_4 hcz52_5 hfz52_0 hfz52_1 hfz52_2 hfz52_3 hfz52_4 hfz52_5); (try clear hcz5_0 hcz5_1 hcz5_2 hcz5_3 hcz5_4 hcz5_5 hfz5_0 hfz5_1 hfz5_2 hfz5_3 hfz5_4 hfz5_5); (try clear hcz7_0 hcz7_1 hcz7_2 hcz7_3 hcz7_4 hcz7_5 hfz7_0 hfz7_1 hfz7_2 hfz7_3 hfz7_4 hfz7_5); (try clear hcz8_0 hcz8_1 hcz8_2 hcz8_3 hcz8_4 hcz8_5 hfz8_0 hfz8_1 hfz8_2 hfz8_3 hfz8_4 hfz8_5); (try clear c1); (try clear c2); (try clear p2); (try clear c4); (try clear c4b0); (try clear c6); (try clear c6b0); (try clear c6b1); (try clear c9); (try clear c11); (try clear c11b0); (try clear c12); (try clear c13); (try clear c13b0); (try clear c15); (try clear c15b0); (try clear c18); (try clear c20); (try clear c20b0); (try clear c22); (try clear c25); (try clear c25b0); (try clear c27); (try clear c42); (try clear c42b0); (try clear c44); (try clear p2)
        obtain ⟨kq, x53_18, rfl, HA, HJ18, BK107, HB⟩ := hcut
        cases kq with
        | zero => exact absurd HA.out (by simp [estoversref22_Check.j2])
        | succ kj18 =>
         have H := HA.out
         clear HA
         simp only [estoversref22_Check.j2] at H
         by_cases c53 : x53_18 = true
         ·subst c53
          have H1 : (some 1) = some r := by rw [if_pos rfl] at H; exact H
          clear H
          have H := H1
          clear H1
          obtain rfl := Option.some.inj H
          go_wp2
          go_ret
          exact ⟨by first | rfl | (simp [errW_none, errW_some] <;> rfl) | (simp [*, errW_none, errW_some] <;> rfl), by repeat (first | (with_reducible first | exact HB.out | apply below_alloc | apply pw_below_drewN | apply below_drew1 | refine below_set ?_ GE107.out) | exact HB.out)⟩
         ·replace c53 := Bool.eq_false_iff.mpr c53
          subst c53
          have H1 : (if a0_0 < 0 then (estoversref22_Check.j3 kj18 true a0_0 a0_1 a0_2 a0_3 a0_4 a0_5) else (if a0_1 > 512 then (estoversref22_Check.j3 kj18 true a0_0 a0_1 a0_2 a0_3 a0_4 a0_5) else (if a0_0 > (wrap64 (512 - a0_1)) then (estoversref22_Check.j3 kj18 true a0_0 a0_1 a0_2 a0_3 a0_4 a0_5) else (estoversref22_Check.j3 kj18 (decide (a0_5 < 0)) a0_0 a0_1 a0_2 a0_3 a0_4 a0_5)))) = some r := by rw [if_neg (show ¬ (false = true) by decide)] at H; exact H
          clear H
          have H := H1
          clear H1
          have HC54 := Aside0.mk H
          clear H
          go_upto_region 7 with (fail)
          go_cut [74] (fun v74 wc => ∃ (kq : Nat) (x74_53 : Bool), v74 = .bool x74_53 ∧ Aside0 (estoversref22_Check.j3 kq x74_53 a0_0 a0_1 a0_2 a0_3 a0_4 a0_5 = some r) ∧ Aside0 (kq ≤ kj18) ∧ Aside0 (wc.heap[gb107]? = some (.cells #[.int .i64 a0_0, .int .i64 a0_1, .int .i64 a0_2, .int .i64 a0_3, .int .i64 a0_4, .int .i64 a0_5] 23 (0, 0))) ∧ Aside0 (Below w.heap.size w wc))
          case first =>
           have H := HC54.out
           clear HC54
           by_cases c55 : a0_0 < 0
           ·rw [if_pos c55] at H
            have c55b0 : decide (a0_0 < 0) = true := decide_eq_true c55
            clear c55
            (first | rw [c55b0] | (simp only [i64_w, i32_w]; rw [c55b0]) | skip)
            have H' := Aside0.mk H
            clear H
            obtain ⟨hcz56_0, hcz56_1, hcz56_2, hcz56_3, hcz56_4, hcz56_5, hfz56_0, hfz56_1, hfz56_2, hfz56_3, hfz56_4, hfz56_5⟩ := box6 BK107.out
            go_wp2
            go_meet
            case rel => exact ⟨_, (true), (by first | rfl | (simp; done) | (simp [*]; done)), H', ⟨by have := HJ1.out; have := HJ9.out; have := HJ18.out; first | omega | exact Nat.le_refl _⟩, ⟨by (with_reducible repeat (first | refine blk_drewN ?_ _ | refine blk_drew ?_ | refine blk_alloc ?_ _)); exact BK107.out⟩, ⟨by repeat (first | (with_reducible first | exact HB.out | apply below_alloc | apply pw_below_drewN | apply below_drew1 | refine below_set ?_ GE107.out) | exact HB.out)⟩⟩
           ·rw [if_neg c55] at H
            have c55b0 : decide (a0_0 < 0) = false := decide_eq_false c55
            clear c55
            (first | rw [c55b0] | (simp only [i64_w, i32_w]; rw [c55b0]) | skip)
            by_cases c57 : a0_1 > 512
            ·rw [if_pos c57] at H
             have c57b0 : decide (512 < a0_1) = true := decide_eq_true c57
             clear c57
             have H' := Aside0.mk H
             clear H
             obtain ⟨hcz58_0, hcz58_1, hcz58_2, hcz58_3, hcz58_4, hcz58_5, hfz58_0, hfz58_1, hfz58_2, hfz58_3, hfz58_4, hfz58_5⟩ := box6 BK107.out
             go_wp2
             go_meet
             case rel => exact ⟨_, (true), (by first | rfl | (simp; done) | (simp [*]; done)), H', ⟨by have := HJ1.out; have := HJ9.out; have := HJ18.out; first | omega | exact Nat.le_refl _⟩, ⟨by (with_reducible repeat (first | refine blk_drewN ?_ _ | refine blk_drew ?_ | refine blk_alloc ?_ _)); exact BK107.out⟩, ⟨by repeat (first | (with_reducible first | exact HB.out | apply below_alloc | apply pw_below_drewN | apply below_drew1 | refine below_set ?_ GE107.out) | exact HB.out)⟩⟩
            ·rw [if_neg c57] at H
             have c57b0 : decide (512 < a0_1) = false := decide_eq_false c57
             clear c57
             by_cases c59 : a0_0 > (wrap64 (512 - a0_1))
             ·rw [if_pos c59] at H
              have c59b0 : decide ((wrap64 (512 - a0_1)) < a0_0) = true := decide_eq_true c59
              clear c59
              have H' := Aside0.mk H
              clear H
              obtain ⟨hcz60_0, hcz60_1, hcz60_2, hcz60_3, hcz60_4, hcz60_5, hfz60_0, hfz60_1, hfz60_2, hfz60_3, hfz60_4, hfz60_5⟩ := box6 BK107.out
              go_wp2
              go_meet
              case rel => exact ⟨_, (true), (by first | rfl | (simp; done) | (simp [*]; done)), H', ⟨by have := HJ1.out; have := HJ9.out; have := HJ18.out; first | omega | exact Nat.le_refl _⟩, ⟨by (with_reducible repeat (first | refine blk_drewN ?_ _ | refine blk_drew ?_ | refine blk_alloc ?_ _)); exact BK107.out⟩, ⟨by repeat (first | (with_reducible first | exact HB.out | apply below_alloc | apply pw_below_drewN | apply below_drew1 | refine below_set ?_ GE107.out) | exact HB.out)⟩⟩
             ·rw [if_neg c59] at H
              have c59b0 : decide ((wrap64 (512 - a0_1)) < a0_0) = false := decide_eq_false c59
              clear c59
              have H' := Aside0.mk H
              clear H
              obtain ⟨hcz61_0, hcz61_1, hcz61_2, hcz61_3, hcz61_4, hcz61_5, hfz61_0, hfz61_1, hfz61_2, hfz61_3, hfz61_4, hfz61_5⟩ := box6 BK107.out
              go_wp2
              go_meet
              case rel => exact ⟨_, (decide (a0_5 < 0)), (by first | rfl | (simp; done) | (simp [*]; done)), H', ⟨by have := HJ1.out; have := HJ9.out; have := HJ18.out; first | omega | exact Nat.le_refl _⟩, ⟨by (with_reducible repeat (first | refine blk_drewN ?_ _ | refine blk_drew ?_ | refine blk_alloc ?_ _)); exact BK107.out⟩, ⟨by repeat (first | (with_reducible first | exact HB.out | apply below_alloc | apply pw_below_drewN | apply below_drew1 | refine below_set ?_ GE107.out) | exact HB.out)⟩⟩
          case rest =>
           clear HC54
           (try clear hcz12_0 hcz12_1 hcz12_2 hcz12_3 hcz12_4 hcz12_5 hfz12_0 hfz12_1 hfz12_2 hfz12_3 hfz12_4 hfz12_5); (try clear hcz14_0 hcz14_1 hcz14_2 hcz14_3 hcz14_4 hcz14_5 hfz14_0 hfz14_1 hfz14_2 hfz14_3 hfz14_4 hfz14_5); (try clear hcz16_0 hcz16_1 hcz16_2 hcz16_3 hcz16_4 hcz16_5 hfz16_0 hfz16_1 hfz16_2 hfz16_3 hfz16_4 hfz16_5); (try clear hcz17_0 hcz17_1 hcz17_2 hcz17_3 hcz17_4 hcz17_5 hfz17_0 hfz17_1 hfz17_2 hfz17_3 hfz17_4 hfz17_5); (try clear hcz23_0 hcz23_1 hcz23_2 hcz23_3 hcz23_4 hcz23_5 hfz23_0 hfz23_1 hfz23_2 hfz23_3 hfz23_4 hfz23_5); (try clear hcz28_0 hcz28_1 hcz28_2 hcz28_3 hcz28_4 hcz28_5 hfz28_0 hfz28_1 hfz28_2 hfz28_3 hfz28_4 hfz28_5); (try clear hcz30_0 hcz30_1 hcz30_2 hcz30_3 hcz30_4 hcz30_5 hfz30_0 hfz30_1 hfz30_2 hfz30_3 hfz30_4 hfz30_5); (try clear hcz33_0 hcz33_1 hcz33_2 hcz33_3 hcz33_4 hcz33_5 hfz33_0 hfz33_1 hfz33_2 hfz33_3 hfz33_4 hfz33_5); (try clear hcz35_0 hcz35_1 hcz35_2 hcz35_3 hcz35_4 hcz35_5 hfz35_0 hfz35_1 hfz35_2 hfz35_3 hfz35_4 hfz35_5); (try clear hcz37_0 hcz37_1 hcz37_2 hcz37_3 hcz37_4 hcz37_5 hfz37_0 hfz37_1 hfz37_2 hfz37_3 hfz37_4 hfz37_5); (try clear hcz39_0 hcz39_1 hcz39_2 hcz39_3 hcz39_4 hcz39_5 hfz39_0 hfz39_1 hfz39_2 hfz39_3 hfz39_4 hfz39_5); (try clear hcz41_0 hcz41_1 hcz41_2 hcz41_3 hcz41_4 hcz41_5 hfz41_0 hfz41_1 hfz41_2 hfz41_3 hfz41_4 hfz41_5); (try clear hcz45_0 hcz45_1 hcz45_2 hcz45_3 hcz45_4 hcz45_5 hfz45_0 hfz45_1 hfz45_2 hfz45_3 hfz45_4 hfz45_5); (try clear hcz48_0 hcz48_1 hcz48_2 hcz48_3 hcz48_4 hcz48_5 hfz48_0 hfz48_1 hfz48_2 hfz48_3 hfz48_4 hfz48_5); (try clear hcz50_0 hcz50_1 hcz50_2 hcz50_3 hcz50_4 hcz50_5 hfz50_0 hfz50_1 hfz50_2 hfz50_3 hfz50_4 hfz50_5); (try clear hcz52_0 hcz52_1 hcz52_2 hcz52_3 hcz52_4 hcz52_5 hfz52_0 hfz52_1 hfz52_2 hfz52_3 hfz52_4 hfz52_5); (try clear hcz56_0 hcz56_1 hcz56_2 hcz56_3 hcz56_4 hcz56_5 hfz56_0 hfz56_1 hfz56_2 hfz56_3 hfz56_4 hfz56_5); (try clear hcz58_0 hcz58_1 hcz58_2 hcz58_3 hcz58_4 hcz58_5 hfz58_0 hfz58_1 hfz58_2 hfz58_3 hfz58_4 hfz58_5); (try clear hcz5_0 hcz5_1 hcz5_2 hcz5_3 hcz5_4 hcz5_5 hfz5_0 hfz5_1 hfz5_2 hfz5_3 hfz5_4 hfz5_5); (try clear hcz60_0 hcz60_1 hcz60_2 hcz60_3 hcz60_4 hcz60_5 hfz60_0 hfz60_1 hfz60_2 hfz60_3 hfz60_4 hfz60_5); (try clear hcz61_0 hcz61_1 hcz61_2 hcz61_3 hcz61_4 hcz61_5 hfz61_0 hfz61_1 hfz61_2 hfz61_3 hfz61_4 hfz61_5); (try clear hcz7_0 hcz7_1 hcz7_2 hcz7_3 hcz7_4 hcz7_5 hfz7_0 hfz7_1 hfz7_2 hfz7_3 hfz7_4 hfz7_5); (try clear hcz8_0 hcz8_1 hcz8_2 hcz8_3 hcz8_4 hcz8_5 hfz8_0 hfz8_1 hfz8_2 hfz8_3 hfz8_4 hfz8_5); (try clear c1); (try clear c2); (try clear p2); (try clear c4); (try clear c4b0); (try clear c5); (try clear c6); (try clear c6b0); (try clear c6b1); (try clear p6); (try clear c9); (try clear c11); (try clear c11b0); (try clear c12); (try clear c13); (try clear c13b0); (try clear c15); (try clear c15b0); (try clear c18); (try clear c20); (try clear c20b0); (try clear c22); (try clear c25); (try clear c25b0); (try clear c27); (try clear c42); (try clear c42b0); (try clear c44); (try clear c53); (try clear c55); (try clear c55b0); (try clear c57); (try clear c57b0); (try clear c59); (try clear c59b0); (try clear p2)
           obtain ⟨kq, x74_53, rfl, HA, HJ53, BK107, HB⟩ := hcut
           cases kq with
           | zero => exact absurd HA.out (by simp [estoversref22_Check.j3])
           | succ kj53 =>
            have H := HA.out
            clear HA
            simp only [estoversref22_Check.j3] at H
            by_cases c62 : x74_53 = true
            ·subst c62
             have H1 : (some 2) = some r := by rw [if_pos rfl] at H; exact H
             clear H
             have H := H1
             clear H1
             obtain rfl := Option.some.inj H
             go_wp2
             go_ret
             exact ⟨by first | rfl | (simp [errW_none, errW_some] <;> rfl) | (simp [*, errW_none, errW_some] <;> rfl), by repeat (first | (with_reducible first | exact HB.out | apply below_alloc | apply pw_below_drewN | apply below_drew1 | refine below_set ?_ GE107.out) | exact HB.out)⟩
            ·replace c62 := Bool.eq_false_iff.mpr c62
             subst c62
             have H1 : (if a0_4 < 0 then (if a0_5 > 0 then (some 2) else (if a0_4 ≥ 0 then (if a0_1 > 16 then (some 2) else (if a0_5 > (wrap64 (16 - a0_1)) then (some 2) else (some 0))) else (some 0))) else (if a0_4 ≥ 0 then (if a0_1 > 16 then (some 2) else (if a0_5 > (wrap64 (16 - a0_1)) then (some 2) else (some 0))) else (some 0))) = some r := by rw [if_neg (show ¬ (false = true) by decide)] at H; exact H
             clear H
             have H := H1
             clear H1
             by_cases c63 : a0_4 < 0
             ·rw [if_pos c63] at H
              have c63b0 : decide (a0_4 < 0) = true := decide_eq_true c63
              clear c63
              by_cases c64 : a0_5 > 0
              ·rw [if_pos c64] at H
               have c64b0 : decide (0 < a0_5) = true := decide_eq_true c64
               clear c64
               obtain rfl := Option.some.inj H
               obtain ⟨hcz65_0, hcz65_1, hcz65_2, hcz65_3, hcz65_4, hcz65_5, hfz65_0, hfz65_1, hfz65_2, hfz65_3, hfz65_4, hfz65_5⟩ := box6 BK107.out
               go_wp2
               go_ret
               exact ⟨by first | rfl | (simp [errW_none, errW_some] <;> rfl) | (simp [*, errW_none, errW_some] <;> rfl), by repeat (first | (with_reducible first | exact HB.out | apply below_alloc | apply pw_below_drewN | apply below_drew1 | refine below_set ?_ GE107.out) | exact HB.out)⟩
              ·rw [if_neg c64] at H
               have c64b0 : decide (0 < a0_5) = false := decide_eq_false c64
               clear c64
               by_cases c66 : a0_4 ≥ 0
               ·rw [if_pos c66] at H
                have c66b0 : decide (0 ≤ a0_4) = true := decide_eq_true c66
                clear c66
                by_cases c67 : a0_1 > 16
                ·rw [if_pos c67] at H
                 have c67b0 : decide (16 < a0_1) = true := decide_eq_true c67
                 clear c67
                 obtain rfl := Option.some.inj H
                 obtain ⟨hcz68_0, hcz68_1, hcz68_2, hcz68_3, hcz68_4, hcz68_5, hfz68_0, hfz68_1, hfz68_2, hfz68_3, hfz68_4, hfz68_5⟩ := box6 BK107.out
                 go_wp2
                 go_ret
                 exact ⟨by first | rfl | (simp [errW_none, errW_some] <;> rfl) | (simp [*, errW_none, errW_some] <;> rfl), by repeat (first | (with_reducible first | exact HB.out | apply below_alloc | apply pw_below_drewN | apply below_drew1 | refine below_set ?_ GE107.out) | exact HB.out)⟩
                ·rw [if_neg c67] at H
                 have c67b0 : decide (16 < a0_1) = false := decide_eq_false c67
                 clear c67
                 by_cases c69 : a0_5 > (wrap64 (16 - a0_1))
                 ·rw [if_pos c69] at H
                  have c69b0 : decide ((wrap64 (16 - a0_1)) < a0_5) = true := decide_eq_true c69
                  clear c69
                  obtain rfl := Option.some.inj H
                  obtain ⟨hcz70_0, hcz70_1, hcz70_2, hcz70_3, hcz70_4, hcz70_5, hfz70_0, hfz70_1, hfz70_2, hfz70_3, hfz70_4, hfz70_5⟩ := box6 BK107.out
                  go_wp2
                  go_ret
                  exact ⟨by first | rfl | (simp [errW_none, errW_some] <;> rfl) | (simp [*, errW_none, errW_some] <;> rfl), by repeat (first | (with_reducible first | exact HB.out | apply below_alloc | apply pw_below_drewN | apply below_drew1 | refine below_set ?_ GE107.out) | exact HB.out)⟩
                 ·rw [if_neg c69] at H
                  have c69b0 : decide ((wrap64 (16 - a0_1)) < a0_5) = false := decide_eq_false c69
                  clear c69
                  obtain rfl := Option.some.inj H
                  obtain ⟨hcz71_0, hcz71_1, hcz71_2, hcz71_3, hcz71_4, hcz71_5, hfz71_0, hfz71_1, hfz71_2, hfz71_3, hfz71_4, hfz71_5⟩ := box6 BK107.out
                  go_wp2
                  go_ret
                  exact ⟨by first | rfl | (simp [errW_none, errW_some] <;> rfl) | (simp [*, errW_none, errW_some] <;> rfl), by repeat (first | (with_reducible first | exact HB.out | apply below_alloc | apply pw_below_drewN | apply below_drew1 | refine below_set ?_ GE107.out) | exact HB.out)⟩
               ·rw [if_neg c66] at H
                have c66b0 : decide (0 ≤ a0_4) = false := decide_eq_false c66
                clear c66
                obtain rfl := Option.some.inj H
                obtain ⟨hcz72_0, hcz72_1, hcz72_2, hcz72_3, hcz72_4, hcz72_5, hfz72_0, hfz72_1, hfz72_2, hfz72_3, hfz72_4, hfz72_5⟩ := box6 BK107.out
                go_wp2
                go_ret
                exact ⟨by first | rfl | (simp [errW_none, errW_some] <;> rfl) | (simp [*, errW_none, errW_some] <;> rfl), by repeat (first | (with_reducible first | exact HB.out | apply below_alloc | apply pw_below_drewN | apply below_drew1 | refine below_set ?_ GE107.out) | exact HB.out)⟩
             ·rw [if_neg c63] at H
              have c63b0 : decide (a0_4 < 0) = false := decide_eq_false c63
              clear c63
              by_cases c73 : a0_4 ≥ 0
              ·rw [if_pos c73] at H
               have c73b0 : decide (0 ≤ a0_4) = true := decide_eq_true c73
               clear c73
               by_cases c74 : a0_1 > 16
               ·rw [if_pos c74] at H
                have c74b0 : decide (16 < a0_1) = true := decide_eq_true c74
                clear c74
                obtain rfl := Option.some.inj H
                obtain ⟨hcz75_0, hcz75_1, hcz75_2, hcz75_3, hcz75_4, hcz75_5, hfz75_0, hfz75_1, hfz75_2, hfz75_3, hfz75_4, hfz75_5⟩ := box6 BK107.out
                go_wp2
                go_ret
                exact ⟨by first | rfl | (simp [errW_none, errW_some] <;> rfl) | (simp [*, errW_none, errW_some] <;> rfl), by repeat (first | (with_reducible first | exact HB.out | apply below_alloc | apply pw_below_drewN | apply below_drew1 | refine below_set ?_ GE107.out) | exact HB.out)⟩
               ·rw [if_neg c74] at H
                have c74b0 : decide (16 < a0_1) = false := decide_eq_false c74
                clear c74
                by_cases c76 : a0_5 > (wrap64 (16 - a0_1))
                ·rw [if_pos c76] at H
                 have c76b0 : decide ((wrap64 (16 - a0_1)) < a0_5) = true := decide_eq_true c76
                 clear c76
                 obtain rfl := Option.some.inj H
                 obtain ⟨hcz77_0, hcz77_1, hcz77_2, hcz77_3, hcz77_4, hcz77_5, hfz77_0, hfz77_1, hfz77_2, hfz77_3, hfz77_4, hfz77_5⟩ := box6 BK107.out
                 go_wp2
                 go_ret
                 exact ⟨by first | rfl | (simp [errW_none, errW_some] <;> rfl) | (simp [*, errW_none, errW_some] <;> rfl), by repeat (first | (with_reducible first | exact HB.out | apply below_alloc | apply pw_below_drewN | apply below_drew1 | refine below_set ?_ GE107.out) | exact HB.out)⟩
                ·rw [if_neg c76] at H
                 have c76b0 : decide ((wrap64 (16 - a0_1)) < a0_5) = false := decide_eq_false c76
                 clear c76
                 obtain rfl := Option.some.inj H
                 obtain ⟨hcz78_0, hcz78_1, hcz78_2, hcz78_3, hcz78_4, hcz78_5, hfz78_0, hfz78_1, hfz78_2, hfz78_3, hfz78_4, hfz78_5⟩ := box6 BK107.out
                 go_wp2
                 go_ret
                 exact ⟨by first | rfl | (simp [errW_none, errW_some] <;> rfl) | (simp [*, errW_none, errW_some] <;> rfl), by repeat (first | (with_reducible first | exact HB.out | apply below_alloc | apply pw_below_drewN | apply below_drew1 | refine below_set ?_ GE107.out) | exact HB.out)⟩
              ·rw [if_neg c73] at H
               have c73b0 : decide (0 ≤ a0_4) = false := decide_eq_false c73
               clear c73
               obtain rfl := Option.some.inj H
               obtain ⟨hcz79_0, hcz79_1, hcz79_2, hcz79_3, hcz79_4, hcz79_5, hfz79_0, hfz79_1, hfz79_2, hfz79_3, hfz79_4, hfz79_5⟩ := box6 BK107.out
               go_wp2
               go_ret
               exact ⟨by first | rfl | (simp [errW_none, errW_some] <;> rfl) | (simp [*, errW_none, errW_some] <;> rfl), by repeat (first | (with_reducible first | exact HB.out | apply below_alloc | apply pw_below_drewN | apply below_drew1 | refine below_set ?_ GE107.out) | exact HB.out)⟩

end Go.Proofs.Ytajephbmbdnjpaa.Reg
