/- Turned out by a program of this session (wip/tools/prt.py). -/
import Derived.Test.YtpfbajjpommjmaaTopx0
import Derived.Test.YtpfbajjpommjmaaTopx5
namespace Go.Proofs.Ytpfbajjpommjmaa.Top
open Go.RowKit Go.Proofs.YtpfbajjpommjmaaW.PrintWords Go.Proofs.YtpfbajjpommjmaaW.PrintLast Go.Proofs.YtpfbajjpommjmaaW.PrintMore
attribute [local go_sem] max2_int min2_int max_two min_two max_three min_three max_four min_four   -- for this text's walks alone
set_option linter.unusedVariables false
set_option linter.unusedSimpArgs false

/-! ### device_request: function 16 -/
mutual
def device_request.j0 : Nat → Int → Bool → Int → Int → List (List Int) → List (S60) → List (S43) → Int → Int → Int → List Int → Option (Int)
 | 0, _, _, _, _, _, _, _, _, _, _, _ => none
 | k + 1, x6, x7, x106000, x106001, x106002, x106003, x106004, x107000, x107001, x107002, x107003 => if x7 = true then (if x107002 < 0 then (device_request.j1 k true x107000 x107001 x107002 x107003) else (device_request.j1 k (decide (x107002 ≥ (x106002.length : Int))) x107000 x107001 x107002 x107003)) else (if x6 = 3 then (if x107002 = 0 then (if x107001 = 2 then ((device_page.f x107003).bind fun t108 => (if t108 = true then (some 0) else (some 3))) else (if (x107003.length : Int) = 0 then (some 0) else (some 3))) else (some 2)) else (some 1))
def device_request.j1 : Nat → Bool → Int → Int → Int → List Int → Option (Int)
 | 0, _, _, _, _, _ => none
 | k + 1, x20, x107000, x107001, x107002, x107003 => if x20 = true then (some 2) else (if x107001 = 2 then ((device_page.f x107003).bind fun t107 => (if t107 = true then (some 0) else (some 3))) else (if (x107003.length : Int) = 0 then (some 0) else (some 3)))
end
def device_request.f (k : Nat) (a0_0 : Int) (a0_1 : Int) (l0_2 : List (List Int)) (l0_3 : List (S60)) (l0_4 : List (S43)) (a1_0 : Int) (a1_1 : Int) (a1_2 : Int) (l1_3 : List Int) : Option (Int) := if a1_1 = 1 then (device_request.j0 k a1_1 (a1_1 == 1) a0_0 a0_1 l0_2 l0_3 l0_4 a1_0 a1_1 a1_2 l1_3) else (device_request.j0 k a1_1 (a1_1 == 2) a0_0 a0_1 l0_2 l0_3 l0_4 a1_0 a1_1 a1_2 l1_3)
theorem device_request.mono_l : ∀ k, (∀ y0 y1 y2 y3 y4 y5 y6 y7 y8 y9 y10, LeO (device_request.j0 k y0 y1 y2 y3 y4 y5 y6 y7 y8 y9 y10) (device_request.j0 (k + 1) y0 y1 y2 y3 y4 y5 y6 y7 y8 y9 y10)) ∧ (∀ y0 y1 y2 y3 y4, LeO (device_request.j1 k y0 y1 y2 y3 y4) (device_request.j1 (k + 1) y0 y1 y2 y3 y4))
 | 0 => ⟨fun _ _ _ _ _ _ _ _ _ _ _ r h => by simp [device_request.j0] at h, fun _ _ _ _ _ r h => by simp [device_request.j1] at h⟩
 | k + 1 => by
  obtain ⟨ih0, ih1⟩ := device_request.mono_l k
  refine ⟨?_, ?_⟩
  ·intro y0 y1 y2 y3 y4 y5 y6 y7 y8 y9 y10
   unfold device_request.j0
   repeat' first
   | (with_reducible exact ih0 _ _ _ _ _ _ _ _ _ _ _)
   | (with_reducible exact ih1 _ _ _ _ _)
   | (with_reducible exact LeO.refl _)
   | (with_reducible exact LeO.none _)
   | (with_reducible refine LeO.ite ?_ ?_)
   | (with_reducible refine LeO.bind ?_ (fun _ => ?_))
   | exact ih0 _ _ _ _ _ _ _ _ _ _ _
   | exact ih1 _ _ _ _ _
   | exact LeO.none _
   | refine LeO.ite ?_ ?_
   | refine LeO.bind ?_ (fun _ => ?_)
  ·intro y0 y1 y2 y3 y4
   unfold device_request.j1
   repeat' first
   | (with_reducible exact ih0 _ _ _ _ _ _ _ _ _ _ _)
   | (with_reducible exact ih1 _ _ _ _ _)
   | (with_reducible exact LeO.refl _)
   | (with_reducible exact LeO.none _)
   | (with_reducible refine LeO.ite ?_ ?_)
   | (with_reducible refine LeO.bind ?_ (fun _ => ?_))
   | exact ih0 _ _ _ _ _ _ _ _ _ _ _
   | exact ih1 _ _ _ _ _
   | exact LeO.none _
   | refine LeO.ite ?_ ?_
   | refine LeO.bind ?_ (fun _ => ?_)
theorem device_request.mono : ∀ a0 a1 a2 a3 a4 a5 a6 a7 a8 k, LeO (device_request.f k a0 a1 a2 a3 a4 a5 a6 a7 a8) (device_request.f (k + 1) a0 a1 a2 a3 a4 a5 a6 a7 a8) := by
 intro a0 a1 a2 a3 a4 a5 a6 a7 a8 k
 obtain ⟨ih0, ih1⟩ := device_request.mono_l k
 unfold device_request.f
 repeat' first
   | (with_reducible exact ih0 _ _ _ _ _ _ _ _ _ _ _)
   | (with_reducible exact ih1 _ _ _ _ _)
   | (with_reducible exact LeO.refl _)
   | (with_reducible exact LeO.none _)
   | (with_reducible refine LeO.ite ?_ ?_)
   | (with_reducible refine LeO.bind ?_ (fun _ => ?_))
   | exact ih0 _ _ _ _ _ _ _ _ _ _ _
   | exact ih1 _ _ _ _ _
   | exact LeO.none _
   | refine LeO.ite ?_ ?_
   | refine LeO.bind ?_ (fun _ => ?_)
set_option maxHeartbeats 8000000 in
set_option maxRecDepth 100000 in
theorem device_request.calls (k : Nat) (a0_0 : Int) (a0_1 : Int) (A0_2 : Option Addr) (c0_2 : Nat) (l0_2 : List (List Int)) (A0_3 : Option Addr) (c0_3 : Nat) (l0_3 : List (S60)) (A0_4 : Option Addr) (c0_4 : Nat) (l0_4 : List (S43)) (a1_0 : Int) (a1_1 : Int) (a1_2 : Int) (A1_3 : Option Addr) (c1_3 : Nat) (l1_3 : List Int) (r : Int) (w : World) (hr0_2 : Kd.C (Kd.slice 5 (Kd.int .u8)) w A0_2 l0_2.length l0_2) (hc0_2 : l0_2.length ≤ c0_2) (hr0_3 : Kd.C k60 w A0_3 l0_3.length l0_3) (hc0_3 : l0_3.length ≤ c0_3) (hr0_4 : Kd.C k43 w A0_4 l0_4.length l0_4) (hc0_4 : l0_4.length ≤ c0_4) (hr1_3 : Kd.C (Kd.int .u8) w A1_3 l1_3.length l1_3) (hc1_3 : l1_3.length ≤ c1_3) (h : device_request.f k a0_0 a0_1 l0_2 l0_3 l0_4 a1_0 a1_1 a1_2 l1_3 = some r) :
  Calls Try.prog 16 #[.agg #[.int .i64 a0_0, .int .i64 a0_1, .slice A0_2 l0_2.length c0_2, .slice A0_3 l0_3.length c0_3, .slice A0_4 l0_4.length c0_4], .agg #[.int .i64 a1_0, .int .i64 a1_1, .int .i64 a1_2, .slice A1_3 l1_3.length c1_3]] w fun e w' => e = .returned (.int .i64 r) ∧ Below w.heap.size w w' := by
 have hu33 := Try.underlying33
 have hu43 := Try.underlying43
 have HR0_2 := Aside0.mk hr0_2
 have HC0_2 := Aside0.mk hc0_2
 clear hr0_2 hc0_2
 have HR0_3 := Aside0.mk hr0_3
 have HC0_3 := Aside0.mk hc0_3
 clear hr0_3 hc0_3
 have HR0_4 := Aside0.mk hr0_4
 have HC0_4 := Aside0.mk hc0_4
 clear hr0_4 hc0_4
 have HR1_3 := Aside0.mk hr1_3
 have HC1_3 := Aside0.mk hc1_3
 clear hr1_3 hc1_3
 have HB := Aside0.mk (Below.refl w.heap.size w)
 have H : (if a1_1 = 1 then (device_request.j0 k a1_1 (a1_1 == 1) a0_0 a0_1 l0_2 l0_3 l0_4 a1_0 a1_1 a1_2 l1_3) else (device_request.j0 k a1_1 (a1_1 == 2) a0_0 a0_1 l0_2 l0_3 l0_4 a1_0 a1_1 a1_2 l1_3)) = some r := h
 clear h
 have HC3 := Aside0.mk H
 clear H
 go_enter Try.func16, Try.ntmps16
 go_upto_if 7 with (first | ((with_reducible refine gate_dst (N := 2) rfl ?_); (try (refine gate_guard (by rfl) ?_; dsimp only)); refine box_event ?hg (N := 2) ?hd (cs := #[.int .i64 a0_0, .int .i64 a0_1, .slice A0_2 l0_2.length c0_2, .slice A0_3 l0_3.length c0_3, .slice A0_4 l0_4.length c0_4]) (t := 33) ?hr ?_; (case hd => rfl); (case hg => rfl); (case hr => first | (go_simp; done) | (go_simp; rfl)); intro gb105 hg w4 hbox hb; have n0_ := Aside0.mk (below_step (by repeat (first | (with_reducible first | exact HB.out | apply below_alloc | apply pw_below_drewN | apply below_drew1) | exact HB.out)) hb); have n1_ := Aside0.mk (hbox); have n2_ := Aside0.mk ((by rw [hg]; exact (below_size (by repeat (first | (with_reducible first | exact HB.out | apply below_alloc | apply pw_below_drewN | apply below_drew1) | exact HB.out))) : w.heap.size ≤ gb105)); have n3_ := Aside0.mk ((by rw [hg]; exact (below_size (by repeat (first | (with_reducible first | exact HB.out | apply below_alloc | apply pw_below_drewN | apply below_drew1) | exact HB.out))) : w.heap.size ≤ gb105)); clear HB; have HB := n0_; have BK105 := n1_; have GW105 := n2_; have GE105 := n3_; clear n0_ n1_ n2_ n3_; clear hb hbox hg) | ((with_reducible refine gate_dst (N := 3) rfl ?_); (try (refine gate_guard (by rfl) ?_; dsimp only)); refine box_event ?hg (N := 3) ?hd (cs := #[.int .i64 a1_0, .int .i64 a1_1, .int .i64 a1_2, .slice A1_3 l1_3.length c1_3]) (t := 43) ?hr ?_; (case hd => rfl); (case hg => rfl); (case hr => first | (go_simp; done) | (go_simp; rfl)); intro gb106 hg w5 hbox hb; have n0_ := Aside0.mk (blk_below (g := gb105) (by (with_reducible repeat (first | refine blk_drewN ?_ _ | refine blk_drew ?_ | refine blk_alloc ?_ _)); exact BK105.out) hb); have n1_ := Aside0.mk (below_step (by repeat (first | (with_reducible first | exact HB.out | apply below_alloc | apply pw_below_drewN | apply below_drew1 | refine below_set ?_ GE105.out) | exact HB.out)) hb); have n2_ := Aside0.mk (hbox); have n3_ := Aside0.mk ((by rw [hg]; exact (below_size (by repeat (first | (with_reducible first | exact HB.out | apply below_alloc | apply pw_below_drewN | apply below_drew1 | refine below_set ?_ GE105.out) | exact HB.out))) : w.heap.size ≤ gb106)); have n4_ := Aside0.mk ((by rw [hg]; exact (below_size (by repeat (first | (with_reducible first | exact HB.out | apply below_alloc | apply pw_below_drewN | apply below_drew1 | refine below_set ?_ GE105.out) | exact HB.out))) : w.heap.size ≤ gb106)); have n5_ := Aside0.mk ((by rw [hg]; exact Nat.ne_of_lt (blk_lt (g := gb105) (by (with_reducible repeat (first | refine blk_drewN ?_ _ | refine blk_drew ?_ | refine blk_alloc ?_ _)); exact BK105.out)) : gb105 ≠ gb106)); have n6_ := Aside0.mk ((by rw [hg]; exact Nat.ne_of_gt (blk_lt (g := gb105) (by (with_reducible repeat (first | refine blk_drewN ?_ _ | refine blk_drew ?_ | refine blk_alloc ?_ _)); exact BK105.out)) : gb106 ≠ gb105)); clear BK105; clear HB; have BK105 := n0_; have HB := n1_; have BK106 := n2_; have GW106 := n3_; have GE106 := n4_; have NB105_106 := n5_; have NB106_105 := n6_; clear n0_ n1_ n2_ n3_ n4_ n5_ n6_; clear hb hbox hg; have hnb6 := NB106_105.out; have hnc6 := NB105_106.out; have hcz7_0 : w5.cell? ⟨gb106, 0, none⟩ = some (.int .i64 a1_0) := (blk_cell BK106.out 0).trans rfl; have hcz7_1 : w5.cell? ⟨gb106, 1, none⟩ = some (.int .i64 a1_1) := (blk_cell BK106.out 1).trans rfl; have hcz7_2 : w5.cell? ⟨gb106, 2, none⟩ = some (.int .i64 a1_2) := (blk_cell BK106.out 2).trans rfl; have hcz7_3 : w5.cell? ⟨gb106, 3, none⟩ = some (.slice A1_3 l1_3.length c1_3) := (blk_cell BK106.out 3).trans rfl; have hfz7_0 := blk_frozen BK106.out 0; have hfz7_1 := blk_frozen BK106.out 1; have hfz7_2 := blk_frozen BK106.out 2; have hfz7_3 := blk_frozen BK106.out 3))
 (try simp only [Act.put, List.setIfInBounds_toArray, List.set_cons_zero, List.set_cons_succ])
 go_cut [7] (fun v7 wc => ∃ (kq : Nat) (x7_2 : Bool), v7 = .bool x7_2 ∧ Aside0 (device_request.j0 kq a1_1 x7_2 a0_0 a0_1 l0_2 l0_3 l0_4 a1_0 a1_1 a1_2 l1_3 = some r) ∧ Aside0 (kq ≤ k) ∧ Aside0 (wc.heap[gb105]? = some (.cells #[.int .i64 a0_0, .int .i64 a0_1, (.slice A0_2 l0_2.length c0_2), (.slice A0_3 l0_3.length c0_3), (.slice A0_4 l0_4.length c0_4)] 33 (0, 0))) ∧ Aside0 (wc.heap[gb106]? = some (.cells #[.int .i64 a1_0, .int .i64 a1_1, .int .i64 a1_2, (.slice A1_3 l1_3.length c1_3)] 43 (0, 0))) ∧ Aside0 (Below w.heap.size w wc))
 case first =>
  have H := HC3.out
  clear HC3
  by_cases c8 : a1_1 = 1
  ·rw [if_pos c8] at H
   have c8b0 : (a1_1 == 1) = true := beq_iff_eq.mpr c8
   have c8b1 : (a1_1 != 1) = false := bne_eq_false_iff_eq.mpr c8
   clear c8
   (first | rw [c8b0] | (simp only [i64_w, i32_w]; rw [c8b0]) | skip)
   have H' := Aside0.mk H
   clear H
   go_wp2
   go_meet
   case rel => exact ⟨_, ((a1_1 == 1)), (by first | rfl | (simp; done) | (simp [*]; done)), H', ⟨by first | omega | exact Nat.le_refl _⟩, ⟨by (with_reducible repeat (first | refine blk_drewN ?_ _ | refine blk_drew ?_ | refine blk_alloc ?_ _)); exact BK105.out⟩, ⟨by (with_reducible repeat (first | refine blk_drewN ?_ _ | refine blk_drew ?_ | refine blk_alloc ?_ _)); exact BK106.out⟩, ⟨by repeat (first | (with_reducible first | exact HB.out | apply below_alloc | apply pw_below_drewN | apply below_drew1 | refine below_set ?_ GE105.out | refine below_set ?_ GE106.out) | exact HB.out)⟩⟩
  ·rw [if_neg c8] at H
   have c8b0 : (a1_1 == 1) = false := beq_eq_false_iff_ne.mpr c8
   have c8b1 : (a1_1 != 1) = true := bne_iff_ne.mpr c8
   (first | rw [c8b0] | (simp only [i64_w, i32_w]; rw [c8b0]) | skip)
   have H' := Aside0.mk H
   clear H
   go_wp2
   go_meet
   case rel => exact ⟨_, ((a1_1 == 2)), (by first | rfl | (simp; done) | (simp [*]; done)), H', ⟨by first | omega | exact Nat.le_refl _⟩, ⟨by (with_reducible repeat (first | refine blk_drewN ?_ _ | refine blk_drew ?_ | refine blk_alloc ?_ _)); exact BK105.out⟩, ⟨by (with_reducible repeat (first | refine blk_drewN ?_ _ | refine blk_drew ?_ | refine blk_alloc ?_ _)); exact BK106.out⟩, ⟨by repeat (first | (with_reducible first | exact HB.out | apply below_alloc | apply pw_below_drewN | apply below_drew1 | refine below_set ?_ GE105.out | refine below_set ?_ GE106.out) | exact HB.out)⟩⟩
 case rest =>
  clear HC3
  (try clear c1); (try clear p2); (try clear c6); (try clear c8); (try clear c8b0); (try clear c8b1); (try clear hcz7_0); (try clear hcz7_1); (try clear hcz7_2); (try clear hcz7_3); (try clear hfz7_0); (try clear hfz7_1); (try clear hfz7_2); (try clear hfz7_3)
  obtain ⟨kq, x7_2, rfl, HA, HJ2, BK105, BK106, HB⟩ := hcut
  cases kq with
  | zero => exact absurd HA.out (by simp [device_request.j0])
  | succ kj2 =>
   have H := HA.out
   clear HA
   simp only [device_request.j0] at H
   by_cases c9 : x7_2 = true
   ·subst c9
    have H1 : (if a1_2 < 0 then (device_request.j1 kj2 true a1_0 a1_1 a1_2 l1_3) else (device_request.j1 kj2 (decide (a1_2 ≥ (l0_2.length : Int))) a1_0 a1_1 a1_2 l1_3)) = some r := by rw [if_pos rfl] at H; exact H
    clear H
    have H := H1
    clear H1
    have HC10 := Aside0.mk H
    clear H
    go_upto_region 5 with (fail)
    go_cut [20] (fun v20 wc => ∃ (kq : Nat) (x20_9 : Bool), v20 = .bool x20_9 ∧ Aside0 (device_request.j1 kq x20_9 a1_0 a1_1 a1_2 l1_3 = some r) ∧ Aside0 (kq ≤ kj2) ∧ Aside0 (wc.heap[gb105]? = some (.cells #[.int .i64 a0_0, .int .i64 a0_1, (.slice A0_2 l0_2.length c0_2), (.slice A0_3 l0_3.length c0_3), (.slice A0_4 l0_4.length c0_4)] 33 (0, 0))) ∧ Aside0 (wc.heap[gb106]? = some (.cells #[.int .i64 a1_0, .int .i64 a1_1, .int .i64 a1_2, (.slice A1_3 l1_3.length c1_3)] 43 (0, 0))) ∧ Aside0 (Below w.heap.size w wc))
    case first =>
     have H := HC10.out
     clear HC10
     by_cases c11 : a1_2 < 0
     ·rw [if_pos c11] at H
      have c11b0 : decide (a1_2 < 0) = true := decide_eq_true c11
      clear c11
      (first | rw [c11b0] | (simp only [i64_w, i32_w]; rw [c11b0]) | skip)
      have H' := Aside0.mk H
      clear H
      have hnb12 := NB106_105.out
      have hnc12 := NB105_106.out
      have hcz13_0 : wc.cell? ⟨gb106, 0, none⟩ = some (.int .i64 a1_0) := (blk_cell BK106.out 0).trans rfl
      have hcz13_1 : wc.cell? ⟨gb106, 1, none⟩ = some (.int .i64 a1_1) := (blk_cell BK106.out 1).trans rfl
      have hcz13_2 : wc.cell? ⟨gb106, 2, none⟩ = some (.int .i64 a1_2) := (blk_cell BK106.out 2).trans rfl
      have hcz13_3 : wc.cell? ⟨gb106, 3, none⟩ = some (.slice A1_3 l1_3.length c1_3) := (blk_cell BK106.out 3).trans rfl
      have hfz13_0 := blk_frozen BK106.out 0
      have hfz13_1 := blk_frozen BK106.out 1
      have hfz13_2 := blk_frozen BK106.out 2
      have hfz13_3 := blk_frozen BK106.out 3
      go_wp2
      go_meet
      case rel => exact ⟨_, (true), (by first | rfl | (simp; done) | (simp [*]; done)), H', ⟨by have := HJ2.out; first | omega | exact Nat.le_refl _⟩, ⟨by (with_reducible repeat (first | refine blk_drewN ?_ _ | refine blk_drew ?_ | refine blk_alloc ?_ _)); exact BK105.out⟩, ⟨by (with_reducible repeat (first | refine blk_drewN ?_ _ | refine blk_drew ?_ | refine blk_alloc ?_ _)); exact BK106.out⟩, ⟨by repeat (first | (with_reducible first | exact HB.out | apply below_alloc | apply pw_below_drewN | apply below_drew1 | refine below_set ?_ GE105.out | refine below_set ?_ GE106.out) | exact HB.out)⟩⟩
     ·rw [if_neg c11] at H
      have c11b0 : decide (a1_2 < 0) = false := decide_eq_false c11
      clear c11
      (first | rw [c11b0] | (simp only [i64_w, i32_w]; rw [c11b0]) | skip)
      have H' := Aside0.mk H
      clear H
      have hnb14 := NB106_105.out
      have hnc14 := NB105_106.out
      have hcz15_0 : wc.cell? ⟨gb106, 0, none⟩ = some (.int .i64 a1_0) := (blk_cell BK106.out 0).trans rfl
      have hcz15_1 : wc.cell? ⟨gb106, 1, none⟩ = some (.int .i64 a1_1) := (blk_cell BK106.out 1).trans rfl
      have hcz15_2 : wc.cell? ⟨gb106, 2, none⟩ = some (.int .i64 a1_2) := (blk_cell BK106.out 2).trans rfl
      have hcz15_3 : wc.cell? ⟨gb106, 3, none⟩ = some (.slice A1_3 l1_3.length c1_3) := (blk_cell BK106.out 3).trans rfl
      have hfz15_0 := blk_frozen BK106.out 0
      have hfz15_1 := blk_frozen BK106.out 1
      have hfz15_2 := blk_frozen BK106.out 2
      have hfz15_3 := blk_frozen BK106.out 3
      have hcz16_0 : wc.cell? ⟨gb105, 0, none⟩ = some (.int .i64 a0_0) := (blk_cell BK105.out 0).trans rfl
      have hcz16_1 : wc.cell? ⟨gb105, 1, none⟩ = some (.int .i64 a0_1) := (blk_cell BK105.out 1).trans rfl
      have hcz16_2 : wc.cell? ⟨gb105, 2, none⟩ = some (.slice A0_2 l0_2.length c0_2) := (blk_cell BK105.out 2).trans rfl
      have hcz16_3 : wc.cell? ⟨gb105, 3, none⟩ = some (.slice A0_3 l0_3.length c0_3) := (blk_cell BK105.out 3).trans rfl
      have hcz16_4 : wc.cell? ⟨gb105, 4, none⟩ = some (.slice A0_4 l0_4.length c0_4) := (blk_cell BK105.out 4).trans rfl
      have hfz16_0 := blk_frozen BK105.out 0
      have hfz16_1 := blk_frozen BK105.out 1
      have hfz16_2 := blk_frozen BK105.out 2
      have hfz16_3 := blk_frozen BK105.out 3
      have hfz16_4 := blk_frozen BK105.out 4
      go_wp2
      go_meet
      case rel => exact ⟨_, (decide (a1_2 ≥ (l0_2.length : Int))), (by first | rfl | (simp; done) | (simp [*]; done)), H', ⟨by have := HJ2.out; first | omega | exact Nat.le_refl _⟩, ⟨by (with_reducible repeat (first | refine blk_drewN ?_ _ | refine blk_drew ?_ | refine blk_alloc ?_ _)); exact BK105.out⟩, ⟨by (with_reducible repeat (first | refine blk_drewN ?_ _ | refine blk_drew ?_ | refine blk_alloc ?_ _)); exact BK106.out⟩, ⟨by repeat (first | (with_reducible first | exact HB.out | apply below_alloc | apply pw_below_drewN | apply below_drew1 | refine below_set ?_ GE105.out | refine below_set ?_ GE106.out) | exact HB.out)⟩⟩
    case rest =>
     clear HC10
     (try clear c1); (try clear p2); (try clear c6); (try clear c8); (try clear c8b0); (try clear c8b1); (try clear c9); (try clear c11); (try clear c11b0); (try clear c12); (try clear c14); (try clear c16); (try clear p2); (try clear hcz13_0); (try clear hcz13_1); (try clear hcz13_2); (try clear hcz13_3); (try clear hfz13_0); (try clear hfz13_1); (try clear hfz13_2); (try clear hfz13_3); (try clear hcz15_0); (try clear hcz15_1); (try clear hcz15_2); (try clear hcz15_3); (try clear hfz15_0); (try clear hfz15_1); (try clear hfz15_2); (try clear hfz15_3); (try clear hcz16_0); (try clear hcz16_1); (try clear hcz16_2); (try clear hcz16_3); (try clear hcz16_4); (try clear hfz16_0); (try clear hfz16_1); (try clear hfz16_2); (try clear hfz16_3); (try clear hfz16_4); (try clear hcz7_0); (try clear hcz7_1); (try clear hcz7_2); (try clear hcz7_3); (try clear hfz7_0); (try clear hfz7_1); (try clear hfz7_2); (try clear hfz7_3)
     obtain ⟨kq, x20_9, rfl, HA, HJ9, BK105, BK106, HB⟩ := hcut
     cases kq with
     | zero => exact absurd HA.out (by simp [device_request.j1])
     | succ kj9 =>
      have H := HA.out
      clear HA
      simp only [device_request.j1] at H
      by_cases c17 : x20_9 = true
      ·subst c17
       have H1 : (some 2) = some r := by rw [if_pos rfl] at H; exact H
       clear H
       have H := H1
       clear H1
       obtain rfl := Option.some.inj H
       go_wp2
       go_ret
       exact ⟨by first | rfl | (simp [errW_none, errW_some] <;> rfl) | (simp [*, errW_none, errW_some] <;> rfl), by repeat (first | (with_reducible first | exact HB.out | apply below_alloc | apply pw_below_drewN | apply below_drew1 | refine below_set ?_ GE105.out | refine below_set ?_ GE106.out) | exact HB.out)⟩
      ·replace c17 := Bool.eq_false_iff.mpr c17
       subst c17
       have H1 : (if a1_1 = 2 then ((device_page.f l1_3).bind fun t107 => (if t107 = true then (some 0) else (some 3))) else (if (l1_3.length : Int) = 0 then (some 0) else (some 3))) = some r := by rw [if_neg (show ¬ (false = true) by decide)] at H; exact H
       clear H
       have H := H1
       clear H1
       by_cases c18 : a1_1 = 2
       ·rw [if_pos c18] at H
        have c18b0 : (a1_1 == 2) = true := beq_iff_eq.mpr c18
        have c18b1 : (a1_1 != 2) = false := bne_eq_false_iff_eq.mpr c18
        clear c18
        replace H := Option.bind_eq_some_iff.mp H
        obtain ⟨t107, A190, H⟩ := H
        replace H : (if t107 = true then (some 0) else (some 3)) = some r := H
        have A19 := Aside0.mk A190
        clear A190
        by_cases c20 : t107 = true
        ·subst c20
         have H1 : (some 0) = some r := by rw [if_pos rfl] at H; exact H
         clear H
         have H := H1
         clear H1
         obtain rfl := Option.some.inj H
         have hnb21 := NB106_105.out
         have hnc21 := NB105_106.out
         have hcz22_0 : wc.cell? ⟨gb106, 0, none⟩ = some (.int .i64 a1_0) := (blk_cell BK106.out 0).trans rfl
         have hcz22_1 : wc.cell? ⟨gb106, 1, none⟩ = some (.int .i64 a1_1) := (blk_cell BK106.out 1).trans rfl
         have hcz22_2 : wc.cell? ⟨gb106, 2, none⟩ = some (.int .i64 a1_2) := (blk_cell BK106.out 2).trans rfl
         have hcz22_3 : wc.cell? ⟨gb106, 3, none⟩ = some (.slice A1_3 l1_3.length c1_3) := (blk_cell BK106.out 3).trans rfl
         have hfz22_0 := blk_frozen BK106.out 0
         have hfz22_1 := blk_frozen BK106.out 1
         have hfz22_2 := blk_frozen BK106.out 2
         have hfz22_3 := blk_frozen BK106.out 3
         go_wp2_with (first | (go_at_call 25; (with_reducible refine (device_page.calls _ _ l1_3 true _ ?side1 ?side2 A19.out).mono ?_); (case side1 => repeat (first | exact (Kd.C_below HR1_3.out HB.out) | (with_reducible refine Kd.C_alloc ?_ _) | (with_reducible refine Kd.C_drewN ?_ _) | (with_reducible refine Kd.C_drew ?_))); (case side2 => exact HC1_3.out); rintro e w' ⟨rfl, ⟨nd, rfl⟩⟩))
         go_ret
         exact ⟨by first | rfl | (simp [errW_none, errW_some] <;> rfl) | (simp [*, errW_none, errW_some] <;> rfl), by repeat (first | (with_reducible first | exact HB.out | apply below_alloc | apply pw_below_drewN | apply below_drew1 | refine below_set ?_ GE105.out | refine below_set ?_ GE106.out) | exact HB.out)⟩
        ·replace c20 := Bool.eq_false_iff.mpr c20
         subst c20
         have H1 : (some 3) = some r := by rw [if_neg (show ¬ (false = true) by decide)] at H; exact H
         clear H
         have H := H1
         clear H1
         obtain rfl := Option.some.inj H
         have hnb23 := NB106_105.out
         have hnc23 := NB105_106.out
         have hcz24_0 : wc.cell? ⟨gb106, 0, none⟩ = some (.int .i64 a1_0) := (blk_cell BK106.out 0).trans rfl
         have hcz24_1 : wc.cell? ⟨gb106, 1, none⟩ = some (.int .i64 a1_1) := (blk_cell BK106.out 1).trans rfl
         have hcz24_2 : wc.cell? ⟨gb106, 2, none⟩ = some (.int .i64 a1_2) := (blk_cell BK106.out 2).trans rfl
         have hcz24_3 : wc.cell? ⟨gb106, 3, none⟩ = some (.slice A1_3 l1_3.length c1_3) := (blk_cell BK106.out 3).trans rfl
         have hfz24_0 := blk_frozen BK106.out 0
         have hfz24_1 := blk_frozen BK106.out 1
         have hfz24_2 := blk_frozen BK106.out 2
         have hfz24_3 := blk_frozen BK106.out 3
         go_wp2_with (first | (go_at_call 25; (with_reducible refine (device_page.calls _ _ l1_3 false _ ?side1 ?side2 A19.out).mono ?_); (case side1 => repeat (first | exact (Kd.C_below HR1_3.out HB.out) | (with_reducible refine Kd.C_alloc ?_ _) | (with_reducible refine Kd.C_drewN ?_ _) | (with_reducible refine Kd.C_drew ?_))); (case side2 => exact HC1_3.out); rintro e w' ⟨rfl, ⟨nd, rfl⟩⟩))
         go_ret
         exact ⟨by first | rfl | (simp [errW_none, errW_some] <;> rfl) | (simp [*, errW_none, errW_some] <;> rfl), by repeat (first | (with_reducible first | exact HB.out | apply below_alloc | apply pw_below_drewN | apply below_drew1 | refine below_set ?_ GE105.out | refine below_set ?_ GE106.out) | exact HB.out)⟩
       ·rw [if_neg c18] at H
        have c18b0 : (a1_1 == 2) = false := beq_eq_false_iff_ne.mpr c18
        have c18b1 : (a1_1 != 2) = true := bne_iff_ne.mpr c18
        by_cases c25 : (l1_3.length : Int) = 0
        ·rw [if_pos c25] at H
         have c25b0 : ((l1_3.length : Int) == 0) = true := beq_iff_eq.mpr c25
         have c25b1 : ((l1_3.length : Int) != 0) = false := bne_eq_false_iff_eq.mpr c25
         clear c25
         obtain rfl := Option.some.inj H
         have hnb26 := NB106_105.out
         have hnc26 := NB105_106.out
         have hcz27_0 : wc.cell? ⟨gb106, 0, none⟩ = some (.int .i64 a1_0) := (blk_cell BK106.out 0).trans rfl
         have hcz27_1 : wc.cell? ⟨gb106, 1, none⟩ = some (.int .i64 a1_1) := (blk_cell BK106.out 1).trans rfl
         have hcz27_2 : wc.cell? ⟨gb106, 2, none⟩ = some (.int .i64 a1_2) := (blk_cell BK106.out 2).trans rfl
         have hcz27_3 : wc.cell? ⟨gb106, 3, none⟩ = some (.slice A1_3 l1_3.length c1_3) := (blk_cell BK106.out 3).trans rfl
         have hfz27_0 := blk_frozen BK106.out 0
         have hfz27_1 := blk_frozen BK106.out 1
         have hfz27_2 := blk_frozen BK106.out 2
         have hfz27_3 := blk_frozen BK106.out 3
         go_wp2
         go_ret
         exact ⟨by first | rfl | (simp [errW_none, errW_some] <;> rfl) | (simp [*, errW_none, errW_some] <;> rfl), by repeat (first | (with_reducible first | exact HB.out | apply below_alloc | apply pw_below_drewN | apply below_drew1 | refine below_set ?_ GE105.out | refine below_set ?_ GE106.out) | exact HB.out)⟩
        ·rw [if_neg c25] at H
         have c25b0 : ((l1_3.length : Int) == 0) = false := beq_eq_false_iff_ne.mpr c25
         have c25b1 : ((l1_3.length : Int) != 0) = true := bne_iff_ne.mpr c25
         have c25b2 : ¬ (l1_3 = []) := fun h_ => c25 (by rw [h_]; rfl)
         obtain rfl := Option.some.inj H
         have hnb28 := NB106_105.out
         have hnc28 := NB105_106.out
         have hcz29_0 : wc.cell? ⟨gb106, 0, none⟩ = some (.int .i64 a1_0) := (blk_cell BK106.out 0).trans rfl
         have hcz29_1 : wc.cell? ⟨gb106, 1, none⟩ = some (.int .i64 a1_1) := (blk_cell BK106.out 1).trans rfl
         have hcz29_2 : wc.cell? ⟨gb106, 2, none⟩ = some (.int .i64 a1_2) := (blk_cell BK106.out 2).trans rfl
         have hcz29_3 : wc.cell? ⟨gb106, 3, none⟩ = some (.slice A1_3 l1_3.length c1_3) := (blk_cell BK106.out 3).trans rfl
         have hfz29_0 := blk_frozen BK106.out 0
         have hfz29_1 := blk_frozen BK106.out 1
         have hfz29_2 := blk_frozen BK106.out 2
         have hfz29_3 := blk_frozen BK106.out 3
         go_wp2
         go_ret
         exact ⟨by first | rfl | (simp [errW_none, errW_some] <;> rfl) | (simp [*, errW_none, errW_some] <;> rfl), by repeat (first | (with_reducible first | exact HB.out | apply below_alloc | apply pw_below_drewN | apply below_drew1 | refine below_set ?_ GE105.out | refine below_set ?_ GE106.out) | exact HB.out)⟩
   ·replace c9 := Bool.eq_false_iff.mpr c9
    subst c9
    have H1 : (if a1_1 = 3 then (if a1_2 = 0 then (if a1_1 = 2 then ((device_page.f l1_3).bind fun t108 => (if t108 = true then (some 0) else (some 3))) else (if (l1_3.length : Int) = 0 then (some 0) else (some 3))) else (some 2)) else (some 1)) = some r := by rw [if_neg (show ¬ (false = true) by decide)] at H; exact H
    clear H
    have H := H1
    clear H1
    by_cases c30 : a1_1 = 3
    ·rw [if_pos c30] at H
     have c30b0 : (a1_1 == 3) = true := beq_iff_eq.mpr c30
     have c30b1 : (a1_1 != 3) = false := bne_eq_false_iff_eq.mpr c30
     clear c30
     by_cases c31 : a1_2 = 0
     ·rw [if_pos c31] at H
      have c31b0 : (a1_2 == 0) = true := beq_iff_eq.mpr c31
      have c31b1 : (a1_2 != 0) = false := bne_eq_false_iff_eq.mpr c31
      clear c31
      by_cases c32 : a1_1 = 2
      ·rw [if_pos c32] at H
       have c32b0 : (a1_1 == 2) = true := beq_iff_eq.mpr c32
       have c32b1 : (a1_1 != 2) = false := bne_eq_false_iff_eq.mpr c32
       clear c32
       replace H := Option.bind_eq_some_iff.mp H
       obtain ⟨t108, A330, H⟩ := H
       replace H : (if t108 = true then (some 0) else (some 3)) = some r := H
       have A33 := Aside0.mk A330
       clear A330
       by_cases c34 : t108 = true
       ·subst c34
        have H1 : (some 0) = some r := by rw [if_pos rfl] at H; exact H
        clear H
        have H := H1
        clear H1
        obtain rfl := Option.some.inj H
        have hnb35 := NB106_105.out
        have hnc35 := NB105_106.out
        have hcz36_0 : wc.cell? ⟨gb106, 0, none⟩ = some (.int .i64 a1_0) := (blk_cell BK106.out 0).trans rfl
        have hcz36_1 : wc.cell? ⟨gb106, 1, none⟩ = some (.int .i64 a1_1) := (blk_cell BK106.out 1).trans rfl
        have hcz36_2 : wc.cell? ⟨gb106, 2, none⟩ = some (.int .i64 a1_2) := (blk_cell BK106.out 2).trans rfl
        have hcz36_3 : wc.cell? ⟨gb106, 3, none⟩ = some (.slice A1_3 l1_3.length c1_3) := (blk_cell BK106.out 3).trans rfl
        have hfz36_0 := blk_frozen BK106.out 0
        have hfz36_1 := blk_frozen BK106.out 1
        have hfz36_2 := blk_frozen BK106.out 2
        have hfz36_3 := blk_frozen BK106.out 3
        go_wp2_with (first | (go_at_call 25; (with_reducible refine (device_page.calls _ _ l1_3 true _ ?side1 ?side2 A33.out).mono ?_); (case side1 => repeat (first | exact (Kd.C_below HR1_3.out HB.out) | (with_reducible refine Kd.C_alloc ?_ _) | (with_reducible refine Kd.C_drewN ?_ _) | (with_reducible refine Kd.C_drew ?_))); (case side2 => exact HC1_3.out); rintro e w' ⟨rfl, ⟨nd, rfl⟩⟩))
        go_ret
        exact ⟨by first | rfl | (simp [errW_none, errW_some] <;> rfl) | (simp [*, errW_none, errW_some] <;> rfl), by repeat (first | (with_reducible first | exact HB.out | apply below_alloc | apply pw_below_drewN | apply below_drew1 | refine below_set ?_ GE105.out | refine below_set ?_ GE106.out) | exact HB.out)⟩
       ·replace c34 := Bool.eq_false_iff.mpr c34
        subst c34
        have H1 : (some 3) = some r := by rw [if_neg (show ¬ (false = true) by decide)] at H; exact H
        clear H
        have H := H1
        clear H1
        obtain rfl := Option.some.inj H
        have hnb37 := NB106_105.out
        have hnc37 := NB105_106.out
        have hcz38_0 : wc.cell? ⟨gb106, 0, none⟩ = some (.int .i64 a1_0) := (blk_cell BK106.out 0).trans rfl
        have hcz38_1 : wc.cell? ⟨gb106, 1, none⟩ = some (.int .i64 a1_1) := (blk_cell BK106.out 1).trans rfl
        have hcz38_2 : wc.cell? ⟨gb106, 2, none⟩ = some (.int .i64 a1_2) := (blk_cell BK106.out 2).trans rfl
        have hcz38_3 : wc.cell? ⟨gb106, 3, none⟩ = some (.slice A1_3 l1_3.length c1_3) := (blk_cell BK106.out 3).trans rfl
        have hfz38_0 := blk_frozen BK106.out 0
        have hfz38_1 := blk_frozen BK106.out 1
        have hfz38_2 := blk_frozen BK106.out 2
        have hfz38_3 := blk_frozen BK106.out 3
        go_wp2_with (first | (go_at_call 25; (with_reducible refine (device_page.calls _ _ l1_3 false _ ?side1 ?side2 A33.out).mono ?_); (case side1 => repeat (first | exact (Kd.C_below HR1_3.out HB.out) | (with_reducible refine Kd.C_alloc ?_ _) | (with_reducible refine Kd.C_drewN ?_ _) | (with_reducible refine Kd.C_drew ?_))); (case side2 => exact HC1_3.out); rintro e w' ⟨rfl, ⟨nd, rfl⟩⟩))
        go_ret
        exact ⟨by first | rfl | (simp [errW_none, errW_some] <;> rfl) | (simp [*, errW_none, errW_some] <;> rfl), by repeat (first | (with_reducible first | exact HB.out | apply below_alloc | apply pw_below_drewN | apply below_drew1 | refine below_set ?_ GE105.out | refine below_set ?_ GE106.out) | exact HB.out)⟩
      ·rw [if_neg c32] at H
       have c32b0 : (a1_1 == 2) = false := beq_eq_false_iff_ne.mpr c32
       have c32b1 : (a1_1 != 2) = true := bne_iff_ne.mpr c32
       by_cases c39 : (l1_3.length : Int) = 0
       ·rw [if_pos c39] at H
        have c39b0 : ((l1_3.length : Int) == 0) = true := beq_iff_eq.mpr c39
        have c39b1 : ((l1_3.length : Int) != 0) = false := bne_eq_false_iff_eq.mpr c39
        clear c39
        obtain rfl := Option.some.inj H
        have hnb40 := NB106_105.out
        have hnc40 := NB105_106.out
        have hcz41_0 : wc.cell? ⟨gb106, 0, none⟩ = some (.int .i64 a1_0) := (blk_cell BK106.out 0).trans rfl
        have hcz41_1 : wc.cell? ⟨gb106, 1, none⟩ = some (.int .i64 a1_1) := (blk_cell BK106.out 1).trans rfl
        have hcz41_2 : wc.cell? ⟨gb106, 2, none⟩ = some (.int .i64 a1_2) := (blk_cell BK106.out 2).trans rfl
        have hcz41_3 : wc.cell? ⟨gb106, 3, none⟩ = some (.slice A1_3 l1_3.length c1_3) := (blk_cell BK106.out 3).trans rfl
        have hfz41_0 := blk_frozen BK106.out 0
        have hfz41_1 := blk_frozen BK106.out 1
        have hfz41_2 := blk_frozen BK106.out 2
        have hfz41_3 := blk_frozen BK106.out 3
        go_wp2
        go_ret
        exact ⟨by first | rfl | (simp [errW_none, errW_some] <;> rfl) | (simp [*, errW_none, errW_some] <;> rfl), by repeat (first | (with_reducible first | exact HB.out | apply below_alloc | apply pw_below_drewN | apply below_drew1 | refine below_set ?_ GE105.out | refine below_set ?_ GE106.out) | exact HB.out)⟩
       ·rw [if_neg c39] at H
        have c39b0 : ((l1_3.length : Int) == 0) = false := beq_eq_false_iff_ne.mpr c39
        have c39b1 : ((l1_3.length : Int) != 0) = true := bne_iff_ne.mpr c39
        have c39b2 : ¬ (l1_3 = []) := fun h_ => c39 (by rw [h_]; rfl)
        obtain rfl := Option.some.inj H
        have hnb42 := NB106_105.out
        have hnc42 := NB105_106.out
        have hcz43_0 : wc.cell? ⟨gb106, 0, none⟩ = some (.int .i64 a1_0) := (blk_cell BK106.out 0).trans rfl
        have hcz43_1 : wc.cell? ⟨gb106, 1, none⟩ = some (.int .i64 a1_1) := (blk_cell BK106.out 1).trans rfl
        have hcz43_2 : wc.cell? ⟨gb106, 2, none⟩ = some (.int .i64 a1_2) := (blk_cell BK106.out 2).trans rfl
        have hcz43_3 : wc.cell? ⟨gb106, 3, none⟩ = some (.slice A1_3 l1_3.length c1_3) := (blk_cell BK106.out 3).trans rfl
        have hfz43_0 := blk_frozen BK106.out 0
        have hfz43_1 := blk_frozen BK106.out 1
        have hfz43_2 := blk_frozen BK106.out 2
        have hfz43_3 := blk_frozen BK106.out 3
        go_wp2
        go_ret
        exact ⟨by first | rfl | (simp [errW_none, errW_some] <;> rfl) | (simp [*, errW_none, errW_some] <;> rfl), by repeat (first | (with_reducible first | exact HB.out | apply below_alloc | apply pw_below_drewN | apply below_drew1 | refine below_set ?_ GE105.out | refine below_set ?_ GE106.out) | exact HB.out)⟩
     ·rw [if_neg c31] at H
      have c31b0 : (a1_2 == 0) = false := beq_eq_false_iff_ne.mpr c31
      have c31b1 : (a1_2 != 0) = true := bne_iff_ne.mpr c31
      obtain rfl := Option.some.inj H
      have hnb44 := NB106_105.out
      have hnc44 := NB105_106.out
      have hcz45_0 : wc.cell? ⟨gb106, 0, none⟩ = some (.int .i64 a1_0) := (blk_cell BK106.out 0).trans rfl
      have hcz45_1 : wc.cell? ⟨gb106, 1, none⟩ = some (.int .i64 a1_1) := (blk_cell BK106.out 1).trans rfl
      have hcz45_2 : wc.cell? ⟨gb106, 2, none⟩ = some (.int .i64 a1_2) := (blk_cell BK106.out 2).trans rfl
      have hcz45_3 : wc.cell? ⟨gb106, 3, none⟩ = some (.slice A1_3 l1_3.length c1_3) := (blk_cell BK106.out 3).trans rfl
      have hfz45_0 := blk_frozen BK106.out 0
      have hfz45_1 := blk_frozen BK106.out 1
      have hfz45_2 := blk_frozen BK106.out 2
      have hfz45_3 := blk_frozen BK106.out 3
      go_wp2
      go_ret
      exact ⟨by first | rfl | (simp [errW_none, errW_some] <;> rfl) | (simp [*, errW_none, errW_some] <;> rfl), by repeat (first | (with_reducible first | exact HB.out | apply below_alloc | apply pw_below_drewN | apply below_drew1 | refine below_set ?_ GE105.out | refine below_set ?_ GE106.out) | exact HB.out)⟩
    ·rw [if_neg c30] at H
     have c30b0 : (a1_1 == 3) = false := beq_eq_false_iff_ne.mpr c30
     have c30b1 : (a1_1 != 3) = true := bne_iff_ne.mpr c30
     obtain rfl := Option.some.inj H
     go_wp2
     go_ret
     exact ⟨by first | rfl | (simp [errW_none, errW_some] <;> rfl) | (simp [*, errW_none, errW_some] <;> rfl), by repeat (first | (with_reducible first | exact HB.out | apply below_alloc | apply pw_below_drewN | apply below_drew1 | refine below_set ?_ GE105.out | refine below_set ?_ GE106.out) | exact HB.out)⟩

end Go.Proofs.Ytpfbajjpommjmaa.Top
