/- What is proved: a call of Complete that ends a write over a cached entry. Conditions: the device passes Check and is copied by clone. -/
import Derived.Test.YtpfbajjpommjmaaCmpc
import Derived.Deep.RegionHeldLaw
namespace Go.Proofs.Ytpfbajjpommjmaa.Hand
open Go.RowKit Go.Proofs.YtpfbajjpommjmaaW.PrintWords Go.Proofs.YtpfbajjpommjmaaW.PrintLast Go.Proofs.YtpfbajjpommjmaaW.PrintMore Go.Proofs.Ytpfbajjpommjmaa.Top
set_option linter.unusedVariables false
set_option linter.unusedSimpArgs false

theorem set2 {cs : Array Value} {a b u : Value} (h : cs[1]? = some u) : ((cs.setIfInBounds 0 a).setIfInBounds 1 b)[0]? = some a ∧ ((cs.setIfInBounds 0 a).setIfInBounds 1 b)[1]? = some b := by
  have hs : 1 < cs.size := (Array.getElem?_eq_some_iff.1 h).1
  constructor
  · rw [Array.getElem?_setIfInBounds_ne (by omega), Array.getElem?_setIfInBounds_self_of_lt (by omega)]
  · rw [Array.getElem?_setIfInBounds_self_of_lt (by simpa using hs)]

set_option maxHeartbeats 1000000 in
set_option maxRecDepth 100000 in
theorem complete_write1 (k : Nat) (d n : Int) (A2 A3 A4 : Option Addr) (c2 c3 c4 : Nat) (bl : List (List Int)) (x y : List Int) (ca : List S60) (qu l : List S43) (q : S43) (w : World)
    (h2 : Kd.C (Kd.slice 5 (Kd.int .u8)) w A2 bl.length bl) (l2 : bl.length ≤ c2) (h3 : Kd.C k60 w A3 ca.length ca) (l3 : ca.length ≤ c3) (h4 : Kd.C k43 w A4 qu.length qu) (l4 : qu.length ≤ c4)
    (hk : device_Check.f k d n bl ca qu = some 0) (hcl : device_clone.f k d n bl ca qu = some (d, n, [x], [⟨0, y⟩], l ++ [q])) (hq : qu.length = l.length + 1) (hl : l.length ≤ 4) (hq1 : q.f1 = 2) (hq2 : q.f2 = 0) (hq3 : q.f3.length ≤ 100) :
    Calls Try.prog 8 #[.agg #[.int .i64 d, .int .i64 n, .slice A2 bl.length c2, .slice A3 ca.length c3, .slice A4 qu.length c4], .int .i64 (l.length : Int), .bool true] w fun e w' => ∃ A2 A3 A4 c2 c3 c4 A5 c5, e = .returned (.tuple #[.agg #[.int .i64 d, .int .i64 n, .slice A2 1 c2, .slice A3 1 c3, .slice A4 l.length c4], .agg #[.int .i64 q.f0, .int .i64 q.f1, .int .i64 q.f2, .slice A5 q.f3.length c5], .int .i64 0]) ∧ 1 ≤ c2 ∧ 1 ≤ c3 ∧ l.length ≤ c4 ∧ FT (Kd.slice 5 (Kd.int .u8)) w' A2 1 [x] ∧ FT k60 w' A3 1 [⟨0, q.f3⟩] ∧ FT k43 w' A4 l.length l ∧ Below w.heap.size w w' := by
  have hu33 := Try.underlying33
  have hu43 := Try.underlying43
  have hc1 : decide ((l.length : Int) < 0) = false := decide_eq_false (by omega)
  have hc2 : ¬ qu.length ≤ l.length := by omega
  have hc3 : (l.length : Int) < (l.length : Int) + 1 := by omega
  have hc4 : (0 : Int) ≤ (l.length : Int) := by omega
  clear hq
  go_enter Try.func8, Try.ntmps8
  go_wp2_with (first
    | (go_at_call 13; (with_reducible refine (device_Check.calls k d n A2 c2 bl A3 c3 ca A4 c4 qu 0 _ ?s1 l2 ?s3 l3 ?s5 l4 hk).mono ?_); (case s1 => exact Kd.C_alloc (Kd.C_alloc (Kd.C_alloc h2 _) _) _); (case s3 => exact Kd.C_alloc (Kd.C_alloc (Kd.C_alloc h3 _) _) _); (case s5 => exact Kd.C_alloc (Kd.C_alloc (Kd.C_alloc h4 _) _) _); rintro e w1 ⟨rfl, hb⟩; have F3 := Aside0.mk (blk_below (three w _ _ _).1 hb); have F6 := Aside0.mk (blk_below (three w _ _ _).2.1 hb); have F7 := Aside0.mk (blk_below (three w _ _ _).2.2 hb); have L1 := Aside0.mk (below_step (below_alloc (below_alloc (below_alloc (Below.refl w.heap.size w) _) _) _) hb); clear hb; obtain ⟨p0, p1, p2, p3, p4, q0, q1, q2, q3, q4⟩ := box5 F3.out; obtain ⟨r0, r1, r2, r3, r4, s0, s1, s2, s3, s4⟩ := box5 F6.out; obtain ⟨t0, t1, t2, t3, u0, u1, u2, u3⟩ := box4 F7.out; have la := blk_lt F7.out)
    | (go_at_call 14; (with_reducible refine (device_clone.calls k d n A2 c2 bl A3 c3 ca A4 c4 qu d n [x] [⟨0, y⟩] (l ++ [q]) _ ?s1 l2 ?s3 l3 ?s5 l4 hcl).mono ?_); (case s1 => exact Kd.C_below h2 L1.out); (case s3 => exact Kd.C_below h3 L1.out); (case s5 => exact Kd.C_below h4 L1.out); rintro e w2 ⟨v2, v3, v4, rfl, hS2, hS3, hS4, hb⟩; clear p0 p1 p2 p3 p4 q0 q1 q2 q3 q4 r0 r1 r2 r3 r4 s0 s1 s2 s3 s4 t0 t1 t2 t3 u0 u1 u2 u3 la; have G3 := Aside0.mk (blk_below F3.out hb); have G6 := Aside0.mk (blk_below F6.out hb); have G7 := Aside0.mk (blk_below F7.out hb); have L2 := Aside0.mk (below_step L1.out hb); have S3 := Aside0.mk (Kd.S_lower hS3 L1.out.size); obtain ⟨g2, cap2, g4, cap4, cs2, cs4, Ad, cd, A5, c5, rfl, hn2, rfl, O⟩ := opened hS2 hS4; have OP := Aside0.mk O; clear hS2 hS3 hS4 hb O; obtain ⟨g3, cap3, cs3, A3d, c3d, rfl, hn3, b3, h3c, d30, d31, l3d, f3d⟩ := cache_open S3.out; have D3 := Aside0.mk h3c; have D30 := Aside0.mk d30; have D31 := Aside0.mk d31; have L3d := Aside0.mk l3d; have F3d := Aside0.mk f3d; clear h3c d30 d31 l3d f3d S3; have LA := Aside0.mk (blk_lt F7.out); have la := blk_lt G7.out; have lb := blk_lt OP.out.h4; have lc := blk_lt OP.out.h2; have x0 := (blk_cell OP.out.h4 _).trans OP.out.e0; have x1 := (blk_cell OP.out.h4 _).trans OP.out.e1; have x2 := (blk_cell OP.out.h4 _).trans OP.out.e2; have x3 := (blk_cell OP.out.h4 _).trans OP.out.e3))
  (with_reducible refine (delete_any g4 l.length cap4 cs4 _ (blk_alloc (blk_alloc OP.out.h4 _) _) OP.out.n4 OP.out.s4).mono ?_)
  rintro e w3 ⟨rfl, cs5, hc5, hpre, hg⟩
  have Q4 := Aside0.mk hc5
  have PRE := Aside0.mk hpre
  have K5 := Aside0.mk (keeps_trans (keeps_trans (keeps_alloc w2 _) (keeps_alloc _ _)) (keeps_grown (blk_alloc (blk_alloc OP.out.h4 _) _) (by decide) hg))
  have H3 := Aside0.mk (blk_grown (blk_alloc (blk_alloc G3.out _) _) hg (some_ne G3.out OP.out.h4 (by decide)))
  have H6 := Aside0.mk (blk_grown (blk_alloc (blk_alloc G6.out _) _) hg (some_ne G6.out OP.out.h4 (by decide)))
  have H7 := Aside0.mk (blk_grown (blk_alloc (blk_alloc G7.out _) _) hg (fun e => by have e1 := Option.some.inj e; have e2 := LA.out; have e3 := OP.out.b4; omega))
  have H10 := Aside0.mk (blk_grown (two w2 _ _).1 hg (fun e => by have e1 := Option.some.inj e; omega))
  have H11 := Aside0.mk (blk_grown (two w2 _ _).2 hg (fun e => by have e1 := Option.some.inj e; omega))
  have B2 := Aside0.mk (blk_grown (blk_alloc (blk_alloc OP.out.h2 _) _) hg (some_ne OP.out.h2 OP.out.h4 (by decide)))
  have D3b := Aside0.mk (blk_grown (blk_alloc (blk_alloc D3.out _) _) hg (some_ne D3.out OP.out.h4 (by decide)))
  have L3 := Aside0.mk (pw_below_grown (below_alloc (below_alloc L2.out _) _) _ (below_alloc (below_alloc L2.out _) _).size hg (fun k hk => by have e1 := Option.some.inj hk; have e2 := LA.out; have e3 := OP.out.b4; omega))
  clear hc5 hpre hg x0 x1 x2 x3
  have hA := Aside0.mk lb
  have hB := Aside0.mk lc
  have hC := Aside0.mk la
  clear la lb lc
  obtain ⟨p0, p1, p2, p3, p4, q0, q1, q2, q3, q4⟩ := box5 H10.out
  obtain ⟨r0, r1, r2, r3, r4, s0, s1, s2, s3, s4⟩ := box5 H6.out
  obtain ⟨t0, t1, t2, t3, u0, u1, u2, u3⟩ := box4 H7.out
  obtain ⟨x0, x1, x2, x3, y0, y1, y2, y3⟩ := box4 H11.out
  have na : w2.heap.size ≠ w2.heap.size + 1 := by omega
  have nb : w.heap.size + 1 < w2.heap.size := (by have := hC.out; omega)
  have nc : w.heap.size + 1 + 1 < w2.heap.size := (by have := hC.out; omega)
  go_wp2
  obtain ⟨W, hW⟩ : ∃ W, W = w3.setCell ⟨w2.heap.size, 4, none⟩ (.slice (some ⟨g4, 0, none⟩) l.length cap4) := ⟨_, rfl⟩
  have a6 : w.heap.size + 1 ≠ w2.heap.size := by omega
  have a7 : w.heap.size + 1 + 1 ≠ w2.heap.size := by omega
  have a11 : w2.heap.size + 1 ≠ w2.heap.size := by omega
  have W6 := Aside0.mk (hW ▸ blk_farO (p := ⟨w2.heap.size, 4, none⟩) H6.out a6 (.slice (some ⟨g4, 0, none⟩) l.length cap4))
  have W7 := Aside0.mk (hW ▸ blk_farO (p := ⟨w2.heap.size, 4, none⟩) H7.out a7 (.slice (some ⟨g4, 0, none⟩) l.length cap4))
  have W11 := Aside0.mk (hW ▸ blk_farO (p := ⟨w2.heap.size, 4, none⟩) H11.out a11 (.slice (some ⟨g4, 0, none⟩) l.length cap4))
  have W10 := Aside0.mk (hW ▸ blk_put H10.out 4 (.slice (some ⟨g4, 0, none⟩) l.length cap4) rfl)
  have WB := Aside0.mk (hW ▸ blk_farO (p := ⟨w2.heap.size, 4, none⟩) B2.out (blk_ne B2.out H10.out (by decide)) (.slice (some ⟨g4, 0, none⟩) l.length cap4))
  have WQ := Aside0.mk (hW ▸ blk_farO (p := ⟨w2.heap.size, 4, none⟩) Q4.out (blk_ne Q4.out H10.out (by decide)) (.slice (some ⟨g4, 0, none⟩) l.length cap4))
  have WD := Aside0.mk (hW ▸ blk_farO (p := ⟨w2.heap.size, 4, none⟩) D3b.out (blk_ne D3b.out H10.out (by decide)) (.slice (some ⟨g4, 0, none⟩) l.length cap4))
  have WK := Aside0.mk (hW ▸ keeps_trans K5.out (keeps_set H10.out (by decide) 4 (.slice (some ⟨g4, 0, none⟩) l.length cap4)))
  have WL := Aside0.mk (hW ▸ below_set (g := w2.heap.size) (j := 4) (v := .slice (some ⟨g4, 0, none⟩) l.length cap4) L3.out (by omega))
  rw [← hW]
  clear hW p0 p1 p2 p3 p4 q0 q1 q2 q3 q4 r0 r1 r2 r3 r4 s0 s1 s2 s3 s4 t0 t1 t2 t3 u0 u1 u2 u3 x0 x1 x2 x3 y0 y1 y2 y3 H6 H7 H10 H11 B2 Q4 D3b K5 L3
  obtain ⟨x0, x1, x2, x3, y0, y1, y2, y3⟩ := box4 W11.out
  go_region_held_law (fun w' => w'.cell? ⟨w2.heap.size + 1, 2, none⟩ = some (.int .i64 0) ∧ w'.cell? ⟨w2.heap.size + 1, 3, none⟩ = some (.slice A5 q.f3.length c5)) (go_keep) (first | (refine goes_ (N := some 68) Try.func15 (by kernel_rfl) rfl #[.slice A5 q.f3.length c5] (by rfl) rfl rfl (by first | done | rfl | (simp [Act.eval])) ?_; refine (bytes_Clone.calls A5 c5 q.f3 q.f3 _ (Kd.C_drew (F5_C (F5_keeps OP.out.f5 WK.out))) OP.out.l5 (if_pos (Nat.le_trans hq3 (by decide)))).mono ?_; rintro e w4 ⟨v68, rfl, hR, hb⟩; refine ⟨_, rfl, ?_⟩; obtain ⟨A8, c8, rfl, l8, f8⟩ := F5_of_R hR; have F8 := Aside0.mk f8; have V6 := Aside0.mk (blk_below (blk_drew W6.out) hb); have V7 := Aside0.mk (blk_below (blk_drew W7.out) hb); have V10 := Aside0.mk (blk_below (blk_drew W10.out) hb); have V11 := Aside0.mk (blk_below (blk_drew W11.out) hb); have VB := Aside0.mk (blk_below (blk_drew WB.out) hb); have VQ := Aside0.mk (blk_below (blk_drew WQ.out) hb); have VD := Aside0.mk (blk_below (blk_drew WD.out) hb); have VK := Aside0.mk (keeps_trans WK.out (keeps_below (W := W.drew) hb)); have VL := Aside0.mk (below_step (below_drew1 WL.out) hb); have V12 := Aside0.mk (trivial); clear hb hR f8; obtain ⟨xx0, xx1, xx2, xx3, yy0, yy1, yy2, yy3⟩ := box4 V11.out) | (refine goes_ (N := some 68) Try.func15 (by kernel_rfl) rfl #[.slice A5 q.f3.length c5] (by rfl) rfl rfl (by first | done | rfl | (simp [Act.eval])) ?_; refine (bytes_Clone.calls A5 c5 q.f3 q.f3 _ (Kd.C_alloc (Kd.C_drew (F5_C (F5_keeps OP.out.f5 WK.out))) _) OP.out.l5 (if_pos (Nat.le_trans hq3 (by decide)))).mono ?_; rintro e w4 ⟨v68, rfl, hR, hb⟩; refine ⟨_, rfl, ?_⟩; obtain ⟨A8, c8, rfl, l8, f8⟩ := F5_of_R hR; have F8 := Aside0.mk f8; have V6 := Aside0.mk (blk_below (blk_alloc (blk_drew W6.out) _) hb); have V7 := Aside0.mk (blk_below (blk_alloc (blk_drew W7.out) _) hb); have V10 := Aside0.mk (blk_below (blk_alloc (blk_drew W10.out) _) hb); have V11 := Aside0.mk (blk_below (blk_alloc (blk_drew W11.out) _) hb); have VB := Aside0.mk (blk_below (blk_alloc (blk_drew WB.out) _) hb); have VQ := Aside0.mk (blk_below (blk_alloc (blk_drew WQ.out) _) hb); have VD := Aside0.mk (blk_below (blk_alloc (blk_drew WD.out) _) hb); have VK := Aside0.mk (keeps_trans WK.out (keeps_trans (keeps_alloc W.drew _) (keeps_below hb))); have VL := Aside0.mk (below_step (below_alloc (below_drew1 WL.out) _) hb); have V12 := Aside0.mk (blk_below (new_drew W _) hb); obtain ⟨z0, z1, zf0, zf1⟩ := box2 V12.out; have lz := blk_lt W11.out; have lz1 : W.heap.size ≠ w2.heap.size + 1 := Nat.ne_of_gt lz; have lz2 : w2.heap.size + 1 ≠ W.heap.size := Nat.ne_of_lt lz;  clear hb hR f8; obtain ⟨xx0, xx1, xx2, xx3, yy0, yy1, yy2, yy3⟩ := box4 V11.out))
  · have Y6 := Aside0.mk (blk_alloc V6.out (.cells #[.int .i64 0, .slice A8 q.f3.length c8] 60))
    have Y7 := Aside0.mk (blk_alloc V7.out (.cells #[.int .i64 0, .slice A8 q.f3.length c8] 60))
    have Y10 := Aside0.mk (blk_alloc V10.out (.cells #[.int .i64 0, .slice A8 q.f3.length c8] 60))
    have Y11 := Aside0.mk (blk_alloc V11.out (.cells #[.int .i64 0, .slice A8 q.f3.length c8] 60))
    have YB := Aside0.mk (blk_alloc VB.out (.cells #[.int .i64 0, .slice A8 q.f3.length c8] 60))
    have YQ := Aside0.mk (blk_alloc VQ.out (.cells #[.int .i64 0, .slice A8 q.f3.length c8] 60))
    have YD := Aside0.mk (blk_alloc VD.out (.cells #[.int .i64 0, .slice A8 q.f3.length c8] 60))
    have YK := Aside0.mk (keeps_trans VK.out (keeps_alloc w4 (.cells #[.int .i64 0, .slice A8 q.f3.length c8] 60)))
    have Y8 := Aside0.mk (F5_keeps F8.out (keeps_alloc w4 (.cells #[.int .i64 0, .slice A8 q.f3.length c8] 60)))
    have YL := Aside0.mk (below_alloc VL.out (.cells #[.int .i64 0, .slice A8 q.f3.length c8] 60))
    have Y12 := Aside0.mk (blk_new w4 (.cells #[.int .i64 0, .slice A8 q.f3.length c8] 60))
    clear xx0 xx1 xx2 xx3 yy0 yy1 yy2 yy3 x0 x1 x2 x3 y0 y1 y2 y3
    obtain ⟨Y, hY⟩ : ∃ Y, Y = w4.alloc (.cells #[.int .i64 0, .slice A8 q.f3.length c8] 60) := ⟨_, rfl⟩
    rw [← hY] at Y6 Y7 Y10 Y11 YB YQ YD YK Y8 YL Y12 ⊢
    clear hY
    obtain ⟨q10, q11, q12, q13, q14, f10, f11, f12, f13, f14⟩ := box5 Y10.out
    obtain ⟨b10, b11, b12, b13, e10, e11, e12, e13⟩ := box4 Y11.out
    obtain ⟨z20, z21, z22, z23⟩ := box2 Y12.out
    go_wp2_with (go_at_call 19; (with_reducible refine (find_one d n (some ⟨g2, 0, none⟩) (some ⟨g4, 0, none⟩) A3d g3 1 cap2 cap3 l.length cap4 y.length c3d _ ((blk_cell YD.out 0).trans D30.out) ((blk_cell YD.out 1).trans D31.out)).mono ?_); rintro e w5 ⟨rfl, hb⟩; have Z6 := Aside0.mk (blk_below Y6.out hb); have Z7 := Aside0.mk (blk_below Y7.out hb); have Z10 := Aside0.mk (blk_below Y10.out hb); have Z11 := Aside0.mk (blk_below Y11.out hb); have Z12 := Aside0.mk (blk_below Y12.out hb); have ZB := Aside0.mk (blk_below YB.out hb); have ZQ := Aside0.mk (blk_below YQ.out hb); have ZD := Aside0.mk (blk_below YD.out hb); have ZK := Aside0.mk (keeps_trans YK.out (keeps_below hb)); have Z8 := Aside0.mk (F5_keeps Y8.out (keeps_below hb)); have ZL := Aside0.mk (below_step YL.out hb); clear hb q10 q11 q12 q13 q14 f10 f11 f12 f13 f14 b10 b11 b12 b13 e10 e11 e12 e13 z20 z21 z22 z23; obtain ⟨q10, q11, q12, q13, q14, f10, f11, f12, f13, f14⟩ := box5 Z10.out; obtain ⟨z20, z21, z22, z23⟩ := box2 Z12.out; have y30 := (blk_cell ZD.out 0).trans D30.out; have y31 := (blk_cell ZD.out 1).trans D31.out; have y32 := blk_frozen ZD.out 0; have y33 := blk_frozen ZD.out 1; obtain ⟨b60, b61, b62, b63, b64, e60, e61, e62, e63, e64⟩ := box5 Z6.out; obtain ⟨b10, b11, b12, b13, e10, e11, e12, e13⟩ := box4 Z11.out; obtain ⟨b70, b71, b72, b73, e70, e71, e72, e73⟩ := box4 Z7.out; have m6 := blk_ne ZD.out Z6.out (by decide); have m7 := blk_ne ZD.out Z7.out (by decide); have m10 := blk_ne ZD.out Z10.out (by decide); have m11 := blk_ne ZD.out Z11.out (by decide); have m6' := Ne.symm m6; have m7' := Ne.symm m7; have m10' := Ne.symm m10; have m11' := Ne.symm m11)
    go_region
    go_wp2
    have U6 := blk_farO (p := ⟨g3, 1, none⟩) (blk_farO (p := ⟨g3, 0, none⟩) Z6.out (blk_ne Z6.out ZD.out (by decide)) (.int .i64 0)) (blk_ne Z6.out ZD.out (by decide)) (.slice A8 q.f3.length c8)
    have U7 := blk_farO (p := ⟨g3, 1, none⟩) (blk_farO (p := ⟨g3, 0, none⟩) Z7.out (blk_ne Z7.out ZD.out (by decide)) (.int .i64 0)) (blk_ne Z7.out ZD.out (by decide)) (.slice A8 q.f3.length c8)
    have UB := blk_farO (p := ⟨g3, 1, none⟩) (blk_farO (p := ⟨g3, 0, none⟩) ZB.out (blk_ne ZB.out ZD.out (by decide)) (.int .i64 0)) (blk_ne ZB.out ZD.out (by decide)) (.slice A8 q.f3.length c8)
    have UQ := blk_farO (p := ⟨g3, 1, none⟩) (blk_farO (p := ⟨g3, 0, none⟩) ZQ.out (blk_ne ZQ.out ZD.out (by decide)) (.int .i64 0)) (blk_ne ZQ.out ZD.out (by decide)) (.slice A8 q.f3.length c8)
    have UC := blk_set (blk_set ZD.out 0 (.int .i64 0)) 1 (.slice A8 q.f3.length c8)
    have k6 := keeps_trans (keeps_set ZD.out (by decide) 0 (.int .i64 0)) (keeps_set (blk_set ZD.out 0 (.int .i64 0)) (by decide) 1 (.slice A8 q.f3.length c8))
    have g3le : w.heap.size ≤ g3 := b3
    have UL := below_set (g := g3) (j := 1) (v := .slice A8 q.f3.length c8) (below_set (g := g3) (j := 0) (v := .int .i64 0) ZL.out g3le) g3le
    obtain ⟨X, hX, P6, P7, hs, hB⟩ := fin U6 U7 UL (by omega) (by omega) (.int .i64 d) (.int .i64 n) (.slice (some ⟨g2, 0, none⟩) 1 cap2) (.slice (some ⟨g3, 0, none⟩) 1 cap3) (.slice (some ⟨g4, 0, none⟩) l.length cap4) (.int .i64 q.f0) (.int .i64 2) (.int .i64 0) (.slice A5 q.f3.length c5)
    rw [← hX]
    refine bodyPost_ret (fn := Try.f8) (end8 rfl rfl P6 P7) rfl ?_
    have k7 := keeps_trans k6 (fin_keeps U6 U7 hs)
    have FK := keeps_trans ZK.out k7
    refine ⟨some ⟨g2, 0, none⟩, some ⟨g3, 0, none⟩, some ⟨g4, 0, none⟩, cap2, cap3, cap4, A5, c5, by simp [hq1, hq2], hn2, hn3, Nat.le_of_succ_le OP.out.n4, blocks_F ((hs g2 (blk_ne UB U6 (by decide)) (blk_ne UB U7 (by decide))).trans UB) OP.out.d2 OP.out.l2 (F5_keeps OP.out.f2 FK), cache_F (q := ⟨0, q.f3⟩) ((hs g3 (blk_ne UC U6 (by decide)) (blk_ne UC U7 (by decide))).trans UC) (set2 D31.out).1 (set2 D31.out).2 l8 (F5_keeps Z8.out k7), queue_F OP.out.r4 FK ((hs g4 (blk_ne UQ U6 (by decide)) (by have := LA.out; have := OP.out.b4; omega)).trans UQ) PRE.out, hB⟩
  · have Y6 := Aside0.mk (blk_farO (p := ⟨W.heap.size, 1, none⟩) (blk_farO (p := ⟨W.heap.size, 0, none⟩) V6.out (blk_ne V6.out V12.out (by decide)) (.int .i64 0)) (blk_ne V6.out V12.out (by decide)) (.slice A8 q.f3.length c8))
    have Y7 := Aside0.mk (blk_farO (p := ⟨W.heap.size, 1, none⟩) (blk_farO (p := ⟨W.heap.size, 0, none⟩) V7.out (blk_ne V7.out V12.out (by decide)) (.int .i64 0)) (blk_ne V7.out V12.out (by decide)) (.slice A8 q.f3.length c8))
    have Y10 := Aside0.mk (blk_farO (p := ⟨W.heap.size, 1, none⟩) (blk_farO (p := ⟨W.heap.size, 0, none⟩) V10.out (blk_ne V10.out V12.out (by decide)) (.int .i64 0)) (blk_ne V10.out V12.out (by decide)) (.slice A8 q.f3.length c8))
    have Y11 := Aside0.mk (blk_farO (p := ⟨W.heap.size, 1, none⟩) (blk_farO (p := ⟨W.heap.size, 0, none⟩) V11.out (blk_ne V11.out V12.out (by decide)) (.int .i64 0)) (blk_ne V11.out V12.out (by decide)) (.slice A8 q.f3.length c8))
    have YB := Aside0.mk (blk_farO (p := ⟨W.heap.size, 1, none⟩) (blk_farO (p := ⟨W.heap.size, 0, none⟩) VB.out (blk_ne VB.out V12.out (by decide)) (.int .i64 0)) (blk_ne VB.out V12.out (by decide)) (.slice A8 q.f3.length c8))
    have YQ := Aside0.mk (blk_farO (p := ⟨W.heap.size, 1, none⟩) (blk_farO (p := ⟨W.heap.size, 0, none⟩) VQ.out (blk_ne VQ.out V12.out (by decide)) (.int .i64 0)) (blk_ne VQ.out V12.out (by decide)) (.slice A8 q.f3.length c8))
    have YD := Aside0.mk (blk_farO (p := ⟨W.heap.size, 1, none⟩) (blk_farO (p := ⟨W.heap.size, 0, none⟩) VD.out (Nat.ne_of_lt (blk_lt WD.out)) (.int .i64 0)) (Nat.ne_of_lt (blk_lt WD.out)) (.slice A8 q.f3.length c8))
    have k5 := keeps_trans (keeps_set V12.out (by decide) 0 (.int .i64 0)) (keeps_set (blk_put V12.out 0 (.int .i64 0) rfl) (by decide) 1 (.slice A8 q.f3.length c8))
    have YK := Aside0.mk (keeps_trans VK.out k5)
    have Y8 := Aside0.mk (F5_keeps F8.out k5)
    have YL := Aside0.mk (below_set (g := W.heap.size) (j := 1) (v := .slice A8 q.f3.length c8) (below_set (g := W.heap.size) (j := 0) (v := .int .i64 0) VL.out WL.out.size) WL.out.size)
    have Y12 := Aside0.mk (blk_put (blk_put V12.out 0 (.int .i64 0) rfl) 1 (.slice A8 q.f3.length c8) rfl)
    clear k5 z0 z1 zf0 zf1 xx0 xx1 xx2 xx3 yy0 yy1 yy2 yy3 x0 x1 x2 x3 y0 y1 y2 y3
    obtain ⟨Y, hY⟩ : ∃ Y, Y = (w4.setCell ⟨W.heap.size, 0, none⟩ (.int .i64 0)).setCell ⟨W.heap.size, 1, none⟩ (.slice A8 q.f3.length c8) := ⟨_, rfl⟩
    rw [← hY] at Y6 Y7 Y10 Y11 YB YQ YD YK Y8 YL Y12 ⊢
    clear hY
    obtain ⟨q10, q11, q12, q13, q14, f10, f11, f12, f13, f14⟩ := box5 Y10.out
    obtain ⟨b10, b11, b12, b13, e10, e11, e12, e13⟩ := box4 Y11.out
    obtain ⟨z20, z21, z22, z23⟩ := box2 Y12.out
    go_wp2_with (go_at_call 19; (with_reducible refine (find_one d n (some ⟨g2, 0, none⟩) (some ⟨g4, 0, none⟩) A3d g3 1 cap2 cap3 l.length cap4 y.length c3d _ ((blk_cell YD.out 0).trans D30.out) ((blk_cell YD.out 1).trans D31.out)).mono ?_); rintro e w5 ⟨rfl, hb⟩; have Z6 := Aside0.mk (blk_below Y6.out hb); have Z7 := Aside0.mk (blk_below Y7.out hb); have Z10 := Aside0.mk (blk_below Y10.out hb); have Z11 := Aside0.mk (blk_below Y11.out hb); have Z12 := Aside0.mk (blk_below Y12.out hb); have ZB := Aside0.mk (blk_below YB.out hb); have ZQ := Aside0.mk (blk_below YQ.out hb); have ZD := Aside0.mk (blk_below YD.out hb); have ZK := Aside0.mk (keeps_trans YK.out (keeps_below hb)); have Z8 := Aside0.mk (F5_keeps Y8.out (keeps_below hb)); have ZL := Aside0.mk (below_step YL.out hb); clear hb q10 q11 q12 q13 q14 f10 f11 f12 f13 f14 b10 b11 b12 b13 e10 e11 e12 e13 z20 z21 z22 z23; obtain ⟨q10, q11, q12, q13, q14, f10, f11, f12, f13, f14⟩ := box5 Z10.out; obtain ⟨z20, z21, z22, z23⟩ := box2 Z12.out; have y30 := (blk_cell ZD.out 0).trans D30.out; have y31 := (blk_cell ZD.out 1).trans D31.out; have y32 := blk_frozen ZD.out 0; have y33 := blk_frozen ZD.out 1; obtain ⟨b60, b61, b62, b63, b64, e60, e61, e62, e63, e64⟩ := box5 Z6.out; obtain ⟨b10, b11, b12, b13, e10, e11, e12, e13⟩ := box4 Z11.out; obtain ⟨b70, b71, b72, b73, e70, e71, e72, e73⟩ := box4 Z7.out; have m6 := blk_ne ZD.out Z6.out (by decide); have m7 := blk_ne ZD.out Z7.out (by decide); have m10 := blk_ne ZD.out Z10.out (by decide); have m11 := blk_ne ZD.out Z11.out (by decide); have m6' := Ne.symm m6; have m7' := Ne.symm m7; have m10' := Ne.symm m10; have m11' := Ne.symm m11)
    go_region
    go_wp2
    have U6 := blk_farO (p := ⟨g3, 1, none⟩) (blk_farO (p := ⟨g3, 0, none⟩) Z6.out (blk_ne Z6.out ZD.out (by decide)) (.int .i64 0)) (blk_ne Z6.out ZD.out (by decide)) (.slice A8 q.f3.length c8)
    have U7 := blk_farO (p := ⟨g3, 1, none⟩) (blk_farO (p := ⟨g3, 0, none⟩) Z7.out (blk_ne Z7.out ZD.out (by decide)) (.int .i64 0)) (blk_ne Z7.out ZD.out (by decide)) (.slice A8 q.f3.length c8)
    have UB := blk_farO (p := ⟨g3, 1, none⟩) (blk_farO (p := ⟨g3, 0, none⟩) ZB.out (blk_ne ZB.out ZD.out (by decide)) (.int .i64 0)) (blk_ne ZB.out ZD.out (by decide)) (.slice A8 q.f3.length c8)
    have UQ := blk_farO (p := ⟨g3, 1, none⟩) (blk_farO (p := ⟨g3, 0, none⟩) ZQ.out (blk_ne ZQ.out ZD.out (by decide)) (.int .i64 0)) (blk_ne ZQ.out ZD.out (by decide)) (.slice A8 q.f3.length c8)
    have UC := blk_set (blk_set ZD.out 0 (.int .i64 0)) 1 (.slice A8 q.f3.length c8)
    have k6 := keeps_trans (keeps_set ZD.out (by decide) 0 (.int .i64 0)) (keeps_set (blk_set ZD.out 0 (.int .i64 0)) (by decide) 1 (.slice A8 q.f3.length c8))
    have g3le : w.heap.size ≤ g3 := b3
    have UL := below_set (g := g3) (j := 1) (v := .slice A8 q.f3.length c8) (below_set (g := g3) (j := 0) (v := .int .i64 0) ZL.out g3le) g3le
    obtain ⟨X, hX, P6, P7, hs, hB⟩ := fin U6 U7 UL (by omega) (by omega) (.int .i64 d) (.int .i64 n) (.slice (some ⟨g2, 0, none⟩) 1 cap2) (.slice (some ⟨g3, 0, none⟩) 1 cap3) (.slice (some ⟨g4, 0, none⟩) l.length cap4) (.int .i64 q.f0) (.int .i64 2) (.int .i64 0) (.slice A5 q.f3.length c5)
    rw [← hX]
    refine bodyPost_ret (fn := Try.f8) (end8 rfl rfl P6 P7) rfl ?_
    have k7 := keeps_trans k6 (fin_keeps U6 U7 hs)
    have FK := keeps_trans ZK.out k7
    refine ⟨some ⟨g2, 0, none⟩, some ⟨g3, 0, none⟩, some ⟨g4, 0, none⟩, cap2, cap3, cap4, A5, c5, by simp [hq1, hq2], hn2, hn3, Nat.le_of_succ_le OP.out.n4, blocks_F ((hs g2 (blk_ne UB U6 (by decide)) (blk_ne UB U7 (by decide))).trans UB) OP.out.d2 OP.out.l2 (F5_keeps OP.out.f2 FK), cache_F (q := ⟨0, q.f3⟩) ((hs g3 (blk_ne UC U6 (by decide)) (blk_ne UC U7 (by decide))).trans UC) (set2 D31.out).1 (set2 D31.out).2 l8 (F5_keeps Z8.out k7), queue_F OP.out.r4 FK ((hs g4 (blk_ne UQ U6 (by decide)) (by have := LA.out; have := OP.out.b4; omega)).trans UQ) PRE.out, hB⟩
end Go.Proofs.Ytpfbajjpommjmaa.Hand
