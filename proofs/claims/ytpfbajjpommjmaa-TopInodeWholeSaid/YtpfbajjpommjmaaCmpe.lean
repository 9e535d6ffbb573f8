/- What is proved: a call of Complete that ends a flush. Conditions: the device passes Check and is copied by clone. -/
import Derived.Test.YtpfbajjpommjmaaCmpd
namespace Go.Proofs.Ytpfbajjpommjmaa.Hand
open Go.RowKit Go.Proofs.YtpfbajjpommjmaaW.PrintWords Go.Proofs.YtpfbajjpommjmaaW.PrintLast Go.Proofs.YtpfbajjpommjmaaW.PrintMore Go.Proofs.Ytpfbajjpommjmaa.Top
set_option linter.unusedVariables false
set_option linter.unusedSimpArgs false

theorem set1 {cs : Array Value} {a u : Value} (h : cs[0]? = some u) : (cs.setIfInBounds 0 a)[0]? = some a := by
  have hs : 0 < cs.size := (Array.getElem?_eq_some_iff.1 h).1
  rw [Array.getElem?_setIfInBounds_self_of_lt (by simpa using hs)]

set_option maxHeartbeats 1000000 in
set_option maxRecDepth 100000 in
theorem complete_flush0 (k : Nat) (d n : Int) (A2 A3 A4 : Option Addr) (c2 c3 c4 : Nat) (bl : List (List Int)) (x : List Int) (ca : List S60) (qu l : List S43) (q : S43) (w : World)
    (h2 : Kd.C (Kd.slice 5 (Kd.int .u8)) w A2 bl.length bl) (l2 : bl.length ≤ c2) (h3 : Kd.C k60 w A3 ca.length ca) (l3 : ca.length ≤ c3) (h4 : Kd.C k43 w A4 qu.length qu) (l4 : qu.length ≤ c4)
    (hk : device_Check.f k d n bl ca qu = some 0) (hcl : device_clone.f k d n bl ca qu = some (d, n, [x], [], l ++ [q])) (hq : qu.length = l.length + 1) (hl : l.length ≤ 4) (hq1 : q.f1 = 3) :
    Calls Try.prog 8 #[.agg #[.int .i64 d, .int .i64 n, .slice A2 bl.length c2, .slice A3 ca.length c3, .slice A4 qu.length c4], .int .i64 (l.length : Int), .bool true] w fun e w' => ∃ A2 A4 c2 c4 A5 c5, e = .returned (.tuple #[.agg #[.int .i64 d, .int .i64 n, .slice A2 1 c2, .slice none 0 0, .slice A4 l.length c4], .agg #[.int .i64 q.f0, .int .i64 q.f1, .int .i64 q.f2, .slice A5 q.f3.length c5], .int .i64 0]) ∧ 1 ≤ c2 ∧ l.length ≤ c4 ∧ FT (Kd.slice 5 (Kd.int .u8)) w' A2 1 [x] ∧ FT k43 w' A4 l.length l ∧ Below w.heap.size w w' := by
  have hu33 := Try.underlying33
  have hu43 := Try.underlying43
  have hc1 : decide ((l.length : Int) < 0) = false := decide_eq_false (by omega)
  have hc2 : ¬ qu.length ≤ l.length := by omega
  have hc3 : (l.length : Int) < (l.length : Int) + 1 := by omega
  have hc4 : (0 : Int) ≤ (l.length : Int) := by omega
  clear hq
  go_enter Try.func8, Try.ntmps8
  go_wp2_with (first
    | (go_at_call 13; (with_reducible refine (device_Check.calls k d n A2 c2 bl A3 c3 ca A4 c4 qu 0 _ ?s1 l2 ?s3 l3 ?s5 l4 hk).mono ?_); (case s1 => exact Kd.C_alloc (Kd.C_alloc (Kd.C_alloc h2 _) _) _); (case s3 => exact Kd.C_alloc (Kd.C_alloc (Kd.C_alloc h3 _) _) _); (case s5 => exact Kd.C_alloc (Kd.C_alloc (Kd.C_alloc h4 _) _) _); rintro e w1 ⟨rfl, hb⟩; have F3 := Aside0.mk (blk_below (three w _ _ _).1 hb); have F6 := Aside0.mk (blk_below (three w _ _ _).2.1 hb); have F7 := Aside0.mk (blk_below (three w _ _ _).2.2 hb); have L1 := Aside0.mk (below_step (below_alloc (below_alloc (below_alloc (Below.refl w.heap.size w) _) _) _) hb); clear hb; obtain ⟨p0, p1, p2, p3, p4, q0, q1, q2, q3, q4⟩ := box5 F3.out; obtain ⟨r0, r1, r2, r3, r4, s0, s1, s2, s3, s4⟩ := box5 F6.out; obtain ⟨t0, t1, t2, t3, u0, u1, u2, u3⟩ := box4 F7.out; have la := blk_lt F7.out)
    | (go_at_call 14; (with_reducible refine (device_clone.calls k d n A2 c2 bl A3 c3 ca A4 c4 qu d n [x] [] (l ++ [q]) _ ?s1 l2 ?s3 l3 ?s5 l4 hcl).mono ?_); (case s1 => exact Kd.C_below h2 L1.out); (case s3 => exact Kd.C_below h3 L1.out); (case s5 => exact Kd.C_below h4 L1.out); rintro e w2 ⟨v2, v3, v4, rfl, hS2, hS3, hS4, hb⟩; clear p0 p1 p2 p3 p4 q0 q1 q2 q3 q4 r0 r1 r2 r3 r4 s0 s1 s2 s3 s4 t0 t1 t2 t3 u0 u1 u2 u3 la; have G3 := Aside0.mk (blk_below F3.out hb); have G6 := Aside0.mk (blk_below F6.out hb); have G7 := Aside0.mk (blk_below F7.out hb); have L2 := Aside0.mk (below_step L1.out hb); have S3 := Aside0.mk (Kd.S_lower hS3 L1.out.size); obtain ⟨g2, cap2, g4, cap4, cs2, cs4, Ad, cd, A5, c5, rfl, hn2, rfl, O⟩ := opened hS2 hS4; have OP := Aside0.mk O; clear hS2 hS3 hS4 hb O; obtain ⟨A3', c3', e3⟩ : ∃ A c, v3 = .slice A 0 c := Kd.S_slice S3.out; subst e3; have LA := Aside0.mk (blk_lt F7.out); have la := blk_lt G7.out; have lb := blk_lt OP.out.h4; have lc := blk_lt OP.out.h2; have x0 := (blk_cell OP.out.h4 _).trans OP.out.e0; have x1 := (blk_cell OP.out.h4 _).trans OP.out.e1; have x2 := (blk_cell OP.out.h4 _).trans OP.out.e2; have x3 := (blk_cell OP.out.h4 _).trans OP.out.e3))
  (with_reducible refine (delete_any g4 l.length cap4 cs4 _ (blk_alloc (blk_alloc OP.out.h4 _) _) OP.out.n4 OP.out.s4).mono ?_)
  rintro e w3 ⟨rfl, cs5, hc5, hpre, hg⟩
  have Q4 := Aside0.mk hc5
  have PRE := Aside0.mk hpre
  have K5 := Aside0.mk (keeps_trans (keeps_trans (keeps_alloc w2 _) (keeps_alloc _ _)) (keeps_grown (blk_alloc (blk_alloc OP.out.h4 _) _) (by decide) hg))
  have H3 := Aside0.mk (blk_grown (blk_alloc (blk_alloc G3.out _) _) hg (some_ne G3.out OP.out.h4 (by decide)))
  have H6 := Aside0.mk (blk_grown (blk_alloc (blk_alloc G6.out _) _) hg (some_ne G6.out OP.out.h4 (by decide)))
  have H7 := Aside0.mk (blk_grown (blk_alloc (blk_alloc G7.out _) _) hg (fun e => by have e1 := Option.some.inj e; have e2 := LA.out; have e3 := OP.out.b4; omega))
  have H10 := Aside0.mk (blk_grown (two w2 _ _).1 hg (fun e => by have e1 := Option.some.inj e; omega))
  have H11 := Aside0.mk (blk_grown (two w2 _ _).2 hg (fun e => by have e1 := Option.some.inj e; omega))
  have B2 := Aside0.mk (blk_grown (blk_alloc (blk_alloc OP.out.h2 _) _) hg (some_ne OP.out.h2 OP.out.h4 (by decide)))
  have S3b := Aside0.mk (Kd.S_over' (v := .slice (some ⟨g4, 0, none⟩) 0 0) (Kd.S_alloc (Kd.S_alloc S3.out _) _) (fun k hk => by obtain rfl := Option.some.inj hk; exact ⟨_, blk_alloc (blk_alloc OP.out.h4 _) _⟩) (by decide) hg)
  have L3 := Aside0.mk (pw_below_grown (below_alloc (below_alloc L2.out _) _) _ (below_alloc (below_alloc L2.out _) _).size hg (fun k hk => by have e1 := Option.some.inj hk; have e2 := LA.out; have e3 := OP.out.b4; omega))
  clear hc5 hpre hg x0 x1 x2 x3
  have hA := Aside0.mk lb
  have hB := Aside0.mk lc
  have hC := Aside0.mk la
  clear la lb lc
  obtain ⟨p0, p1, p2, p3, p4, q0, q1, q2, q3, q4⟩ := box5 H10.out
  obtain ⟨r0, r1, r2, r3, r4, s0, s1, s2, s3, s4⟩ := box5 H6.out
  obtain ⟨t0, t1, t2, t3, u0, u1, u2, u3⟩ := box4 H7.out
  obtain ⟨x0, x1, x2, x3, y0, y1, y2, y3⟩ := box4 H11.out
  have na : w2.heap.size ≠ w2.heap.size + 1 := by omega
  have nb : w.heap.size + 1 < w2.heap.size := (by have := hC.out; omega)
  have nc : w.heap.size + 1 + 1 < w2.heap.size := (by have := hC.out; omega)
  go_wp2
  obtain ⟨W, hW⟩ : ∃ W, W = w3.setCell ⟨w2.heap.size, 4, none⟩ (.slice (some ⟨g4, 0, none⟩) l.length cap4) := ⟨_, rfl⟩
  have a6 : w.heap.size + 1 ≠ w2.heap.size := by omega
  have a7 : w.heap.size + 1 + 1 ≠ w2.heap.size := by omega
  have a11 : w2.heap.size + 1 ≠ w2.heap.size := by omega
  have W6 := Aside0.mk (hW ▸ blk_farO (p := ⟨w2.heap.size, 4, none⟩) H6.out a6 (.slice (some ⟨g4, 0, none⟩) l.length cap4))
  have W7 := Aside0.mk (hW ▸ blk_farO (p := ⟨w2.heap.size, 4, none⟩) H7.out a7 (.slice (some ⟨g4, 0, none⟩) l.length cap4))
  have W11 := Aside0.mk (hW ▸ blk_farO (p := ⟨w2.heap.size, 4, none⟩) H11.out a11 (.slice (some ⟨g4, 0, none⟩) l.length cap4))
  have W10 := Aside0.mk (hW ▸ blk_put H10.out 4 (.slice (some ⟨g4, 0, none⟩) l.length cap4) rfl)
  have WB := Aside0.mk (hW ▸ blk_farO (p := ⟨w2.heap.size, 4, none⟩) B2.out (blk_ne B2.out H10.out (by decide)) (.slice (some ⟨g4, 0, none⟩) l.length cap4))
  have WQ := Aside0.mk (hW ▸ blk_farO (p := ⟨w2.heap.size, 4, none⟩) Q4.out (blk_ne Q4.out H10.out (by decide)) (.slice (some ⟨g4, 0, none⟩) l.length cap4))
  have WS := Aside0.mk (hW ▸ Kd.S_set S3b.out H10.out (by decide) 4 (.slice (some ⟨g4, 0, none⟩) l.length cap4))
  have WK := Aside0.mk (hW ▸ keeps_trans K5.out (keeps_set H10.out (by decide) 4 (.slice (some ⟨g4, 0, none⟩) l.length cap4)))
  have WL := Aside0.mk (hW ▸ below_set (g := w2.heap.size) (j := 4) (v := .slice (some ⟨g4, 0, none⟩) l.length cap4) L3.out (by omega))
  rw [← hW]
  clear hW p0 p1 p2 p3 p4 q0 q1 q2 q3 q4 r0 r1 r2 r3 r4 s0 s1 s2 s3 s4 t0 t1 t2 t3 u0 u1 u2 u3 x0 x1 x2 x3 y0 y1 y2 y3 H6 H7 H10 H11 B2 Q4 S3b K5 L3
  go_loopg [95] 0 (fun kq v wr => v = .int .i64 0 ∧ wr = W)
  case atStart => exact ⟨rfl, rfl⟩
  case round =>
    obtain ⟨rfl, rfl⟩ := hrel
    have X6 := W6
    have X7 := W7
    have X10 := W10
    have X11 := W11
    have XB := WB
    have XQ := WQ
    have XK := WK
    have XL := WL
    obtain ⟨q10, q11, q12, q13, q14, f10, f11, f12, f13, f14⟩ := box5 X10.out
    obtain ⟨b60, b61, b62, b63, b64, e60, e61, e62, e63, e64⟩ := box5 X6.out
    obtain ⟨b70, b71, b72, b73, e70, e71, e72, e73⟩ := box4 X7.out
    obtain ⟨b10, b11, b12, b13, e10, e11, e12, e13⟩ := box4 X11.out
    go_wp2
    go_region
    go_wp2
    have U6 := blk_farO (p := ⟨w2.heap.size, 3, none⟩) X6.out a6 (.slice none 0 0)
    have U7 := blk_farO (p := ⟨w2.heap.size, 3, none⟩) X7.out a7 (.slice none 0 0)
    have UB := blk_farO (p := ⟨w2.heap.size, 3, none⟩) XB.out (blk_ne XB.out X10.out (by decide)) (.slice none 0 0)
    have UQ := blk_farO (p := ⟨w2.heap.size, 3, none⟩) XQ.out (blk_ne XQ.out X10.out (by decide)) (.slice none 0 0)
    have k6 := keeps_set X10.out (by decide) 3 (.slice none 0 0)
    have UL := below_set (g := w2.heap.size) (j := 3) (v := .slice none 0 0) XL.out (by omega)
    obtain ⟨X, hX, P6, P7, hs, hB⟩ := fin U6 U7 UL (by omega) (by omega) (.int .i64 d) (.int .i64 n) (.slice (some ⟨g2, 0, none⟩) 1 cap2) (.slice none 0 0) (.slice (some ⟨g4, 0, none⟩) l.length cap4) (.int .i64 q.f0) (.int .i64 3) (.int .i64 q.f2) (.slice A5 q.f3.length c5)
    rw [← hX]
    refine bodyPost_ret (fn := Try.f8) (end8 rfl rfl P6 P7) rfl ?_
    have FK := keeps_trans XK.out (keeps_trans k6 (fin_keeps U6 U7 hs))
    refine ⟨some ⟨g2, 0, none⟩, some ⟨g4, 0, none⟩, cap2, cap4, A5, c5, by simp [hq1], hn2, Nat.le_of_succ_le OP.out.n4, blocks_F ((hs g2 (blk_ne UB U6 (by decide)) (blk_ne UB U7 (by decide))).trans UB) OP.out.d2 OP.out.l2 (F5_keeps OP.out.f2 FK), queue_F OP.out.r4 FK ((hs g4 (blk_ne UQ U6 (by decide)) (by have := LA.out; have := OP.out.b4; omega)).trans UQ) PRE.out, hB⟩

set_option maxHeartbeats 1000000 in
set_option maxRecDepth 100000 in
theorem complete_flush1 (k : Nat) (d n : Int) (A2 A3 A4 : Option Addr) (c2 c3 c4 : Nat) (bl : List (List Int)) (x y : List Int) (ca : List S60) (qu l : List S43) (q : S43) (w : World)
    (h2 : Kd.C (Kd.slice 5 (Kd.int .u8)) w A2 bl.length bl) (l2 : bl.length ≤ c2) (h3 : Kd.C k60 w A3 ca.length ca) (l3 : ca.length ≤ c3) (h4 : Kd.C k43 w A4 qu.length qu) (l4 : qu.length ≤ c4)
    (hk : device_Check.f k d n bl ca qu = some 0) (hcl : device_clone.f k d n bl ca qu = some (d, n, [x], [⟨0, y⟩], l ++ [q])) (hq : qu.length = l.length + 1) (hl : l.length ≤ 4) (hq1 : q.f1 = 3) :
    Calls Try.prog 8 #[.agg #[.int .i64 d, .int .i64 n, .slice A2 bl.length c2, .slice A3 ca.length c3, .slice A4 qu.length c4], .int .i64 (l.length : Int), .bool true] w fun e w' => ∃ A2 A4 c2 c4 A5 c5, e = .returned (.tuple #[.agg #[.int .i64 d, .int .i64 n, .slice A2 1 c2, .slice none 0 0, .slice A4 l.length c4], .agg #[.int .i64 q.f0, .int .i64 q.f1, .int .i64 q.f2, .slice A5 q.f3.length c5], .int .i64 0]) ∧ 1 ≤ c2 ∧ l.length ≤ c4 ∧ FT (Kd.slice 5 (Kd.int .u8)) w' A2 1 [y] ∧ FT k43 w' A4 l.length l ∧ Below w.heap.size w w' := by
  have hu33 := Try.underlying33
  have hu43 := Try.underlying43
  have hc1 : decide ((l.length : Int) < 0) = false := decide_eq_false (by omega)
  have hc2 : ¬ qu.length ≤ l.length := by omega
  have hc3 : (l.length : Int) < (l.length : Int) + 1 := by omega
  have hc4 : (0 : Int) ≤ (l.length : Int) := by omega
  clear hq
  go_enter Try.func8, Try.ntmps8
  go_wp2_with (first
    | (go_at_call 13; (with_reducible refine (device_Check.calls k d n A2 c2 bl A3 c3 ca A4 c4 qu 0 _ ?s1 l2 ?s3 l3 ?s5 l4 hk).mono ?_); (case s1 => exact Kd.C_alloc (Kd.C_alloc (Kd.C_alloc h2 _) _) _); (case s3 => exact Kd.C_alloc (Kd.C_alloc (Kd.C_alloc h3 _) _) _); (case s5 => exact Kd.C_alloc (Kd.C_alloc (Kd.C_alloc h4 _) _) _); rintro e w1 ⟨rfl, hb⟩; have F3 := Aside0.mk (blk_below (three w _ _ _).1 hb); have F6 := Aside0.mk (blk_below (three w _ _ _).2.1 hb); have F7 := Aside0.mk (blk_below (three w _ _ _).2.2 hb); have L1 := Aside0.mk (below_step (below_alloc (below_alloc (below_alloc (Below.refl w.heap.size w) _) _) _) hb); clear hb; obtain ⟨p0, p1, p2, p3, p4, q0, q1, q2, q3, q4⟩ := box5 F3.out; obtain ⟨r0, r1, r2, r3, r4, s0, s1, s2, s3, s4⟩ := box5 F6.out; obtain ⟨t0, t1, t2, t3, u0, u1, u2, u3⟩ := box4 F7.out; have la := blk_lt F7.out)
    | (go_at_call 14; (with_reducible refine (device_clone.calls k d n A2 c2 bl A3 c3 ca A4 c4 qu d n [x] [⟨0, y⟩] (l ++ [q]) _ ?s1 l2 ?s3 l3 ?s5 l4 hcl).mono ?_); (case s1 => exact Kd.C_below h2 L1.out); (case s3 => exact Kd.C_below h3 L1.out); (case s5 => exact Kd.C_below h4 L1.out); rintro e w2 ⟨v2, v3, v4, rfl, hS2, hS3, hS4, hb⟩; clear p0 p1 p2 p3 p4 q0 q1 q2 q3 q4 r0 r1 r2 r3 r4 s0 s1 s2 s3 s4 t0 t1 t2 t3 u0 u1 u2 u3 la; have G3 := Aside0.mk (blk_below F3.out hb); have G6 := Aside0.mk (blk_below F6.out hb); have G7 := Aside0.mk (blk_below F7.out hb); have L2 := Aside0.mk (below_step L1.out hb); have S3 := Aside0.mk (Kd.S_lower hS3 L1.out.size); obtain ⟨g2, cap2, g4, cap4, cs2, cs4, Ad, cd, A5, c5, rfl, hn2, rfl, O⟩ := opened hS2 hS4; have OP := Aside0.mk O; clear hS2 hS3 hS4 hb O; obtain ⟨g3, cap3, cs3, A3d, c3d, rfl, hn3, b3, h3c, d30, d31, l3d, f3d⟩ := cache_open S3.out; have D3 := Aside0.mk h3c; have D30 := Aside0.mk d30; have D31 := Aside0.mk d31; have L3d := Aside0.mk l3d; have F3d := Aside0.mk f3d; clear h3c d30 d31 l3d f3d S3; have LA := Aside0.mk (blk_lt F7.out); have la := blk_lt G7.out; have lb := blk_lt OP.out.h4; have lc := blk_lt OP.out.h2; have x0 := (blk_cell OP.out.h4 _).trans OP.out.e0; have x1 := (blk_cell OP.out.h4 _).trans OP.out.e1; have x2 := (blk_cell OP.out.h4 _).trans OP.out.e2; have x3 := (blk_cell OP.out.h4 _).trans OP.out.e3))
  (with_reducible refine (delete_any g4 l.length cap4 cs4 _ (blk_alloc (blk_alloc OP.out.h4 _) _) OP.out.n4 OP.out.s4).mono ?_)
  rintro e w3 ⟨rfl, cs5, hc5, hpre, hg⟩
  have Q4 := Aside0.mk hc5
  have PRE := Aside0.mk hpre
  have K5 := Aside0.mk (keeps_trans (keeps_trans (keeps_alloc w2 _) (keeps_alloc _ _)) (keeps_grown (blk_alloc (blk_alloc OP.out.h4 _) _) (by decide) hg))
  have H3 := Aside0.mk (blk_grown (blk_alloc (blk_alloc G3.out _) _) hg (some_ne G3.out OP.out.h4 (by decide)))
  have H6 := Aside0.mk (blk_grown (blk_alloc (blk_alloc G6.out _) _) hg (some_ne G6.out OP.out.h4 (by decide)))
  have H7 := Aside0.mk (blk_grown (blk_alloc (blk_alloc G7.out _) _) hg (fun e => by have e1 := Option.some.inj e; have e2 := LA.out; have e3 := OP.out.b4; omega))
  have H10 := Aside0.mk (blk_grown (two w2 _ _).1 hg (fun e => by have e1 := Option.some.inj e; omega))
  have H11 := Aside0.mk (blk_grown (two w2 _ _).2 hg (fun e => by have e1 := Option.some.inj e; omega))
  have B2 := Aside0.mk (blk_grown (blk_alloc (blk_alloc OP.out.h2 _) _) hg (some_ne OP.out.h2 OP.out.h4 (by decide)))
  have D3b := Aside0.mk (blk_grown (blk_alloc (blk_alloc D3.out _) _) hg (some_ne D3.out OP.out.h4 (by decide)))
  have L3 := Aside0.mk (pw_below_grown (below_alloc (below_alloc L2.out _) _) _ (below_alloc (below_alloc L2.out _) _).size hg (fun k hk => by have e1 := Option.some.inj hk; have e2 := LA.out; have e3 := OP.out.b4; omega))
  clear hc5 hpre hg x0 x1 x2 x3
  have hA := Aside0.mk lb
  have hB := Aside0.mk lc
  have hC := Aside0.mk la
  clear la lb lc
  obtain ⟨p0, p1, p2, p3, p4, q0, q1, q2, q3, q4⟩ := box5 H10.out
  obtain ⟨r0, r1, r2, r3, r4, s0, s1, s2, s3, s4⟩ := box5 H6.out
  obtain ⟨t0, t1, t2, t3, u0, u1, u2, u3⟩ := box4 H7.out
  obtain ⟨x0, x1, x2, x3, y0, y1, y2, y3⟩ := box4 H11.out
  have na : w2.heap.size ≠ w2.heap.size + 1 := by omega
  have nb : w.heap.size + 1 < w2.heap.size := (by have := hC.out; omega)
  have nc : w.heap.size + 1 + 1 < w2.heap.size := (by have := hC.out; omega)
  go_wp2
  obtain ⟨W, hW⟩ : ∃ W, W = w3.setCell ⟨w2.heap.size, 4, none⟩ (.slice (some ⟨g4, 0, none⟩) l.length cap4) := ⟨_, rfl⟩
  have a6 : w.heap.size + 1 ≠ w2.heap.size := by omega
  have a7 : w.heap.size + 1 + 1 ≠ w2.heap.size := by omega
  have a11 : w2.heap.size + 1 ≠ w2.heap.size := by omega
  have W6 := Aside0.mk (hW ▸ blk_farO (p := ⟨w2.heap.size, 4, none⟩) H6.out a6 (.slice (some ⟨g4, 0, none⟩) l.length cap4))
  have W7 := Aside0.mk (hW ▸ blk_farO (p := ⟨w2.heap.size, 4, none⟩) H7.out a7 (.slice (some ⟨g4, 0, none⟩) l.length cap4))
  have W11 := Aside0.mk (hW ▸ blk_farO (p := ⟨w2.heap.size, 4, none⟩) H11.out a11 (.slice (some ⟨g4, 0, none⟩) l.length cap4))
  have W10 := Aside0.mk (hW ▸ blk_put H10.out 4 (.slice (some ⟨g4, 0, none⟩) l.length cap4) rfl)
  have WB := Aside0.mk (hW ▸ blk_farO (p := ⟨w2.heap.size, 4, none⟩) B2.out (blk_ne B2.out H10.out (by decide)) (.slice (some ⟨g4, 0, none⟩) l.length cap4))
  have WQ := Aside0.mk (hW ▸ blk_farO (p := ⟨w2.heap.size, 4, none⟩) Q4.out (blk_ne Q4.out H10.out (by decide)) (.slice (some ⟨g4, 0, none⟩) l.length cap4))
  have WD := Aside0.mk (hW ▸ blk_farO (p := ⟨w2.heap.size, 4, none⟩) D3b.out (blk_ne D3b.out H10.out (by decide)) (.slice (some ⟨g4, 0, none⟩) l.length cap4))
  have WK := Aside0.mk (hW ▸ keeps_trans K5.out (keeps_set H10.out (by decide) 4 (.slice (some ⟨g4, 0, none⟩) l.length cap4)))
  have WL := Aside0.mk (hW ▸ below_set (g := w2.heap.size) (j := 4) (v := .slice (some ⟨g4, 0, none⟩) l.length cap4) L3.out (by omega))
  rw [← hW]
  clear hW p0 p1 p2 p3 p4 q0 q1 q2 q3 q4 r0 r1 r2 r3 r4 s0 s1 s2 s3 s4 t0 t1 t2 t3 u0 u1 u2 u3 x0 x1 x2 x3 y0 y1 y2 y3 H6 H7 H10 H11 B2 Q4 D3b K5 L3
  go_loopg [95] 1 (fun kq v wr => (kq = 1 ∧ v = .int .i64 0 ∧ wr = W) ∨ (kq = 0 ∧ v = .int .i64 1 ∧ wr = (W.setCell ⟨g2, 0, none⟩ (.slice A3d y.length c3d)).alloc (.cells #[.int .i64 0, .slice A3d y.length c3d] 60)))
  case atStart => exact Or.inl ⟨rfl, rfl, rfl⟩
  case round =>
    rcases hrel with ⟨rfl, rfl, rfl⟩ | ⟨rfl, rfl, hwr⟩
    · obtain ⟨q10, q11, q12, q13, q14, f10, f11, f12, f13, f14⟩ := box5 W10.out
      have d0 := (blk_cell WD.out 0).trans D30.out
      have d1 := (blk_cell WD.out 1).trans D31.out
      have i0 := (blk_cell WB.out 0).trans OP.out.d2
      have i1 := blk_frozen WB.out 0
      have l2 := blk_lt WB.out
      have l3 := blk_lt WD.out
      have l10 := blk_lt W10.out
      go_wp2
      go_roundg 0
      case measure => omega
      case rel => exact Or.inr ⟨rfl, rfl, rfl⟩
    · have X6 := Aside0.mk (hwr ▸ blk_alloc (blk_farO (p := ⟨g2, 0, none⟩) W6.out (blk_ne W6.out WB.out (by decide)) (.slice A3d y.length c3d)) (.cells #[.int .i64 0, .slice A3d y.length c3d] 60))
      have X7 := Aside0.mk (hwr ▸ blk_alloc (blk_farO (p := ⟨g2, 0, none⟩) W7.out (blk_ne W7.out WB.out (by decide)) (.slice A3d y.length c3d)) (.cells #[.int .i64 0, .slice A3d y.length c3d] 60))
      have X10 := Aside0.mk (hwr ▸ blk_alloc (blk_farO (p := ⟨g2, 0, none⟩) W10.out (blk_ne W10.out WB.out (by decide)) (.slice A3d y.length c3d)) (.cells #[.int .i64 0, .slice A3d y.length c3d] 60))
      have X11 := Aside0.mk (hwr ▸ blk_alloc (blk_farO (p := ⟨g2, 0, none⟩) W11.out (blk_ne W11.out WB.out (by decide)) (.slice A3d y.length c3d)) (.cells #[.int .i64 0, .slice A3d y.length c3d] 60))
      have XQ := Aside0.mk (hwr ▸ blk_alloc (blk_farO (p := ⟨g2, 0, none⟩) WQ.out (blk_ne WQ.out WB.out (by decide)) (.slice A3d y.length c3d)) (.cells #[.int .i64 0, .slice A3d y.length c3d] 60))
      have XB := Aside0.mk (hwr ▸ blk_alloc (blk_set WB.out 0 (.slice A3d y.length c3d)) (.cells #[.int .i64 0, .slice A3d y.length c3d] 60))
      have XK := Aside0.mk (hwr ▸ keeps_trans WK.out (keeps_trans (keeps_set WB.out (by decide) 0 (.slice A3d y.length c3d)) (keeps_alloc _ (.cells #[.int .i64 0, .slice A3d y.length c3d] 60))))
      have XL := Aside0.mk (hwr ▸ below_alloc (below_set (g := g2) (j := 0) (v := (.slice A3d y.length c3d)) WL.out (by have := OP.out.b2; have := LA.out; omega)) (.cells #[.int .i64 0, .slice A3d y.length c3d] 60))
      clear hwr
      obtain ⟨q10, q11, q12, q13, q14, f10, f11, f12, f13, f14⟩ := box5 X10.out
      obtain ⟨b60, b61, b62, b63, b64, e60, e61, e62, e63, e64⟩ := box5 X6.out
      obtain ⟨b70, b71, b72, b73, e70, e71, e72, e73⟩ := box4 X7.out
      obtain ⟨b10, b11, b12, b13, e10, e11, e12, e13⟩ := box4 X11.out
      go_wp2
      go_region
      go_wp2
      have U6 := blk_farO (p := ⟨w2.heap.size, 3, none⟩) X6.out a6 (.slice none 0 0)
      have U7 := blk_farO (p := ⟨w2.heap.size, 3, none⟩) X7.out a7 (.slice none 0 0)
      have UB := blk_farO (p := ⟨w2.heap.size, 3, none⟩) XB.out (blk_ne XB.out X10.out (by decide)) (.slice none 0 0)
      have UQ := blk_farO (p := ⟨w2.heap.size, 3, none⟩) XQ.out (blk_ne XQ.out X10.out (by decide)) (.slice none 0 0)
      have k6 := keeps_set X10.out (by decide) 3 (.slice none 0 0)
      have UL := below_set (g := w2.heap.size) (j := 3) (v := .slice none 0 0) XL.out (by omega)
      obtain ⟨X, hX, P6, P7, hs, hB⟩ := fin U6 U7 UL (by omega) (by omega) (.int .i64 d) (.int .i64 n) (.slice (some ⟨g2, 0, none⟩) 1 cap2) (.slice none 0 0) (.slice (some ⟨g4, 0, none⟩) l.length cap4) (.int .i64 q.f0) (.int .i64 3) (.int .i64 q.f2) (.slice A5 q.f3.length c5)
      rw [← hX]
      refine bodyPost_ret (fn := Try.f8) (end8 rfl rfl P6 P7) rfl ?_
      have FK := keeps_trans XK.out (keeps_trans k6 (fin_keeps U6 U7 hs))
      refine ⟨some ⟨g2, 0, none⟩, some ⟨g4, 0, none⟩, cap2, cap4, A5, c5, by simp [hq1], hn2, Nat.le_of_succ_le OP.out.n4, blocks_F ((hs g2 (blk_ne UB U6 (by decide)) (blk_ne UB U7 (by decide))).trans UB) (set1 OP.out.d2) L3d.out (F5_keeps F3d.out FK), queue_F OP.out.r4 FK ((hs g4 (blk_ne UQ U6 (by decide)) (by have := LA.out; have := OP.out.b4; omega)).trans UQ) PRE.out, hB⟩
end Go.Proofs.Ytpfbajjpommjmaa.Hand
