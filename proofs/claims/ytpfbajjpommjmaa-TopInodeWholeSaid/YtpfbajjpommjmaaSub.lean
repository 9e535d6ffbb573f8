/- What is proved: a call of Submit on a device whose queue is full answers ErrFull; on one with room it returns the device with the request behind the queue. Conditions: the device passes Check, the request passes, clone copies the device. -/
import Derived.Test.YtpfbajjpommjmaaCmpc
import Derived.Test.YtpfbajjpommjmaaTopx6
namespace Go.Proofs.Ytpfbajjpommjmaa.Hand
open Go.RowKit Go.Proofs.YtpfbajjpommjmaaW.PrintWords Go.Proofs.YtpfbajjpommjmaaW.PrintLast Go.Proofs.YtpfbajjpommjmaaW.PrintMore Go.Proofs.Ytpfbajjpommjmaa.Top
set_option linter.unusedVariables false
set_option linter.unusedSimpArgs false

theorem R_put4 {w : World} {g : Nat} {base : Nat} {v : Value} {x : List Int} {cs : Array Value} (h : Kd.R (Kd.int .u8) 5 w base (fun _ => True) v x) (hb : w.heap[g]? = some (.cells cs 43 (0, 0))) (b0 b1 b2 b3 : Value) :
    Kd.R (Kd.int .u8) 5 ((((w.setCell ⟨g, 0, none⟩ b0).setCell ⟨g, 1, none⟩ b1).setCell ⟨g, 2, none⟩ b2).setCell ⟨g, 3, none⟩ b3) base (fun _ => True) v x := by
  have h0 := Kd.R_types h hb (by decide)
  exact Kd.R_mono (Kd.R_far (p := ⟨g, 3, none⟩) (Kd.R_far (p := ⟨g, 2, none⟩) (Kd.R_far (p := ⟨g, 1, none⟩) (Kd.R_far (p := ⟨g, 0, none⟩) h0 (fun _ hk => hk.2) b0) (fun _ hk => hk.2) b1) (fun _ hk => hk.2) b2) (fun _ hk => hk.2) b3) (fun _ _ => trivial)

theorem S_33 {α : Type} {dd : Kd α} {e : Nat} {W X : World} {a b : Nat} {ca cb : Array Value} {base : Nat} {ok : Nat → Prop} {v : Value} {xs : List α} (h : Kd.S dd e W base ok v xs) (ha : W.heap[a]? = some (.cells ca 33 (0, 0))) (hb : W.heap[b]? = some (.cells cb 33 (0, 0))) (hs : ∀ k, k ≠ a → k ≠ b → X.heap[k]? = W.heap[k]?) (ht : ∀ q, q ∈ e :: dd.E → q ≠ 33) : Kd.S dd e X base ok v xs := by
  refine Kd.S_mono (Kd.S_step (Kd.S_bound h) (fun k hk _ => ?_)) (fun _ hk => hk.1)
  obtain ⟨_, _, _, q, hq, cells, hc⟩ := hk
  exact hs k (blk_ne hc ha (ht q hq)) (blk_ne hc hb (ht q hq))

theorem far2 {w : World} {g a : Nat} {o : Option Obj} (h : w.heap[g]? = o) (hg : g ≠ a) (i j : Nat) (b0 b1 : Value) : ((w.setCell ⟨a, i, none⟩ b0).setCell ⟨a, j, none⟩ b1).heap[g]? = o := blk_farO (p := ⟨a, j, none⟩) (blk_farO (p := ⟨a, i, none⟩) h hg b0) hg b1

theorem size_set (w : World) (a : Addr) (v : Value) : (w.setCell a v).heap.size = w.heap.size := by simp [World.setCell]
theorem new_set (w : World) (a : Addr) (v : Value) (o : Obj) : ((w.setCell a v).alloc o).heap[w.heap.size]? = some o := by
  have := blk_new (w.setCell a v) o
  rwa [size_set] at this

set_option maxHeartbeats 4000000 in
set_option maxRecDepth 100000 in
theorem submit_full (k : Nat) (d n kind : Int) (A A2 A3 A4 : Option Addr) (c c2 c3 c4 : Nat) (y : List Int) (bl : List (List Int)) (ca : List S60) (qu : List S43) (w : World)
    (h2 : Kd.C (Kd.slice 5 (Kd.int .u8)) w A2 bl.length bl) (l2 : bl.length ≤ c2) (h3 : Kd.C k60 w A3 ca.length ca) (l3 : ca.length ≤ c3) (h4 : Kd.C k43 w A4 qu.length qu) (l4 : qu.length ≤ c4) (hy : Kd.C (Kd.int .u8) w A y.length y) (ly : y.length ≤ c)
    (hk : device_Check.f k d n bl ca qu = some 0) (hr : device_request.f k d n bl ca qu n kind 0 y = some 0) (hcl : device_clone.f k d n bl ca qu = some (d, n, bl, ca, qu)) (hn : ¬ n = 1099511627776) (hy3 : y.length ≤ 100) (hf : (qu.length : Int) = d) :
    Calls Try.prog 7 #[.agg #[.int .i64 d, .int .i64 n, .slice A2 bl.length c2, .slice A3 ca.length c3, .slice A4 qu.length c4], .int .i64 kind, .int .i64 0, .slice A y.length c] w fun e w' => e = .returned (.tuple #[.agg #[.int .i64 0, .int .i64 0, .slice none 0 0, .slice none 0 0, .slice none 0 0], .int .i64 0, .int .i64 8]) ∧ Below w.heap.size w w' := by
  have hu33 := Try.underlying33
  have hu43 := Try.underlying43
  go_enter Try.func7, Try.ntmps7
  go_wp2
  have E4 := Aside0.mk (two w (.cells #[.int .i64 d, .int .i64 n, .slice A2 bl.length c2, .slice A3 ca.length c3, .slice A4 qu.length c4] 33) (.cells #[.int .i64 0, .int .i64 0, .slice none 0 0, .slice none 0 0, .slice none 0 0] 33)).1
  have E8 := Aside0.mk (two w (.cells #[.int .i64 d, .int .i64 n, .slice A2 bl.length c2, .slice A3 ca.length c3, .slice A4 qu.length c4] 33) (.cells #[.int .i64 0, .int .i64 0, .slice none 0 0, .slice none 0 0, .slice none 0 0] 33)).2
  have EL := Aside0.mk (below_alloc (below_alloc (Below.refl w.heap.size w) (.cells #[.int .i64 d, .int .i64 n, .slice A2 bl.length c2, .slice A3 ca.length c3, .slice A4 qu.length c4] 33)) (.cells #[.int .i64 0, .int .i64 0, .slice none 0 0, .slice none 0 0, .slice none 0 0] 33))
  have es : ((w.alloc (.cells #[.int .i64 d, .int .i64 n, .slice A2 bl.length c2, .slice A3 ca.length c3, .slice A4 qu.length c4] 33)).alloc (.cells #[.int .i64 0, .int .i64 0, .slice none 0 0, .slice none 0 0, .slice none 0 0] 33)).heap.size = w.heap.size + 1 + 1 := by rw [size_alloc, size_alloc]
  obtain ⟨W, hW⟩ : ∃ W, W = (w.alloc (.cells #[.int .i64 d, .int .i64 n, .slice A2 bl.length c2, .slice A3 ca.length c3, .slice A4 qu.length c4] 33)).alloc (.cells #[.int .i64 0, .int .i64 0, .slice none 0 0, .slice none 0 0, .slice none 0 0] 33) := ⟨_, rfl⟩
  rw [← hW] at E4 E8 EL es ⊢
  clear hW
  have ES := Aside0.mk es
  clear es
  obtain ⟨p0, p1, p2, p3, p4, f0, f1, f2, f3, f4⟩ := box5 E4.out
  go_region_held_law (fun w' => w'.cell? ⟨w.heap.size, 1, none⟩ = some (.int .i64 n)) (go_keep) (first | (refine goes_ (N := some 19) Try.func15 (by kernel_rfl) rfl #[.slice A y.length c] (by rfl) rfl rfl (by first | done | rfl | (simp [Act.eval])) ?_; refine (bytes_Clone.calls A c y y _ (Kd.C_drew (Kd.C_below hy EL.out)) ly (if_pos (Nat.le_trans hy3 (by decide)))).mono ?_; rintro e w1 ⟨v19, rfl, hR, hb⟩; refine ⟨_, rfl, ?_⟩; have R19 := Aside0.mk hR; obtain ⟨A8, c8, rfl, l8, f8⟩ := F5_of_R hR; have V4 := Aside0.mk (blk_below (blk_drew E4.out) hb); have V8 := Aside0.mk (blk_below (blk_drew E8.out) hb); have VL := Aside0.mk (below_step (below_drew1 EL.out) hb); have V11 := Aside0.mk (trivial); clear hb hR f8 l8; obtain ⟨xx0, xx1, xx2, xx3, xx4, yy0, yy1, yy2, yy3, yy4⟩ := box5 V4.out) | (refine goes_ (N := some 19) Try.func15 (by kernel_rfl) rfl #[.slice A y.length c] (by rfl) rfl rfl (by first | done | rfl | (simp [Act.eval])) ?_; refine (bytes_Clone.calls A c y y _ (Kd.C_alloc (Kd.C_drew (Kd.C_below hy EL.out)) _) ly (if_pos (Nat.le_trans hy3 (by decide)))).mono ?_; rintro e w1 ⟨v19, rfl, hR, hb⟩; refine ⟨_, rfl, ?_⟩; have R19 := Aside0.mk hR; obtain ⟨A8, c8, rfl, l8, f8⟩ := F5_of_R hR; have V4 := Aside0.mk (blk_below (blk_alloc (blk_drew E4.out) _) hb); have V8 := Aside0.mk (blk_below (blk_alloc (blk_drew E8.out) _) hb); have VL := Aside0.mk (below_step (below_alloc (below_drew1 EL.out) _) hb); have V11 := Aside0.mk (blk_below (new_drew W _) hb); obtain ⟨z0, z1, z2, z3, zf0, zf1, zf2, zf3⟩ := box4 V11.out; have lz := blk_lt E8.out; have lz1 : W.heap.size ≠ w.heap.size := (by omega); have lz2 : w.heap.size ≠ W.heap.size := (by omega); clear hb hR f8 l8; obtain ⟨xx0, xx1, xx2, xx3, xx4, yy0, yy1, yy2, yy3, yy4⟩ := box5 V4.out))
  · have Y4 := Aside0.mk (blk_alloc V4.out (.cells #[.int .i64 n, .int .i64 kind, .int .i64 0, .slice A8 y.length c8] 43))
    have Y8 := Aside0.mk (blk_alloc V8.out (.cells #[.int .i64 n, .int .i64 kind, .int .i64 0, .slice A8 y.length c8] 43))
    have Y11 := Aside0.mk (blk_new w1 (.cells #[.int .i64 n, .int .i64 kind, .int .i64 0, .slice A8 y.length c8] 43))
    have YL := Aside0.mk (below_alloc VL.out (.cells #[.int .i64 n, .int .i64 kind, .int .i64 0, .slice A8 y.length c8] 43))
    have YR := Aside0.mk (Kd.R_alloc (Kd.R_lower R19.out (by have := EL.out.size; exact this)) (.cells #[.int .i64 n, .int .i64 kind, .int .i64 0, .slice A8 y.length c8] 43))
    have YG : w.heap.size + 2 ≤ w1.heap.size := Nat.le_trans (by have := ES.out; omega) (Nat.succ_le_of_lt (blk_lt V8.out))
    obtain ⟨Y, hY⟩ : ∃ Y, Y = w1.alloc (.cells #[.int .i64 n, .int .i64 kind, .int .i64 0, .slice A8 y.length c8] 43) := ⟨_, rfl⟩
    rw [← hY] at Y4 Y8 Y11 YL YR ⊢
    clear hY xx0 xx1 xx2 xx3 xx4 yy0 yy1 yy2 yy3 yy4 p0 p1 p2 p3 p4 f0 f1 f2 f3 f4
    obtain ⟨g11, hg11⟩ : ∃ g, g = w1.heap.size := ⟨_, rfl⟩
    rw [← hg11] at Y11 YG ⊢
    clear hg11
    obtain ⟨q0, q1, q2, q3, q4, e0, e1, e2, e3, e4⟩ := box5 Y4.out
    obtain ⟨u0, u1, u2, u3, s0, s1, s2, s3⟩ := box4 Y11.out
    have ng1 : w.heap.size ≠ g11 := by omega
    have ng2 : g11 ≠ w.heap.size := by omega
    go_wp2_with (first
      | (go_at_call 13; (with_reducible refine (device_Check.calls k d n A2 c2 bl A3 c3 ca A4 c4 qu 0 _ (Kd.C_below h2 YL.out) l2 (Kd.C_below h3 YL.out) l3 (Kd.C_below h4 YL.out) l4 hk).mono ?_); rintro e w2 ⟨rfl, hb⟩; have Z4 := Aside0.mk (blk_below Y4.out hb); have Z8 := Aside0.mk (blk_below Y8.out hb); have Z11 := Aside0.mk (blk_below Y11.out hb); have ZL := Aside0.mk (below_step YL.out hb); have ZR := Aside0.mk (Kd.R_below YR.out hb); clear hb q0 q1 q2 q3 q4 e0 e1 e2 e3 e4 u0 u1 u2 u3 s0 s1 s2 s3; obtain ⟨q0, q1, q2, q3, q4, e0, e1, e2, e3, e4⟩ := box5 Z4.out; obtain ⟨u0, u1, u2, u3, s0, s1, s2, s3⟩ := box4 Z11.out)
      | (go_at_call 16; (with_reducible refine (device_request.calls k d n A2 c2 bl A3 c3 ca A4 c4 qu n kind 0 A8 c8 y 0 _ (Kd.C_below h2 ZL.out) l2 (Kd.C_below h3 ZL.out) l3 (Kd.C_below h4 ZL.out) l4 (Kd.R_reads' ZR.out).2.2 (Kd.R_reads' ZR.out).2.1 hr).mono ?_); rintro e w3 ⟨rfl, hb⟩; have X4 := Aside0.mk (blk_below Z4.out hb); have X8 := Aside0.mk (blk_below Z8.out hb); have X11 := Aside0.mk (blk_below Z11.out hb); have XL := Aside0.mk (below_step ZL.out hb); have XR := Aside0.mk (Kd.R_below ZR.out hb); clear hb q0 q1 q2 q3 q4 e0 e1 e2 e3 e4 u0 u1 u2 u3 s0 s1 s2 s3; obtain ⟨q0, q1, q2, q3, q4, e0, e1, e2, e3, e4⟩ := box5 X4.out; obtain ⟨u0, u1, u2, u3, s0, s1, s2, s3⟩ := box4 X11.out; obtain ⟨b80, b81, b82, b83, b84, e80, e81, e82, e83, e84⟩ := box5 X8.out))
    have P8 := put5 X8.out (.int .i64 0) (.int .i64 0) (.slice none 0 0) (.slice none 0 0) (.slice none 0 0)
    refine bodyPost_ret (fn := Try.f7) (results_ctt rfl _ _ (w.heap.size + 1) 33 _ (0, 0) _ rfl P8 hu33 rfl (by kernel_rfl)) rfl ?_
    refine ⟨by simp, ?_⟩
    repeat refine below_set ?_ (by omega)
    exact XL.out
  · have Y4 := Aside0.mk (far4 V4.out (show w.heap.size ≠ W.heap.size by have := ES.out; omega) (.int .i64 n) (.int .i64 kind) (.int .i64 0) (.slice A8 y.length c8))
    have Y8 := Aside0.mk (far4 V8.out (show w.heap.size + 1 ≠ W.heap.size by have := ES.out; omega) (.int .i64 n) (.int .i64 kind) (.int .i64 0) (.slice A8 y.length c8))
    have Y11 := Aside0.mk (put4 V11.out (.int .i64 n) (.int .i64 kind) (.int .i64 0) (.slice A8 y.length c8))
    have hwl : w.heap.size ≤ W.heap.size := EL.out.size
    have YL := Aside0.mk (below_set (j := 3) (v := .slice A8 y.length c8) (below_set (j := 2) (v := .int .i64 0) (below_set (j := 1) (v := .int .i64 kind) (below_set (j := 0) (v := .int .i64 n) VL.out hwl) hwl) hwl) hwl)
    have YR := Aside0.mk (R_put4 (Kd.R_lower R19.out (by have := EL.out.size; exact Nat.le_trans this (below_alloc (Below.refl _ W.drew) _).size)) V11.out (.int .i64 n) (.int .i64 kind) (.int .i64 0) (.slice A8 y.length c8))
    have YG : w.heap.size + 2 ≤ W.heap.size := by have := ES.out; omega
    obtain ⟨Y, hY⟩ : ∃ Y, Y = (((w1.setCell ⟨W.heap.size, 0, none⟩ (.int .i64 n)).setCell ⟨W.heap.size, 1, none⟩ (.int .i64 kind)).setCell ⟨W.heap.size, 2, none⟩ (.int .i64 0)).setCell ⟨W.heap.size, 3, none⟩ (.slice A8 y.length c8) := ⟨_, rfl⟩
    rw [← hY] at Y4 Y8 Y11 YL YR ⊢
    clear hY xx0 xx1 xx2 xx3 xx4 yy0 yy1 yy2 yy3 yy4 p0 p1 p2 p3 p4 f0 f1 f2 f3 f4 z0 z1 z2 z3 zf0 zf1 zf2 zf3 lz lz1 lz2
    obtain ⟨g11, hg11⟩ : ∃ g, g = W.heap.size := ⟨_, rfl⟩
    rw [← hg11] at Y11 YG ⊢
    clear hg11
    obtain ⟨q0, q1, q2, q3, q4, e0, e1, e2, e3, e4⟩ := box5 Y4.out
    obtain ⟨u0, u1, u2, u3, s0, s1, s2, s3⟩ := box4 Y11.out
    have ng1 : w.heap.size ≠ g11 := by omega
    have ng2 : g11 ≠ w.heap.size := by omega
    go_wp2_with (first
      | (go_at_call 13; (with_reducible refine (device_Check.calls k d n A2 c2 bl A3 c3 ca A4 c4 qu 0 _ (Kd.C_below h2 YL.out) l2 (Kd.C_below h3 YL.out) l3 (Kd.C_below h4 YL.out) l4 hk).mono ?_); rintro e w2 ⟨rfl, hb⟩; have Z4 := Aside0.mk (blk_below Y4.out hb); have Z8 := Aside0.mk (blk_below Y8.out hb); have Z11 := Aside0.mk (blk_below Y11.out hb); have ZL := Aside0.mk (below_step YL.out hb); have ZR := Aside0.mk (Kd.R_below YR.out hb); clear hb q0 q1 q2 q3 q4 e0 e1 e2 e3 e4 u0 u1 u2 u3 s0 s1 s2 s3; obtain ⟨q0, q1, q2, q3, q4, e0, e1, e2, e3, e4⟩ := box5 Z4.out; obtain ⟨u0, u1, u2, u3, s0, s1, s2, s3⟩ := box4 Z11.out)
      | (go_at_call 16; (with_reducible refine (device_request.calls k d n A2 c2 bl A3 c3 ca A4 c4 qu n kind 0 A8 c8 y 0 _ (Kd.C_below h2 ZL.out) l2 (Kd.C_below h3 ZL.out) l3 (Kd.C_below h4 ZL.out) l4 (Kd.R_reads' ZR.out).2.2 (Kd.R_reads' ZR.out).2.1 hr).mono ?_); rintro e w3 ⟨rfl, hb⟩; have X4 := Aside0.mk (blk_below Z4.out hb); have X8 := Aside0.mk (blk_below Z8.out hb); have X11 := Aside0.mk (blk_below Z11.out hb); have XL := Aside0.mk (below_step ZL.out hb); have XR := Aside0.mk (Kd.R_below ZR.out hb); clear hb q0 q1 q2 q3 q4 e0 e1 e2 e3 e4 u0 u1 u2 u3 s0 s1 s2 s3; obtain ⟨q0, q1, q2, q3, q4, e0, e1, e2, e3, e4⟩ := box5 X4.out; obtain ⟨u0, u1, u2, u3, s0, s1, s2, s3⟩ := box4 X11.out; obtain ⟨b80, b81, b82, b83, b84, e80, e81, e82, e83, e84⟩ := box5 X8.out))
    have P8 := put5 X8.out (.int .i64 0) (.int .i64 0) (.slice none 0 0) (.slice none 0 0) (.slice none 0 0)
    refine bodyPost_ret (fn := Try.f7) (results_ctt rfl _ _ (w.heap.size + 1) 33 _ (0, 0) _ rfl P8 hu33 rfl (by kernel_rfl)) rfl ?_
    refine ⟨by simp, ?_⟩
    repeat refine below_set ?_ (by omega)
    exact XL.out

set_option maxHeartbeats 4000000 in
set_option maxRecDepth 100000 in
theorem submit_data (k : Nat) (d n kind : Int) (A A2 A3 A4 : Option Addr) (c c2 c3 c4 : Nat) (y : List Int) (bl : List (List Int)) (ca : List S60) (qu : List S43) (w : World)
    (h2 : Kd.C (Kd.slice 5 (Kd.int .u8)) w A2 bl.length bl) (l2 : bl.length ≤ c2) (h3 : Kd.C k60 w A3 ca.length ca) (l3 : ca.length ≤ c3) (h4 : Kd.C k43 w A4 qu.length qu) (l4 : qu.length ≤ c4) (hy : Kd.C (Kd.int .u8) w A y.length y) (ly : y.length ≤ c)
    (hk : device_Check.f k d n bl ca qu = some 0) (hr : device_request.f k d n bl ca qu n kind 0 y = some 0) (hcl : device_clone.f k d n bl ca qu = some (d, n, bl, ca, qu)) (hn : ¬ n = 1099511627776) (hy3 : y.length ≤ 100) (hf : ¬ (qu.length : Int) = d) (hy0 : ¬ y.length = 0) (hw : wrap64 (n + 1) = n + 1) (hql : qu.length ≤ 100) (qn : List S43) (hqn : qn = qu ++ [⟨n, kind, 0, y⟩]) :
    Calls Try.prog 7 #[.agg #[.int .i64 d, .int .i64 n, .slice A2 bl.length c2, .slice A3 ca.length c3, .slice A4 qu.length c4], .int .i64 kind, .int .i64 0, .slice A y.length c] w fun e w' => ∃ A2 A3 A4 c2 c3 c4, e = .returned (.tuple #[.agg #[.int .i64 d, .int .i64 (n + 1), .slice A2 bl.length c2, .slice A3 ca.length c3, .slice A4 qn.length c4], .int .i64 n, .int .i64 0]) ∧ bl.length ≤ c2 ∧ ca.length ≤ c3 ∧ qn.length ≤ c4 ∧ FT (Kd.slice 5 (Kd.int .u8)) w' A2 bl.length bl ∧ FT k60 w' A3 ca.length ca ∧ FT k43 w' A4 qn.length qn ∧ Below w.heap.size w w' := by
  have hu33 := Try.underlying33
  have hu43 := Try.underlying43
  have HQ := Aside0.mk hqn
  clear hqn
  go_enter Try.func7, Try.ntmps7
  go_wp2
  have E4 := Aside0.mk (two w (.cells #[.int .i64 d, .int .i64 n, .slice A2 bl.length c2, .slice A3 ca.length c3, .slice A4 qu.length c4] 33) (.cells #[.int .i64 0, .int .i64 0, .slice none 0 0, .slice none 0 0, .slice none 0 0] 33)).1
  have E8 := Aside0.mk (two w (.cells #[.int .i64 d, .int .i64 n, .slice A2 bl.length c2, .slice A3 ca.length c3, .slice A4 qu.length c4] 33) (.cells #[.int .i64 0, .int .i64 0, .slice none 0 0, .slice none 0 0, .slice none 0 0] 33)).2
  have EL := Aside0.mk (below_alloc (below_alloc (Below.refl w.heap.size w) (.cells #[.int .i64 d, .int .i64 n, .slice A2 bl.length c2, .slice A3 ca.length c3, .slice A4 qu.length c4] 33)) (.cells #[.int .i64 0, .int .i64 0, .slice none 0 0, .slice none 0 0, .slice none 0 0] 33))
  have es : ((w.alloc (.cells #[.int .i64 d, .int .i64 n, .slice A2 bl.length c2, .slice A3 ca.length c3, .slice A4 qu.length c4] 33)).alloc (.cells #[.int .i64 0, .int .i64 0, .slice none 0 0, .slice none 0 0, .slice none 0 0] 33)).heap.size = w.heap.size + 1 + 1 := by rw [size_alloc, size_alloc]
  obtain ⟨W, hW⟩ : ∃ W, W = (w.alloc (.cells #[.int .i64 d, .int .i64 n, .slice A2 bl.length c2, .slice A3 ca.length c3, .slice A4 qu.length c4] 33)).alloc (.cells #[.int .i64 0, .int .i64 0, .slice none 0 0, .slice none 0 0, .slice none 0 0] 33) := ⟨_, rfl⟩
  rw [← hW] at E4 E8 EL es ⊢
  clear hW
  have ES := Aside0.mk es
  clear es
  obtain ⟨p0, p1, p2, p3, p4, f0, f1, f2, f3, f4⟩ := box5 E4.out
  go_region_held_law (fun w' => w'.cell? ⟨w.heap.size, 1, none⟩ = some (.int .i64 n)) (go_keep) (first | (refine goes_ (N := some 19) Try.func15 (by kernel_rfl) rfl #[.slice A y.length c] (by rfl) rfl rfl (by first | done | rfl | (simp [Act.eval])) ?_; refine (bytes_Clone.calls A c y y _ (Kd.C_drew (Kd.C_below hy EL.out)) ly (if_pos (Nat.le_trans hy3 (by decide)))).mono ?_; rintro e w1 ⟨v19, rfl, hR, hb⟩; refine ⟨_, rfl, ?_⟩; have R19 := Aside0.mk hR; obtain ⟨A8, c8, rfl, l8, f8⟩ := F5_of_R hR; have V4 := Aside0.mk (blk_below (blk_drew E4.out) hb); have V8 := Aside0.mk (blk_below (blk_drew E8.out) hb); have VL := Aside0.mk (below_step (below_drew1 EL.out) hb); have V11 := Aside0.mk (trivial); clear hb hR f8 l8; obtain ⟨xx0, xx1, xx2, xx3, xx4, yy0, yy1, yy2, yy3, yy4⟩ := box5 V4.out) | (refine goes_ (N := some 19) Try.func15 (by kernel_rfl) rfl #[.slice A y.length c] (by rfl) rfl rfl (by first | done | rfl | (simp [Act.eval])) ?_; refine (bytes_Clone.calls A c y y _ (Kd.C_alloc (Kd.C_drew (Kd.C_below hy EL.out)) _) ly (if_pos (Nat.le_trans hy3 (by decide)))).mono ?_; rintro e w1 ⟨v19, rfl, hR, hb⟩; refine ⟨_, rfl, ?_⟩; have R19 := Aside0.mk hR; obtain ⟨A8, c8, rfl, l8, f8⟩ := F5_of_R hR; have V4 := Aside0.mk (blk_below (blk_alloc (blk_drew E4.out) _) hb); have V8 := Aside0.mk (blk_below (blk_alloc (blk_drew E8.out) _) hb); have VL := Aside0.mk (below_step (below_alloc (below_drew1 EL.out) _) hb); have V11 := Aside0.mk (blk_below (new_drew W _) hb); obtain ⟨z0, z1, z2, z3, zf0, zf1, zf2, zf3⟩ := box4 V11.out; have lz := blk_lt E8.out; have lz1 : W.heap.size ≠ w.heap.size := (by omega); have lz2 : w.heap.size ≠ W.heap.size := (by omega); clear hb hR f8 l8; obtain ⟨xx0, xx1, xx2, xx3, xx4, yy0, yy1, yy2, yy3, yy4⟩ := box5 V4.out))
  · have Y4 := Aside0.mk (blk_alloc V4.out (.cells #[.int .i64 n, .int .i64 kind, .int .i64 0, .slice A8 y.length c8] 43))
    have Y8 := Aside0.mk (blk_alloc V8.out (.cells #[.int .i64 n, .int .i64 kind, .int .i64 0, .slice A8 y.length c8] 43))
    have Y11 := Aside0.mk (blk_new w1 (.cells #[.int .i64 n, .int .i64 kind, .int .i64 0, .slice A8 y.length c8] 43))
    have YL := Aside0.mk (below_alloc VL.out (.cells #[.int .i64 n, .int .i64 kind, .int .i64 0, .slice A8 y.length c8] 43))
    have YR := Aside0.mk (Kd.R_alloc (Kd.R_lower R19.out (by have := EL.out.size; exact this)) (.cells #[.int .i64 n, .int .i64 kind, .int .i64 0, .slice A8 y.length c8] 43))
    have YG : w.heap.size + 2 ≤ w1.heap.size := Nat.le_trans (by have := ES.out; omega) (Nat.succ_le_of_lt (blk_lt V8.out))
    obtain ⟨Y, hY⟩ : ∃ Y, Y = w1.alloc (.cells #[.int .i64 n, .int .i64 kind, .int .i64 0, .slice A8 y.length c8] 43) := ⟨_, rfl⟩
    rw [← hY] at Y4 Y8 Y11 YL YR ⊢
    clear hY xx0 xx1 xx2 xx3 xx4 yy0 yy1 yy2 yy3 yy4 p0 p1 p2 p3 p4 f0 f1 f2 f3 f4
    obtain ⟨g11, hg11⟩ : ∃ g, g = w1.heap.size := ⟨_, rfl⟩
    rw [← hg11] at Y11 YG ⊢
    clear hg11
    obtain ⟨q0, q1, q2, q3, q4, e0, e1, e2, e3, e4⟩ := box5 Y4.out
    obtain ⟨u0, u1, u2, u3, s0, s1, s2, s3⟩ := box4 Y11.out
    have ng1 : w.heap.size ≠ g11 := by omega
    have ng2 : g11 ≠ w.heap.size := by omega
    go_wp2_with (first
      | (go_at_call 13; (with_reducible refine (device_Check.calls k d n A2 c2 bl A3 c3 ca A4 c4 qu 0 _ (Kd.C_below h2 YL.out) l2 (Kd.C_below h3 YL.out) l3 (Kd.C_below h4 YL.out) l4 hk).mono ?_); rintro e w2 ⟨rfl, hb⟩; have Z4 := Aside0.mk (blk_below Y4.out hb); have Z8 := Aside0.mk (blk_below Y8.out hb); have Z11 := Aside0.mk (blk_below Y11.out hb); have ZL := Aside0.mk (below_step YL.out hb); have ZR := Aside0.mk (Kd.R_below YR.out hb); clear hb q0 q1 q2 q3 q4 e0 e1 e2 e3 e4 u0 u1 u2 u3 s0 s1 s2 s3; obtain ⟨q0, q1, q2, q3, q4, e0, e1, e2, e3, e4⟩ := box5 Z4.out; obtain ⟨u0, u1, u2, u3, s0, s1, s2, s3⟩ := box4 Z11.out)
      | (go_at_call 16; (with_reducible refine (device_request.calls k d n A2 c2 bl A3 c3 ca A4 c4 qu n kind 0 A8 c8 y 0 _ (Kd.C_below h2 ZL.out) l2 (Kd.C_below h3 ZL.out) l3 (Kd.C_below h4 ZL.out) l4 (Kd.R_reads' ZR.out).2.2 (Kd.R_reads' ZR.out).2.1 hr).mono ?_); rintro e w3 ⟨rfl, hb⟩; have X4 := Aside0.mk (blk_below Z4.out hb); have X8 := Aside0.mk (blk_below Z8.out hb); have X11 := Aside0.mk (blk_below Z11.out hb); have XL := Aside0.mk (below_step ZL.out hb); have XR := Aside0.mk (Kd.R_below ZR.out hb); clear hb q0 q1 q2 q3 q4 e0 e1 e2 e3 e4 u0 u1 u2 u3 s0 s1 s2 s3; obtain ⟨q0, q1, q2, q3, q4, e0, e1, e2, e3, e4⟩ := box5 X4.out; obtain ⟨u0, u1, u2, u3, s0, s1, s2, s3⟩ := box4 X11.out; obtain ⟨b80, b81, b82, b83, b84, e80, e81, e82, e83, e84⟩ := box5 X8.out)
      | (go_at_call 14; (with_reducible refine (device_clone.calls k d n A2 c2 bl A3 c3 ca A4 c4 qu d n bl ca qu _ (Kd.C_below h2 XL.out) l2 (Kd.C_below h3 XL.out) l3 (Kd.C_below h4 XL.out) l4 hcl).mono ?_); rintro e w4 ⟨v2, v3, v4, rfl, hS2, hS3, hS4, hb⟩; have U8 := Aside0.mk (blk_below X8.out hb); have U11 := Aside0.mk (blk_below X11.out hb); have UL := Aside0.mk (below_step XL.out hb); have UR := Aside0.mk (Kd.R_below XR.out hb); have LG := Aside0.mk (blk_lt X11.out); have DL := Aside0.mk (Kd.R_lt XR.out); have S2 := Aside0.mk hS2; have S3 := Aside0.mk hS3; have S4 := Aside0.mk hS4; have ls := Aside0.mk XL.out.size; obtain ⟨A2', c2', e2⟩ := Kd.S_slice S2.out; subst e2; obtain ⟨A3', c3', e3⟩ := Kd.S_slice S3.out; subst e3; obtain ⟨A4', c4', e4⟩ := Kd.S_slice S4.out; subst e4; clear hS2 hS3 hS4 hb q0 q1 q2 q3 q4 u0 u1 u2 u3 s0 s1 s2 s3 b80 b81 b82 b83 b84 e80 e81 e82 e83 e84; obtain ⟨u0, u1, u2, u3, s0, s1, s2, s3⟩ := box4 U11.out; have l8 := blk_lt U8.out; have l11 := blk_lt U11.out; have n8 : w4.heap.size ≠ w.heap.size + 1 := (by omega); have n8' : w.heap.size + 1 ≠ w4.heap.size := (by omega); have n11 : w4.heap.size ≠ g11 := (by omega); have n11' : g11 ≠ w4.heap.size := (by omega))
      | (at_builtin; refine Kd.S_append k43 (w0 := w) w.heap.size rfl (.tmp 54) (.tmp 56) 31 43 (.agg #[.int .i64 0, .int .i64 0, .int .i64 0, .slice none 0 0]) 48 rfl Try.underlying31 info43 rfl (by decide) (by omega) (.slice A4' qu.length c4') qu (⟨n, kind, 0, y⟩ : S43) [.int .i64 n, .int .i64 kind, .int .i64 0, .slice A8 y.length c8] (fun _ => True) (fun k_ => some k_ = (Value.slice A8 y.length c8).ownBlock) rfl (by rw [size_alloc]; rfl) (k43_mkM _ _ _ (⟨n, kind, 0, y⟩ : S43) (Kd.R_tight rfl (Kd.R_alloc UR.out (.cells #[.int .i64 d, .int .i64 n, .slice A2' bl.length c2', .slice A3' ca.length c3', .slice A4' qu.length c4'] 33)))) (fun k_ hk_ => ⟨trivial, ((Kd.R_apart' UR.out (Kd.S_typed S4.out) (by decide)).1 k_ hk_.symm).2⟩) (fun _ _ => trivial) (Kd.S_alloc (Kd.S_lower (Kd.S_mono (Kd.S_bound S4.out) (fun k_ hk_ => ⟨trivial, fun e_ => by have e1 := DL.out k_ e_.symm; have e2 := hk_.2.1; omega⟩)) ls.out) (.cells #[.int .i64 d, .int .i64 n, .slice A2' bl.length c2', .slice A3' ca.length c3', .slice A4' qu.length c4'] 33)) (below_alloc UL.out (.cells #[.int .i64 d, .int .i64 n, .slice A2' bl.length c2', .slice A3' ca.length c3', .slice A4' qu.length c4'] 33)) (below_alloc UL.out (.cells #[.int .i64 d, .int .i64 n, .slice A2' bl.length c2', .slice A3' ca.length c3', .slice A4' qu.length c4'] 33)).size (by have := hql; omega) ?_; intro v5 w5 hS hB hG hat; rw [← HQ.out] at hS; have T8 := Aside0.mk (blk_grown (blk_alloc U8.out (.cells #[.int .i64 d, .int .i64 n, .slice A2' bl.length c2', .slice A3' ca.length c3', .slice A4' qu.length c4'] 33)) hG (Kd.S_ne (Kd.S_alloc S4.out (.cells #[.int .i64 d, .int .i64 n, .slice A2' bl.length c2', .slice A3' ca.length c3', .slice A4' qu.length c4'] 33)) (blk_alloc U8.out (.cells #[.int .i64 d, .int .i64 n, .slice A2' bl.length c2', .slice A3' ca.length c3', .slice A4' qu.length c4'] 33)) (by decide))); have T11 := Aside0.mk (blk_grown (blk_alloc U11.out (.cells #[.int .i64 d, .int .i64 n, .slice A2' bl.length c2', .slice A3' ca.length c3', .slice A4' qu.length c4'] 33)) hG (fun e => by have e1 := Kd.S_base S4.out _ e.symm; have e2 := LG.out; omega)); have T13 := Aside0.mk (blk_grown (blk_new w4 (.cells #[.int .i64 d, .int .i64 n, .slice A2' bl.length c2', .slice A3' ca.length c3', .slice A4' qu.length c4'] 33)) hG (Kd.S_ne (Kd.S_alloc S4.out (.cells #[.int .i64 d, .int .i64 n, .slice A2' bl.length c2', .slice A3' ca.length c3', .slice A4' qu.length c4'] 33)) (blk_new w4 (.cells #[.int .i64 d, .int .i64 n, .slice A2' bl.length c2', .slice A3' ca.length c3', .slice A4' qu.length c4'] 33)) (by decide))); have T2 := Aside0.mk (Kd.S_over' (Kd.S_alloc S2.out (.cells #[.int .i64 d, .int .i64 n, .slice A2' bl.length c2', .slice A3' ca.length c3', .slice A4' qu.length c4'] 33)) (Kd.S_typed (Kd.S_alloc S4.out (.cells #[.int .i64 d, .int .i64 n, .slice A2' bl.length c2', .slice A3' ca.length c3', .slice A4' qu.length c4'] 33))) (by decide) hG); have T3 := Aside0.mk (Kd.S_over' (Kd.S_alloc S3.out (.cells #[.int .i64 d, .int .i64 n, .slice A2' bl.length c2', .slice A3' ca.length c3', .slice A4' qu.length c4'] 33)) (Kd.S_typed (Kd.S_alloc S4.out (.cells #[.int .i64 d, .int .i64 n, .slice A2' bl.length c2', .slice A3' ca.length c3', .slice A4' qu.length c4'] 33))) (by decide) hG); have T5 := Aside0.mk hS; have TL := Aside0.mk hB; clear hS hB hG hat u0 u1 u2 u3 s0 s1 s2 s3; obtain ⟨A5, c5, e5⟩ := Kd.S_slice T5.out; subst e5; obtain ⟨q0, q1, q2, q3, q4, e0, e1, e2, e3, e4⟩ := box5 T13.out; obtain ⟨u0, u1, u2, u3, s0, s1, s2, s3⟩ := box4 T11.out; obtain ⟨b80, b81, b82, b83, b84, e80, e81, e82, e83, e84⟩ := box5 T8.out))
    have a8 : w.heap.size + 1 ≠ w4.heap.size := n8'
    go_region
    go_wp2
    have M8 := far2 T8.out a8 4 1 (.slice A5 qn.length c5) (.int .i64 (n + 1))
    have M13 := blk_set (blk_set T13.out 4 (.slice A5 qn.length c5)) 1 (.int .i64 (n + 1))
    have P8 := drew_get (put5 M8 (.int .i64 d) (.int .i64 (n + 1)) (.slice A2' bl.length c2') (.slice A3' ca.length c3') (.slice A5 qn.length c5))
    have hs : ∀ k, k ≠ w4.heap.size → k ≠ w.heap.size + 1 → (((((((w5.setCell ⟨w4.heap.size, 4, none⟩ (.slice A5 qn.length c5)).setCell ⟨w4.heap.size, 1, none⟩ (.int .i64 (n + 1))).setCell ⟨w.heap.size + 1, 0, none⟩ (.int .i64 d)).setCell ⟨w.heap.size + 1, 1, none⟩ (.int .i64 (n + 1))).setCell ⟨w.heap.size + 1, 2, none⟩ (.slice A2' bl.length c2')).setCell ⟨w.heap.size + 1, 3, none⟩ (.slice A3' ca.length c3')).setCell ⟨w.heap.size + 1, 4, none⟩ (.slice A5 qn.length c5)).drew.heap[k]? = w5.heap[k]? := fun k k1 k2 => by
      have f0 : w5.heap[k]? = w5.heap[k]? := rfl
      have f1 := far5 (far2 f0 k1 4 1 (.slice A5 qn.length c5) (.int .i64 (n + 1))) k2 (.int .i64 d) (.int .i64 (n + 1)) (.slice A2' bl.length c2') (.slice A3' ca.length c3') (.slice A5 qn.length c5)
      exact drew_get f1
    refine bodyPost_ret (fn := Try.f7) (results_ctt rfl _ _ (w.heap.size + 1) 33 _ (0, 0) _ rfl P8 hu33 rfl (by kernel_rfl)) rfl ?_
    have R2 := Kd.S_reads' (S_33 T2.out T13.out T8.out hs (by decide))
    have R3 := Kd.S_reads' (S_33 T3.out T13.out T8.out hs (by decide))
    have R5 := Kd.S_reads' (S_33 T5.out T13.out T8.out hs (by decide))
    refine ⟨A2', A3', A5, c2', c3', c5, by simp, R2.2.1, R3.2.1, R5.2.1, S_FT (S_33 T2.out T13.out T8.out hs (by decide)) t25, S_FT (S_33 T3.out T13.out T8.out hs (by decide)) t60, S_FT (S_33 T5.out T13.out T8.out hs (by decide)) t43, ?_⟩
    have w4g : w.heap.size ≤ w4.heap.size := by omega
    refine below_drew1 ?_
    repeat refine below_set ?_ (by omega)
    exact TL.out
  · have Y4 := Aside0.mk (far4 V4.out (show w.heap.size ≠ W.heap.size by have := ES.out; omega) (.int .i64 n) (.int .i64 kind) (.int .i64 0) (.slice A8 y.length c8))
    have Y8 := Aside0.mk (far4 V8.out (show w.heap.size + 1 ≠ W.heap.size by have := ES.out; omega) (.int .i64 n) (.int .i64 kind) (.int .i64 0) (.slice A8 y.length c8))
    have Y11 := Aside0.mk (put4 V11.out (.int .i64 n) (.int .i64 kind) (.int .i64 0) (.slice A8 y.length c8))
    have hwl : w.heap.size ≤ W.heap.size := EL.out.size
    have YL := Aside0.mk (below_set (j := 3) (v := .slice A8 y.length c8) (below_set (j := 2) (v := .int .i64 0) (below_set (j := 1) (v := .int .i64 kind) (below_set (j := 0) (v := .int .i64 n) VL.out hwl) hwl) hwl) hwl)
    have YR := Aside0.mk (R_put4 (Kd.R_lower R19.out (by have := EL.out.size; exact Nat.le_trans this (below_alloc (Below.refl _ W.drew) _).size)) V11.out (.int .i64 n) (.int .i64 kind) (.int .i64 0) (.slice A8 y.length c8))
    have YG : w.heap.size + 2 ≤ W.heap.size := by have := ES.out; omega
    obtain ⟨Y, hY⟩ : ∃ Y, Y = (((w1.setCell ⟨W.heap.size, 0, none⟩ (.int .i64 n)).setCell ⟨W.heap.size, 1, none⟩ (.int .i64 kind)).setCell ⟨W.heap.size, 2, none⟩ (.int .i64 0)).setCell ⟨W.heap.size, 3, none⟩ (.slice A8 y.length c8) := ⟨_, rfl⟩
    rw [← hY] at Y4 Y8 Y11 YL YR ⊢
    clear hY xx0 xx1 xx2 xx3 xx4 yy0 yy1 yy2 yy3 yy4 p0 p1 p2 p3 p4 f0 f1 f2 f3 f4 z0 z1 z2 z3 zf0 zf1 zf2 zf3 lz lz1 lz2
    obtain ⟨g11, hg11⟩ : ∃ g, g = W.heap.size := ⟨_, rfl⟩
    rw [← hg11] at Y11 YG ⊢
    clear hg11
    obtain ⟨q0, q1, q2, q3, q4, e0, e1, e2, e3, e4⟩ := box5 Y4.out
    obtain ⟨u0, u1, u2, u3, s0, s1, s2, s3⟩ := box4 Y11.out
    have ng1 : w.heap.size ≠ g11 := by omega
    have ng2 : g11 ≠ w.heap.size := by omega
    go_wp2_with (first
      | (go_at_call 13; (with_reducible refine (device_Check.calls k d n A2 c2 bl A3 c3 ca A4 c4 qu 0 _ (Kd.C_below h2 YL.out) l2 (Kd.C_below h3 YL.out) l3 (Kd.C_below h4 YL.out) l4 hk).mono ?_); rintro e w2 ⟨rfl, hb⟩; have Z4 := Aside0.mk (blk_below Y4.out hb); have Z8 := Aside0.mk (blk_below Y8.out hb); have Z11 := Aside0.mk (blk_below Y11.out hb); have ZL := Aside0.mk (below_step YL.out hb); have ZR := Aside0.mk (Kd.R_below YR.out hb); clear hb q0 q1 q2 q3 q4 e0 e1 e2 e3 e4 u0 u1 u2 u3 s0 s1 s2 s3; obtain ⟨q0, q1, q2, q3, q4, e0, e1, e2, e3, e4⟩ := box5 Z4.out; obtain ⟨u0, u1, u2, u3, s0, s1, s2, s3⟩ := box4 Z11.out)
      | (go_at_call 16; (with_reducible refine (device_request.calls k d n A2 c2 bl A3 c3 ca A4 c4 qu n kind 0 A8 c8 y 0 _ (Kd.C_below h2 ZL.out) l2 (Kd.C_below h3 ZL.out) l3 (Kd.C_below h4 ZL.out) l4 (Kd.R_reads' ZR.out).2.2 (Kd.R_reads' ZR.out).2.1 hr).mono ?_); rintro e w3 ⟨rfl, hb⟩; have X4 := Aside0.mk (blk_below Z4.out hb); have X8 := Aside0.mk (blk_below Z8.out hb); have X11 := Aside0.mk (blk_below Z11.out hb); have XL := Aside0.mk (below_step ZL.out hb); have XR := Aside0.mk (Kd.R_below ZR.out hb); clear hb q0 q1 q2 q3 q4 e0 e1 e2 e3 e4 u0 u1 u2 u3 s0 s1 s2 s3; obtain ⟨q0, q1, q2, q3, q4, e0, e1, e2, e3, e4⟩ := box5 X4.out; obtain ⟨u0, u1, u2, u3, s0, s1, s2, s3⟩ := box4 X11.out; obtain ⟨b80, b81, b82, b83, b84, e80, e81, e82, e83, e84⟩ := box5 X8.out)
      | (go_at_call 14; (with_reducible refine (device_clone.calls k d n A2 c2 bl A3 c3 ca A4 c4 qu d n bl ca qu _ (Kd.C_below h2 XL.out) l2 (Kd.C_below h3 XL.out) l3 (Kd.C_below h4 XL.out) l4 hcl).mono ?_); rintro e w4 ⟨v2, v3, v4, rfl, hS2, hS3, hS4, hb⟩; have U8 := Aside0.mk (blk_below X8.out hb); have U11 := Aside0.mk (blk_below X11.out hb); have UL := Aside0.mk (below_step XL.out hb); have UR := Aside0.mk (Kd.R_below XR.out hb); have LG := Aside0.mk (blk_lt X11.out); have DL := Aside0.mk (Kd.R_lt XR.out); have S2 := Aside0.mk hS2; have S3 := Aside0.mk hS3; have S4 := Aside0.mk hS4; have ls := Aside0.mk XL.out.size; obtain ⟨A2', c2', e2⟩ := Kd.S_slice S2.out; subst e2; obtain ⟨A3', c3', e3⟩ := Kd.S_slice S3.out; subst e3; obtain ⟨A4', c4', e4⟩ := Kd.S_slice S4.out; subst e4; clear hS2 hS3 hS4 hb q0 q1 q2 q3 q4 u0 u1 u2 u3 s0 s1 s2 s3 b80 b81 b82 b83 b84 e80 e81 e82 e83 e84; obtain ⟨u0, u1, u2, u3, s0, s1, s2, s3⟩ := box4 U11.out; have l8 := blk_lt U8.out; have l11 := blk_lt U11.out; have n8 : w4.heap.size ≠ w.heap.size + 1 := (by omega); have n8' : w.heap.size + 1 ≠ w4.heap.size := (by omega); have n11 : w4.heap.size ≠ g11 := (by omega); have n11' : g11 ≠ w4.heap.size := (by omega))
      | (at_builtin; refine Kd.S_append k43 (w0 := w) w.heap.size rfl (.tmp 54) (.tmp 56) 31 43 (.agg #[.int .i64 0, .int .i64 0, .int .i64 0, .slice none 0 0]) 48 rfl Try.underlying31 info43 rfl (by decide) (by omega) (.slice A4' qu.length c4') qu (⟨n, kind, 0, y⟩ : S43) [.int .i64 n, .int .i64 kind, .int .i64 0, .slice A8 y.length c8] (fun _ => True) (fun k_ => some k_ = (Value.slice A8 y.length c8).ownBlock) rfl (by rw [size_alloc]; rfl) (k43_mkM _ _ _ (⟨n, kind, 0, y⟩ : S43) (Kd.R_tight rfl (Kd.R_alloc UR.out (.cells #[.int .i64 d, .int .i64 n, .slice A2' bl.length c2', .slice A3' ca.length c3', .slice A4' qu.length c4'] 33)))) (fun k_ hk_ => ⟨trivial, ((Kd.R_apart' UR.out (Kd.S_typed S4.out) (by decide)).1 k_ hk_.symm).2⟩) (fun _ _ => trivial) (Kd.S_alloc (Kd.S_lower (Kd.S_mono (Kd.S_bound S4.out) (fun k_ hk_ => ⟨trivial, fun e_ => by have e1 := DL.out k_ e_.symm; have e2 := hk_.2.1; omega⟩)) ls.out) (.cells #[.int .i64 d, .int .i64 n, .slice A2' bl.length c2', .slice A3' ca.length c3', .slice A4' qu.length c4'] 33)) (below_alloc UL.out (.cells #[.int .i64 d, .int .i64 n, .slice A2' bl.length c2', .slice A3' ca.length c3', .slice A4' qu.length c4'] 33)) (below_alloc UL.out (.cells #[.int .i64 d, .int .i64 n, .slice A2' bl.length c2', .slice A3' ca.length c3', .slice A4' qu.length c4'] 33)).size (by have := hql; omega) ?_; intro v5 w5 hS hB hG hat; rw [← HQ.out] at hS; have T8 := Aside0.mk (blk_grown (blk_alloc U8.out (.cells #[.int .i64 d, .int .i64 n, .slice A2' bl.length c2', .slice A3' ca.length c3', .slice A4' qu.length c4'] 33)) hG (Kd.S_ne (Kd.S_alloc S4.out (.cells #[.int .i64 d, .int .i64 n, .slice A2' bl.length c2', .slice A3' ca.length c3', .slice A4' qu.length c4'] 33)) (blk_alloc U8.out (.cells #[.int .i64 d, .int .i64 n, .slice A2' bl.length c2', .slice A3' ca.length c3', .slice A4' qu.length c4'] 33)) (by decide))); have T11 := Aside0.mk (blk_grown (blk_alloc U11.out (.cells #[.int .i64 d, .int .i64 n, .slice A2' bl.length c2', .slice A3' ca.length c3', .slice A4' qu.length c4'] 33)) hG (fun e => by have e1 := Kd.S_base S4.out _ e.symm; have e2 := LG.out; omega)); have T13 := Aside0.mk (blk_grown (blk_new w4 (.cells #[.int .i64 d, .int .i64 n, .slice A2' bl.length c2', .slice A3' ca.length c3', .slice A4' qu.length c4'] 33)) hG (Kd.S_ne (Kd.S_alloc S4.out (.cells #[.int .i64 d, .int .i64 n, .slice A2' bl.length c2', .slice A3' ca.length c3', .slice A4' qu.length c4'] 33)) (blk_new w4 (.cells #[.int .i64 d, .int .i64 n, .slice A2' bl.length c2', .slice A3' ca.length c3', .slice A4' qu.length c4'] 33)) (by decide))); have T2 := Aside0.mk (Kd.S_over' (Kd.S_alloc S2.out (.cells #[.int .i64 d, .int .i64 n, .slice A2' bl.length c2', .slice A3' ca.length c3', .slice A4' qu.length c4'] 33)) (Kd.S_typed (Kd.S_alloc S4.out (.cells #[.int .i64 d, .int .i64 n, .slice A2' bl.length c2', .slice A3' ca.length c3', .slice A4' qu.length c4'] 33))) (by decide) hG); have T3 := Aside0.mk (Kd.S_over' (Kd.S_alloc S3.out (.cells #[.int .i64 d, .int .i64 n, .slice A2' bl.length c2', .slice A3' ca.length c3', .slice A4' qu.length c4'] 33)) (Kd.S_typed (Kd.S_alloc S4.out (.cells #[.int .i64 d, .int .i64 n, .slice A2' bl.length c2', .slice A3' ca.length c3', .slice A4' qu.length c4'] 33))) (by decide) hG); have T5 := Aside0.mk hS; have TL := Aside0.mk hB; clear hS hB hG hat u0 u1 u2 u3 s0 s1 s2 s3; obtain ⟨A5, c5, e5⟩ := Kd.S_slice T5.out; subst e5; obtain ⟨q0, q1, q2, q3, q4, e0, e1, e2, e3, e4⟩ := box5 T13.out; obtain ⟨u0, u1, u2, u3, s0, s1, s2, s3⟩ := box4 T11.out; obtain ⟨b80, b81, b82, b83, b84, e80, e81, e82, e83, e84⟩ := box5 T8.out))
    have a8 : w.heap.size + 1 ≠ w4.heap.size := n8'
    go_region
    go_wp2
    have M8 := far2 T8.out a8 4 1 (.slice A5 qn.length c5) (.int .i64 (n + 1))
    have M13 := blk_set (blk_set T13.out 4 (.slice A5 qn.length c5)) 1 (.int .i64 (n + 1))
    have P8 := drew_get (put5 M8 (.int .i64 d) (.int .i64 (n + 1)) (.slice A2' bl.length c2') (.slice A3' ca.length c3') (.slice A5 qn.length c5))
    have hs : ∀ k, k ≠ w4.heap.size → k ≠ w.heap.size + 1 → (((((((w5.setCell ⟨w4.heap.size, 4, none⟩ (.slice A5 qn.length c5)).setCell ⟨w4.heap.size, 1, none⟩ (.int .i64 (n + 1))).setCell ⟨w.heap.size + 1, 0, none⟩ (.int .i64 d)).setCell ⟨w.heap.size + 1, 1, none⟩ (.int .i64 (n + 1))).setCell ⟨w.heap.size + 1, 2, none⟩ (.slice A2' bl.length c2')).setCell ⟨w.heap.size + 1, 3, none⟩ (.slice A3' ca.length c3')).setCell ⟨w.heap.size + 1, 4, none⟩ (.slice A5 qn.length c5)).drew.heap[k]? = w5.heap[k]? := fun k k1 k2 => by
      have f0 : w5.heap[k]? = w5.heap[k]? := rfl
      have f1 := far5 (far2 f0 k1 4 1 (.slice A5 qn.length c5) (.int .i64 (n + 1))) k2 (.int .i64 d) (.int .i64 (n + 1)) (.slice A2' bl.length c2') (.slice A3' ca.length c3') (.slice A5 qn.length c5)
      exact drew_get f1
    refine bodyPost_ret (fn := Try.f7) (results_ctt rfl _ _ (w.heap.size + 1) 33 _ (0, 0) _ rfl P8 hu33 rfl (by kernel_rfl)) rfl ?_
    have R2 := Kd.S_reads' (S_33 T2.out T13.out T8.out hs (by decide))
    have R3 := Kd.S_reads' (S_33 T3.out T13.out T8.out hs (by decide))
    have R5 := Kd.S_reads' (S_33 T5.out T13.out T8.out hs (by decide))
    refine ⟨A2', A3', A5, c2', c3', c5, by simp, R2.2.1, R3.2.1, R5.2.1, S_FT (S_33 T2.out T13.out T8.out hs (by decide)) t25, S_FT (S_33 T3.out T13.out T8.out hs (by decide)) t60, S_FT (S_33 T5.out T13.out T8.out hs (by decide)) t43, ?_⟩
    have w4g : w.heap.size ≤ w4.heap.size := by omega
    refine below_drew1 ?_
    repeat refine below_set ?_ (by omega)
    exact TL.out

end Go.Proofs.Ytpfbajjpommjmaa.Hand
