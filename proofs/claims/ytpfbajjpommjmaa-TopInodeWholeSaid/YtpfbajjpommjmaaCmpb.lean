/- What is proved: a call of Complete that fails the last request takes it out of the queue and leaves all else. Conditions: the device passes Check and is copied by clone. -/
import Derived.Test.YtpfbajjpommjmaaCmpa
namespace Go.Proofs.Ytpfbajjpommjmaa.Hand
open Go.RowKit Go.Proofs.YtpfbajjpommjmaaW.PrintWords Go.Proofs.YtpfbajjpommjmaaW.PrintLast Go.Proofs.YtpfbajjpommjmaaW.PrintMore Go.Proofs.Ytpfbajjpommjmaa.Top
set_option linter.unusedVariables false
set_option linter.unusedSimpArgs false

theorem delete_any (g m cap : Nat) (cells : Array Value) (w : World) (hb : w.heap[g]? = some (.cells cells 43 (0, 0))) (hc : m + 1 ≤ cap) (hs : 4 * (m + 1) ≤ cells.size) :
    Calls Try.prog 17 #[.slice (some ⟨g, 0, none⟩) (m + 1) cap, .int .i64 (m : Int), .int .i64 ((m : Int) + 1)] w fun e w' => e = .returned (.slice (some ⟨g, 0, none⟩) m cap) ∧ ∃ cells', w'.heap[g]? = some (.cells cells' 43 (0, 0)) ∧ (∀ j, j < m * 4 → cells'[j]? = cells[j]?) ∧ w.grownBy w' (some g) :=
  (delete_last g m cap cells w hb hc hs).mono (by
    rintro e w' ⟨rfl, q, rfl⟩
    exact ⟨rfl, delete_after g m q cells w hb⟩)

theorem two (w : World) (a b : Obj) : ((w.alloc a).alloc b).heap[w.heap.size]? = some a ∧ ((w.alloc a).alloc b).heap[w.heap.size + 1]? = some b := by
  refine ⟨blk_alloc (blk_new w a) b, ?_⟩
  have := blk_new (w.alloc a) b
  rwa [size_alloc] at this
theorem T5_ne {w : World} {k g t : Nat} {c : Array Value} (hk : T5 w k) (h : w.heap[g]? = some (.cells c t (0, 0))) (ht : t ≠ 5) : k ≠ g := by
  obtain ⟨_, cs, hc⟩ := hk
  rintro rfl
  rw [h] at hc
  injection hc with hc
  injection hc with _ hc _
  exact ht hc
theorem some_ne {w : World} {k g t t' : Nat} {c c' : Array Value} (hk : w.heap[k]? = some (.cells c' t' (0, 0))) (h : w.heap[g]? = some (.cells c t (0, 0))) (ht : t' ≠ t) : some k ≠ some g := fun e => blk_ne hk h ht (Option.some.inj e)

theorem drew_get {w : World} {k : Nat} {o : Option Obj} (h : w.heap[k]? = o) : w.drew.heap[k]? = o := h
theorem fin {w0 W : World} {g6 g7 : Nat} {a0 a1 a2 a3 a4 b0 b1 b2 b3 : Value} (H6 : W.heap[g6]? = some (.cells #[a0, a1, a2, a3, a4] 33 (0, 0))) (H7 : W.heap[g7]? = some (.cells #[b0, b1, b2, b3] 43 (0, 0))) (hb : Below w0.heap.size w0 W) (h6 : w0.heap.size ≤ g6) (h7 : w0.heap.size ≤ g7) (u0 u1 u2 u3 u4 z0 z1 z2 z3 : Value) :
    ∃ X, X = (((((((((W.setCell ⟨g6, 0, none⟩ u0).setCell ⟨g6, 1, none⟩ u1).setCell ⟨g6, 2, none⟩ u2).setCell ⟨g6, 3, none⟩ u3).setCell ⟨g6, 4, none⟩ u4).setCell ⟨g7, 0, none⟩ z0).setCell ⟨g7, 1, none⟩ z1).setCell ⟨g7, 2, none⟩ z2).setCell ⟨g7, 3, none⟩ z3).drew ∧
      X.heap[g6]? = some (.cells #[u0, u1, u2, u3, u4] 33 (0, 0)) ∧ X.heap[g7]? = some (.cells #[z0, z1, z2, z3] 43 (0, 0)) ∧ (∀ k, k ≠ g6 → k ≠ g7 → X.heap[k]? = W.heap[k]?) ∧ Below w0.heap.size w0 X := by
  have ne : g6 ≠ g7 := blk_ne H6 H7 (by decide)
  refine ⟨_, rfl, blk_drew (far4 (put5 H6 u0 u1 u2 u3 u4) ne z0 z1 z2 z3), blk_drew (put4 (far5 H7 (Ne.symm ne) u0 u1 u2 u3 u4) z0 z1 z2 z3), fun k h6 h7 => ?_, ?_⟩
  · have e0 : W.heap[k]? = W.heap[k]? := rfl
    have e1 := far4 (far5 e0 h6 u0 u1 u2 u3 u4) h7 z0 z1 z2 z3
    exact drew_get e1
  · refine below_drew1 ?_
    repeat refine below_set ?_ (by assumption)
    exact hb
theorem fin_keeps {W X : World} {g6 g7 : Nat} {c6 c7 : Array Value} (H6 : W.heap[g6]? = some (.cells c6 33 (0, 0))) (H7 : W.heap[g7]? = some (.cells c7 43 (0, 0))) (hs : ∀ k, k ≠ g6 → k ≠ g7 → X.heap[k]? = W.heap[k]?) : Keeps5 W X :=
  fun k hk => hs k (T5_ne hk H6 (by decide)) (T5_ne hk H7 (by decide))
theorem fin_S {W X : World} {g6 g7 : Nat} {c6 c7 : Array Value} {base : Nat} {ok : Nat → Prop} {v : Value} {xs : List S60} (h : Kd.S k60 60 W base ok v xs) (H6 : W.heap[g6]? = some (.cells c6 33 (0, 0))) (H7 : W.heap[g7]? = some (.cells c7 43 (0, 0))) (hs : ∀ k, k ≠ g6 → k ≠ g7 → X.heap[k]? = W.heap[k]?) : Kd.S k60 60 X base ok v xs := by
  refine Kd.S_mono (Kd.S_step (Kd.S_bound h) (fun k hk _ => ?_)) (fun _ hk => hk.1)
  obtain ⟨_, _, _, q, hq, cells, hc⟩ := hk
  have hq2 : q = 60 ∨ q = 5 := by
    rcases List.mem_cons.1 hq with h | h
    · exact Or.inl h
    · exact Or.inr (List.mem_singleton.1 h)
  exact hs k (blk_ne hc H6 (by rcases hq2 with rfl | rfl <;> decide)) (blk_ne hc H7 (by rcases hq2 with rfl | rfl <;> decide))

theorem t60 : ∀ q, q ∈ 60 :: k60.E → q = 5 ∨ q = 25 ∨ q = 60 ∨ q = 43 := fun q hq => by
  rcases List.mem_cons.1 hq with h | h
  · exact Or.inr (Or.inr (Or.inl h))
  · exact Or.inl (List.mem_singleton.1 h)
theorem t25 : ∀ q, q ∈ 25 :: (Kd.slice 5 (Kd.int .u8)).E → q = 5 ∨ q = 25 ∨ q = 60 ∨ q = 43 := fun q hq => by
  rcases List.mem_cons.1 hq with h | h
  · exact Or.inr (Or.inl h)
  · exact Or.inl (List.mem_singleton.1 h)
theorem t43 : ∀ q, q ∈ 43 :: k43.E → q = 5 ∨ q = 25 ∨ q = 60 ∨ q = 43 := fun q hq => by
  rcases List.mem_cons.1 hq with h | h
  · exact Or.inr (Or.inr (Or.inr h))
  · exact Or.inl (List.mem_singleton.1 h)

structure Opened (W : World) (base : Nat) (x : List Int) (l : List S43) (q : S43) (g2 g4 cap4 : Nat) (cs2 cs4 : Array Value) (Ad : Option Addr) (cd : Nat) (A5 : Option Addr) (c5 : Nat) : Prop where
  b2 : base ≤ g2
  h2 : W.heap[g2]? = some (.cells cs2 25 (0, 0))
  d2 : cs2[0]? = some (.slice Ad x.length cd)
  l2 : x.length ≤ cd
  f2 : F5 W Ad x
  n4 : l.length + 1 ≤ cap4
  b4 : base ≤ g4
  h4 : W.heap[g4]? = some (.cells cs4 43 (0, 0))
  s4 : 4 * (l.length + 1) ≤ cs4.size
  e0 : cs4[l.length * 4]? = some (.int .i64 q.f0)
  e1 : cs4[l.length * 4 + 1]? = some (.int .i64 q.f1)
  e2 : cs4[l.length * 4 + 2]? = some (.int .i64 q.f2)
  e3 : cs4[l.length * 4 + 3]? = some (.slice A5 q.f3.length c5)
  l5 : q.f3.length ≤ c5
  f5 : F5 W A5 q.f3
  r4 : ∀ W' cells', Keeps5 W W' → W'.heap[g4]? = some (.cells cells' 43 (0, 0)) → (∀ j, j < l.length * 4 → cells'[j]? = cs4[j]?) → Kd.C k43 W' (some ⟨g4, 0, none⟩) l.length l

theorem opened {W : World} {base : Nat} {x : List Int} {l : List S43} {q : S43} {v2 v4 : Value} (h2 : Kd.S (Kd.slice 5 (Kd.int .u8)) 25 W base (fun _ => True) v2 [x]) (h4 : Kd.S k43 43 W base (fun _ => True) v4 (l ++ [q])) :
    ∃ g2 cap2 g4 cap4 cs2 cs4 Ad cd A5 c5, v2 = .slice (some ⟨g2, 0, none⟩) 1 cap2 ∧ 1 ≤ cap2 ∧ v4 = .slice (some ⟨g4, 0, none⟩) (l.length + 1) cap4 ∧ Opened W base x l q g2 g4 cap4 cs2 cs4 Ad cd A5 c5 := by
  obtain ⟨g2, cap2, cs2, Ad, cd, e2, hn2, hb2, hh2, hd2, hl2, hf2⟩ := blocks_open h2
  obtain ⟨g4, cap4, cs4, A5, c5, e4, hn4, hb4, hh4, hs4, k0, k1, k2, k3, hl5, hf5, hr4⟩ := queue_open h4
  exact ⟨g2, cap2, g4, cap4, cs2, cs4, Ad, cd, A5, c5, e2, hn2, e4, ⟨hb2, hh2, hd2, hl2, hf2, hn4, hb4, hh4, hs4, k0, k1, k2, k3, hl5, hf5, hr4⟩⟩

set_option maxHeartbeats 1000000 in
set_option maxRecDepth 100000 in
theorem complete_fail (k : Nat) (d n : Int) (A2 A3 A4 : Option Addr) (c2 c3 c4 : Nat) (bl : List (List Int)) (x : List Int) (ca : List S60) (qu l : List S43) (q : S43) (w : World)
    (h2 : Kd.C (Kd.slice 5 (Kd.int .u8)) w A2 bl.length bl) (l2 : bl.length ≤ c2) (h3 : Kd.C k60 w A3 ca.length ca) (l3 : ca.length ≤ c3) (h4 : Kd.C k43 w A4 qu.length qu) (l4 : qu.length ≤ c4)
    (hk : device_Check.f k d n bl ca qu = some 0) (hcl : device_clone.f k d n bl ca qu = some (d, n, [x], ca, l ++ [q])) (hq : qu.length = l.length + 1) (hl : l.length ≤ 4) :
    Calls Try.prog 8 #[.agg #[.int .i64 d, .int .i64 n, .slice A2 bl.length c2, .slice A3 ca.length c3, .slice A4 qu.length c4], .int .i64 (l.length : Int), .bool false] w fun e w' => ∃ A2 A3 A4 c2 c3 c4 A5 c5, e = .returned (.tuple #[.agg #[.int .i64 d, .int .i64 n, .slice A2 1 c2, .slice A3 ca.length c3, .slice A4 l.length c4], .agg #[.int .i64 q.f0, .int .i64 q.f1, .int .i64 q.f2, .slice A5 q.f3.length c5], .int .i64 0]) ∧ 1 ≤ c2 ∧ ca.length ≤ c3 ∧ l.length ≤ c4 ∧ FT (Kd.slice 5 (Kd.int .u8)) w' A2 1 [x] ∧ FT k60 w' A3 ca.length ca ∧ FT k43 w' A4 l.length l ∧ Below w.heap.size w w' := by
  have hu33 := Try.underlying33
  have hu43 := Try.underlying43
  have hc1 : decide ((l.length : Int) < 0) = false := decide_eq_false (by omega)
  have hc2 : ¬ qu.length ≤ l.length := by omega
  have hc3 : (l.length : Int) < (l.length : Int) + 1 := by omega
  have hc4 : (0 : Int) ≤ (l.length : Int) := by omega
  clear hq
  go_enter Try.func8, Try.ntmps8
  go_wp2_with (first
    | (go_at_call 13; (with_reducible refine (device_Check.calls k d n A2 c2 bl A3 c3 ca A4 c4 qu 0 _ ?s1 l2 ?s3 l3 ?s5 l4 hk).mono ?_); (case s1 => exact Kd.C_alloc (Kd.C_alloc (Kd.C_alloc h2 _) _) _); (case s3 => exact Kd.C_alloc (Kd.C_alloc (Kd.C_alloc h3 _) _) _); (case s5 => exact Kd.C_alloc (Kd.C_alloc (Kd.C_alloc h4 _) _) _); rintro e w1 ⟨rfl, hb⟩; have F3 := Aside0.mk (blk_below (three w _ _ _).1 hb); have F6 := Aside0.mk (blk_below (three w _ _ _).2.1 hb); have F7 := Aside0.mk (blk_below (three w _ _ _).2.2 hb); have L1 := Aside0.mk (below_step (below_alloc (below_alloc (below_alloc (Below.refl w.heap.size w) _) _) _) hb); clear hb; obtain ⟨p0, p1, p2, p3, p4, q0, q1, q2, q3, q4⟩ := box5 F3.out; obtain ⟨r0, r1, r2, r3, r4, s0, s1, s2, s3, s4⟩ := box5 F6.out; obtain ⟨t0, t1, t2, t3, u0, u1, u2, u3⟩ := box4 F7.out; have la := blk_lt F7.out)
    | (go_at_call 14; (with_reducible refine (device_clone.calls k d n A2 c2 bl A3 c3 ca A4 c4 qu d n [x] ca (l ++ [q]) _ ?s1 l2 ?s3 l3 ?s5 l4 hcl).mono ?_); (case s1 => exact Kd.C_below h2 L1.out); (case s3 => exact Kd.C_below h3 L1.out); (case s5 => exact Kd.C_below h4 L1.out); rintro e w2 ⟨v2, v3, v4, rfl, hS2, hS3, hS4, hb⟩; clear p0 p1 p2 p3 p4 q0 q1 q2 q3 q4 r0 r1 r2 r3 r4 s0 s1 s2 s3 s4 t0 t1 t2 t3 u0 u1 u2 u3 la; have G3 := Aside0.mk (blk_below F3.out hb); have G6 := Aside0.mk (blk_below F6.out hb); have G7 := Aside0.mk (blk_below F7.out hb); have L2 := Aside0.mk (below_step L1.out hb); have S3 := Aside0.mk (Kd.S_lower hS3 L1.out.size); obtain ⟨g2, cap2, g4, cap4, cs2, cs4, Ad, cd, A5, c5, rfl, hn2, rfl, O⟩ := opened hS2 hS4; have OP := Aside0.mk O; clear hS2 hS3 hS4 hb O; obtain ⟨A3', c3', e3⟩ := Kd.S_slice S3.out; subst e3; have LA := Aside0.mk (blk_lt F7.out); have la := blk_lt G7.out; have lb := blk_lt OP.out.h4; have lc := blk_lt OP.out.h2; have x0 := (blk_cell OP.out.h4 _).trans OP.out.e0; have x1 := (blk_cell OP.out.h4 _).trans OP.out.e1; have x2 := (blk_cell OP.out.h4 _).trans OP.out.e2; have x3 := (blk_cell OP.out.h4 _).trans OP.out.e3))
  (with_reducible refine (delete_any g4 l.length cap4 cs4 _ (blk_alloc (blk_alloc OP.out.h4 _) _) OP.out.n4 OP.out.s4).mono ?_)
  rintro e w3 ⟨rfl, cs5, hc5, hpre, hg⟩
  have Q4 := Aside0.mk hc5
  have PRE := Aside0.mk hpre
  have K5 := Aside0.mk (keeps_trans (keeps_trans (keeps_alloc w2 _) (keeps_alloc _ _)) (keeps_grown (blk_alloc (blk_alloc OP.out.h4 _) _) (by decide) hg))
  have H3 := Aside0.mk (blk_grown (blk_alloc (blk_alloc G3.out _) _) hg (some_ne G3.out OP.out.h4 (by decide)))
  have H6 := Aside0.mk (blk_grown (blk_alloc (blk_alloc G6.out _) _) hg (some_ne G6.out OP.out.h4 (by decide)))
  have H7 := Aside0.mk (blk_grown (blk_alloc (blk_alloc G7.out _) _) hg (fun e => by have e1 := Option.some.inj e; have e2 := LA.out; have e3 := OP.out.b4; omega))
  have H10 := Aside0.mk (blk_grown (two w2 _ _).1 hg (fun e => by have e1 := Option.some.inj e; omega))
  have H11 := Aside0.mk (blk_grown (two w2 _ _).2 hg (fun e => by have e1 := Option.some.inj e; omega))
  have B2 := Aside0.mk (blk_grown (blk_alloc (blk_alloc OP.out.h2 _) _) hg (some_ne OP.out.h2 OP.out.h4 (by decide)))
  have S3b := Aside0.mk (Kd.S_over' (v := .slice (some ⟨g4, 0, none⟩) 0 0) (Kd.S_alloc (Kd.S_alloc S3.out _) _) (fun k hk => by obtain rfl := Option.some.inj hk; exact ⟨_, blk_alloc (blk_alloc OP.out.h4 _) _⟩) (by decide) hg)
  have L3 := Aside0.mk (pw_below_grown (below_alloc (below_alloc L2.out _) _) _ (below_alloc (below_alloc L2.out _) _).size hg (fun k hk => by have e1 := Option.some.inj hk; have e2 := LA.out; have e3 := OP.out.b4; omega))
  clear hc5 hpre hg x0 x1 x2 x3
  have hA := Aside0.mk lb
  have hB := Aside0.mk lc
  have hC := Aside0.mk la
  clear la lb lc
  obtain ⟨p0, p1, p2, p3, p4, q0, q1, q2, q3, q4⟩ := box5 H10.out
  obtain ⟨r0, r1, r2, r3, r4, s0, s1, s2, s3, s4⟩ := box5 H6.out
  obtain ⟨t0, t1, t2, t3, u0, u1, u2, u3⟩ := box4 H7.out
  obtain ⟨x0, x1, x2, x3, y0, y1, y2, y3⟩ := box4 H11.out
  have na : w2.heap.size ≠ w2.heap.size + 1 := by omega
  have nb : w.heap.size + 1 < w2.heap.size := (by have := hC.out; omega)
  have nc : w.heap.size + 1 + 1 < w2.heap.size := (by have := hC.out; omega)
  go_wp2
  go_region
  go_wp2
  have a6 : w.heap.size + 1 ≠ w2.heap.size := by omega
  have a7 : w.heap.size + 1 + 1 ≠ w2.heap.size := by omega
  have W6 := blk_farO (p := ⟨w2.heap.size, 4, none⟩) H6.out a6 (.slice (some ⟨g4, 0, none⟩) l.length cap4)
  have W7 := blk_farO (p := ⟨w2.heap.size, 4, none⟩) H7.out a7 (.slice (some ⟨g4, 0, none⟩) l.length cap4)
  have WB := blk_farO (p := ⟨w2.heap.size, 4, none⟩) B2.out (blk_ne B2.out H10.out (by decide)) (.slice (some ⟨g4, 0, none⟩) l.length cap4)
  have WQ := blk_farO (p := ⟨w2.heap.size, 4, none⟩) Q4.out (blk_ne Q4.out H10.out (by decide)) (.slice (some ⟨g4, 0, none⟩) l.length cap4)
  have WS := Kd.S_set S3b.out H10.out (by decide) 4 (.slice (some ⟨g4, 0, none⟩) l.length cap4)
  have WK := keeps_trans K5.out (keeps_set H10.out (by decide) 4 (.slice (some ⟨g4, 0, none⟩) l.length cap4))
  have WL := below_set (g := w2.heap.size) (j := 4) (v := .slice (some ⟨g4, 0, none⟩) l.length cap4) L3.out (by omega)
  obtain ⟨X, hX, P6, P7, hs, hB⟩ := fin W6 W7 WL (by omega) (by omega) (.int .i64 d) (.int .i64 n) (.slice (some ⟨g2, 0, none⟩) 1 cap2) (.slice A3' ca.length c3') (.slice (some ⟨g4, 0, none⟩) l.length cap4) (.int .i64 q.f0) (.int .i64 q.f1) (.int .i64 q.f2) (.slice A5 q.f3.length c5)
  rw [← hX]
  refine bodyPost_ret (fn := Try.f8) (end8 rfl rfl P6 P7) rfl ?_
  have FK := keeps_trans WK (fin_keeps W6 W7 hs)
  have FS := Kd.S_reads' (fin_S WS W6 W7 hs)
  refine ⟨some ⟨g2, 0, none⟩, A3', some ⟨g4, 0, none⟩, cap2, c3', cap4, A5, c5, by simp, hn2, FS.2.1, Nat.le_of_succ_le OP.out.n4, blocks_F ((hs g2 (blk_ne WB W6 (by decide)) (blk_ne WB W7 (by decide))).trans WB) OP.out.d2 OP.out.l2 (F5_keeps OP.out.f2 FK), S_FT (fin_S WS W6 W7 hs) t60, queue_F OP.out.r4 FK ((hs g4 (blk_ne WQ W6 (by decide)) (by have := LA.out; have := OP.out.b4; omega)).trans WQ) PRE.out, hB⟩
end Go.Proofs.Ytpfbajjpommjmaa.Hand
