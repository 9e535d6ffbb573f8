/- What is proved: a call of Complete with nothing in the queue answers ErrRange. Conditions: the device passes Check. -/
import Derived.Test.YtpfbajjpommjmaaTopx7
import Derived.Test.YtpfbajjpommjmaaTopx9
import Derived.Test.YtpfbajjpommjmaaOpen
import Derived.Test.YtpfbajjpommjmaaDel
import Derived.Test.YtpfbajjpommjmaaFind
import Derived.Test.YtpfbajjpommjmaaIns
namespace Go.Proofs.Ytpfbajjpommjmaa.Hand
open Go.RowKit Go.Proofs.YtpfbajjpommjmaaW.PrintWords Go.Proofs.YtpfbajjpommjmaaW.PrintLast Go.Proofs.YtpfbajjpommjmaaW.PrintMore Go.Proofs.Ytpfbajjpommjmaa.Top
set_option linter.unusedVariables false
set_option linter.unusedSimpArgs false

theorem box5 {w : World} {g : Nat} {t : TypeId} {v0 v1 v2 v3 v4 : Value} (h : w.heap[g]? = some (.cells #[v0, v1, v2, v3, v4] t (0, 0))) :
    w.cell? ⟨g, 0, none⟩ = some v0 ∧ w.cell? ⟨g, 1, none⟩ = some v1 ∧ w.cell? ⟨g, 2, none⟩ = some v2 ∧ w.cell? ⟨g, 3, none⟩ = some v3 ∧ w.cell? ⟨g, 4, none⟩ = some v4 ∧
    w.frozen? ⟨g, 0, none⟩ = false ∧ w.frozen? ⟨g, 1, none⟩ = false ∧ w.frozen? ⟨g, 2, none⟩ = false ∧ w.frozen? ⟨g, 3, none⟩ = false ∧ w.frozen? ⟨g, 4, none⟩ = false :=
  ⟨(blk_cell h 0).trans rfl, (blk_cell h 1).trans rfl, (blk_cell h 2).trans rfl, (blk_cell h 3).trans rfl, (blk_cell h 4).trans rfl,
    blk_frozen h 0, blk_frozen h 1, blk_frozen h 2, blk_frozen h 3, blk_frozen h 4⟩
theorem box4 {w : World} {g : Nat} {t : TypeId} {v0 v1 v2 v3 : Value} (h : w.heap[g]? = some (.cells #[v0, v1, v2, v3] t (0, 0))) :
    w.cell? ⟨g, 0, none⟩ = some v0 ∧ w.cell? ⟨g, 1, none⟩ = some v1 ∧ w.cell? ⟨g, 2, none⟩ = some v2 ∧ w.cell? ⟨g, 3, none⟩ = some v3 ∧
    w.frozen? ⟨g, 0, none⟩ = false ∧ w.frozen? ⟨g, 1, none⟩ = false ∧ w.frozen? ⟨g, 2, none⟩ = false ∧ w.frozen? ⟨g, 3, none⟩ = false :=
  ⟨(blk_cell h 0).trans rfl, (blk_cell h 1).trans rfl, (blk_cell h 2).trans rfl, (blk_cell h 3).trans rfl, blk_frozen h 0, blk_frozen h 1, blk_frozen h 2, blk_frozen h 3⟩
theorem size_alloc (w : World) (a : Obj) : (w.alloc a).heap.size = w.heap.size + 1 := Array.size_push a
theorem three (w : World) (a b c : Obj) : (((w.alloc a).alloc b).alloc c).heap[w.heap.size]? = some a ∧ (((w.alloc a).alloc b).alloc c).heap[w.heap.size + 1]? = some b ∧ (((w.alloc a).alloc b).alloc c).heap[w.heap.size + 1 + 1]? = some c := by
  refine ⟨blk_alloc (blk_alloc (blk_new w a) b) c, ?_, ?_⟩
  · have := blk_alloc (blk_new (w.alloc a) b) c
    rwa [size_alloc] at this
  · have := blk_new ((w.alloc a).alloc b) c
    rwa [size_alloc, size_alloc] at this

def zd : Value := .agg #[.int .i64 0, .int .i64 0, .slice none 0 0, .slice none 0 0, .slice none 0 0]

theorem put5 {w : World} {g t : Nat} {a0 a1 a2 a3 a4 : Value} (h : w.heap[g]? = some (.cells #[a0, a1, a2, a3, a4] t (0, 0))) (b0 b1 b2 b3 b4 : Value) :
    (((((w.setCell ⟨g, 0, none⟩ b0).setCell ⟨g, 1, none⟩ b1).setCell ⟨g, 2, none⟩ b2).setCell ⟨g, 3, none⟩ b3).setCell ⟨g, 4, none⟩ b4).heap[g]? = some (.cells #[b0, b1, b2, b3, b4] t (0, 0)) :=
  blk_put (blk_put (blk_put (blk_put (blk_put h 0 b0 rfl) 1 b1 rfl) 2 b2 rfl) 3 b3 rfl) 4 b4 rfl
theorem put4 {w : World} {g t : Nat} {a0 a1 a2 a3 : Value} (h : w.heap[g]? = some (.cells #[a0, a1, a2, a3] t (0, 0))) (b0 b1 b2 b3 : Value) :
    ((((w.setCell ⟨g, 0, none⟩ b0).setCell ⟨g, 1, none⟩ b1).setCell ⟨g, 2, none⟩ b2).setCell ⟨g, 3, none⟩ b3).heap[g]? = some (.cells #[b0, b1, b2, b3] t (0, 0)) :=
  blk_put (blk_put (blk_put (blk_put h 0 b0 rfl) 1 b1 rfl) 2 b2 rfl) 3 b3 rfl
theorem far5 {w : World} {g g' : Nat} {o : Option Obj} (h : w.heap[g]? = o) (hg : g ≠ g') (b0 b1 b2 b3 b4 : Value) :
    (((((w.setCell ⟨g', 0, none⟩ b0).setCell ⟨g', 1, none⟩ b1).setCell ⟨g', 2, none⟩ b2).setCell ⟨g', 3, none⟩ b3).setCell ⟨g', 4, none⟩ b4).heap[g]? = o :=
  blk_farO (blk_farO (blk_farO (blk_farO (blk_farO h hg b0) hg b1) hg b2) hg b3) hg b4
theorem far4 {w : World} {g g' : Nat} {o : Option Obj} (h : w.heap[g]? = o) (hg : g ≠ g') (b0 b1 b2 b3 : Value) :
    ((((w.setCell ⟨g', 0, none⟩ b0).setCell ⟨g', 1, none⟩ b1).setCell ⟨g', 2, none⟩ b2).setCell ⟨g', 3, none⟩ b3).heap[g]? = o :=
  blk_farO (blk_farO (blk_farO (blk_farO h hg b0) hg b1) hg b2) hg b3

theorem end8 {tmps : Array Value} {w : World} {g g' : Nat} {cs cs' : Array Value} (hp : tmps.getD 6 undef = .pointer (some ⟨g, 0, none⟩)) (hp' : tmps.getD 7 undef = .pointer (some ⟨g', 0, none⟩))
    (hg : w.heap[g]? = some (.cells cs 33 (0, 0))) (hg' : w.heap[g']? = some (.cells cs' 43 (0, 0))) (hs : cs.size = 5 := by rfl) (hs' : cs'.size = 4 := by rfl) :
    (results Try.f8 tmps).run Try.prog w = .ok (.tuple #[.agg cs, .agg cs', tmps.getD 8 undef]) w :=
  results_list (fn := Try.f8) (rs := [.cell 6 33, .cell 7 43, .tmp 8]) (vs := [.agg cs, .agg cs', tmps.getD 8 undef]) rfl (by simp)
    (.cell g 33 cs (0, 0) _ hp hg Try.underlying33 rfl (by rw [hs]; kernel_rfl) (.cell g' 43 cs' (0, 0) _ hp' hg' Try.underlying43 rfl (by rw [hs']; kernel_rfl) (.tmp .nil)))

set_option maxHeartbeats 400000 in
set_option maxRecDepth 100000 in
theorem complete_none (k : Nat) (d n : Int) (A2 A3 A4 : Option Addr) (c2 c3 c4 : Nat) (bl : List (List Int)) (ca : List S60) (qu : List S43) (b : Bool) (w : World)
    (h2 : Kd.C (Kd.slice 5 (Kd.int .u8)) w A2 bl.length bl) (l2 : bl.length ≤ c2) (h3 : Kd.C k60 w A3 ca.length ca) (l3 : ca.length ≤ c3) (h4 : Kd.C k43 w A4 qu.length qu) (l4 : qu.length ≤ c4)
    (hk : device_Check.f k d n bl ca qu = some 0) :
    Calls Try.prog 8 #[.agg #[.int .i64 d, .int .i64 n, .slice A2 bl.length c2, .slice A3 ca.length c3, .slice A4 qu.length c4], .int .i64 (-1), .bool b] w fun e w' => e = .returned (.tuple #[.agg #[.int .i64 0, .int .i64 0, .slice none 0 0, .slice none 0 0, .slice none 0 0], .agg #[.int .i64 0, .int .i64 0, .int .i64 0, .slice none 0 0], .int .i64 2]) ∧ Below w.heap.size w w' := by
  have hu33 := Try.underlying33
  have hu43 := Try.underlying43
  go_enter Try.func8, Try.ntmps8
  go_wp2_with (go_at_call 13; (with_reducible refine (device_Check.calls k d n A2 c2 bl A3 c3 ca A4 c4 qu 0 _ ?s1 l2 ?s3 l3 ?s5 l4 hk).mono ?_); (case s1 => exact Kd.C_alloc (Kd.C_alloc (Kd.C_alloc h2 _) _) _); (case s3 => exact Kd.C_alloc (Kd.C_alloc (Kd.C_alloc h3 _) _) _); (case s5 => exact Kd.C_alloc (Kd.C_alloc (Kd.C_alloc h4 _) _) _); rintro e w1 ⟨rfl, hb⟩; have F3 := Aside0.mk (blk_below (three w _ _ _).1 hb); have F6 := Aside0.mk (blk_below (three w _ _ _).2.1 hb); have F7 := Aside0.mk (blk_below (three w _ _ _).2.2 hb); have L1 := Aside0.mk (below_step (below_alloc (below_alloc (below_alloc (Below.refl w.heap.size w) _) _) _) hb); clear hb; obtain ⟨p0, p1, p2, p3, p4, q0, q1, q2, q3, q4⟩ := box5 F3.out; obtain ⟨r0, r1, r2, r3, r4, s0, s1, s2, s3, s4⟩ := box5 F6.out; obtain ⟨t0, t1, t2, t3, u0, u1, u2, u3⟩ := box4 F7.out; have la := blk_lt F7.out)
  have P6 := far4 (put5 F6.out (.int .i64 0) (.int .i64 0) (.slice none 0 0) (.slice none 0 0) (.slice none 0 0)) (show w.heap.size + 1 ≠ w.heap.size + 1 + 1 by omega) (.int .i64 0) (.int .i64 0) (.int .i64 0) (.slice none 0 0)
  have P7 := put4 (far5 F7.out (show w.heap.size + 1 + 1 ≠ w.heap.size + 1 by omega) (.int .i64 0) (.int .i64 0) (.slice none 0 0) (.slice none 0 0) (.slice none 0 0)) (.int .i64 0) (.int .i64 0) (.int .i64 0) (.slice none 0 0)
  refine bodyPost_ret (fn := Try.f8) (end8 rfl rfl P6 P7) rfl ?_
  refine ⟨by simp, ?_⟩
  repeat refine below_set ?_ (by omega)
  exact L1.out
end Go.Proofs.Ytpfbajjpommjmaa.Hand
