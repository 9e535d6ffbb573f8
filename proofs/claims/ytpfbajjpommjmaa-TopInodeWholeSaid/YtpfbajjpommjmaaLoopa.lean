/- What is proved: what the law's loop keeps, and equality of two pairs. No condition. -/
import Derived.Test.YtpfbajjpommjmaaAwk
import Derived.ChangeKeysEq
namespace Go.Proofs.Ytpfbajjpommjmaa.Hand
open Go.RowKit Go.Proofs.YtpfbajjpommjmaaW.PrintWords Go.Proofs.YtpfbajjpommjmaaW.PrintLast Go.Proofs.YtpfbajjpommjmaaW.PrintMore Go.Proofs.Ytpfbajjpommjmaa.Top
set_option linter.unusedVariables false
set_option linter.unusedSimpArgs false

def rows (W : List (Int × Int)) : List (List Value) := W.map fun p => [.int .i64 p.1, .int .i64 p.2]
def PW (W : List (Int × Int)) (z : List Int) : Prop := ∃ p, p ∈ W ∧ z = encL p.1 p.2
def VW (W : List (Int × Int)) : Prop := ∀ p ∈ W, 0 ≤ p.1 ∧ p.1 ≤ 16 ∧ 0 ≤ p.2 ∧ p.2 < 2 ^ p.1.toNat

/-- What the loop keeps: the device's box, and the list of what was written. -/
def LI (w wr : World) (g8 : Nat) (N : Int) (L : Nat) (v10 : Value) : Prop :=
  ∃ W n x ca qu A2 A3 A4 c2 c3 c4, wr.heap[g8]? = some (.cells #[.int .i64 4, .int .i64 n, .slice A2 1 c2, .slice A3 (ca : List S60).length c3, .slice A4 (qu : List S43).length c4] 33 (0, 0)) ∧ DevOk wr (PW W) n x ca qu A2 A3 A4 c2 c3 c4 ∧ n ≤ N ∧ (Kd.raw 2).R 36 wr w.heap.size (fun _ => True) v10 (rows W) ∧ VW W ∧ W.length ≤ L ∧ Below w.heap.size w wr

theorem LI.more {w wr : World} {g8 : Nat} {N N' : Int} {L L' : Nat} {v10 : Value} (h : LI w wr g8 N L v10) (hN : N ≤ N') (hL : L ≤ L') : LI w wr g8 N' L' v10 := by
  obtain ⟨W, n, x, ca, qu, A2, A3, A4, c2, c3, c4, a1, a2, a3, a4, a5, a6, a7⟩ := h
  exact ⟨W, n, x, ca, qu, A2, A3, A4, c2, c3, c4, a1, a2, by omega, a4, a5, by omega, a7⟩

/-- A step that changes nothing of what is kept. -/
theorem LI.step {w wr w' : World} {g8 : Nat} {N : Int} {L : Nat} {v10 : Value} (h : LI w wr g8 N L v10) (hb : Below wr.heap.size wr w') : LI w w' g8 N L v10 := by
  obtain ⟨W, n, x, ca, qu, A2, A3, A4, c2, c3, c4, a1, a2, a3, a4, a5, a6, a7⟩ := h
  exact ⟨W, n, x, ca, qu, A2, A3, A4, c2, c3, c4, blk_below a1 hb, a2.keeps (keepsT_below hb), a3, Kd.R_below a4 hb, a5, a6, below_step a7 hb⟩

theorem raw_put5 {w : World} {g : Nat} {base : Nat} {v : Value} {xs : List (List Value)} {cs : Array Value} (h : (Kd.raw 2).R 36 w base (fun _ => True) v xs) (hb : w.heap[g]? = some (.cells cs 33 (0, 0))) (b0 b1 b2 b3 b4 : Value) :
    (Kd.raw 2).R 36 (((((w.setCell ⟨g, 0, none⟩ b0).setCell ⟨g, 1, none⟩ b1).setCell ⟨g, 2, none⟩ b2).setCell ⟨g, 3, none⟩ b3).setCell ⟨g, 4, none⟩ b4) base (fun _ => True) v xs := by
  have h0 := Kd.R_types h hb (by decide)
  exact Kd.R_mono (Kd.R_far (p := ⟨g, 4, none⟩) (Kd.R_far (p := ⟨g, 3, none⟩) (Kd.R_far (p := ⟨g, 2, none⟩) (Kd.R_far (p := ⟨g, 1, none⟩) (Kd.R_far (p := ⟨g, 0, none⟩) h0 (fun _ hk => hk.2) b0) (fun _ hk => hk.2) b1) (fun _ hk => hk.2) b2) (fun _ hk => hk.2) b3) (fun _ hk => hk.2) b4) (fun _ _ => trivial)
theorem keepsT_put5 {w : World} {g : Nat} {cs : Array Value} (hb : w.heap[g]? = some (.cells cs 33 (0, 0))) (b0 b1 b2 b3 b4 : Value) :
    KeepsT w (((((w.setCell ⟨g, 0, none⟩ b0).setCell ⟨g, 1, none⟩ b1).setCell ⟨g, 2, none⟩ b2).setCell ⟨g, 3, none⟩ b3).setCell ⟨g, 4, none⟩ b4) := fun k hk => by
  have e : w.heap[k]? = w.heap[k]? := rfl
  exact far5 e (Tn_ne hk hb (by decide)) b0 b1 b2 b3 b4
theorem below_put5 {w0 w : World} {g : Nat} (h : Below w0.heap.size w0 w) (hg : w0.heap.size ≤ g) (b0 b1 b2 b3 b4 : Value) :
    Below w0.heap.size w0 (((((w.setCell ⟨g, 0, none⟩ b0).setCell ⟨g, 1, none⟩ b1).setCell ⟨g, 2, none⟩ b2).setCell ⟨g, 3, none⟩ b3).setCell ⟨g, 4, none⟩ b4) :=
  below_set (below_set (below_set (below_set (below_set h hg) hg) hg) hg) hg

/-- The device is replaced by the one that an operation has returned. -/
theorem LI.put {w w' : World} {g8 : Nat} {N : Int} {L : Nat} {v10 : Value} (W : List (Int × Int)) {n : Int} {x : List Int} {ca : List S60} {qu : List S43} {A2 A3 A4 : Option Addr} {c2 c3 c4 : Nat} {cs : Array Value} (h8 : w'.heap[g8]? = some (.cells cs 33 (0, 0))) (hs : ∃ a0 a1 a2 a3 a4, cs = #[a0, a1, a2, a3, a4]) (hD : DevOk w' (PW W) n x ca qu A2 A3 A4 c2 c3 c4) (hn : n ≤ N) (hR : (Kd.raw 2).R 36 w' w.heap.size (fun _ => True) v10 (rows W)) (hV : VW W) (hL : W.length ≤ L) (hb : Below w.heap.size w w') (hg : w.heap.size ≤ g8) :
    LI w (((((w'.setCell ⟨g8, 0, none⟩ (.int .i64 4)).setCell ⟨g8, 1, none⟩ (.int .i64 n)).setCell ⟨g8, 2, none⟩ (.slice A2 1 c2)).setCell ⟨g8, 3, none⟩ (.slice A3 ca.length c3)).setCell ⟨g8, 4, none⟩ (.slice A4 qu.length c4)) g8 N L v10 := by
  obtain ⟨a0, a1, a2, a3, a4, rfl⟩ := hs
  exact ⟨W, n, x, ca, qu, A2, A3, A4, c2, c3, c4, put5 h8 _ _ _ _ _, hD.keeps (keepsT_put5 h8 _ _ _ _ _), hn, raw_put5 hR h8 _ _ _ _ _, hV, hL, below_put5 hb hg _ _ _ _ _⟩

theorem eqA36 (w : World) (a b c d : Int) : (Op.equalIn 10000 36 (.agg #[.int .i64 a, .int .i64 b]) (.agg #[.int .i64 c, .int .i64 d])).run Try.prog w = .ok (a == c && b == d) w := by
  obtain ⟨i, hi, hc⟩ : ∃ i, Try.prog.info? 3 = some i ∧ Try.prog.cellsOf 3 = 1 := ⟨_, rfl, by kernel_rfl⟩
  have hk : Try.prog.plainKey 3 = true := by kernel_rfl
  rw [show (10000 : Nat) = 9999 + 1 from rfl, run_equalIn_array w 9999 _ _ Try.underlying36 hi, hc]
  have p0 : ∀ (w : World) (x y : Int), (part 3 #[.int .i64 x, .int .i64 y] 0).run Try.prog w = .ok (.int .i64 x) w := fun w x y => run_part_plain w hk rfl
  have p1 : ∀ (w : World) (x y : Int), (part 3 #[.int .i64 x, .int .i64 y] 1).run Try.prog w = .ok (.int .i64 y) w := fun w x y => run_part_plain w hk rfl
  have he : ∀ (w : World) (x y : Int), (Op.equalIn 9999 3 (.int .i64 x) (.int .i64 y)).run Try.prog w = .ok (x == y) w := fun w x y => run_equalIn_int w 9998 3 .i64 .i64 x y Try.underlying3
  simp only [show List.range 2 = [0, 1] from rfl, Op.eqItems, Sem.run_bind, Nat.zero_mul, Nat.one_mul, p0, he, Result.andThen_ok]
  cases h : (a == c)
  · simp
  · simp only [Bool.not_true, Bool.false_eq_true, if_false, Sem.run_bind, p1, he, Result.andThen_ok, Bool.true_and]
    cases h2 : (b == d) <;> simp
theorem of11 : estoverstop_inodeOf.f 1 1 = some (encL 1 1, 1, 1) := by kernel_rfl
theorem info36 : (Try.prog.info? 36).map (fun i => (i.zero, i.size, i.bytes)) = some (some (.agg #[.int .i64 0, .int .i64 0]), 2, 16) := by kernel_rfl
end Go.Proofs.Ytpfbajjpommjmaa.Hand
