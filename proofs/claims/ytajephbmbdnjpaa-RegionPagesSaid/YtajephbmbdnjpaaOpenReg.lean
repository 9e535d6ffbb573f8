/- What is proved: a region that came in by value is six ints. No condition. -/
import Derived.Test.YtajephbmbdnjpaaProg
import Derived.WalkKit
import Derived.ProofKit
import Derived.OpenShut
namespace Go.Proofs.Ytajephbmbdnjpaa
open Go.ChangeShapes Go.WideShapes Go.ChangeAt Go.RowKit
theorem open_reg {H : Type} {enc : TypeId × Value → H} {w : World} {base b0 : Nat} {spare : Nat → Bool} {held : Bool} {r : Reach} {v : Value} {d : DataW H} {p : List MemPlace}
    (hval : Value.okWide Try.prog w r b0 23 v) (h : DataW.Trod enc Try.prog w base spare held 23 v d p) :
    ∃ a0 a1 a2 a3 a4 a5 : Int, v = .agg #[.int .i64 a0, .int .i64 a1, .int .i64 a2, .int .i64 a3, .int .i64 a4, .int .i64 a5] ∧
      (Lit.int .i64 a0).wf = true ∧ (Lit.int .i64 a1).wf = true ∧ (Lit.int .i64 a2).wf = true ∧ (Lit.int .i64 a3).wf = true ∧ (Lit.int .i64 a4).wf = true ∧ (Lit.int .i64 a5).wf = true := by
  have hc : Try.prog.cellsOf 23 = 6 := by kernel_rfl
  have hc3 : Try.prog.cellsOf 3 = 1 := by kernel_rfl
  obtain ⟨cs, rfl, hsz⟩ := okWide_struct Try.underlying23 hval
  rw [hc] at hsz
  obtain ⟨l⟩ := cs
  match l, hsz with
  | [c0, c1, c2, c3, c4, c5], _ =>
    obtain ⟨fuel, hf⟩ := h
    obtain ⟨xs, m, _, _, _, hl, hat⟩ := DataW.trod_struct Try.underlying23 hf
    have e0 : DataW.trod enc Try.prog w base spare held m 3 ((([c0, c1, c2, c3, c4, c5] : List Value).drop 0).take (Try.prog.cellsOf 3)) = xs[0]? := hat 0 _ rfl
    have e1 : DataW.trod enc Try.prog w base spare held m 3 ((([c0, c1, c2, c3, c4, c5] : List Value).drop 1).take (Try.prog.cellsOf 3)) = xs[1]? := hat 1 _ rfl
    have e2 : DataW.trod enc Try.prog w base spare held m 3 ((([c0, c1, c2, c3, c4, c5] : List Value).drop 2).take (Try.prog.cellsOf 3)) = xs[2]? := hat 2 _ rfl
    have e3 : DataW.trod enc Try.prog w base spare held m 3 ((([c0, c1, c2, c3, c4, c5] : List Value).drop 3).take (Try.prog.cellsOf 3)) = xs[3]? := hat 3 _ rfl
    have e4 : DataW.trod enc Try.prog w base spare held m 3 ((([c0, c1, c2, c3, c4, c5] : List Value).drop 4).take (Try.prog.cellsOf 3)) = xs[4]? := hat 4 _ rfl
    have e5 : DataW.trod enc Try.prog w base spare held m 3 ((([c0, c1, c2, c3, c4, c5] : List Value).drop 5).take (Try.prog.cellsOf 3)) = xs[5]? := hat 5 _ rfl
    rw [hc3] at e0 e1 e2 e3 e4 e5
    match xs, hl with
    | [y0, y1, y2, y3, y4, y5], _ =>
      obtain ⟨a0, h0, _, w0⟩ := DataW.trod_int Try.underlying3 e0
      obtain ⟨a1, h1, _, w1⟩ := DataW.trod_int Try.underlying3 e1
      obtain ⟨a2, h2, _, w2⟩ := DataW.trod_int Try.underlying3 e2
      obtain ⟨a3, h3, _, w3⟩ := DataW.trod_int Try.underlying3 e3
      obtain ⟨a4, h4, _, w4⟩ := DataW.trod_int Try.underlying3 e4
      obtain ⟨a5, h5, _, w5⟩ := DataW.trod_int Try.underlying3 e5
      simp at h0 h1 h2 h3 h4 h5
      subst h0
      subst h1
      subst h2
      subst h3
      subst h4
      subst h5
      exact ⟨a0, a1, a2, a3, a4, a5, rfl, w0, w1, w2, w3, w4, w5⟩
end Go.Proofs.Ytajephbmbdnjpaa
