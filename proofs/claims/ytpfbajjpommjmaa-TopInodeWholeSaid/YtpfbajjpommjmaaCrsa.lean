/- What is proved: a call of Crash's inner function counts on, and either leaves block 0 or lays a copy of the data there. Conditions: the boxes are given, the block asked for is 0. -/
import Derived.Test.YtpfbajjpommjmaaCmpe
import Derived.Deep.RegionHeldLaw
namespace Go.Proofs.Ytpfbajjpommjmaa.Hand
open Go.RowKit Go.Proofs.YtpfbajjpommjmaaW.PrintWords Go.Proofs.YtpfbajjpommjmaaW.PrintLast Go.Proofs.YtpfbajjpommjmaaW.PrintMore Go.Proofs.Ytpfbajjpommjmaa.Top
set_option linter.unusedVariables false
set_option linter.unusedSimpArgs false

theorem box1 {w : World} {g : Nat} {t : TypeId} {v0 : Value} (h : w.heap[g]? = some (.cells #[v0] t (0, 0))) : w.cell? ⟨g, 0, none⟩ = some v0 ∧ w.frozen? ⟨g, 0, none⟩ = false :=
  ⟨(blk_cell h 0).trans rfl, blk_frozen h 0⟩

/-- What a device's block 0 holds, and what else stands as it was. -/
def KeepPost (w0 w : World) (i gn g2 : Nat) (x y : List Int) (w' : World) : Prop :=
  w'.heap[gn]? = some (.cells #[.int .i64 ((i : Int) + 1)] 3 (0, 0)) ∧ (∃ cs2 A c z, w'.heap[g2]? = some (.cells cs2 25 (0, 0)) ∧ cs2[0]? = some (.slice A z.length c) ∧ z.length ≤ c ∧ F5 w' A z ∧ (z = x ∨ z = y)) ∧ (∀ k, k < w.heap.size → k ≠ gn → k ≠ g2 → w'.heap[k]? = w.heap[k]?) ∧ Below w0.heap.size w0 w'

theorem keep_stay {w0 w : World} {i gn g2 : Nat} {cs2 : Array Value} {A : Option Addr} {c : Nat} {x y : List Int} (hn : w.heap[gn]? = some (.cells #[.int .i64 (i : Int)] 3 (0, 0))) (h2 : w.heap[g2]? = some (.cells cs2 25 (0, 0))) (hc : cs2[0]? = some (.slice A x.length c)) (hl : x.length ≤ c) (hf : F5 w A x) (hb : Below w0.heap.size w0 w) (hg : w0.heap.size ≤ gn) :
    KeepPost w0 w i gn g2 x y (w.setCell ⟨gn, 0, none⟩ (.int .i64 ((i : Int) + 1))) :=
  ⟨blk_put hn 0 _ rfl, ⟨cs2, A, c, x, blk_farO (p := ⟨gn, 0, none⟩) h2 (blk_ne h2 hn (by decide)) _, hc, hl, F5_keeps hf (keeps_set hn (by decide) 0 _), Or.inl rfl⟩, fun k _ h _ => Below.heap_setCell w ⟨gn, 0, none⟩ _ k h, below_set hb hg⟩

set_option maxHeartbeats 1000000 in
set_option maxRecDepth 100000 in
theorem keep_calls (i np cp gn gp gr g2 cap2 : Nat) (Ap : Option Addr) (r0 r1 r3 r4 : Value) (cs2 : Array Value) (A A5 : Option Addr) (c c5 : Nat) (x y : List Int) (w0 w : World)
    (hn : w.heap[gn]? = some (.cells #[.int .i64 (i : Int)] 3 (0, 0))) (hp : w.heap[gp]? = some (.cells #[.slice Ap np cp] 23 (0, 0))) (hr : w.heap[gr]? = some (.cells #[r0, r1, .slice (some ⟨g2, 0, none⟩) 1 cap2, r3, r4] 33 (0, 0)))
    (h2 : w.heap[g2]? = some (.cells cs2 25 (0, 0))) (hc : cs2[0]? = some (.slice A x.length c)) (hl : x.length ≤ c) (hf : F5 w A x) (hb : Below w0.heap.size w0 w) (hg : w0.heap.size ≤ gn) (hg2 : w0.heap.size ≤ g2)
    (hpk : ∀ j : Nat, j < np → ∃ ad b, Ap = some ad ∧ w.cell? (ad.add j) = some (.bool b)) (hi : i ≤ 1000) (hy : (Kd.int .u8).C w A5 y.length y) (ly : y.length ≤ c5) (hy3 : y.length ≤ 100) :
    Calls Try.prog 21 #[.int .i64 0, .slice A5 y.length c5, .pointer (some ⟨gn, 0, none⟩), .pointer (some ⟨gp, 0, none⟩), .pointer (some ⟨gr, 0, none⟩)] w fun e w' => e = .returned (.tuple #[]) ∧ KeepPost w0 w i gn g2 x y w' := by
  have hu33 := Try.underlying33
  have hw : wrap64 ((i : Int) + 1) = (i : Int) + 1 := by unfold wrap64; omega
  obtain ⟨n0, n1⟩ := box1 hn
  obtain ⟨p0, p1⟩ := box1 hp
  obtain ⟨q0, q1, q2, q3, q4, f0, f1, f2, f3, f4⟩ := box5 hr
  by_cases hin : i < np
  · obtain ⟨ad, b, rfl, hcell⟩ := hpk i hin
    have hz : (0 : Int) ≤ (i : Int) := by omega
    have HN := Aside0.mk hn
    have HP := Aside0.mk hp
    have HR := Aside0.mk hr
    have H2 := Aside0.mk h2
    clear hn hp hr h2 hpk
    cases b with
    | false =>
      go_enter Try.func21, Try.ntmps21
      go_wp2
      go_end0
      exact ⟨rfl, keep_stay HN.out H2.out hc hl hf hb hg⟩
    | true =>
      go_enter Try.func21, Try.ntmps21
      go_wp2
      go_region_held_law (fun w' => w'.cell? ⟨gr, 2, none⟩ = some (.slice (some ⟨g2, 0, none⟩) 1 cap2)) (go_keep) (first | (refine goes_ (N := some 21) Try.func15 (by kernel_rfl) rfl #[.slice A5 y.length c5] (by rfl) rfl rfl (by first | done | rfl | (simp [Act.eval])) ?_; refine (bytes_Clone.calls A5 c5 y y _ (Kd.C_drew hy) ly (if_pos (Nat.le_trans hy3 (by decide)))).mono ?_; rintro e w1 ⟨v21, rfl, hR, hbb⟩; refine ⟨_, rfl, ?_⟩; obtain ⟨A8, c8, rfl, l8, f8⟩ := F5_of_R hR; have F8 := Aside0.mk f8; have VN := Aside0.mk (blk_below (blk_drew HN.out) hbb); have VR := Aside0.mk (blk_below (blk_drew HR.out) hbb); have V2 := Aside0.mk (blk_below (blk_drew H2.out) hbb); have VB := Aside0.mk hbb; have VL := Aside0.mk (below_step (below_drew1 hb) hbb); clear hbb hR f8 n0 n1 p0 p1 q0 q1 q2 q3 q4 f0 f1 f2 f3 f4; obtain ⟨n0, n1⟩ := box1 VN.out; obtain ⟨q0, q1, q2, q3, q4, f0, f1, f2, f3, f4⟩ := box5 VR.out; have i0 := (blk_cell V2.out 0).trans hc; have i1 := blk_frozen V2.out 0; have m1 := blk_ne V2.out VN.out (by decide); have m1' := Ne.symm m1; have m2 := blk_ne V2.out VR.out (by decide); have m2' := Ne.symm m2; have m3 := blk_ne VN.out VR.out (by decide); have m3' := Ne.symm m3))
      go_wp2
      go_end0
      have N1 := blk_farO (p := ⟨g2, 0, none⟩) VN.out m1' (.slice A8 y.length c8)
      have G1 := blk_set V2.out 0 (.slice A8 y.length c8)
      have k1 := keeps_trans (keeps_set V2.out (by decide) 0 (.slice A8 y.length c8)) (keeps_set N1 (by decide) 0 (.int .i64 ((i : Int) + 1)))
      refine ⟨rfl, blk_put N1 0 _ rfl, ⟨cs2.setIfInBounds 0 (.slice A8 y.length c8), A8, c8, y, blk_farO (p := ⟨gn, 0, none⟩) G1 m1 _, set1 hc, l8, F5_keeps F8.out k1, Or.inr rfl⟩, fun k hk hkn hk2 => ?_, below_set (below_set VL.out hg2) hg⟩
      have e1 : w1.heap[k]? = w.heap[k]? := VB.out.block k hk
      exact blk_farO (p := ⟨gn, 0, none⟩) (blk_farO (p := ⟨g2, 0, none⟩) e1 hk2 (.slice A8 y.length c8)) hkn _
  · have HN := Aside0.mk hn
    have H2 := Aside0.mk h2
    clear hn hp hr h2 hpk
    go_enter Try.func21, Try.ntmps21
    go_wp2
    go_end0
    exact ⟨rfl, keep_stay HN.out H2.out hc hl hf hb hg⟩
end Go.Proofs.Ytpfbajjpommjmaa.Hand
