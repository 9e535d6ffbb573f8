/- What is proved: a call of slices.Insert that puts one entry into an empty row. Conditions: the row is the call's own, the entry's cells are given. -/
import Derived.Test.YtpfbajjpommjmaaOpen
namespace Go.Proofs.Ytpfbajjpommjmaa.Hand
open Go.RowKit Go.Proofs.YtpfbajjpommjmaaW.PrintWords Go.Proofs.YtpfbajjpommjmaaW.PrintLast Go.Proofs.YtpfbajjpommjmaaW.PrintMore Go.Proofs.Ytpfbajjpommjmaa.Top
set_option linter.unusedVariables false
set_option linter.unusedSimpArgs false

theorem raw_of_nil {W : World} {base : Nat} {ok : Nat → Prop} {v : Value} (h : Kd.S k60 60 W base ok v []) : (Kd.raw 2).R 60 W base (fun _ => True) v [] := by
  obtain ⟨h0, inner, ho, hr⟩ := Kd.S_R h
  have : inner = [] := List.length_eq_zero_iff.1 (by have := ho.1; simpa using this)
  subst this
  exact ⟨fun _ _ => trivial, [], ho, Reps.none _ _⟩

set_option maxHeartbeats 1000000 in
set_option maxRecDepth 100000 in
theorem insert_first (A : Option Addr) (c gv : Nat) (Ad : Option Addr) (n cc : Nat) (w0 w : World) (HB : Below w0.heap.size w0 w) (HO : (Kd.raw 2).R 60 w w0.heap.size (fun _ => True) (.slice A 0 c) []) (hv : w.heap[gv]? = some (.cells #[.int .i64 0, .slice Ad n cc] 60 (0, 0))) :
    Calls Try.prog 20 #[.slice A 0 c, .int .i64 0, .slice (some ⟨gv, 0, none⟩) 1 1] w fun e w' => ∃ g cap cells, e = .returned (.slice (some ⟨g, 0, none⟩) 1 cap) ∧ 1 ≤ cap ∧ w'.heap[g]? = some (.cells cells 60 (0, 0)) ∧ cells[0]? = some (.int .i64 0) ∧ cells[1]? = some (.slice Ad n cc) ∧ Below w0.heap.size w0 w' ∧ w.grownBy w' (Value.slice A 0 c).ownBlock := by
  have fin : ∀ (v1 : Value) (w1 : World), (Kd.raw 2).R 60 w1 w0.heap.size (fun _ => True) v1 ([] ++ [[.int .i64 0, .slice Ad n cc]]) → ∃ g cap cells, v1 = .slice (some ⟨g, 0, none⟩) 1 cap ∧ 1 ≤ cap ∧ w1.heap[g]? = some (.cells cells 60 (0, 0)) ∧ cells[0]? = some (.int .i64 0) ∧ cells[1]? = some (.slice Ad n cc) := by
    intro v1 w1 h
    obtain ⟨h0, inner, ho, hr⟩ := h
    obtain ⟨hl, ⟨hv, hn⟩ | ⟨g, cap, cur, hv, hb, hheap, hn, hcap, hsz, htk⟩⟩ := ho
    · cases hn
    · have hc1 := (hr.2 0 _ rfl).1
      have hz : (Kd.raw 2).sz = 2 := rfl
      rw [hz] at hc1 htk hl
      refine ⟨g, cap, cur, hv, hn, hheap, ?_, ?_⟩
      · have e : inner[0]? = some (.int .i64 0) := by
          have := congrArg (fun l => l[0]?) hc1
          simpa [List.getElem?_take] using this
        rw [← htk, List.getElem?_take] at e
        simpa using e
      · have e : inner[1]? = some (.slice Ad n cc) := by
          have := congrArg (fun l => l[1]?) hc1
          simpa [List.getElem?_take] using this
        rw [← htk, List.getElem?_take] at e
        simpa using e
  have hrow : ReadsRow (fun x cs => cs = x ∧ cs.length = 2 ∧ ∀ u ∈ cs, u.oneCell' = true) 2 w (some ⟨gv, 0, none⟩) 1 [[.int .i64 0, .slice Ad n cc]] := by
    refine ⟨rfl, by omega, fun _ => ⟨_, rfl, fun j p hj => ?_⟩⟩
    cases j with
    | succ j => simp at hj
    | zero =>
      obtain rfl := Option.some.inj hj
      refine ⟨_, rfl, ⟨rfl, rfl, by intro u hu; simp at hu; rcases hu with rfl | rfl <;> rfl⟩, fun i u hu => ?_⟩
      rw [add_plain, blk_cell hv, ← hu]
      rcases i with _ | _ | i
      · rfl
      · rfl
      · simp
  have hA : A = none ∧ c = 0 ∨ ∃ g, A = some ⟨g, 0, none⟩ := by
    obtain ⟨_, inner, ho, _⟩ := HO
    rcases ho.2 with ⟨hv, _⟩ | ⟨g, cap', cur, hv, _⟩
    · injection hv with h1 h2 h3
      exact Or.inl ⟨h1, h3⟩
    · injection hv with h1 h2 h3
      exact Or.inr ⟨g, h1⟩
  have FIN := Aside0.mk fin
  have ROW := Aside0.mk hrow
  have HO' := Aside0.mk HO
  have HB' := Aside0.mk HB
  clear fin hrow HO HB hv
  rcases hA with ⟨rfl, rfl⟩ | ⟨g, rfl⟩
  all_goals
    go_enter Try.func20, Try.ntmps20
    go_wp2_with (at_builtin; refine Kd.R_append_rows (Kd.raw 2) (w0 := w0) w0.heap.size rfl (.tmp 23) (.tmp 24) 30 60 (.agg #[.int .i64 0, .slice none 0 0]) 32 rfl Try.underlying30 info60 rfl (by decide) (by decide) _ ([] : List (List Value)) [[.int .i64 0, .slice Ad n cc]] _ _ _ (fun _ => True) (fun _ => False) rfl rfl HO'.out ROW.out (fun _ _ h => h) (fun _ h => h.elim) (fun _ _ => trivial) HB'.out HB'.out.size (by simp) ?_; intro v1 w1 hR hb hg _; have R1 := Aside0.mk hR; have B1 := Aside0.mk hb; have G1 := Aside0.mk hg; clear hR hb hg)
    go_ret
    obtain ⟨g, cap, cells, rfl, h1, h2, h3, h4⟩ := FIN.out _ _ R1.out
    exact ⟨g, cap, cells, rfl, h1, h2, h3, h4, B1.out, G1.out⟩
end Go.Proofs.Ytpfbajjpommjmaa.Hand
