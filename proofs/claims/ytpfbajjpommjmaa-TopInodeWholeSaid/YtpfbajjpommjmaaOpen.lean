/- What is proved: what a device's three rows hold, cell by cell, and that the rows read so. Conditions: the rows are the call's own. -/
import Derived.Test.YtpfbajjpommjmaaTopx0
namespace Go.Proofs.Ytpfbajjpommjmaa.Hand
open Go.RowKit Go.Proofs.YtpfbajjpommjmaaW.PrintWords Go.Proofs.YtpfbajjpommjmaaW.PrintLast Go.Proofs.YtpfbajjpommjmaaW.PrintMore Go.Proofs.Ytpfbajjpommjmaa.Top
set_option linter.unusedVariables false
set_option linter.unusedSimpArgs false

def T5 (W : World) (k : Nat) : Prop := k < W.heap.size ∧ ∃ cells, W.heap[k]? = some (.cells cells 5 (0, 0))
def F5 (W : World) (A : Option Addr) (x : List Int) : Prop := Kd.F (Kd.int .u8) W (T5 W) A x.length x
def Keeps5 (W W' : World) : Prop := ∀ k, T5 W k → W'.heap[k]? = W.heap[k]?

theorem T5_keeps {W W' : World} (h : Keeps5 W W') {k : Nat} (hk : T5 W k) : T5 W' k := by
  obtain ⟨hlt, cells, hc⟩ := hk
  have := h k ⟨hlt, cells, hc⟩
  rw [hc] at this
  exact ⟨blk_lt this, cells, this⟩
theorem F5_keeps {W W' : World} {A : Option Addr} {x : List Int} (h : F5 W A x) (hk : Keeps5 W W') : F5 W' A x :=
  Kd.F_mono (Kd.F_step h (fun k ho _ => hk k ho)) (fun k ho => T5_keeps hk ho)
theorem F5_C {W : World} {A : Option Addr} {x : List Int} (h : F5 W A x) : (Kd.int .u8).C W A x.length x := Kd.F_now h
theorem keeps_below {W W' : World} (h : Below W.heap.size W W') : Keeps5 W W' := fun k hk => h.block k hk.1
theorem keeps_alloc (W : World) (o : Obj) : Keeps5 W (W.alloc o) := keeps_below (below_alloc (Below.refl _ _) o)
theorem keeps_set {W : World} {g t : Nat} {cells : Array Value} (h : W.heap[g]? = some (.cells cells t (0, 0))) (ht : t ≠ 5) (i : Nat) (u : Value) : Keeps5 W (W.setCell ⟨g, i, none⟩ u) := by
  intro k hk
  obtain ⟨hlt, cs, hc⟩ := hk
  refine Below.heap_setCell W ⟨g, i, none⟩ u k ?_
  rintro rfl
  rw [h] at hc
  injection hc with hc
  injection hc with _ hc _
  exact ht hc
theorem keeps_grown {W W' : World} {g t : Nat} {cells : Array Value} (h : W.heap[g]? = some (.cells cells t (0, 0))) (ht : t ≠ 5) (hg : W.grownBy W' (some g)) : Keeps5 W W' := by
  intro k hk
  obtain ⟨hlt, cs, hc⟩ := hk
  refine hg.block k hlt ?_
  intro e
  obtain rfl := Option.some.inj e
  rw [h] at hc
  injection hc with hc
  injection hc with _ hc _
  exact ht hc
theorem keeps_trans {W W1 W2 : World} (h : Keeps5 W W1) (k : Keeps5 W1 W2) : Keeps5 W W2 := fun j hj => (k j (T5_keeps h hj)).trans (h j hj)

theorem F5_of_R {W : World} {base : Nat} {ok : Nat → Prop} {v : Value} {x : List Int} (h : (Kd.int .u8).R 5 W base ok v x) : ∃ A c, v = .slice A x.length c ∧ x.length ≤ c ∧ F5 W A x := by
  obtain ⟨A, c, rfl⟩ := Kd.R_slice h
  refine ⟨A, c, rfl, ?_, ?_⟩
  · obtain ⟨inner, ho⟩ := Kd.R_own h
    exact own_le ho
  · refine Kd.F_mono (Kd.R_F (Kd.R_bound h)) ?_
    rintro k ⟨_, _, hlt, q, hq, cells, hc⟩
    have : q = 5 := List.mem_singleton.1 hq
    exact ⟨hlt, cells, by rw [hc, this]⟩

theorem blocks_open {W : World} {base : Nat} {ok : Nat → Prop} {v : Value} {x : List Int} (h : Kd.S (Kd.slice 5 (Kd.int .u8)) 25 W base ok v [x]) :
    ∃ g cap cells A c, v = .slice (some ⟨g, 0, none⟩) 1 cap ∧ 1 ≤ cap ∧ base ≤ g ∧ W.heap[g]? = some (.cells cells 25 (0, 0)) ∧ cells[0]? = some (.slice A x.length c) ∧ x.length ≤ c ∧ F5 W A x := by
  obtain ⟨h0, inner, ho, hr⟩ := Kd.S_R h
  obtain ⟨hl, ⟨hv, hn⟩ | ⟨g, cap, cur, hv, hb, hheap, hn, hcap, hsz, htk⟩⟩ := ho
  · cases hn
  · obtain ⟨v1, hc1, hR⟩ := hr.2 0 x rfl
    obtain ⟨A, c, rfl, hlc, hF⟩ := F5_of_R hR
    refine ⟨g, cap, cur, A, c, hv, hn, hb, hheap, ?_, hlc, hF⟩
    have e : inner[0]? = some (.slice A x.length c) := by
      have := congrArg (fun l => l[0]?) hc1
      simpa [Kd.slice] using this
    rw [← htk, List.getElem?_take] at e
    simpa [Kd.slice] using e

theorem cache_open {W : World} {base : Nat} {ok : Nat → Prop} {v : Value} {q : S60} (h : Kd.S k60 60 W base ok v [q]) :
    ∃ g cap cells A c, v = .slice (some ⟨g, 0, none⟩) 1 cap ∧ 1 ≤ cap ∧ base ≤ g ∧ W.heap[g]? = some (.cells cells 60 (0, 0)) ∧ cells[0]? = some (.int .i64 q.f0) ∧ cells[1]? = some (.slice A q.f1.length c) ∧ q.f1.length ≤ c ∧ F5 W A q.f1 := by
  obtain ⟨h0, inner, ho, hr⟩ := Kd.S_R h
  obtain ⟨hl, ⟨hv, hn⟩ | ⟨g, cap, cur, hv, hb, hheap, hn, hcap, hsz, htk⟩⟩ := ho
  · cases hn
  · obtain ⟨v1, hc1, hR⟩ := k60_openM (hr.2 0 q rfl)
    obtain ⟨A, c, rfl, hlc, hF⟩ := F5_of_R hR
    have hz : k60.sz = 2 := rfl
    rw [hz] at hc1 htk hl
    refine ⟨g, cap, cur, A, c, hv, hn, hb, hheap, ?_, ?_, hlc, hF⟩
    · have e : inner[0]? = some (.int .i64 q.f0) := by
        have := congrArg (fun l => l[0]?) hc1
        simpa [List.getElem?_take] using this
      rw [← htk, List.getElem?_take] at e
      simpa using e
    · have e : inner[1]? = some (.slice A q.f1.length c) := by
        have := congrArg (fun l => l[1]?) hc1
        simpa [List.getElem?_take] using this
      rw [← htk, List.getElem?_take] at e
      simpa using e

theorem queue_open {W : World} {base : Nat} {ok : Nat → Prop} {v : Value} {l : List S43} {q : S43} (h : Kd.S k43 43 W base ok v (l ++ [q])) :
    ∃ g cap cells A c, v = .slice (some ⟨g, 0, none⟩) (l.length + 1) cap ∧ l.length + 1 ≤ cap ∧ base ≤ g ∧ W.heap[g]? = some (.cells cells 43 (0, 0)) ∧ 4 * (l.length + 1) ≤ cells.size ∧ cells[l.length * 4]? = some (.int .i64 q.f0) ∧ cells[l.length * 4 + 1]? = some (.int .i64 q.f1) ∧ cells[l.length * 4 + 2]? = some (.int .i64 q.f2) ∧ cells[l.length * 4 + 3]? = some (.slice A q.f3.length c) ∧ q.f3.length ≤ c ∧ F5 W A q.f3 ∧
      ∀ W' cells', Keeps5 W W' → W'.heap[g]? = some (.cells cells' 43 (0, 0)) → (∀ j, j < l.length * 4 → cells'[j]? = cells[j]?) → Kd.C k43 W' (some ⟨g, 0, none⟩) l.length l := by
  obtain ⟨h0, inner, ho, hr⟩ := Kd.S_R h
  obtain ⟨hl, ⟨hv, hn⟩ | ⟨g, cap, cur, hv, hb, hheap, hn, hcap, hsz, htk⟩⟩ := ho
  · simp at hn
  · have hz : k43.sz = 4 := rfl
    rw [hz] at hl htk hsz hr
    rw [List.length_append, List.length_singleton] at hv hn hl htk
    have hin : ∀ j, j < (l.length + 1) * 4 → cur[j]? = inner[j]? := by
      intro j hj
      rw [← htk, List.getElem?_take, if_pos hj, Array.getElem?_toList]
    obtain ⟨v1, hc1, hR⟩ := k43_openM (hr.2 l.length q (by simp))
    obtain ⟨A, c, rfl, hlc, hF⟩ := F5_of_R hR
    have get : ∀ i, i < 4 → cur[l.length * 4 + i]? = ([.int .i64 q.f0, .int .i64 q.f1, .int .i64 q.f2, .slice A q.f3.length c] : List Value)[i]? := by
      intro i hi
      rw [hin _ (by omega), ← hc1, List.getElem?_take, if_pos hi, List.getElem?_drop]
    refine ⟨g, cap, cur, A, c, hv, hn, hb, hheap, by rw [hsz]; omega, get 0 (by omega), get 1 (by omega), get 2 (by omega), get 3 (by omega), hlc, hF, ?_⟩
    intro W' cells' hk hg' hcells
    refine ⟨rfl, by unfold Go.maxLen at hcap; omega, fun hpos => ⟨_, rfl, fun j p hj => ?_⟩⟩
    have hjl : j < l.length := (List.getElem?_eq_some_iff.1 hj).1
    obtain ⟨v2, hc2, hR2⟩ := k43_openM (hr.2 j p (by rw [List.getElem?_append_left hjl]; exact hj))
    obtain ⟨A2, c2, rfl, hlc2, hF2⟩ := F5_of_R hR2
    refine ⟨[.int .i64 p.f0, .int .i64 p.f1, .int .i64 p.f2, .slice A2 p.f3.length c2], rfl, k43_mk W' p hlc2 (F5_C (F5_keeps hF2 hk)), fun i u hu => ?_⟩
    have hi4 : i < 4 := (List.getElem?_eq_some_iff.1 hu).1
    rw [hz, add_plain, blk_cell hg', hcells _ (by omega), hin _ (by omega), ← hu, ← hc2, List.getElem?_take, if_pos hi4, List.getElem?_drop]

theorem blocks_C {W : World} {g c : Nat} {cells : Array Value} {A : Option Addr} {x : List Int} (h : W.heap[g]? = some (.cells cells 25 (0, 0))) (hc : cells[0]? = some (.slice A x.length c)) (hl : x.length ≤ c) (hF : F5 W A x) : Kd.C (Kd.slice 5 (Kd.int .u8)) W (some ⟨g, 0, none⟩) 1 [x] := by
  refine ⟨rfl, by omega, fun _ => ⟨_, rfl, fun j p hj => ?_⟩⟩
  cases j with
  | succ j => simp at hj
  | zero =>
    obtain rfl := Option.some.inj hj
    refine ⟨[.slice A x.length c], rfl, ⟨A, c, rfl, hl, F5_C hF⟩, fun i u hu => ?_⟩
    cases i with
    | succ i => simp at hu
    | zero =>
      rw [add_plain, blk_cell h]
      exact hc.trans hu
theorem cache_C {W : World} {g c : Nat} {cells : Array Value} {A : Option Addr} {q : S60} (h : W.heap[g]? = some (.cells cells 60 (0, 0))) (h0 : cells[0]? = some (.int .i64 q.f0)) (h1 : cells[1]? = some (.slice A q.f1.length c)) (hl : q.f1.length ≤ c) (hF : F5 W A q.f1) : Kd.C k60 W (some ⟨g, 0, none⟩) 1 [q] := by
  refine ⟨rfl, by omega, fun _ => ⟨_, rfl, fun j p hj => ?_⟩⟩
  cases j with
  | succ j => simp at hj
  | zero =>
    obtain rfl := Option.some.inj hj
    refine ⟨[.int .i64 q.f0, .slice A q.f1.length c], rfl, k60_mk W q hl (F5_C hF), fun i u hu => ?_⟩
    rw [add_plain, blk_cell h]
    rcases i with _ | _ | i
    · exact h0.trans hu
    · exact h1.trans hu
    · simp at hu

/-! The same, told of the blocks that a device's rows lie in: bytes, rows of slices, of cached entries, of requests. -/
def Tn (W : World) (k : Nat) : Prop := k < W.heap.size ∧ ∃ cells t, W.heap[k]? = some (.cells cells t (0, 0)) ∧ (t = 5 ∨ t = 25 ∨ t = 60 ∨ t = 43)
def FT {α : Type} (d : Kd α) (W : World) (A : Option Addr) (n : Nat) (xs : List α) : Prop := Kd.F d W (Tn W) A n xs
def KeepsT (W W' : World) : Prop := ∀ k, Tn W k → W'.heap[k]? = W.heap[k]?
theorem Tn_keeps {W W' : World} (h : KeepsT W W') {k : Nat} (hk : Tn W k) : Tn W' k := by
  obtain ⟨hlt, cells, t, hc, ht⟩ := hk
  have := h k ⟨hlt, cells, t, hc, ht⟩
  rw [hc] at this
  exact ⟨blk_lt this, cells, t, this, ht⟩
theorem FT_keeps {α : Type} {d : Kd α} {W W' : World} {A : Option Addr} {n : Nat} {xs : List α} (h : FT d W A n xs) (hk : KeepsT W W') : FT d W' A n xs :=
  Kd.F_mono (Kd.F_step h (fun k ho _ => hk k ho)) (fun k ho => Tn_keeps hk ho)
theorem FT_C {α : Type} {d : Kd α} {W : World} {A : Option Addr} {n : Nat} {xs : List α} (h : FT d W A n xs) : d.C W A n xs := Kd.F_now h
theorem keepsT_below {W W' : World} (h : Below W.heap.size W W') : KeepsT W W' := fun k hk => h.block k hk.1
theorem keepsT_trans {W W1 W2 : World} (h : KeepsT W W1) (k : KeepsT W1 W2) : KeepsT W W2 := fun j hj => (k j (Tn_keeps h hj)).trans (h j hj)
theorem Tn_ne {w : World} {k g t : Nat} {c : Array Value} (hk : Tn w k) (h : w.heap[g]? = some (.cells c t (0, 0))) (ht : t ≠ 5 ∧ t ≠ 25 ∧ t ≠ 60 ∧ t ≠ 43) : k ≠ g := by
  obtain ⟨_, cs, t', hc, ht'⟩ := hk
  rintro rfl
  rw [h] at hc
  injection hc with hc
  injection hc with _ hc _
  rw [← hc] at ht'
  rcases ht' with h | h | h | h
  · exact ht.1 h
  · exact ht.2.1 h
  · exact ht.2.2.1 h
  · exact ht.2.2.2 h
theorem keepsT_set {W : World} {g t : Nat} {cells : Array Value} (h : W.heap[g]? = some (.cells cells t (0, 0))) (ht : t ≠ 5 ∧ t ≠ 25 ∧ t ≠ 60 ∧ t ≠ 43) (i : Nat) (u : Value) : KeepsT W (W.setCell ⟨g, i, none⟩ u) :=
  fun k hk => Below.heap_setCell W ⟨g, i, none⟩ u k (Tn_ne hk h ht)
theorem keepsT_grown {W W' : World} {row : Option Nat} (hg : W.grownBy W' row) (hr : ∀ g, row = some g → ∃ cells t, W.heap[g]? = some (.cells cells t (0, 0)) ∧ t ≠ 5 ∧ t ≠ 25 ∧ t ≠ 60 ∧ t ≠ 43) : KeepsT W W' := by
  intro k hk
  refine hg.block k hk.1 (fun e => ?_)
  obtain ⟨cells, t, hc, ht⟩ := hr k e.symm
  exact Tn_ne hk hc ht rfl
theorem keeps5_T {W W' : World} (h : ∀ k, Tn W k → k < W.heap.size → W'.heap[k]? = W.heap[k]?) : Keeps5 W W' := by
  intro k hk
  obtain ⟨hlt, cells, hc⟩ := hk
  exact h k ⟨hlt, cells, 5, hc, Or.inl rfl⟩ hlt
theorem blocks_F {W : World} {g c : Nat} {cells : Array Value} {A : Option Addr} {x : List Int} (h : W.heap[g]? = some (.cells cells 25 (0, 0))) (hc : cells[0]? = some (.slice A x.length c)) (hl : x.length ≤ c) (hF : F5 W A x) : FT (Kd.slice 5 (Kd.int .u8)) W (some ⟨g, 0, none⟩) 1 [x] :=
  fun W' hW => blocks_C ((hW g ⟨blk_lt h, cells, 25, h, Or.inr (Or.inl rfl)⟩ (blk_lt h)).trans h) hc hl (F5_keeps hF (keeps5_T hW))
theorem cache_F {W : World} {g c : Nat} {cells : Array Value} {A : Option Addr} {q : S60} (h : W.heap[g]? = some (.cells cells 60 (0, 0))) (h0 : cells[0]? = some (.int .i64 q.f0)) (h1 : cells[1]? = some (.slice A q.f1.length c)) (hl : q.f1.length ≤ c) (hF : F5 W A q.f1) : FT k60 W (some ⟨g, 0, none⟩) 1 [q] :=
  fun W' hW => cache_C ((hW g ⟨blk_lt h, cells, 60, h, Or.inr (Or.inr (Or.inl rfl))⟩ (blk_lt h)).trans h) h0 h1 hl (F5_keeps hF (keeps5_T hW))
theorem queue_F {W X : World} {g m : Nat} {cs4 cs5 : Array Value} {l : List S43} (r4 : ∀ W' cells', Keeps5 W W' → W'.heap[g]? = some (.cells cells' 43 (0, 0)) → (∀ j, j < m → cells'[j]? = cs4[j]?) → Kd.C k43 W' (some ⟨g, 0, none⟩) l.length l) (hk : Keeps5 W X) (h : X.heap[g]? = some (.cells cs5 43 (0, 0))) (hp : ∀ j, j < m → cs5[j]? = cs4[j]?) : FT k43 X (some ⟨g, 0, none⟩) l.length l :=
  fun W' hW => r4 W' cs5 (keeps_trans hk (keeps5_T hW)) ((hW g ⟨blk_lt h, cs5, 43, h, Or.inr (Or.inr (Or.inr rfl))⟩ (blk_lt h)).trans h) hp
theorem S_FT {α : Type} {d : Kd α} {e : Nat} {W : World} {base : Nat} {ok : Nat → Prop} {A : Option Addr} {n c : Nat} {xs : List α} (h : Kd.S d e W base ok (.slice A n c) xs) (ht : ∀ q, q ∈ e :: d.E → q = 5 ∨ q = 25 ∨ q = 60 ∨ q = 43) : FT d W A xs.length xs := by
  obtain ⟨rfl, _, _⟩ := Kd.S_reads' h
  refine Kd.F_mono (Kd.S_F (Kd.S_bound h)) ?_
  rintro k ⟨_, _, hlt, q, hq, cells, hc⟩
  exact ⟨hlt, cells, q, hc, ht q hq⟩
theorem FT_nil {α : Type} (d : Kd α) (W : World) : FT d W none 0 [] := fun W' _ => Kd.C_nil d W'
end Go.Proofs.Ytpfbajjpommjmaa.Hand
