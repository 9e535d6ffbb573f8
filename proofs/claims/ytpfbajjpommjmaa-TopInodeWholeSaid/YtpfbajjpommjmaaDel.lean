/- What is proved: a call of slices.Delete that takes out the last element alone: the row keeps all cells ahead of it, nothing else is written. Conditions: the row's block is given. -/
import Derived.Test.YtpfbajjpommjmaaTopx0
import Derived.Lib.SliceRun
import Derived.Deep.RegionLaw
namespace Go.Proofs.Ytpfbajjpommjmaa.Hand
open Go.RowKit Go.Lib Go.Proofs.YtpfbajjpommjmaaW.PrintWords Go.Proofs.YtpfbajjpommjmaaW.PrintLast Go.Proofs.YtpfbajjpommjmaaW.PrintMore Go.Proofs.Ytpfbajjpommjmaa.Top
set_option linter.unusedVariables false
set_option linter.unusedSimpArgs false

theorem clear_one (w : World) (ty : TypeId) (b o c : Nat) (hc : ∀ j, j < 4 → (w.cell? ⟨b, o + j, none⟩).isSome = true) (hf : ∀ j, j < 4 → w.frozen? ⟨b, o + j, none⟩ = false) :
    (Builtin.clear_ #[31] ty #[.slice (some ⟨b, o, none⟩) 1 c]).run Try.prog w = .ok (.tuple #[]) (w.setCells b o [.int .i64 0, .int .i64 0, .int .i64 0, .slice none 0 0]) := by
  have hst := run_storeCells_cells (P := Try.prog) b o [.int .i64 0, .int .i64 0, .int .i64 0, .slice none 0 0] 0 w (by simpa using hc) (by simpa using hf) (by intro v hv; simp at hv; rcases hv with rfl | rfl | rfl <;> rfl)
  simp only [Nat.add_zero] at hst
  have hz : ∀ w, (zeroValue 43).run Try.prog w = .ok (.agg #[.int .i64 0, .int .i64 0, .int .i64 0, .slice none 0 0]) w := fun w => by kernel_rfl
  have hzc : (Builtin.zeroCells (Value.agg #[.int .i64 0, .int .i64 0, .int .i64 0, .slice none 0 0]).cells 1).toList = [.int .i64 0, .int .i64 0, .int .i64 0, .slice none 0 0] := by kernel_rfl
  simp [Builtin.clear_, run_underlying Try.underlying31, hz, hzc, hst]

set_option maxHeartbeats 4000000 in
set_option maxRecDepth 1000000 in
theorem delete_last (g m cap : Nat) (cells : Array Value) (w : World) (hb : w.heap[g]? = some (.cells cells 43 (0, 0))) (hc : m + 1 ≤ cap) (hs : 4 * (m + 1) ≤ cells.size) :
    Calls Try.prog 17 #[.slice (some ⟨g, 0, none⟩) (m + 1) cap, .int .i64 (m : Int), .int .i64 ((m : Int) + 1)] w fun e w' => e = .returned (.slice (some ⟨g, 0, none⟩) m cap) ∧ ∃ q, w' = (w.drewN q).setCells g (m * 4) [.int .i64 0, .int .i64 0, .int .i64 0, .slice none 0 0] := by
  obtain ⟨i0, hi0, hz1⟩ : ∃ i, Try.prog.info? 43 = some i ∧ i.size = 4 := ⟨_, rfl, rfl⟩
  have hcl : ∀ (W : World) (ty : TypeId) (c : Nat), W = w.drew → (Builtin.clear_ #[31] ty #[.slice (some ⟨g, m * 4, none⟩) 1 c]).run Try.prog W = .ok (.tuple #[]) (W.setCells g (m * 4) [.int .i64 0, .int .i64 0, .int .i64 0, .slice none 0 0]) := by
    rintro W ty c rfl
    exact clear_one _ ty g (m * 4) c (fun j hj => by show (w.cell? _).isSome = true; rw [blk_cell hb, Array.getElem?_eq_getElem (by omega)]; rfl) (fun j hj => blk_frozen hb _)
  have h1 : (m : Int) < (m : Int) + 1 := by omega
  have h2 : m ≤ cap := by omega
  have h3 : (0 : Int) ≤ (m : Int) + 1 := by omega
  replace hcl := fun ty c => hcl w.drew ty c rfl
  go_enter Try.func17, Try.ntmps17
  go_wp2_with fail
  obtain ⟨A, hA⟩ : ∃ A : Addr, (if cap = m + 1 then (some (⟨g, 0, none⟩ : Addr)) else some ⟨g, (m + 1) * 4, none⟩) = some A := by
    by_cases h : cap = m + 1
    · exact ⟨_, if_pos h⟩
    · exact ⟨_, if_neg h⟩
  go_region_law (refine step_append_room rfl (.tmp 22) (.tmp 25) 31 rfl 43 i0 4 Try.underlying31 hi0 hz1 g 0 m cap (by simp [Act.eval, Act.put]) A 0 (cap - (m + 1)) [] (by simp [Act.eval, Act.put, hA]) rfl (fun _ _ h => by simp at h) (fun _ h => by simp at h) (by omega) (fun _ h => by simp at h) ?_; rw [show w.drew.setCells g (0 + m * 4) [] = w.drew from rfl])
  go_wp2
  go_ret
  exact ⟨rfl, 1, rfl⟩

/-- What the row's block holds behind, and that no other block is written. -/
theorem delete_after (g m q : Nat) (cells : Array Value) (w : World) (hb : w.heap[g]? = some (.cells cells 43 (0, 0))) :
    ∃ cells', (((w.drewN q).setCells g (m * 4) [.int .i64 0, .int .i64 0, .int .i64 0, .slice none 0 0]).heap[g]? = some (.cells cells' 43 (0, 0))) ∧ (∀ j, j < m * 4 → cells'[j]? = cells[j]?) ∧ w.grownBy ((w.drewN q).setCells g (m * 4) [.int .i64 0, .int .i64 0, .int .i64 0, .slice none 0 0]) (some g) := by
  have h0 : (w.drewN q).heap[g]? = some (.cells cells 43 (0, 0)) := hb
  refine ⟨_, blk_set (blk_set (blk_set (blk_set h0 (m * 4) _) (m * 4 + 1) _) (m * 4 + 1 + 1) _) (m * 4 + 1 + 1 + 1) _, ?_, ?_⟩
  · intro j hj
    rw [Array.getElem?_setIfInBounds_ne (by omega), Array.getElem?_setIfInBounds_ne (by omega), Array.getElem?_setIfInBounds_ne (by omega), Array.getElem?_setIfInBounds_ne (by omega)]
  · refine ⟨rfl, rfl, rfl, ?_, ?_⟩
    · simp [World.setCells, World.setCell]
    · intro i hi hne
      have hg : i ≠ g := fun e => hne (by rw [e])
      show (((((w.drewN q).setCell ⟨g, m * 4, none⟩ _).setCell ⟨g, m * 4 + 1, none⟩ _).setCell ⟨g, m * 4 + 1 + 1, none⟩ _).setCell ⟨g, m * 4 + 1 + 1 + 1, none⟩ _).heap[i]? = w.heap[i]?
      rw [Below.heap_setCell _ _ _ i hg, Below.heap_setCell _ _ _ i hg, Below.heap_setCell _ _ _ i hg, Below.heap_setCell _ _ _ i hg]
      rfl
end Go.Proofs.Ytpfbajjpommjmaa.Hand
