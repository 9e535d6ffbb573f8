/- What is proved: a call of find in a cache of no entry, or of one entry for block 0. Conditions: the cache's cells are given; the block asked for is 0. -/
import Derived.Test.YtpfbajjpommjmaaTopx0
import Derived.Lib.SliceRun
namespace Go.Proofs.Ytpfbajjpommjmaa.Hand
open Go.RowKit Go.Lib Go.Proofs.YtpfbajjpommjmaaW.PrintWords Go.Proofs.YtpfbajjpommjmaaW.PrintLast Go.Proofs.YtpfbajjpommjmaaW.PrintMore Go.Proofs.Ytpfbajjpommjmaa.Top
set_option linter.unusedVariables false
set_option linter.unusedSimpArgs false

theorem cmp_calls (A : Option Addr) (n c : Nat) (w : World) : Calls Try.prog 27 #[.agg #[.int .i64 0, .slice A n c], .int .i64 0] w fun e w' => e = .returned (.int .i64 0) ∧ Below w.heap.size w w' := by
  have hu60 := Try.underlying60
  go_enter Try.func27, Try.ntmps27
  go_wp2
  go_ret
  exact ⟨rfl, below_alloc (Below.refl _ _) _⟩

set_option maxHeartbeats 1000000 in
set_option maxRecDepth 100000 in
theorem search_none (A : Option Addr) (c : Nat) (w : World) : Calls Try.prog 26 #[.slice A 0 c, .int .i64 0, .func (.func 27) #[] #[]] w fun e w' => e = .returned (.tuple #[.int .i64 0, .bool false]) ∧ Below w.heap.size w w' := by
  go_enter Try.func26, Try.ntmps26
  go_wp2
  go_loopg [9, 10] 0 (fun kq v9 v10 wr => v9 = .int .i64 0 ∧ v10 = .int .i64 0 ∧ Below w.heap.size w wr)
  case atStart => exact ⟨rfl, rfl, Below.refl _ _⟩
  case round =>
    obtain ⟨rfl, rfl, HB⟩ := hrel
    go_wp2
    go_ret2
    exact ⟨rfl, HB⟩

set_option maxHeartbeats 1000000 in
set_option maxRecDepth 100000 in
theorem search_one (g c : Nat) (A : Option Addr) (n c' : Nat) (w : World) (h0 : w.cell? ⟨g, 0, none⟩ = some (.int .i64 0)) (h1 : w.cell? ⟨g, 1, none⟩ = some (.slice A n c')) : Calls Try.prog 26 #[.slice (some ⟨g, 0, none⟩) 1 c, .int .i64 0, .func (.func 27) #[] #[]] w fun e w' => e = .returned (.tuple #[.int .i64 0, .bool true]) ∧ Below w.heap.size w w' := by
  have hu60 := Try.underlying60
  go_enter Try.func26, Try.ntmps26
  go_wp2
  go_loopg [9, 10] 1 (fun kq v9 v10 wr => v9 = .int .i64 0 ∧ v10 = .int .i64 (kq : Int) ∧ kq ≤ 1 ∧ Below w.heap.size w wr)
  case atStart => exact ⟨rfl, rfl, Nat.le_refl _, Below.refl _ _⟩
  case round =>
    obtain ⟨rfl, rfl, HK, HB⟩ := hrel
    replace h0 := (HB.cell (World.block_lt_of_cell? w _ h0)).trans h0
    replace h1 := (HB.cell (World.block_lt_of_cell? w _ h1)).trans h1
    rcases (by omega : gk = 0 ∨ gk = 1) with rfl | rfl
    · go_wp2_with (go_at_call 27; (with_reducible refine (cmp_calls A n c' _).mono ?_); rintro e w1 ⟨rfl, hb⟩)
      go_ret2
      exact ⟨rfl, below_step HB hb⟩
    · go_wp2_with (go_at_call 27; (with_reducible refine (cmp_calls A n c' _).mono ?_); rintro e w1 ⟨rfl, hb⟩)
      go_roundg 0
      case measure => omega
      case rel => exact ⟨rfl, rfl, by omega, below_step HB hb⟩

set_option maxHeartbeats 1000000 in
set_option maxRecDepth 100000 in
theorem find_none (d n : Int) (A2 A3 A4 : Option Addr) (n2 c2 c3 n4 c4 : Nat) (w : World) : Calls Try.prog 19 #[.agg #[.int .i64 d, .int .i64 n, .slice A2 n2 c2, .slice A3 0 c3, .slice A4 n4 c4], .int .i64 0] w fun e w' => e = .returned (.tuple #[.int .i64 0, .bool false]) ∧ Below w.heap.size w w' := by
  have hu33 := Try.underlying33
  go_enter Try.func19, Try.ntmps19
  go_wp2_with (go_at_call 26; (with_reducible refine (search_none A3 c3 _).mono ?_); rintro e w1 ⟨rfl, hb⟩)
  go_ret2
  exact ⟨rfl, below_step (below_alloc (Below.refl _ _) _) hb⟩

set_option maxHeartbeats 1000000 in
set_option maxRecDepth 100000 in
theorem find_one (d n : Int) (A2 A4 A : Option Addr) (g n2 c2 c3 n4 c4 n' c' : Nat) (w : World) (h0 : w.cell? ⟨g, 0, none⟩ = some (.int .i64 0)) (h1 : w.cell? ⟨g, 1, none⟩ = some (.slice A n' c')) : Calls Try.prog 19 #[.agg #[.int .i64 d, .int .i64 n, .slice A2 n2 c2, .slice (some ⟨g, 0, none⟩) 1 c3, .slice A4 n4 c4], .int .i64 0] w fun e w' => e = .returned (.tuple #[.int .i64 0, .bool true]) ∧ Below w.heap.size w w' := by
  have hu33 := Try.underlying33
  go_enter Try.func19, Try.ntmps19
  go_wp2_with (go_at_call 26; (with_reducible refine (search_one g c3 A n' c' _ (cell?_alloc_some _ h0) (cell?_alloc_some _ h1)).mono ?_); rintro e w1 ⟨rfl, hb⟩)
  go_ret2
  exact ⟨rfl, below_step (below_alloc (Below.refl _ _) _) hb⟩
end Go.Proofs.Ytpfbajjpommjmaa.Hand
