/- What is proved: plain laws: the loops of the law RegionPages. Condition: enough rounds. -/
import Derived.Test.YtajephbmbdnjpaaPlainR
import Derived.Test.YtajephbmbdnjpaaRegx24
namespace Go.Proofs.Ytajephbmbdnjpaa.PageL
open Go.RowKit Go.Proofs.Ytajephbmbdnjpaa.Reg Go.Proofs.Ytajephbmbdnjpaa.Plain Go.Proofs.YtajephbmbdnjpaaW.PrintWords Go.Proofs.YtajephbmbdnjpaaW.PrintLast Go.Proofs.YtajephbmbdnjpaaW.PrintMore
set_option linter.unusedVariables false

theorem chk0 {s p pr fl fi ix : Int} (h : chkV s p pr fl fi ix = 0) : 1 ≤ p ∧ (pr = 1 ∨ pr = 3) ∧ 0 ≤ fl ∧ fl ≤ 15 ∧ -1 ≤ fi ∧ fi ≤ 3 ∧ 0 ≤ s ∧ s + p ≤ 512 ∧ 0 ≤ ix ∧ (fi = -1 → ix = 0) ∧ (fi ≠ -1 → ix + p ≤ 16) ∧ (fl % 2 = 1 → fi ≠ -1) ∧ (fl / 2 % 2 = 1 → fi = -1) ∧ (fl / 8 % 2 = 1 → fi = -1) := by
  unfold chkV at h
  by_cases hb : badA p pr fl fi
  · rw [if_pos hb] at h; exact absurd h (by decide)
  · rw [if_neg hb] at h
    unfold rng at h
    by_cases hr : s < 0 ∨ 512 < s + p ∨ ix < 0 ∨ (0 < ix ∧ fi = -1) ∨ (fi ≠ -1 ∧ 16 < ix + p)
    · rw [if_pos hr] at h; exact absurd h (by decide)
    · clear h
      unfold badA at hb
      refine ⟨by omega, by omega, by omega, by omega, by omega, by omega, by omega, by omega, by omega, by omega, by omega, by omega, by omega, by omega⟩

theorem has_in (k : Nat) (hk : 8 ≤ k) (s p pr fl fi ix x : Int) (hA : chkV s p pr fl fi ix = 0) : region_Has.f k s p pr fl fi ix x = some (decide (s ≤ x ∧ x < s + p)) := by
  obtain ⟨a1, a2, a3, a4, a5, a6, a7, a8, a9, a10, a11, -, -, -⟩ := chk0 hA
  unfold region_Has.f
  rw [check_f k hk, Option.bind_some, if_pos hA, w64 (by omega) (by omega)]
  by_cases hx : x ≥ s
  · rw [if_pos hx]
    congr 1
    exact decide_eq_decide.2 ⟨fun h => ⟨hx, h⟩, fun h => h.2⟩
  · rw [if_neg hx, decide_eq_false fun h => hx h.1]

theorem page_in (k : Nat) (hk : 8 ≤ k) (s p pr fl fi ix x : Int) (hA : chkV s p pr fl fi ix = 0) (hx : s ≤ x ∧ x < s + p) : region_Page.f k s p pr fl fi ix x = some (if fi = -1 then -1 else ix + x - s) := by
  obtain ⟨a1, a2, a3, a4, a5, a6, a7, a8, a9, a10, a11, -, -, -⟩ := chk0 hA
  unfold region_Page.f
  rw [has_in k hk s p pr fl fi ix x hA, Option.bind_some, if_pos (decide_eq_true hx)]
  by_cases hf : fi = -1
  · rw [if_pos hf, if_pos hf]
  · rw [if_neg hf, if_neg hf, w64 (x := ix + x) (by omega) (by omega), w64 (x := ix + x - s) (by omega) (by omega)]

/-- A part of a region. -/
def part (s pr fi ix : Int) (q : S23) : Prop := chkV q.f0 q.f1 q.f2 q.f3 q.f4 q.f5 = 0 ∧ q.f2 = pr ∧ q.f4 = fi ∧ (fi ≠ -1 → q.f5 - q.f0 = ix - s)

theorem pg_step (k : Nat) (hk : 8 ≤ k) (pg ct s p pr fl fi ix x i n : Int) (l : List S23) (q : S23) (hr : chkV s p pr fl fi ix = 0) (hx : s ≤ x ∧ x < s + p) (hi0 : 0 ≤ i) (hi : i < (l.length : Int)) (hi2 : i ≤ 2) (hn : 0 ≤ n ∧ n ≤ 2) (hq : rd_T23 l i = q) (g : part s pr fi ix q) :
    estoverslaw22_RegionPages.l1 (k + 1) pg ct l x n i s p pr fl fi ix = estoverslaw22_RegionPages.l1 k pg ct l x (if q.f0 ≤ x ∧ x < q.f0 + q.f1 then n + 1 else n) (i + 1) s p pr fl fi ix := by
  obtain ⟨g1, g2, g3, g4⟩ := g
  rw [estoverslaw22_RegionPages.l1, if_pos hi, if_pos hi0, hq, has_in k hk _ _ _ _ _ _ x g1, Option.bind_some]
  by_cases hin : q.f0 ≤ x ∧ x < q.f0 + q.f1
  · rw [if_pos (decide_eq_true hin), page_in k hk _ _ _ _ _ _ x g1 hin, page_in k hk _ _ _ _ _ _ x hr hx, Option.bind_some, Option.bind_some, if_pos hin]
    rw [if_pos, if_pos g2, if_pos g3, w64 (x := n + 1) (by omega) (by omega), w64 (x := i + 1) (by omega) (by omega)]
    rw [g3]
    by_cases hf : fi = -1
    · rw [if_pos hf, if_pos hf]
    · rw [if_neg hf, if_neg hf]
      have := g4 hf
      omega
  · rw [if_neg (by simpa using hin), if_neg hin, w64 (x := i + 1) (by omega) (by omega)]

theorem pg_end (k : Nat) (hk : 8 ≤ k) (pg ct s p pr fl fi ix x i n : Int) (l : List S23) (hr : chkV s p pr fl fi ix = 0) (hx : s ≤ x ∧ x < s + p) (hp0 : 0 ≤ pg) (hp1 : pg ≤ 512) (hi : ¬ i < (l.length : Int)) (hn : n = if pg ≤ x ∧ x < pg + ct then 0 else 1) :
    estoverslaw22_RegionPages.l1 (k + 2) pg ct l x n i s p pr fl fi ix = estoverslaw22_RegionPages.l0 k pg ct l (x + 1) s p pr fl fi ix := by
  obtain ⟨a1, a2, a3, a4, a5, a6, a7, a8, a9, a10, a11, -, -, -⟩ := chk0 hr
  have hh := has_in k hk s p pr fl fi ix x hr
  rw [decide_eq_true hx] at hh
  rw [show k + 2 = (k + 1) + 1 from rfl, estoverslaw22_RegionPages.l1, if_neg hi, w64 (x := x - pg) (by omega) (by omega)]
  by_cases h1 : pg ≤ x
  · rw [if_pos h1]
    by_cases h2 : x < pg + ct
    · rw [if_pos ⟨h1, h2⟩] at hn
      rw [decide_eq_true (show x - pg < ct by omega), estoverslaw22_RegionPages.j3, if_pos rfl, if_pos hn, hh, Option.bind_some, if_pos rfl, w64 (x := x + 1) (by omega) (by omega)]
    · rw [if_neg fun h => h2 h.2] at hn
      rw [decide_eq_false (show ¬ x - pg < ct by omega), estoverslaw22_RegionPages.j3, if_neg (by decide), if_pos hn, hh, Option.bind_some, if_pos rfl, w64 (x := x + 1) (by omega) (by omega)]
  · rw [if_neg fun h => h1 h.1] at hn
    rw [if_neg h1, estoverslaw22_RegionPages.j3, if_neg (by decide), if_pos hn, hh, Option.bind_some, if_pos rfl, w64 (x := x + 1) (by omega) (by omega)]

theorem pages_loop (L : Nat) (pg ct s p pr fl fi ix : Int) (l : List S23) (hr : chkV s p pr fl fi ix = 0)
    (hstep : ∀ k, 8 ≤ k → ∀ x, s ≤ x → x < s + p → estoverslaw22_RegionPages.l1 (k + L + 2) pg ct l x 0 0 s p pr fl fi ix = estoverslaw22_RegionPages.l0 k pg ct l (x + 1) s p pr fl fi ix)
    (hend : estoverslaw22_RegionPages.l2 15 l 0 0 s p pr fl fi ix = some true) :
    ∀ (N : Nat) (x : Int), s ≤ x → s + p - x = N → estoverslaw22_RegionPages.l0 (N * (L + 3) + 16) pg ct l x s p pr fl fi ix = some true := by
  obtain ⟨a1, a2, a3, a4, a5, a6, a7, a8, a9, a10, a11, -, -, -⟩ := chk0 hr
  intro N
  induction N with
  | zero =>
    intro x h0 h1
    rw [show 0 * (L + 3) + 16 = 15 + 1 by omega, estoverslaw22_RegionPages.l0, w64 (x := s + p) (by omega) (by omega), if_neg (by omega)]
    exact hend
  | succ N ih =>
    intro x h0 h1
    rw [show (N + 1) * (L + 3) + 16 = (N * (L + 3) + 16 + L + 2) + 1 by rw [Nat.succ_mul]; omega, estoverslaw22_RegionPages.l0, w64 (x := s + p) (by omega) (by omega), if_pos (by omega), hstep _ (by omega) x h0 (by omega)]
    exact ih (x + 1) (by omega) (by omega)

theorem start (L : Nat) (pg ct s p pr fl fi ix : Int) (l : List S23) (hr : chkV s p pr fl fi ix = 0) (hl : (l.length : Int) ≤ 2)
    (hstep : ∀ k, 8 ≤ k → ∀ x, s ≤ x → x < s + p → estoverslaw22_RegionPages.l1 (k + L + 2) pg ct l x 0 0 s p pr fl fi ix = estoverslaw22_RegionPages.l0 k pg ct l (x + 1) s p pr fl fi ix)
    (hend : estoverslaw22_RegionPages.l2 15 l 0 0 s p pr fl fi ix = some true)
    (hcut : ∀ k, 8 ≤ k → region_Cut.f k s p pr fl fi ix pg ct = some (l, 0)) : ∃ k, estoverslaw22_RegionPages.f k s p pr fl fi ix pg ct = some true := by
  obtain ⟨a1, a2, a3, a4, a5, a6, a7, a8, a9, a10, a11, -, -, -⟩ := chk0 hr
  refine ⟨p.toNat * (L + 3) + 16 + 1, ?_⟩
  unfold estoverslaw22_RegionPages.f
  rw [hcut _ (by omega), Option.bind_some, if_pos rfl, if_neg (by simpa using hl), if_neg (by omega), if_neg (by omega), if_neg (by omega), decide_eq_false (by omega), estoverslaw22_RegionPages.j0, if_neg (by decide)]
  exact pages_loop L pg ct s p pr fl fi ix l hr hstep hend p.toNat s (by omega) (by omega)

theorem loop0 (pg ct s p pr fl fi ix : Int) (hr : chkV s p pr fl fi ix = 0) (hp0 : 0 ≤ pg) (hp1 : pg ≤ 512)
    (hc : ∀ x, s ≤ x → x < s + p → pg ≤ x ∧ x < pg + ct) (hcut : ∀ k, 8 ≤ k → region_Cut.f k s p pr fl fi ix pg ct = some ([], 0)) : ∃ k, estoverslaw22_RegionPages.f k s p pr fl fi ix pg ct = some true := by
  obtain ⟨a1, a2, a3, a4, a5, a6, a7, a8, a9, a10, a11, -, -, -⟩ := chk0 hr
  refine start 0 pg ct s p pr fl fi ix [] hr (by simp) ?_ ?_ hcut
  · intro k hk x h0 h1
    exact pg_end k hk pg ct s p pr fl fi ix x 0 0 [] hr ⟨h0, h1⟩ hp0 hp1 (by simp) (by rw [if_pos (hc x h0 h1)])
  · rw [estoverslaw22_RegionPages.l2, if_neg (by simp), if_pos (by omega)]
    rfl

theorem loop1 (pg ct s p pr fl fi ix : Int) (q : S23) (hr : chkV s p pr fl fi ix = 0) (hp0 : 0 ≤ pg) (hp1 : pg ≤ 512) (g : part s pr fi ix q) (hq : q.f1 ≤ p)
    (hc : ∀ x, s ≤ x → x < s + p → ((q.f0 ≤ x ∧ x < q.f0 + q.f1) ↔ ¬ (pg ≤ x ∧ x < pg + ct))) (hcut : ∀ k, 8 ≤ k → region_Cut.f k s p pr fl fi ix pg ct = some ([q], 0)) : ∃ k, estoverslaw22_RegionPages.f k s p pr fl fi ix pg ct = some true := by
  obtain ⟨a1, a2, a3, a4, a5, a6, a7, a8, a9, a10, a11, -, -, -⟩ := chk0 hr
  obtain ⟨b1, b2, b3, b4, b5, b6, b7, b8, b9, b10, b11, -, -, -⟩ := chk0 g.1
  refine start 1 pg ct s p pr fl fi ix [q] hr (by simp) ?_ ?_ hcut
  · intro k hk x h0 h1
    rw [show k + 1 + 2 = (k + 2) + 1 by omega, pg_step (k + 2) (by omega) pg ct s p pr fl fi ix x 0 0 [q] q hr ⟨h0, h1⟩ (by omega) (by simp) (by omega) (by omega) rfl g]
    refine pg_end k hk pg ct s p pr fl fi ix x (0 + 1) _ [q] hr ⟨h0, h1⟩ hp0 hp1 (by simp) ?_
    have h := hc x h0 h1
    by_cases hh : pg ≤ x ∧ x < pg + ct
    · rw [if_pos hh, if_neg (fun h' => h.1 h' hh)]
    · rw [if_neg hh, if_pos (h.2 hh)]; rfl
  · rw [estoverslaw22_RegionPages.l2, if_pos (by simp), if_pos (by decide), show rd_T23 [q] 0 = q from rfl, check_f 14 (by omega), Option.bind_some, if_pos g.1, w64 (x := 0 + q.f1) (by omega) (by omega), show wrap64 (0 + 1) = 1 by decide +kernel, estoverslaw22_RegionPages.l2, if_neg (by simp), if_pos (by omega)]
    rfl

theorem loop2 (pg ct s p pr fl fi ix : Int) (q r : S23) (hr : chkV s p pr fl fi ix = 0) (hp0 : 0 ≤ pg) (hp1 : pg ≤ 512) (g : part s pr fi ix q) (g' : part s pr fi ix r) (hq : q.f1 + r.f1 ≤ p) (hd : q.f0 + q.f1 ≤ r.f0)
    (hc : ∀ x, s ≤ x → x < s + p → ((q.f0 ≤ x ∧ x < q.f0 + q.f1) ∨ (r.f0 ≤ x ∧ x < r.f0 + r.f1) ↔ ¬ (pg ≤ x ∧ x < pg + ct))) (hcut : ∀ k, 8 ≤ k → region_Cut.f k s p pr fl fi ix pg ct = some ([q, r], 0)) : ∃ k, estoverslaw22_RegionPages.f k s p pr fl fi ix pg ct = some true := by
  obtain ⟨a1, a2, a3, a4, a5, a6, a7, a8, a9, a10, a11, -, -, -⟩ := chk0 hr
  obtain ⟨b1, b2, b3, b4, b5, b6, b7, b8, b9, b10, b11, -, -, -⟩ := chk0 g.1
  obtain ⟨c1, c2, c3, c4, c5, c6, c7, c8, c9, c10, c11, -, -, -⟩ := chk0 g'.1
  refine start 2 pg ct s p pr fl fi ix [q, r] hr (by simp) ?_ ?_ hcut
  · intro k hk x h0 h1
    rw [show k + 2 + 2 = (k + 3) + 1 by omega, pg_step (k + 3) (by omega) pg ct s p pr fl fi ix x 0 0 [q, r] q hr ⟨h0, h1⟩ (by omega) (by simp) (by omega) (by omega) rfl g]
    rw [show (0 : Int) + 1 = 1 from rfl, show k + 3 = (k + 2) + 1 by omega, pg_step (k + 2) (by omega) pg ct s p pr fl fi ix x 1 _ [q, r] r hr ⟨h0, h1⟩ (by omega) (by simp) (by omega) (by split <;> omega) rfl g']
    refine pg_end k hk pg ct s p pr fl fi ix x (1 + 1) _ [q, r] hr ⟨h0, h1⟩ hp0 hp1 (by simp) ?_
    have h := hc x h0 h1
    by_cases hh : pg ≤ x ∧ x < pg + ct
    · rw [if_pos hh, if_neg (fun h' => h.1 (Or.inr h') hh), if_neg (fun h' => h.1 (Or.inl h') hh)]
    · rw [if_neg hh]
      by_cases h2 : q.f0 ≤ x ∧ x < q.f0 + q.f1
      · rw [if_neg (by omega), if_pos h2]
      · rw [if_pos (by rcases h.2 hh with h3 | h3; exact absurd h3 h2; exact h3), if_neg h2]; rfl
  · rw [estoverslaw22_RegionPages.l2, if_pos (by simp), if_pos (by decide), show rd_T23 [q, r] 0 = q from rfl, check_f 14 (by omega), Option.bind_some, if_pos g.1, w64 (x := 0 + q.f1) (by omega) (by omega), show wrap64 (0 + 1) = 1 by decide +kernel, estoverslaw22_RegionPages.l2, if_pos (by simp), if_pos (by decide), show rd_T23 [q, r] 1 = r from rfl, check_f 13 (by omega), Option.bind_some, if_pos g'.1, w64 (x := 0 + q.f1 + r.f1) (by omega) (by omega), show wrap64 (1 + 1) = 2 by decide +kernel, estoverslaw22_RegionPages.l2, if_neg (by simp), if_pos (by omega)]
    rfl
end Go.Proofs.Ytajephbmbdnjpaa.PageL
