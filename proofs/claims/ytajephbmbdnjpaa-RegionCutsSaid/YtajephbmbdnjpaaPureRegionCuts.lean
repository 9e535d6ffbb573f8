/- What is proved: the law RegionCuts answers true. Condition: ints of the machine. -/
import Derived.Test.YtajephbmbdnjpaaPlainM
import Derived.Test.YtajephbmbdnjpaaRegx23
namespace Go.Proofs.Ytajephbmbdnjpaa
open Go.RowKit Go.Proofs.Ytajephbmbdnjpaa.Reg Go.Proofs.Ytajephbmbdnjpaa.Plain Go.Proofs.Ytajephbmbdnjpaa.Hand Go.Proofs.YtajephbmbdnjpaaW.PrintWords Go.Proofs.YtajephbmbdnjpaaW.PrintLast Go.Proofs.YtajephbmbdnjpaaW.PrintMore
set_option linter.unusedVariables false

theorem same2 (l : List S23) (h : l.length ≤ 2) : Reg.estoversref22_Same.f 8 l l = some true := by
  unfold estoversref22_Same.f
  rw [if_pos rfl]
  match l, h with
  | [], _ => rfl
  | [x], _ =>
    rw [estoversref22_Same.l0, if_pos (by simp), if_pos (by decide), if_pos (by simp), if_neg (by simp), show wrap64 (0 + 1) = 1 by decide +kernel]
    rfl
  | [x, y], _ =>
    rw [estoversref22_Same.l0, if_pos (by simp), if_pos (by decide), if_pos (by simp), if_neg (by simp), show wrap64 (0 + 1) = 1 by decide +kernel]
    rw [estoversref22_Same.l0, if_pos (by simp), if_pos (by decide), if_pos (by simp), if_neg (by simp), show wrap64 (1 + 1) = 2 by decide +kernel]
    rfl

theorem cuts (k : Nat) (hk : 8 ≤ k) (s p pr fl fi ix pg ct : Int) : ∃ l c, l.length ≤ 2 ∧ Reg.region_Cut.f k s p pr fl fi ix pg ct = some (l, c) ∧ Reg.estoversref22_Cut.f k s p pr fl fi ix pg ct = some (l, c) := by
  have r1 := check_f k hk s p pr fl fi ix
  have q1 := rcheck_f k hk s p pr fl fi ix
  obtain ⟨x, x1, x2⟩ := splits k hk s p pr fl fi ix pg
  obtain ⟨y, y1, y2⟩ := splits k hk s p pr fl fi ix (pg + ct)
  unfold region_Cut.f estoversref22_Cut.f
  rw [x1, x2, y1, y2, r1, q1]
  simp only [Option.bind_some]
  by_cases hA : chkV s p pr fl fi ix = 0
  · rw [if_pos hA, if_pos hA]
    obtain ⟨h1, h2, h3, h4, h5, h6, h7, h8, h9, h10, h11, -, -, -⟩ := chk0 hA
    have e0 : wrap64 (s + p) = s + p := w64 (by omega) (by omega)
    rw [e0]
    by_cases c1 : ct < 1
    · rw [if_pos c1, if_pos c1]; exact ⟨_, _, by simp, rfl, rfl⟩
    · rw [if_neg c1, if_neg c1]
      by_cases c2 : pg < 0
      · rw [if_pos c2, if_pos c2]; exact ⟨_, _, by simp, rfl, rfl⟩
      · rw [if_neg c2, if_neg c2]
        by_cases c3 : 512 < pg + ct
        · refine ⟨[], 2, by simp, ?_, ?_⟩
          · by_cases c4 : 512 < pg
            · rw [if_pos c4]
            · rw [if_neg c4, if_pos (by omega)]
          · by_cases c4 : 512 < ct
            · rw [if_pos c4]
            · rw [if_neg c4, if_pos (by omega)]
        · rw [if_neg (show ¬ 512 < pg by omega), if_neg (show ¬ 512 - pg < ct by omega), if_neg (show ¬ 512 < ct by omega), if_neg (show ¬ 512 - ct < pg by omega)]
          by_cases c5 : s + p ≤ pg
          · rw [if_pos c5, if_pos c5]; exact ⟨_, _, by simp, rfl, rfl⟩
          · rw [if_neg c5, if_neg c5]
            by_cases c6 : pg + ct ≤ s
            · rw [if_pos c6, if_pos c6]; exact ⟨_, _, by simp, rfl, rfl⟩
            · rw [if_neg c6, if_neg c6]
              have hx : s < pg → x.2.2.2.2.2.2.2.2.2.2.2.2 = 0 := by
                intro h
                unfold region_Split.f at x1
                rw [r1, Option.bind_some, if_pos hA, if_neg (show ¬ pg ≤ s by omega), e0, if_neg c5] at x1
                by_cases hf : fi = -1
                · rw [if_pos hf] at x1; rw [← Option.some.inj x1]
                · rw [if_neg hf] at x1; rw [← Option.some.inj x1]
              have hx' : ¬ s < pg → x.2.2.2.2.2.2.2.2.2.2.2.2 = 2 := by
                intro h
                unfold region_Split.f at x1
                rw [r1, Option.bind_some, if_pos hA, if_pos (show pg ≤ s by omega)] at x1
                rw [← Option.some.inj x1]
              have hy : pg + ct < s + p → y.2.2.2.2.2.2.2.2.2.2.2.2 = 0 := by
                intro h
                unfold region_Split.f at y1
                rw [r1, Option.bind_some, if_pos hA, if_neg c6, e0, if_neg (show ¬ s + p ≤ pg + ct by omega)] at y1
                by_cases hf : fi = -1
                · rw [if_pos hf] at y1; rw [← Option.some.inj y1]
                · rw [if_neg hf] at y1; rw [← Option.some.inj y1]
              have hy' : ¬ pg + ct < s + p → y.2.2.2.2.2.2.2.2.2.2.2.2 = 2 := by
                intro h
                unfold region_Split.f at y1
                rw [r1, Option.bind_some, if_pos hA, if_neg c6, e0, if_pos (show s + p ≤ pg + ct by omega)] at y1
                rw [← Option.some.inj y1]
              by_cases d1 : s < pg
              · rw [if_pos d1, if_pos (hx d1)]
                by_cases d2 : pg + ct < s + p
                · rw [if_pos d2, if_pos (hy d2)]; exact ⟨_, _, by simp, rfl, rfl⟩
                · rw [if_neg d2, if_neg (by rw [hy' d2]; decide)]; exact ⟨_, _, by simp, rfl, rfl⟩
              · rw [if_neg d1, if_neg (show ¬ x.2.2.2.2.2.2.2.2.2.2.2.2 = 0 by rw [hx' d1]; decide)]
                by_cases d2 : pg + ct < s + p
                · rw [if_pos d2, if_pos (hy d2)]; exact ⟨_, _, by simp, rfl, rfl⟩
                · rw [if_neg d2, if_neg (by rw [hy' d2]; decide)]; exact ⟨_, _, by simp, rfl, rfl⟩
  · rw [if_neg hA, if_neg hA]; exact ⟨_, _, by simp, rfl, rfl⟩

theorem Pure.RegionCuts (a0_0 a0_1 a0_2 a0_3 a0_4 a0_5 a1 a2 : Int) (ha0_0 : -9223372036854775808 ≤ a0_0 ∧ a0_0 ≤ 9223372036854775807) (ha0_1 : -9223372036854775808 ≤ a0_1 ∧ a0_1 ≤ 9223372036854775807) (ha0_2 : -9223372036854775808 ≤ a0_2 ∧ a0_2 ≤ 9223372036854775807) (ha0_3 : -9223372036854775808 ≤ a0_3 ∧ a0_3 ≤ 9223372036854775807) (ha0_4 : -9223372036854775808 ≤ a0_4 ∧ a0_4 ≤ 9223372036854775807) (ha0_5 : -9223372036854775808 ≤ a0_5 ∧ a0_5 ≤ 9223372036854775807) (ha1 : -9223372036854775808 ≤ a1 ∧ a1 ≤ 9223372036854775807) (ha2 : -9223372036854775808 ≤ a2 ∧ a2 ≤ 9223372036854775807) (W : World) : Calls Try.prog 6 #[.agg #[.int .i64 a0_0, .int .i64 a0_1, .int .i64 a0_2, .int .i64 a0_3, .int .i64 a0_4, .int .i64 a0_5], .int .i64 a1, .int .i64 a2] W fun e w' => e = .returned (.bool true) ∧ Below W.heap.size W w' := by
  obtain ⟨l, c, hl, h1, h2⟩ := cuts 8 (Nat.le_refl 8) a0_0 a0_1 a0_2 a0_3 a0_4 a0_5 a1 a2
  refine Reg.estoverslaw22_RegionCuts.calls 8 a0_0 a0_1 a0_2 a0_3 a0_4 a0_5 a1 a2 true W ?_
  unfold estoverslaw22_RegionCuts.f
  rw [h1, h2, Option.bind_some, Option.bind_some, if_pos rfl, same2 l hl, Option.bind_some, if_pos rfl]
  rfl
end Go.Proofs.Ytajephbmbdnjpaa
