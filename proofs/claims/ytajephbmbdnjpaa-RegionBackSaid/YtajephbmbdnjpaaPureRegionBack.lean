/- What is proved: the law RegionBack answers true. Condition: ints of the machine. -/
import Derived.Test.YtajephbmbdnjpaaPlainE
import Derived.Test.YtajephbmbdnjpaaBk
namespace Go.Proofs.Ytajephbmbdnjpaa
open Go.RowKit Go.Proofs.Ytajephbmbdnjpaa.Reg Go.Proofs.Ytajephbmbdnjpaa.Plain Go.Proofs.Ytajephbmbdnjpaa.PlainG Go.Proofs.Ytajephbmbdnjpaa.Hand Go.Proofs.YtajephbmbdnjpaaW.PrintWords Go.Proofs.YtajephbmbdnjpaaW.PrintLast Go.Proofs.YtajephbmbdnjpaaW.PrintMore
set_option linter.unusedVariables false

theorem chkOk {s p pr fl fi ix : Int} (h1 : 1 ≤ p) (h2 : pr = 1 ∨ pr = 3) (h3 : 0 ≤ fl) (h4 : fl ≤ 15) (h5 : -1 ≤ fi) (h6 : fi ≤ 3) (h7 : 0 ≤ s) (h8 : s + p ≤ 512) (h9 : 0 ≤ ix) (h10 : fi = -1 → ix = 0) (h11 : fi ≠ -1 → ix + p ≤ 16) (h12 : fl % 2 = 1 → fi ≠ -1) (h13 : fl / 2 % 2 = 1 → fi = -1) (h14 : fl / 8 % 2 = 1 → fi = -1) : chkV s p pr fl fi ix = 0 := by
  unfold chkV
  rw [if_neg (by unfold badA; omega)]
  unfold rng
  rw [if_neg (by omega)]

theorem mgNo (s p pr fl fi ix s' p' pr' fl' fi' ix' : Int) (hA : chkV s p pr fl fi ix = 0) (hB : chkV s' p' pr' fl' fi' ix' = 0) (hf : fl / 2 % 2 = 1) : Reg.region_Mergeable.f 8 s p pr fl fi ix s' p' pr' fl' fi' ix' = some false := by
  obtain ⟨a1, a2, a3, a4, a5, a6, a7, a8, a9, a10, a11, -, -, -⟩ := chk0 hA
  have e1 : region_has.f s p pr fl fi ix 2 = some (decide (fl / 2 % 2 = 1)) := by rw [← has2 fl a3 a4]; rfl
  unfold region_Mergeable.f
  rw [check_f 8 (by omega), check_f 8 (by omega), Option.bind_some, if_pos hA, Option.bind_some, if_pos hB, e1, Option.bind_some, if_pos (decide_eq_true hf), region_Mergeable.j0, if_pos rfl]

theorem mgYes (s p pr fl fi ix s' p' ix' : Int) (hA : chkV s p pr fl fi ix = 0) (hB : chkV s' p' pr fl fi ix' = 0) (hf : ¬ fl / 2 % 2 = 1) (hs : s + p = s') (hi : fi = -1 → ix = ix') (hj : fi ≠ -1 → ix + p = ix') : Reg.region_Mergeable.f 8 s p pr fl fi ix s' p' pr fl fi ix' = some true := by
  obtain ⟨a1, a2, a3, a4, a5, a6, a7, a8, a9, a10, a11, -, -, -⟩ := chk0 hA
  have e1 : region_has.f s p pr fl fi ix 2 = some (decide (fl / 2 % 2 = 1)) := by rw [← has2 fl a3 a4]; rfl
  have e2 : region_has.f s' p' pr fl fi ix' 2 = some (decide (fl / 2 % 2 = 1)) := by rw [← has2 fl a3 a4]; rfl
  unfold region_Mergeable.f
  rw [check_f 8 (by omega), check_f 8 (by omega), Option.bind_some, if_pos hA, Option.bind_some, if_pos hB, e1, e2, Option.bind_some, Option.bind_some, decide_eq_false hf, if_neg (by decide), region_Mergeable.j0, if_neg (by decide), w64 (x := s + p) (by omega) (by omega), w64 (x := ix + p) (by omega) (by omega)]
  by_cases h5 : fi = -1
  · rw [if_pos h5, hs, hi h5]; simp
  · rw [if_neg h5, hs, hj h5]; simp

theorem back_core (s p pr fl fi ix pg : Int) (hA : chkV s p pr fl fi ix = 0) (h1 : ¬ pg ≤ s) (h2 : ¬ s + p ≤ pg) (fl' ix' : Int) (hfl : fl' = if fl / 2 % 2 = 1 then fl - 2 else fl) (hix : ix' = if fi = -1 then ix else ix + (pg - s)) (W : World)
    (hS : Reg.region_Split.f 8 s p pr fl fi ix pg = some (s, pg - s, pr, fl, fi, ix, pg, p - (pg - s), pr, fl', fi, ix', 0)) :
    Calls Try.prog 9 #[.agg #[.int .i64 s, .int .i64 p, .int .i64 pr, .int .i64 fl, .int .i64 fi, .int .i64 ix], .int .i64 pg] W fun e w' => e = .returned (.bool true) ∧ Below W.heap.size W w' := by
  obtain ⟨a1, a2, a3, a4, a5, a6, a7, a8, a9, a10, a11, a12, a13, a14⟩ := chk0 hA
  have hfl0 : 0 ≤ fl' ∧ fl' ≤ 15 ∧ (fl' % 2 = fl % 2) ∧ ¬ (fl' / 2 % 2 = 1) ∧ (fl' / 8 % 2 = fl / 8 % 2) := by
    by_cases hf : fl / 2 % 2 = 1
    · rw [if_pos hf] at hfl; omega
    · rw [if_neg hf] at hfl; omega
  have hix0 : 0 ≤ ix' ∧ (fi = -1 → ix' = 0) ∧ (fi ≠ -1 → ix' = ix + (pg - s)) := by
    by_cases hf : fi = -1
    · rw [if_pos hf] at hix; omega
    · rw [if_neg hf] at hix; omega
  have cA : chkV s (pg - s) pr fl fi ix = 0 := chkOk (by omega) a2 a3 a4 a5 a6 a7 (by omega) a9 a10 (by omega) a12 a13 a14
  have cB : chkV pg (p - (pg - s)) pr fl' fi ix' = 0 := chkOk (by omega) a2 hfl0.1 hfl0.2.1 a5 a6 (by omega) (by omega) hix0.1 hix0.2.1 (by omega) (by omega) (by omega) (by omega)
  have k1 := check_f 8 (by omega) s (pg - s) pr fl fi ix
  have k2 := check_f 8 (by omega) pg (p - (pg - s)) pr fl' fi ix'
  rw [cA] at k1
  rw [cB] at k2
  have o := overlap_v 8 (by omega) s (pg - s) pr fl fi ix pg (p - (pg - s)) pr fl' fi ix'
  rw [decide_eq_false fun h => by have := h.2.2.2; omega] at o
  have ew : wrap64 ((pg - s) + (p - (pg - s))) = p := by rw [w64 (by omega) (by omega)]; omega
  have td : (Int.tmod (wrap64 (Int.tdiv fl 2)) 2) = fl / 2 % 2 := by
    rw [Int.tdiv_eq_ediv_of_nonneg a3, w64 (by omega) (by omega), Int.tmod_eq_emod_of_nonneg (by omega)]
  by_cases hf : fl / 2 % 2 = 1
  · exact back_grows 8 s p pr fl fi ix pg s (pg - s) pr fl fi ix pg (p - (pg - s)) pr fl' fi ix' hS k1 k2 rfl rfl ew o (by rw [td]; exact hf) (mgNo _ _ _ _ _ _ _ _ _ _ _ _ cA cB hf) W
  · rw [if_neg hf] at hfl
    subst hfl
    have m := mgYes s (pg - s) pr fl' fi ix pg (p - (pg - s)) ix' cA cB hf (by omega) (by omega) (by omega)
    refine back_plain 8 s p pr fl' fi ix pg s (pg - s) pr fl' fi ix pg (p - (pg - s)) pr fl' fi ix' hS k1 k2 rfl rfl ew o (by rw [td]; exact hf) ?_ m W
    unfold region_Merge.f
    rw [k1, k2, m, Option.bind_some, Option.bind_some, Option.bind_some, if_pos rfl, if_pos rfl, if_pos rfl, ew]

theorem Pure.RegionBack (a0_0 a0_1 a0_2 a0_3 a0_4 a0_5 a1 : Int) (ha0_0 : -9223372036854775808 ≤ a0_0 ∧ a0_0 ≤ 9223372036854775807) (ha0_1 : -9223372036854775808 ≤ a0_1 ∧ a0_1 ≤ 9223372036854775807) (ha0_2 : -9223372036854775808 ≤ a0_2 ∧ a0_2 ≤ 9223372036854775807) (ha0_3 : -9223372036854775808 ≤ a0_3 ∧ a0_3 ≤ 9223372036854775807) (ha0_4 : -9223372036854775808 ≤ a0_4 ∧ a0_4 ≤ 9223372036854775807) (ha0_5 : -9223372036854775808 ≤ a0_5 ∧ a0_5 ≤ 9223372036854775807) (ha1 : -9223372036854775808 ≤ a1 ∧ a1 ≤ 9223372036854775807) (W : World) : Calls Try.prog 9 #[.agg #[.int .i64 a0_0, .int .i64 a0_1, .int .i64 a0_2, .int .i64 a0_3, .int .i64 a0_4, .int .i64 a0_5], .int .i64 a1] W fun e w' => e = .returned (.bool true) ∧ Below W.heap.size W w' := by
  have k1 := check_f 8 (by omega) a0_0 a0_1 a0_2 a0_3 a0_4 a0_5
  by_cases hA : chkV a0_0 a0_1 a0_2 a0_3 a0_4 a0_5 = 0
  · obtain ⟨h1, h2, h3, h4, h5, h6, h7, h8, h9, h10, h11, -, h13, -⟩ := chk0 hA
    have e0 : wrap64 (a0_0 + a0_1) = a0_0 + a0_1 := w64 (by omega) (by omega)
    by_cases c1 : a1 ≤ a0_0
    · refine back_err 8 a0_0 a0_1 a0_2 a0_3 a0_4 a0_5 a1 2 ?_ (by decide) W
      unfold region_Split.f
      rw [k1, Option.bind_some, if_pos hA, if_pos c1]
    · by_cases c2 : a0_0 + a0_1 ≤ a1
      · refine back_err 8 a0_0 a0_1 a0_2 a0_3 a0_4 a0_5 a1 2 ?_ (by decide) W
        unfold region_Split.f
        rw [k1, Option.bind_some, if_pos hA, if_neg c1, e0, if_pos c2]
      · refine back_core a0_0 a0_1 a0_2 a0_3 a0_4 a0_5 a1 hA c1 c2 _ _ rfl rfl W ?_
        have hb : Go.bits .andNot .i64 a0_3 2 = if a0_3 / 2 % 2 = 1 then a0_3 - 2 else a0_3 := by
          rcases (by omega : a0_3 = 0 ∨ a0_3 = 1 ∨ a0_3 = 2 ∨ a0_3 = 3 ∨ a0_3 = 4 ∨ a0_3 = 5 ∨ a0_3 = 6 ∨ a0_3 = 7 ∨ a0_3 = 8 ∨ a0_3 = 9 ∨ a0_3 = 10 ∨ a0_3 = 11 ∨ a0_3 = 12 ∨ a0_3 = 13 ∨ a0_3 = 14 ∨ a0_3 = 15) with h | h | h | h | h | h | h | h | h | h | h | h | h | h | h | h <;> rw [h] <;> decide +kernel
        unfold region_Split.f
        rw [k1, Option.bind_some, if_pos hA, if_neg c1, e0, if_neg c2, w64 (x := a1 - a0_0) (by omega) (by omega), w64 (x := a0_1 - (a1 - a0_0)) (by omega) (by omega), hb]
        by_cases hf : a0_4 = -1
        · rw [if_pos hf, if_pos hf]
        · rw [if_neg hf, if_neg hf, w64 (x := a0_5 + (a1 - a0_0)) (by omega) (by omega)]
  · refine back_err 8 a0_0 a0_1 a0_2 a0_3 a0_4 a0_5 a1 (chkV a0_0 a0_1 a0_2 a0_3 a0_4 a0_5) ?_ hA W
    unfold region_Split.f
    rw [k1, Option.bind_some, if_neg hA]
end Go.Proofs.Ytajephbmbdnjpaa
