/- What is proved: plain laws: Check of the package region and Check of its reference are both chkV. Conditions: ints of the machine, enough rounds. -/
import Derived.Test.YtajephbmbdnjpaaRegx3
import Derived.Test.YtajephbmbdnjpaaRegx5
namespace Go.Proofs.Ytajephbmbdnjpaa.Plain
open Go.RowKit Go.Proofs.Ytajephbmbdnjpaa.Reg Go.Proofs.YtajephbmbdnjpaaW.PrintWords Go.Proofs.YtajephbmbdnjpaaW.PrintLast Go.Proofs.YtajephbmbdnjpaaW.PrintMore

theorem w64 {x : Int} (h0 : -9223372036854775808 ≤ x) (h1 : x ≤ 9223372036854775807) : wrap64 x = x := by
  unfold wrap64
  omega

/-- The errors of the second kind. -/
def rng (s p fi ix : Int) : Int := if s < 0 ∨ 512 < s + p ∨ ix < 0 ∨ (0 < ix ∧ fi = -1) ∨ (fi ≠ -1 ∧ 16 < ix + p) then 2 else 0
/-- The errors of the first kind. -/
def badA (p pr fl fi : Int) : Prop := p < 1 ∨ (pr ≠ 1 ∧ pr ≠ 3) ∨ fl < 0 ∨ 15 < fl ∨ fi < -1 ∨ 4 ≤ fi ∨ (fl % 2 = 1 ∧ fi = -1) ∨ ((fl / 2 % 2 = 1 ∨ fl / 8 % 2 = 1) ∧ fi ≠ -1)
instance (p pr fl fi : Int) : Decidable (badA p pr fl fi) := by unfold badA; infer_instance
def chkV (s p pr fl fi ix : Int) : Int := if badA p pr fl fi then 1 else rng s p fi ix

theorem j5_f (k : Nat) (s p pr fl fi ix : Int) (hp : 1 ≤ p) (h0 : 0 ≤ s) (hps : s + p ≤ 512) (hi : 0 ≤ ix) (hi2 : ¬ (0 < ix ∧ fi = -1)) :
    region_Check.j5 (k + 1) false s p pr fl fi ix = some (rng s p fi ix) := by
  unfold rng
  simp only [region_Check.j5]
  rw [if_neg (by decide)]
  by_cases a : fi = -1
  · rw [if_pos a, if_neg (by omega)]
  · rw [if_neg a]
    by_cases b : ix > 16
    · rw [if_pos b, if_pos (by omega)]
    · rw [if_neg b, w64 (by omega) (by omega)]
      by_cases c : p > 16 - ix
      · rw [if_pos c, if_pos (by omega)]
      · rw [if_neg c, if_neg (by omega)]

theorem j4_f (k : Nat) (s p pr fl fi ix : Int) (hp : 1 ≤ p) (h0 : 0 ≤ s) (hps : s + p ≤ 512) : region_Check.j4 (k + 2) false s p pr fl fi ix = some (rng s p fi ix) := by
  rw [region_Check.j4]
  by_cases a : ix < 0
  · unfold rng
    rw [if_pos (show s < 0 ∨ 512 < s + p ∨ ix < 0 ∨ (0 < ix ∧ fi = -1) ∨ (fi ≠ -1 ∧ 16 < ix + p) by omega)]
    simp [a]
  · by_cases b : ix = 0
    · have h := j5_f k s p pr fl fi ix hp h0 hps (by omega) (by omega)
      simp only [b, if_true, if_false, Bool.false_eq_true] at h ⊢
      exact h
    · by_cases c : fi = -1
      · unfold rng
        rw [if_pos (show s < 0 ∨ 512 < s + p ∨ ix < 0 ∨ (0 < ix ∧ fi = -1) ∨ (fi ≠ -1 ∧ 16 < ix + p) by omega)]
        simp [a, b, c, region_Check.j5]
      · have h := j5_f k s p pr fl fi ix hp h0 hps (by omega) (by omega)
        rw [← h]
        have e : (fi == -1) = false := beq_eq_false_iff_ne.2 c
        simp only [a, b, e, if_false, Bool.false_eq_true]

theorem j3_f (k : Nat) (s p pr fl fi ix : Int) (hp : 1 ≤ p) : region_Check.j3 (k + 3) false s p pr fl fi ix = some (rng s p fi ix) := by
  rw [region_Check.j3]
  by_cases a : s < 0
  · unfold rng
    rw [if_pos (show s < 0 ∨ 512 < s + p ∨ ix < 0 ∨ (0 < ix ∧ fi = -1) ∨ (fi ≠ -1 ∧ 16 < ix + p) by omega)]
    simp [a, region_Check.j4]
  · by_cases b : s > 512
    · unfold rng
      rw [if_pos (show s < 0 ∨ 512 < s + p ∨ ix < 0 ∨ (0 < ix ∧ fi = -1) ∨ (fi ≠ -1 ∧ 16 < ix + p) by omega)]
      simp only [a, b, if_true, if_false, Bool.false_eq_true, region_Check.j4]
    · rw [w64 (by omega) (by omega)]
      by_cases c : p > 512 - s
      · unfold rng
        rw [if_pos (show s < 0 ∨ 512 < s + p ∨ ix < 0 ∨ (0 < ix ∧ fi = -1) ∨ (fi ≠ -1 ∧ 16 < ix + p) by omega)]
        rw [decide_eq_true c]
        simp only [a, b, if_true, if_false, Bool.false_eq_true, region_Check.j4]
      · rw [decide_eq_false c, ← j4_f k s p pr fl fi ix hp (by omega) (by omega)]
        simp only [a, b, if_false, Bool.false_eq_true]

theorem j3_t (k : Nat) (s p pr fl fi ix : Int) : region_Check.j3 (k + 1) true s p pr fl fi ix = some 1 := by
  rw [region_Check.j3]
  rw [if_pos rfl]

theorem has1 (fl : Int) (h0 : 0 ≤ fl) (h1 : fl ≤ 15) : (Go.bits .and .i64 fl 1 != 0) = decide (fl % 2 = 1) := by
  rcases (by omega : fl = 0 ∨ fl = 1 ∨ fl = 2 ∨ fl = 3 ∨ fl = 4 ∨ fl = 5 ∨ fl = 6 ∨ fl = 7 ∨ fl = 8 ∨ fl = 9 ∨ fl = 10 ∨ fl = 11 ∨ fl = 12 ∨ fl = 13 ∨ fl = 14 ∨ fl = 15) with rfl | rfl | rfl | rfl | rfl | rfl | rfl | rfl | rfl | rfl | rfl | rfl | rfl | rfl | rfl | rfl <;> decide +kernel
theorem has10 (fl : Int) (h0 : 0 ≤ fl) (h1 : fl ≤ 15) : (Go.bits .and .i64 fl 10 != 0) = decide (fl / 2 % 2 = 1 ∨ fl / 8 % 2 = 1) := by
  rcases (by omega : fl = 0 ∨ fl = 1 ∨ fl = 2 ∨ fl = 3 ∨ fl = 4 ∨ fl = 5 ∨ fl = 6 ∨ fl = 7 ∨ fl = 8 ∨ fl = 9 ∨ fl = 10 ∨ fl = 11 ∨ fl = 12 ∨ fl = 13 ∨ fl = 14 ∨ fl = 15) with rfl | rfl | rfl | rfl | rfl | rfl | rfl | rfl | rfl | rfl | rfl | rfl | rfl | rfl | rfl | rfl <;> decide +kernel
theorem has2 (fl : Int) (h0 : 0 ≤ fl) (h1 : fl ≤ 15) : (Go.bits .and .i64 fl 2 != 0) = decide (fl / 2 % 2 = 1) := by
  rcases (by omega : fl = 0 ∨ fl = 1 ∨ fl = 2 ∨ fl = 3 ∨ fl = 4 ∨ fl = 5 ∨ fl = 6 ∨ fl = 7 ∨ fl = 8 ∨ fl = 9 ∨ fl = 10 ∨ fl = 11 ∨ fl = 12 ∨ fl = 13 ∨ fl = 14 ∨ fl = 15) with rfl | rfl | rfl | rfl | rfl | rfl | rfl | rfl | rfl | rfl | rfl | rfl | rfl | rfl | rfl | rfl <;> decide +kernel

theorem j2_f (k : Nat) (s p pr fl fi ix : Int) (hp : 1 ≤ p) (hpr : pr = 1 ∨ pr = 3) (hf0 : 0 ≤ fl) (hf1 : fl ≤ 15) (hi0 : -1 ≤ fi) (hi1 : fi ≤ 3) : region_Check.j2 (k + 4) false s p pr fl fi ix = some (chkV s p pr fl fi ix) := by
  have e3 := j3_f k s p pr fl fi ix hp
  have t3 := j3_t (k + 2) s p pr fl fi ix
  have e1 : ∀ z, region_has.f s p pr fl fi ix z = some (Go.bits .and .i64 fl z != 0) := fun z => rfl
  unfold chkV
  rw [region_Check.j2]
  rw [if_neg (by decide), e1, e1, has1 fl hf0 hf1, has10 fl hf0 hf1]
  simp only [Option.bind_some]
  by_cases a : fl % 2 = 1
  · by_cases b : fi = -1
    · rw [if_pos (by simpa using a), if_pos b, if_pos (show badA p pr fl fi by unfold badA; omega), show (fi == -1) = true from beq_iff_eq.2 b]
      exact t3
    · by_cases c : fl / 2 % 2 = 1 ∨ fl / 8 % 2 = 1
      · rw [if_pos (by simpa using a), if_neg b, if_pos (by simpa using c), if_pos (show badA p pr fl fi by unfold badA; omega), show (fi != -1) = true from bne_iff_ne.2 b]
        exact t3
      · rw [if_pos (by simpa using a), if_neg b, if_neg (by simpa using c), if_neg (show ¬ badA p pr fl fi by unfold badA; omega)]
        exact e3
  · by_cases c : fl / 2 % 2 = 1 ∨ fl / 8 % 2 = 1
    · rw [if_neg (by simpa using a), if_pos (by simpa using c)]
      by_cases b : fi = -1
      · rw [if_neg (show ¬ badA p pr fl fi by unfold badA; omega), show (fi != -1) = false from bne_eq_false_iff_eq.2 b]
        exact e3
      · rw [if_pos (show badA p pr fl fi by unfold badA; omega), show (fi != -1) = true from bne_iff_ne.2 b]
        exact t3
    · rw [if_neg (by simpa using a), if_neg (by simpa using c), if_neg (show ¬ badA p pr fl fi by unfold badA; omega)]
      exact e3

theorem check_f (k : Nat) (hk : 8 ≤ k) (s p pr fl fi ix : Int) : region_Check.f k s p pr fl fi ix = some (chkV s p pr fl fi ix) := by
  obtain ⟨k, rfl⟩ : ∃ j, k = j + 6 := ⟨k - 6, by omega⟩
  have t0 : ∀ (q : Nat), region_Check.j3 (q + 1) true s p pr fl fi ix = some 1 := fun q => j3_t q s p pr fl fi ix
  have t2 : ∀ (q : Nat), region_Check.j2 (q + 2) true s p pr fl fi ix = some 1 := fun q => by
    rw [region_Check.j2]
    rw [if_pos rfl]
    exact t0 q
  have t1 : ∀ (q : Nat), region_Check.j1 (q + 2) true s p pr fl fi ix = some 1 := fun q => by
    rw [region_Check.j1]
    rw [if_pos rfl]
    exact t0 q
  have t00 : ∀ (q : Nat), region_Check.j0 (q + 2) true s p pr fl fi ix = some 1 := fun q => by
    rw [region_Check.j0]
    rw [if_pos rfl]
    exact t0 q
  have bad : badA p pr fl fi → chkV s p pr fl fi ix = 1 := fun h => by unfold chkV; rw [if_pos h]
  unfold region_Check.f
  by_cases a : p < 1
  · rw [if_pos a, decide_eq_true a, t0, bad (by unfold badA; omega)]
  · rw [if_neg a]
    have f0 : pr = 1 ∨ pr = 3 → region_Check.j0 (k + 6) false s p pr fl fi ix = some (chkV s p pr fl fi ix) := fun hpr => by
      rw [region_Check.j0]
      rw [if_neg (by decide)]
      by_cases b : fl < 0
      · rw [if_pos b, bad (by unfold badA; omega)]
        exact t1 (k + 3)
      · rw [if_neg b]
        by_cases c : fl > 15
        · rw [decide_eq_true c, bad (by unfold badA; omega)]
          exact t1 (k + 3)
        · rw [decide_eq_false c]
          rw [region_Check.j1]
          rw [if_neg (by decide)]
          by_cases d : fi < -1
          · rw [if_pos d, bad (by unfold badA; omega)]
            exact t2 (k + 2)
          · rw [if_neg d]
            by_cases e : fi ≥ 4
            · rw [decide_eq_true e, bad (by unfold badA; omega)]
              exact t2 (k + 2)
            · rw [decide_eq_false e]
              exact j2_f k s p pr fl fi ix (by omega) hpr (by omega) (by omega) (by omega) (by omega)
    by_cases b : pr = 1
    · rw [if_pos b]
      exact f0 (.inl b)
    · rw [if_neg b]
      by_cases c : pr = 3
      · rw [show (pr != 3) = false from bne_eq_false_iff_eq.2 c]
        exact f0 (.inr c)
      · rw [show (pr != 3) = true from bne_iff_ne.2 c, bad (by unfold badA; omega)]
        exact t00 (k + 4)

theorem flag_f (s p pr fl fi ix z : Int) (hz : 0 < z) (h0 : 0 ≤ fl) (h1 : fl ≤ 15) (h2 : z ≤ 8) : estoversref22_flag.f s p pr fl fi ix z = some (decide (fl / z % 2 = 1)) := by
  have hd0 : 0 ≤ fl / z := Int.ediv_nonneg h0 (by omega)
  have hd1 : fl / z ≤ fl := Int.ediv_le_self z h0
  unfold estoversref22_flag.f
  rw [if_neg (by omega), Int.tdiv_eq_ediv_of_nonneg h0, w64 (by omega) (by omega), Int.tmod_eq_emod_of_nonneg hd0]
  congr 1

theorem q3_t (k : Nat) (s p pr fl fi ix : Int) : estoversref22_Check.j3 (k + 1) true s p pr fl fi ix = some 2 := by
  rw [estoversref22_Check.j3]
  rw [if_pos rfl]

theorem q3_f (k : Nat) (s p pr fl fi ix : Int) (hp : 1 ≤ p) (hs : 0 ≤ s) (hps : s + p ≤ 512) (hi : 0 ≤ ix) (hf : -1 ≤ fi) : estoversref22_Check.j3 (k + 1) false s p pr fl fi ix = some (rng s p fi ix) := by
  unfold rng
  rw [estoversref22_Check.j3]
  rw [if_neg (by decide)]
  by_cases a : fi < 0
  · rw [if_pos a]
    by_cases b : ix > 0
    · rw [if_pos b, if_pos (show s < 0 ∨ 512 < s + p ∨ ix < 0 ∨ (0 < ix ∧ fi = -1) ∨ (fi ≠ -1 ∧ 16 < ix + p) by omega)]
    · rw [if_neg b, if_neg (show ¬ fi ≥ 0 by omega), if_neg (show ¬ (s < 0 ∨ 512 < s + p ∨ ix < 0 ∨ (0 < ix ∧ fi = -1) ∨ (fi ≠ -1 ∧ 16 < ix + p)) by omega)]
  · rw [if_neg a, if_pos (show fi ≥ 0 by omega)]
    by_cases b : p > 16
    · rw [if_pos b, if_pos (show s < 0 ∨ 512 < s + p ∨ ix < 0 ∨ (0 < ix ∧ fi = -1) ∨ (fi ≠ -1 ∧ 16 < ix + p) by omega)]
    · rw [if_neg b, w64 (by omega) (by omega)]
      by_cases c : ix > 16 - p
      · rw [if_pos c, if_pos (show s < 0 ∨ 512 < s + p ∨ ix < 0 ∨ (0 < ix ∧ fi = -1) ∨ (fi ≠ -1 ∧ 16 < ix + p) by omega)]
      · rw [if_neg c, if_neg (show ¬ (s < 0 ∨ 512 < s + p ∨ ix < 0 ∨ (0 < ix ∧ fi = -1) ∨ (fi ≠ -1 ∧ 16 < ix + p)) by omega)]

theorem q2_t (k : Nat) (s p pr fl fi ix : Int) : estoversref22_Check.j2 (k + 1) true s p pr fl fi ix = some 1 := by
  rw [estoversref22_Check.j2]
  rw [if_pos rfl]

theorem q2_f (k : Nat) (s p pr fl fi ix : Int) (hp : 1 ≤ p) (hf : -1 ≤ fi) : estoversref22_Check.j2 (k + 2) false s p pr fl fi ix = some (rng s p fi ix) := by
  have t := q3_t k s p pr fl fi ix
  rw [estoversref22_Check.j2]
  rw [if_neg (by decide)]
  by_cases a : s < 0
  · rw [if_pos a, t]
    unfold rng
    rw [if_pos (show s < 0 ∨ 512 < s + p ∨ ix < 0 ∨ (0 < ix ∧ fi = -1) ∨ (fi ≠ -1 ∧ 16 < ix + p) by omega)]
  · rw [if_neg a]
    by_cases b : p > 512
    · rw [if_pos b, t]
      unfold rng
      rw [if_pos (show s < 0 ∨ 512 < s + p ∨ ix < 0 ∨ (0 < ix ∧ fi = -1) ∨ (fi ≠ -1 ∧ 16 < ix + p) by omega)]
    · rw [if_neg b, w64 (by omega) (by omega)]
      by_cases c : s > 512 - p
      · rw [if_pos c, t]
        unfold rng
        rw [if_pos (show s < 0 ∨ 512 < s + p ∨ ix < 0 ∨ (0 < ix ∧ fi = -1) ∨ (fi ≠ -1 ∧ 16 < ix + p) by omega)]
      · rw [if_neg c]
        by_cases d : ix < 0
        · rw [decide_eq_true d, t]
          unfold rng
          rw [if_pos (show s < 0 ∨ 512 < s + p ∨ ix < 0 ∨ (0 < ix ∧ fi = -1) ∨ (fi ≠ -1 ∧ 16 < ix + p) by omega)]
        · rw [decide_eq_false d]
          exact q3_f k s p pr fl fi ix hp (by omega) (by omega) (by omega) hf

theorem q1_t (k : Nat) (s p pr fl fi ix : Int) : estoversref22_Check.j1 (k + 1) true s p pr fl fi ix = some 1 := by
  rw [estoversref22_Check.j1]
  rw [if_pos rfl]

theorem q1_f (k : Nat) (s p pr fl fi ix : Int) (hp : 1 ≤ p) (hpr : pr = 1 ∨ pr = 3) (hf0 : 0 ≤ fl) (hf1 : fl ≤ 15) (hi0 : -1 ≤ fi) (hi1 : fi ≤ 3) : estoversref22_Check.j1 (k + 3) false s p pr fl fi ix = some (chkV s p pr fl fi ix) := by
  have e := q2_f k s p pr fl fi ix hp hi0
  have t := q2_t (k + 1) s p pr fl fi ix
  unfold chkV
  rw [estoversref22_Check.j1]
  rw [if_neg (by decide), flag_f s p pr fl fi ix 1 (by omega) hf0 hf1 (by omega), flag_f s p pr fl fi ix 2 (by omega) hf0 hf1 (by omega), flag_f s p pr fl fi ix 8 (by omega) hf0 hf1 (by omega)]
  simp only [Option.bind_some]
  by_cases a : fi < 0
  · rw [if_pos a]
    by_cases b : fl / 1 % 2 = 1
    · rw [if_pos (by simpa using b), if_pos (show badA p pr fl fi by unfold badA; omega)]
      exact t
    · rw [if_neg (by simpa using b), if_neg (show ¬ fi ≥ 0 by omega), if_neg (show ¬ badA p pr fl fi by unfold badA; omega)]
      exact e
  · rw [if_neg a, if_pos (show fi ≥ 0 by omega)]
    by_cases b : fl / 2 % 2 = 1
    · rw [if_pos (by simpa using b), if_pos (show badA p pr fl fi by unfold badA; omega)]
      exact t
    · rw [if_neg (by simpa using b)]
      by_cases c : fl / 8 % 2 = 1
      · rw [decide_eq_true c, if_pos (show badA p pr fl fi by unfold badA; omega)]
        exact t
      · rw [decide_eq_false c, if_neg (show ¬ badA p pr fl fi by unfold badA; omega)]
        exact e

theorem rcheck_f (k : Nat) (hk : 8 ≤ k) (s p pr fl fi ix : Int) : estoversref22_Check.f k s p pr fl fi ix = some (chkV s p pr fl fi ix) := by
  obtain ⟨k, rfl⟩ : ∃ j, k = j + 4 := ⟨k - 4, by omega⟩
  have t0 : estoversref22_Check.j0 (k + 4) true s p pr fl fi ix = some 1 := by
    rw [estoversref22_Check.j0]
    rw [if_pos rfl]
  have t1 := q1_t (k + 2) s p pr fl fi ix
  have bad : badA p pr fl fi → chkV s p pr fl fi ix = 1 := fun h => by unfold chkV; rw [if_pos h]
  unfold estoversref22_Check.f
  by_cases a : p < 1
  · rw [if_pos a, t0, bad (by unfold badA; omega)]
  · rw [if_neg a]
    have f0 : pr = 1 ∨ pr = 3 → estoversref22_Check.j0 (k + 4) false s p pr fl fi ix = some (chkV s p pr fl fi ix) := fun hpr => by
      rw [estoversref22_Check.j0]
      rw [if_neg (by decide)]
      by_cases b : fl < 0
      · rw [if_pos b, bad (by unfold badA; omega)]
        exact t1
      · rw [if_neg b]
        by_cases c : fl > 15
        · rw [if_pos c, bad (by unfold badA; omega)]
          exact t1
        · rw [if_neg c]
          by_cases d : fi < -1
          · rw [if_pos d, bad (by unfold badA; omega)]
            exact t1
          · rw [if_neg d]
            by_cases e : fi ≥ 4
            · rw [decide_eq_true e, bad (by unfold badA; omega)]
              exact t1
            · rw [decide_eq_false e]
              exact q1_f k s p pr fl fi ix (by omega) hpr (by omega) (by omega) (by omega) (by omega)
    by_cases b : pr = 1
    · rw [if_pos b]
      exact f0 (.inl b)
    · rw [if_neg b]
      by_cases c : pr = 3
      · rw [show (pr != 3) = false from bne_eq_false_iff_eq.2 c]
        exact f0 (.inr c)
      · rw [show (pr != 3) = true from bne_iff_ne.2 c, bad (by unfold badA; omega)]
        exact t0

end Go.Proofs.Ytajephbmbdnjpaa.Plain
