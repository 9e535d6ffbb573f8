/- What is proved: the plain function of the law RegionPages answers true. Condition: ints of the machine. -/
import Derived.Test.YtajephbmbdnjpaaPageL
import Derived.Test.YtajephbmbdnjpaaRegx9
import Derived.Test.YtajephbmbdnjpaaRegx10
namespace Go.Proofs.Ytajephbmbdnjpaa
open Go.RowKit Go.Proofs.Ytajephbmbdnjpaa.Reg Go.Proofs.Ytajephbmbdnjpaa.Plain Go.Proofs.Ytajephbmbdnjpaa.PageL Go.Proofs.YtajephbmbdnjpaaW.PrintWords Go.Proofs.YtajephbmbdnjpaaW.PrintLast Go.Proofs.YtajephbmbdnjpaaW.PrintMore
set_option linter.unusedVariables false
namespace PageP

theorem chkOk {s p pr fl fi ix : Int} (h1 : 1 ≤ p) (h2 : pr = 1 ∨ pr = 3) (h3 : 0 ≤ fl) (h4 : fl ≤ 15) (h5 : -1 ≤ fi) (h6 : fi ≤ 3) (h7 : 0 ≤ s) (h8 : s + p ≤ 512) (h9 : 0 ≤ ix) (h10 : fi = -1 → ix = 0) (h11 : fi ≠ -1 → ix + p ≤ 16) (h12 : fl % 2 = 1 → fi ≠ -1) (h13 : fl / 2 % 2 = 1 → fi = -1) (h14 : fl / 8 % 2 = 1 → fi = -1) : chkV s p pr fl fi ix = 0 := by
  unfold chkV
  rw [if_neg (by unfold badA; omega)]
  unfold rng
  rw [if_neg (by omega)]

/-- The flags of the right part, and its first page of the file. -/
def fr (fl : Int) : Int := if fl / 2 % 2 = 1 then fl - 2 else fl
def ir (s fi ix e : Int) : Int := if fi = -1 then ix else ix + (e - s)

theorem sp_ok (k : Nat) (hk : 8 ≤ k) (s p pr fl fi ix pg : Int) (hA : chkV s p pr fl fi ix = 0) (c1 : ¬ pg ≤ s) (c2 : ¬ s + p ≤ pg) : region_Split.f k s p pr fl fi ix pg = some (s, pg - s, pr, fl, fi, ix, pg, p - (pg - s), pr, fr fl, fi, ir s fi ix pg, 0) := by
  obtain ⟨h1, h2, h3, h4, h5, h6, h7, h8, h9, h10, h11, -, h13, -⟩ := chk0 hA
  have hb : Go.bits .andNot .i64 fl 2 = fr fl := by
    unfold fr
    rcases (by omega : fl = 0 ∨ fl = 1 ∨ fl = 2 ∨ fl = 3 ∨ fl = 4 ∨ fl = 5 ∨ fl = 6 ∨ fl = 7 ∨ fl = 8 ∨ fl = 9 ∨ fl = 10 ∨ fl = 11 ∨ fl = 12 ∨ fl = 13 ∨ fl = 14 ∨ fl = 15) with h | h | h | h | h | h | h | h | h | h | h | h | h | h | h | h <;> rw [h] <;> decide +kernel
  unfold region_Split.f ir
  rw [check_f k hk, Option.bind_some, if_pos hA, if_neg c1, w64 (x := s + p) (by omega) (by omega), if_neg c2, w64 (x := pg - s) (by omega) (by omega), w64 (x := p - (pg - s)) (by omega) (by omega), hb]
  by_cases hf : fi = -1
  · rw [if_pos hf, if_pos hf]
  · rw [if_neg hf, if_neg hf, w64 (x := ix + (pg - s)) (by omega) (by omega)]

theorem sp_err (k : Nat) (hk : 8 ≤ k) (s p pr fl fi ix pg : Int) (hA : chkV s p pr fl fi ix = 0) (c : pg ≤ s ∨ s + p ≤ pg) : region_Split.f k s p pr fl fi ix pg = some (0, 0, 0, 0, 0, 0, 0, 0, 0, 0, 0, 0, 2) := by
  obtain ⟨h1, h2, h3, h4, h5, h6, h7, h8, h9, h10, h11, -, h13, -⟩ := chk0 hA
  unfold region_Split.f
  rw [check_f k hk, Option.bind_some, if_pos hA, w64 (x := s + p) (by omega) (by omega)]
  by_cases c1 : pg ≤ s
  · rw [if_pos c1]
  · rw [if_neg c1, if_pos (by omega)]

theorem left (s p pr fl fi ix e : Int) (hA : chkV s p pr fl fi ix = 0) (c1 : s < e) (c2 : e < s + p) : PageL.part s pr fi ix ⟨s, e - s, pr, fl, fi, ix⟩ := by
  obtain ⟨a1, a2, a3, a4, a5, a6, a7, a8, a9, a10, a11, a12, a13, a14⟩ := chk0 hA
  have h : chkV s (e - s) pr fl fi ix = 0 := chkOk (by omega) a2 a3 a4 a5 a6 a7 (by omega) a9 a10 (by omega) a12 a13 a14
  exact ⟨h, rfl, rfl, fun _ => rfl⟩

theorem right (s p pr fl fi ix e : Int) (hA : chkV s p pr fl fi ix = 0) (c1 : s < e) (c2 : e < s + p) : PageL.part s pr fi ix ⟨e, p - (e - s), pr, fr fl, fi, ir s fi ix e⟩ := by
  obtain ⟨a1, a2, a3, a4, a5, a6, a7, a8, a9, a10, a11, a12, a13, a14⟩ := chk0 hA
  have hf : 0 ≤ fr fl ∧ fr fl ≤ 15 ∧ (fr fl % 2 = fl % 2) ∧ ¬ (fr fl / 2 % 2 = 1) ∧ (fr fl / 8 % 2 = fl / 8 % 2) := by
    unfold fr
    by_cases hf : fl / 2 % 2 = 1
    · rw [if_pos hf]; omega
    · rw [if_neg hf]; omega
  have hi : 0 ≤ ir s fi ix e ∧ (fi = -1 → ir s fi ix e = 0) ∧ (fi ≠ -1 → ir s fi ix e = ix + (e - s)) := by
    unfold ir
    by_cases hf : fi = -1
    · rw [if_pos hf]; omega
    · rw [if_neg hf]; omega
  refine ⟨chkOk (by show 1 ≤ p - (e - s); omega) a2 hf.1 hf.2.1 a5 a6 (by show 0 ≤ e; omega) (by show e + (p - (e - s)) ≤ 512; omega) hi.1 hi.2.1 (fun h => ?_) (fun h => a12 (hf.2.2.1 ▸ h)) (fun h => absurd h hf.2.2.2.1) (fun h => a14 (hf.2.2.2.2 ▸ h)), rfl, rfl, fun h => ?_⟩
  · show ir s fi ix e + (p - (e - s)) ≤ 16
    have h1 := hi.2.2 h
    have h2 := a11 h
    omega
  · show ir s fi ix e - e = ix - s
    have h1 := hi.2.2 h
    omega

theorem err (s p pr fl fi ix pg ct c : Int) (hcut : region_Cut.f 8 s p pr fl fi ix pg ct = some ([], c)) (hc : c ≠ 0) : ∃ k, estoverslaw22_RegionPages.f k s p pr fl fi ix pg ct = some true := by
  refine ⟨8, ?_⟩
  unfold estoverslaw22_RegionPages.f
  rw [hcut, Option.bind_some, if_neg hc, if_pos (by simp)]
  rfl

theorem main (s p pr fl fi ix pg ct : Int) : ∃ k, estoverslaw22_RegionPages.f k s p pr fl fi ix pg ct = some true := by
  have k1 := fun k hk => check_f k hk s p pr fl fi ix
  by_cases hA : chkV s p pr fl fi ix = 0
  · obtain ⟨h1, h2, h3, h4, h5, h6, h7, h8, h9, h10, h11, -, -, -⟩ := chk0 hA
    have e0 : wrap64 (s + p) = s + p := w64 (by omega) (by omega)
    by_cases c1 : ct < 1
    · refine err s p pr fl fi ix pg ct 1 ?_ (by decide)
      unfold region_Cut.f
      rw [k1 8 (by omega), Option.bind_some, if_pos hA, if_pos c1]
    by_cases c2 : pg < 0
    · refine err s p pr fl fi ix pg ct 2 ?_ (by decide)
      unfold region_Cut.f
      rw [k1 8 (by omega), Option.bind_some, if_pos hA, if_neg c1, if_pos c2]
    by_cases c3 : 512 < pg
    · refine err s p pr fl fi ix pg ct 2 ?_ (by decide)
      unfold region_Cut.f
      rw [k1 8 (by omega), Option.bind_some, if_pos hA, if_neg c1, if_neg c2, if_pos c3]
    by_cases c4 : 512 - pg < ct
    · refine err s p pr fl fi ix pg ct 2 ?_ (by decide)
      unfold region_Cut.f
      rw [k1 8 (by omega), Option.bind_some, if_pos hA, if_neg c1, if_neg c2, if_neg c3, if_pos c4]
    by_cases c5 : s + p ≤ pg
    · refine loop1 pg ct s p pr fl fi ix ⟨s, p, pr, fl, fi, ix⟩ hA (by omega) (by omega) ⟨hA, rfl, rfl, fun _ => rfl⟩ (Int.le_refl p) (fun x x0 x1 => ?_) (fun k hk => ?_)
      · exact ⟨fun _ => by omega, fun _ => ⟨x0, x1⟩⟩
      · unfold region_Cut.f
        rw [k1 k hk, Option.bind_some, if_pos hA, if_neg c1, if_neg c2, if_neg c3, if_neg c4, e0, if_pos c5]
    by_cases c6 : pg + ct ≤ s
    · refine loop1 pg ct s p pr fl fi ix ⟨s, p, pr, fl, fi, ix⟩ hA (by omega) (by omega) ⟨hA, rfl, rfl, fun _ => rfl⟩ (Int.le_refl p) (fun x x0 x1 => ?_) (fun k hk => ?_)
      · exact ⟨fun _ => by omega, fun _ => ⟨x0, x1⟩⟩
      · unfold region_Cut.f
        rw [k1 k hk, Option.bind_some, if_pos hA, if_neg c1, if_neg c2, if_neg c3, if_neg c4, e0, if_neg c5, if_pos c6]
    by_cases d1 : s < pg
    · by_cases d2 : pg + ct < s + p
      · refine loop2 pg ct s p pr fl fi ix ⟨s, pg - s, pr, fl, fi, ix⟩ ⟨pg + ct, p - (pg + ct - s), pr, fr fl, fi, ir s fi ix (pg + ct)⟩ hA (by omega) (by omega) (left s p pr fl fi ix pg hA d1 (by omega)) (right s p pr fl fi ix (pg + ct) hA (by omega) d2) ?_ ?_ (fun x x0 x1 => ?_) (fun k hk => ?_)
        · show pg - s + (p - (pg + ct - s)) ≤ p; omega
        · show s + (pg - s) ≤ pg + ct; omega
        · show ((s ≤ x ∧ x < s + (pg - s)) ∨ (pg + ct ≤ x ∧ x < pg + ct + (p - (pg + ct - s))) ↔ ¬ (pg ≤ x ∧ x < pg + ct)); omega
        · unfold region_Cut.f
          rw [k1 k hk, Option.bind_some, if_pos hA, if_neg c1, if_neg c2, if_neg c3, if_neg c4, e0, if_neg c5, if_neg c6, sp_ok k hk s p pr fl fi ix pg hA (by omega) (by omega), sp_ok k hk s p pr fl fi ix (pg + ct) hA (by omega) (by omega), Option.bind_some, Option.bind_some]
          dsimp only
          rw [if_pos rfl, if_pos rfl]
      · refine loop1 pg ct s p pr fl fi ix ⟨s, pg - s, pr, fl, fi, ix⟩ hA (by omega) (by omega) (left s p pr fl fi ix pg hA d1 (by omega)) ?_ (fun x x0 x1 => ?_) (fun k hk => ?_)
        · show pg - s ≤ p; omega
        · show ((s ≤ x ∧ x < s + (pg - s)) ↔ ¬ (pg ≤ x ∧ x < pg + ct)); omega
        · unfold region_Cut.f
          rw [k1 k hk, Option.bind_some, if_pos hA, if_neg c1, if_neg c2, if_neg c3, if_neg c4, e0, if_neg c5, if_neg c6, sp_ok k hk s p pr fl fi ix pg hA (by omega) (by omega), sp_err k hk s p pr fl fi ix (pg + ct) hA (by omega), Option.bind_some, Option.bind_some]
          dsimp only
          rw [if_pos rfl, if_neg (by decide)]
    · by_cases d2 : pg + ct < s + p
      · refine loop1 pg ct s p pr fl fi ix ⟨pg + ct, p - (pg + ct - s), pr, fr fl, fi, ir s fi ix (pg + ct)⟩ hA (by omega) (by omega) (right s p pr fl fi ix (pg + ct) hA (by omega) d2) ?_ (fun x x0 x1 => ?_) (fun k hk => ?_)
        · show p - (pg + ct - s) ≤ p; omega
        · show ((pg + ct ≤ x ∧ x < pg + ct + (p - (pg + ct - s))) ↔ ¬ (pg ≤ x ∧ x < pg + ct)); omega
        · unfold region_Cut.f
          rw [k1 k hk, Option.bind_some, if_pos hA, if_neg c1, if_neg c2, if_neg c3, if_neg c4, e0, if_neg c5, if_neg c6, sp_err k hk s p pr fl fi ix pg hA (by omega), sp_ok k hk s p pr fl fi ix (pg + ct) hA (by omega) (by omega), Option.bind_some, Option.bind_some]
          dsimp only
          rw [if_neg (by decide), if_pos rfl]
      · refine loop0 pg ct s p pr fl fi ix hA (by omega) (by omega) (fun x x0 x1 => by omega) (fun k hk => ?_)
        unfold region_Cut.f
        rw [k1 k hk, Option.bind_some, if_pos hA, if_neg c1, if_neg c2, if_neg c3, if_neg c4, e0, if_neg c5, if_neg c6, sp_err k hk s p pr fl fi ix pg hA (by omega), sp_err k hk s p pr fl fi ix (pg + ct) hA (by omega), Option.bind_some, Option.bind_some]
        dsimp only
        rw [if_neg (by decide), if_neg (by decide)]
  · refine err s p pr fl fi ix pg ct (chkV s p pr fl fi ix) ?_ hA
    unfold region_Cut.f
    rw [k1 8 (by omega), Option.bind_some, if_neg hA]
end PageP

theorem Pure.RegionPages (a0_0 a0_1 a0_2 a0_3 a0_4 a0_5 a1 a2 : Int) (ha0_0 : -9223372036854775808 ≤ a0_0 ∧ a0_0 ≤ 9223372036854775807) (ha0_1 : -9223372036854775808 ≤ a0_1 ∧ a0_1 ≤ 9223372036854775807) (ha0_2 : -9223372036854775808 ≤ a0_2 ∧ a0_2 ≤ 9223372036854775807) (ha0_3 : -9223372036854775808 ≤ a0_3 ∧ a0_3 ≤ 9223372036854775807) (ha0_4 : -9223372036854775808 ≤ a0_4 ∧ a0_4 ≤ 9223372036854775807) (ha0_5 : -9223372036854775808 ≤ a0_5 ∧ a0_5 ≤ 9223372036854775807) (ha1 : -9223372036854775808 ≤ a1 ∧ a1 ≤ 9223372036854775807) (ha2 : -9223372036854775808 ≤ a2 ∧ a2 ≤ 9223372036854775807) : ∃ k, Reg.estoverslaw22_RegionPages.f k a0_0 a0_1 a0_2 a0_3 a0_4 a0_5 a1 a2 = some true := PageP.main a0_0 a0_1 a0_2 a0_3 a0_4 a0_5 a1 a2
end Go.Proofs.Ytajephbmbdnjpaa
