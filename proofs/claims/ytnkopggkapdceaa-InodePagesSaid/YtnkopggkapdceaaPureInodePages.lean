/- What is proved: the plain statement behind InodePages: for every list of bools the law's printed function answers true. No condition. -/
import Derived.Test.YtnkopggkapdceaaInox26
import Derived.Test.YtnkopggkapdceaaPlainD
namespace Go.Proofs.Ytnkopggkapdceaa.Pure
open Go.RowKit Go.Proofs.Ytnkopggkapdceaa.Ino Go.Proofs.YtnkopggkapdceaaW.PrintWords Go.Proofs.YtnkopggkapdceaaW.PrintLast Go.Proofs.YtnkopggkapdceaaW.PrintMore Go.Proofs.Ytnkopggkapdceaa.Plain Go.Proofs.Ytnkopggkapdceaa.Hand

theorem pages_at (l : List Bool) (hl : l.length ≤ 16) (d : Nat) : ∀ (k i : Nat), i + d = l.length →
    estoverslaw27_InodePages.l0 (k + d + 1) l (maskN l : Int) (l.length : Int) (i : Int) = some true := by
  have hm := maskN_lt l
  have h16 := pow16 l.length hl
  induction d with
  | zero =>
    intro k i hi
    conv => lhs; unfold estoverslaw27_InodePages.l0
    rw [if_neg (by omega)]
  | succ d ih =>
    intro k i hi
    have hil : i < l.length := by omega
    have hd := div_bound (m := (maskN l : Int)) (by omega) (by omega) i
    have hb := bit_mask l i hil
    unfold bitb at hb
    rw [show k + (d + 1) + 1 = (k + d + 1) + 1 from by omega]
    conv => lhs; unfold estoverslaw27_InodePages.l0
    rw [if_pos (by omega), u64w (by omega) (by omega), if_pos (show (0 : Int) ≤ (i : Int) by omega), if_pos (show (0 : Int) ≤ (i : Int) by omega), if_pos (by omega), shr_f _ _ (by omega) (by omega), Int.toNat_natCast, Go.Proofs.Ytnkopggkapdceaa.Plain.and_one _ hd.1 hd.2, rdOf_get l i hil, hb, if_neg (by simp), w64 (by omega) (by omega)]
    exact ih k (i + 1) (by omega)

theorem InodePages (l : List Bool) : estoverslaw27_InodePages.f 204 l = some true := by
  have hm := maskN_lt l
  unfold estoverslaw27_InodePages.f
  rw [awake_all 204 (by decide), Option.bind_some, if_pos rfl]
  by_cases h : (l.length : Int) > 16
  · rw [decide_eq_true h]
    simp only [estoverslaw27_InodePages.j0]
    rw [if_pos trivial, awake_all 203 (by decide)]
    rfl
  · have h16 := pow16 l.length (by omega)
    have ep : (2 : Int) ^ l.length = ((2 ^ l.length : Nat) : Int) := by rw [Int.natCast_pow]; rfl
    have em : maskf l = ((maskN l : Int), 0) := by
      unfold maskf
      rw [if_neg (by omega)]
    have eb : backf (maskN l : Int) (l.length : Int) = (l, 0) := by
      unfold backf
      rw [if_neg (by omega), Int.toNat_natCast, ep, if_neg (by omega), back_mask]
    rw [decide_eq_false h]
    simp only [estoverslaw27_InodePages.j0]
    rw [if_neg (by decide), mask_all 203 (by decide), em, Option.bind_some]
    dsimp only
    rw [if_pos rfl, if_neg (by omega), u64w (by omega) (by omega), if_pos (by omega), shl_one (by omega) (by omega), Int.toNat_natCast, ep, decide_eq_false (by omega)]
    simp only [estoverslaw27_InodePages.j1]
    rw [if_neg (by decide), backed_all 202 (by decide), eb, Option.bind_some]
    dsimp only
    rw [if_pos rfl, sameB_f l (by omega) 202 (by decide), Option.bind_some]
    simp only [estoverslaw27_InodePages.j2]
    rw [if_neg (by decide)]
    have := pages_at l (by omega) l.length (201 - l.length - 1) 0 (by omega)
    rwa [show 201 - l.length - 1 + l.length + 1 = 201 from by omega] at this

end Go.Proofs.Ytnkopggkapdceaa.Pure
