/- What is proved: the plain statement behind InodeBack: for every uint8 and uint16 the law's printed function answers true. No condition beside the numbers' own range. -/
import Derived.Test.YtnkopggkapdceaaInox18
import Derived.Test.YtnkopggkapdceaaPlainB
import Derived.OpenShut
namespace Go.Proofs.Ytnkopggkapdceaa.Pure
open Go.RowKit Go.Proofs.Ytnkopggkapdceaa.Ino Go.Proofs.YtnkopggkapdceaaW.PrintWords Go.Proofs.YtnkopggkapdceaaW.PrintLast Go.Proofs.YtnkopggkapdceaaW.PrintMore Go.Proofs.Ytnkopggkapdceaa.Plain Go.Proofs.Ytnkopggkapdceaa.Hand

theorem encf_good {n m : Int} (h0 : 0 ≤ n) (h1 : n ≤ 16) (h2 : 0 ≤ m) (h3 : m < 2 ^ n.toNat) : encf n m = (encL n m, 0) := by
  unfold encf
  rw [if_neg (by omega), if_neg (by omega)]

theorem decf_good {n m : Int} (h0 : 0 ≤ n) (h1 : n ≤ 16) (h2 : 0 ≤ m) (h3 : m < 2 ^ n.toNat) : decf (encL n m) = (n, m, 0) := by
  have hp := pow_le h0 h1
  have e4 : rd (encL n m) 4 = n := rfl
  have e5 : rd (encL n m) 5 = m % 256 := rfl
  have e6 : rd (encL n m) 6 = m / 256 := rfl
  have e : m % 256 + 256 * (m / 256) = m := by omega
  unfold decf
  rw [if_pos (show (encL n m).length = 32 from rfl), e4, e5, e6, e, encf_good h0 h1 h2 h3, if_pos (show (encL n m, (0 : Int)).2 = 0 from rfl), if_pos (show (encL n m, (0 : Int)).1 = encL n m from rfl)]

theorem InodeBack : estoverslaw27_InodeBack.Pure := by
  intro a b ha hb
  have ha' := bounds_u8 ha
  have hb' := bounds_u16 hb
  refine ⟨200, ?_⟩
  unfold estoverslaw27_InodeBack.f
  rw [awake_all 200 (by decide)]
  simp only [Option.bind_some, if_true]
  have en : wrap64 (Int.tmod a 17) = a % 17 := by
    rw [Int.tmod_eq_emod_of_nonneg (by omega)]
    exact w64 (by omega) (by omega)
  rw [en]
  obtain ⟨n, hn⟩ : ∃ n, n = a % 17 := ⟨_, rfl⟩
  rw [← hn]
  have h0 : 0 ≤ n := by omega
  have h1 : n ≤ 16 := by omega
  have hp := pow_le h0 h1
  rw [u64w h0 (by omega), shl_one h0 h1, w64 (x := b) (by omega) (by omega), Int.tmod_eq_emod_of_nonneg (by omega)]
  have m0 : 0 ≤ b % 2 ^ n.toNat := Int.emod_nonneg _ (by omega)
  have m1 : b % 2 ^ n.toNat < 2 ^ n.toNat := Int.emod_lt_of_pos _ (by omega)
  generalize b % 2 ^ n.toNat = m at *
  rw [if_pos h0, if_neg (by omega)]
  unfold inode_Encode.f
  simp only [Option.bind_some]
  rw [encf_good h0 h1 m0 m1, if_pos (show (encL n m, (0 : Int)).2 = 0 from rfl), if_pos (show (((encL n m, (0 : Int)).1.length : Nat) : Int) = 32 from rfl), decode_f _ (encL_bytes h0 h1 m0 m1), decf_good h0 h1 m0 m1]
  simp

end Go.Proofs.Ytnkopggkapdceaa.Pure
