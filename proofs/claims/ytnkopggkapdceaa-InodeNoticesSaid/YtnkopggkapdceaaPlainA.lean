/- What is proved: plain laws on what the printed functions of the package inode and of its reference compute: both Encode are encf. No condition beside the ranges named. -/
import Derived.Test.YtnkopggkapdceaaInox10
import Derived.Test.YtnkopggkapdceaaInox11
import Derived.Test.YtnkopggkapdceaaEnc
namespace Go.Proofs.Ytnkopggkapdceaa.Plain
open Go.RowKit Go.Proofs.Ytnkopggkapdceaa.Ino Go.Proofs.YtnkopggkapdceaaW.PrintWords Go.Proofs.YtnkopggkapdceaaW.PrintLast Go.Proofs.YtnkopggkapdceaaW.PrintMore Go.Proofs.Ytnkopggkapdceaa.Hand

theorem w64 {x : Int} (h0 : -9223372036854775808 ≤ x) (h1 : x ≤ 9223372036854775807) : wrap64 x = x := by
  unfold wrap64
  omega

theorem u64w {x : Int} (h0 : 0 ≤ x) (h1 : x ≤ 9223372036854775807) : IntKind.u64.wrap x = x := by
  have e : IntKind.u64.wrap x = x % 18446744073709551616 := rfl
  rw [e]
  omega

theorem isMask_f (m n : Int) (h0 : 0 ≤ n) (h1 : n ≤ 16) : estoversref27_isMask.f m n = some (decide (¬ (m < 0 ∨ 2 ^ n.toNat ≤ m))) := by
  unfold estoversref27_isMask.f
  rw [u64w h0 (by omega), shl_one h0 h1]
  by_cases h : m ≥ 0
  · rw [if_pos h, if_pos h0]
    congr 1
    by_cases h2 : m < 2 ^ n.toNat
    · rw [decide_eq_true h2, decide_eq_true (by omega)]
    · rw [decide_eq_false h2, decide_eq_false (by omega)]
  · rw [if_neg h, decide_eq_false (by omega)]

/-- One round of the reference's sum. -/
theorem enc_round (k : Nat) (L : List Int) (s i v j : Int) (hv : rd L i = v) (hj : i + 1 = j) (h0 : 0 ≤ i) (h1 : i < 7) (hl : L.length = 32) (hs : 0 ≤ s) (hs1 : s ≤ 3000) (hr : 0 ≤ v) (hr1 : v ≤ 255) :
    estoversref27_Encode.l0 (k + 1) L s i = estoversref27_Encode.l0 k L (s + v) j := by
  subst hv
  subst hj
  simp only [estoversref27_Encode.l0]
  rw [if_pos h1, if_pos h0, if_pos (by omega), w64 (x := rd L i) (by omega) (by omega), w64 (x := s + rd L i) (by omega) (by omega), w64 (x := i + 1) (by omega) (by omega)]

theorem enc_sum (k : Nat) (n a b : Int) (h0 : 0 ≤ n) (h1 : n ≤ 16) (ha : 0 ≤ a) (ha1 : a ≤ 255) (hb : 0 ≤ b) (hb1 : b ≤ 255) :
    estoversref27_Encode.l0 (k + 8) [73, 78, 79, 68, n, a, b, 0, 0, 0, 0, 0, 0, 0, 0, 0, 0, 0, 0, 0, 0, 0, 0, 0, 0, 0, 0, 0, 0, 0, 0, 0] 0 0 =
      some ([73, 78, 79, 68, n, a, b, (298 + n + a + b) % 251, 0, 0, 0, 0, 0, 0, 0, 0, 0, 0, 0, 0, 0, 0, 0, 0, 0, 0, 0, 0, 0, 0, 0, 0], 0) := by
  generalize hL : [73, 78, 79, 68, n, a, b, 0, 0, 0, 0, 0, 0, 0, 0, 0, 0, 0, 0, 0, 0, 0, 0, 0, 0, 0, 0, 0, 0, 0, 0, 0] = L
  have hl : L.length = 32 := by rw [← hL]; rfl
  have r0 : rd L 0 = 73 := by rw [← hL]; rfl
  have r1 : rd L 1 = 78 := by rw [← hL]; rfl
  have r2 : rd L 2 = 79 := by rw [← hL]; rfl
  have r3 : rd L 3 = 68 := by rw [← hL]; rfl
  have r4 : rd L 4 = n := by rw [← hL]; rfl
  have r5 : rd L 5 = a := by rw [← hL]; rfl
  have r6 : rd L 6 = b := by rw [← hL]; rfl
  rw [enc_round (k + 7) L _ 0 _ 1 r0 rfl (by omega) (by omega) hl (by omega) (by omega) (by omega) (by omega),
    enc_round (k + 6) L _ 1 _ 2 r1 rfl (by omega) (by omega) hl (by omega) (by omega) (by omega) (by omega),
    enc_round (k + 5) L _ 2 _ 3 r2 rfl (by omega) (by omega) hl (by omega) (by omega) (by omega) (by omega),
    enc_round (k + 4) L _ 3 _ 4 r3 rfl (by omega) (by omega) hl (by omega) (by omega) (by omega) (by omega),
    enc_round (k + 3) L _ 4 _ 5 r4 rfl (by omega) (by omega) hl (by omega) (by omega) (by omega) (by omega),
    enc_round (k + 2) L _ 5 _ 6 r5 rfl (by omega) (by omega) hl (by omega) (by omega) (by omega) (by omega),
    enc_round (k + 1) L _ 6 _ 7 r6 rfl (by omega) (by omega) hl (by omega) (by omega) (by omega) (by omega)]
  simp only [estoversref27_Encode.l0]
  rw [if_neg (by omega), if_pos (by omega), ← hL]
  have e : Int.tmod (0 + 73 + 78 + 79 + 68 + n + a + b) 251 % 256 = (298 + n + a + b) % 251 := by
    rw [Int.tmod_eq_emod_of_nonneg (by omega)]
    omega
  rw [e]
  rfl

theorem refEncode_f (k : Nat) (n m : Int) (hk : 10 ≤ k) : estoversref27_Encode.f k n m = some (encf n m) := by
  obtain ⟨k, rfl⟩ : ∃ j, k = j + 9 := ⟨k - 9, by omega⟩
  unfold encf estoversref27_Encode.f
  by_cases h : n < 0 ∨ 16 < n
  · rw [if_pos h]
    by_cases h1 : n < 0
    · rw [if_pos h1]; simp only [estoversref27_Encode.j0]; rfl
    · rw [if_neg h1, decide_eq_true (by omega)]; simp only [estoversref27_Encode.j0]; rfl
  · rw [if_neg h, if_neg (by omega), decide_eq_false (by omega)]
    simp only [estoversref27_Encode.j0]
    rw [if_neg (by decide), isMask_f m n (by omega) (by omega)]
    simp only [Option.bind_some]
    by_cases h2 : m < 0 ∨ 2 ^ n.toNat ≤ m
    · rw [if_pos h2, decide_eq_false (fun h => h h2), if_neg (by decide)]
    · have hp := pow_le (n := n) (by omega) (by omega)
      rw [if_neg h2, decide_eq_true h2, if_pos rfl, if_pos (by decide)]
      have em : Int.tmod m 256 % 256 = m % 256 := by rw [Int.tmod_eq_emod_of_nonneg (by omega)]; omega
      have ed : wrap64 (Int.tdiv m 256) % 256 = m / 256 := by rw [Int.tdiv_eq_ediv_of_nonneg (by omega), w64 (by omega) (by omega)]; omega
      have en : n % 256 = n := by omega
      rw [em, ed, en]
      have h := enc_sum k n (m % 256) (m / 256) (by omega) (by omega) (by omega) (by omega) (by omega) (by omega)
      exact h

theorem same_at (xs : List Int) (hx : xs.length ≤ 1000) (d : Nat) : ∀ (k : Nat) (i : Int), 0 ≤ i → (xs.length : Int) - i ≤ d → d < k → estoversref27_SameBytes.l0 k xs xs i = some true := by
  induction d with
  | zero =>
    intro k i h0 h1 hk
    obtain ⟨k, rfl⟩ : ∃ j, k = j + 1 := ⟨k - 1, by omega⟩
    simp only [estoversref27_SameBytes.l0]
    rw [if_neg (by omega)]
  | succ d ih =>
    intro k i h0 h1 hk
    obtain ⟨k, rfl⟩ : ∃ j, k = j + 1 := ⟨k - 1, by omega⟩
    simp only [estoversref27_SameBytes.l0]
    by_cases h : i < (xs.length : Int)
    · rw [if_pos h, if_pos h0, if_pos h, if_pos trivial, w64 (by omega) (by omega)]
      exact ih k (i + 1) (by omega) (by omega) (by omega)
    · rw [if_neg h]

theorem same_f (xs : List Int) (hx : xs.length ≤ 100) (k : Nat) (hk : 150 ≤ k) : estoversref27_SameBytes.f k xs xs = some true := by
  unfold estoversref27_SameBytes.f
  rw [if_pos rfl]
  exact same_at xs (by omega) 100 k 0 (by omega) (by omega) (by omega)

theorem encf_len (n m : Int) : (encf n m).1.length ≤ 32 := by
  unfold encf
  split
  · simp
  · split
    · simp
    · simp [encL]

end Go.Proofs.Ytnkopggkapdceaa.Plain
