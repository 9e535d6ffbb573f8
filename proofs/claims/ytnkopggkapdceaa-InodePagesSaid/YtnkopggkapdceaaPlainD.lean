/- What is proved: plain laws on the printed Mask and Backed of the package inode and of its reference. Conditions: at most sixteen pages. -/
import Derived.Test.YtnkopggkapdceaaPlainB
import Derived.Test.YtnkopggkapdceaaInox7
import Derived.Test.YtnkopggkapdceaaInox21
import Derived.Test.YtnkopggkapdceaaInox22
import Derived.Test.YtnkopggkapdceaaInox23
import Derived.Test.YtnkopggkapdceaaInox24
import Derived.Laws.BitsLemmas
namespace Go.Proofs.Ytnkopggkapdceaa.Plain
open Go.RowKit Go.Proofs.Ytnkopggkapdceaa.Ino Go.Proofs.YtnkopggkapdceaaW.PrintWords Go.Proofs.YtnkopggkapdceaaW.PrintLast Go.Proofs.YtnkopggkapdceaaW.PrintMore Go.Proofs.Ytnkopggkapdceaa.Hand

def maskN : List Bool → Nat
  | [] => 0
  | b :: bs => b.toNat + 2 * maskN bs

theorem maskN_lt : ∀ l : List Bool, maskN l < 2 ^ l.length
  | [] => by decide
  | b :: bs => by
    have h := maskN_lt bs
    unfold maskN
    rw [List.length_cons, Nat.pow_succ]
    have : b.toNat ≤ 1 := Bool.toNat_le b
    omega

theorem maskN_snoc : ∀ (l : List Bool) (b : Bool), maskN (l ++ [b]) = maskN l + b.toNat * 2 ^ l.length
  | [], b => by simp [maskN]
  | a :: l, b => by
    have h := maskN_snoc l b
    rw [List.cons_append]
    unfold maskN
    rw [h, List.length_cons, Nat.pow_succ]
    rw [Nat.mul_add, Nat.mul_comm (2 ^ l.length) 2, ← Nat.mul_assoc 2, ← Nat.mul_assoc b.toNat, Nat.mul_comm 2 b.toNat]
    omega

theorem maskN_bit : ∀ (l : List Bool) (i : Nat), maskN l / 2 ^ i % 2 = (l.getD i false).toNat
  | [], i => by simp [maskN]
  | b :: bs, 0 => by
    have : b.toNat ≤ 1 := Bool.toNat_le b
    simp only [maskN, Nat.pow_zero, Nat.div_one, List.getD_cons_zero]
    omega
  | b :: bs, i + 1 => by
    have h := maskN_bit bs i
    have hb : b.toNat ≤ 1 := Bool.toNat_le b
    rw [List.getD_cons_succ, ← h, Nat.pow_succ, Nat.mul_comm, ← Nat.div_div_eq_div_mul]
    rw [show maskN (b :: bs) / 2 = maskN bs from by
      show (b.toNat + 2 * maskN bs) / 2 = maskN bs
      omega]

theorem wraps_i64 (n : Int) (h0 : 0 ≤ n) (h1 : n < 2 ^ 62) : IntKind.i64.wrap n = n := by
  rw [i64_w]
  exact w64 (by omega) (by omega)

theorem or_bit (m i : Nat) (hm : m < 2 ^ i) (hi : i ≤ 16) : Go.bits .or .i64 (m : Int) (2 ^ i) = ((m + 2 ^ i : Nat) : Int) := by
  have h16 : (2 : Nat) ^ i ≤ 2 ^ 16 := Nat.pow_le_pow_right (by decide) hi
  have hlt : (2 : Nat) ^ i < 2 ^ 62 := Nat.lt_of_le_of_lt h16 (by decide)
  have e : (2 : Int) ^ i = ((2 ^ i : Nat) : Int) := by rw [Int.natCast_pow]; rfl
  rw [e, (bits_nat .i64 62 (by decide) wraps_i64 m (2 ^ i) (by omega) hlt).2, Nat.or_comm]
  have h := Nat.two_pow_add_eq_or_of_lt hm 1
  rw [Nat.mul_one] at h
  rw [← h, Nat.add_comm]

theorem and_one (x : Int) (h0 : 0 ≤ x) (h1 : x < 2 ^ 62) : Go.bits .and .i64 x 1 = x % 2 :=
  bits_mask .i64 62 (by decide) wraps_i64 1 (by decide) x h0 h1

theorem shr_f (m : Int) (i : Int) (h0 : 0 ≤ i) (h1 : i ≤ 16) : shr .i64 m i = m / 2 ^ i.toNat := by
  have e : min i.toNat (IntKind.bits .i64) = i.toNat := by
    have : IntKind.bits .i64 = 64 := rfl
    omega
  unfold shr
  rw [e]

theorem rdOf_get (l : List Bool) (i : Nat) (h : i < l.length) : rdOf false l (i : Int) = l[i] := by
  unfold rdOf
  rw [Int.toNat_natCast, List.getD_eq_getElem?_getD, List.getElem?_eq_getElem h]
  rfl

theorem take_step (l : List Bool) (i : Nat) (h : i < l.length) : maskN (l.take (i + 1)) = maskN (l.take i) + (l[i]).toNat * 2 ^ i := by
  have e : (l.take i).length = i := by
    rw [List.length_take]
    omega
  rw [List.take_succ_eq_append_getElem h, maskN_snoc, e]

theorem take_lt (l : List Bool) (i : Nat) (h : i ≤ l.length) : maskN (l.take i) < 2 ^ i := by
  have e : (l.take i).length = i := by
    rw [List.length_take]
    omega
  have := maskN_lt (l.take i)
  rwa [e] at this

theorem pow16 (i : Nat) (hi : i ≤ 16) : 2 ^ i ≤ 65536 := Nat.le_trans (Nat.pow_le_pow_right (by decide) hi) (by decide)

theorem mask_at (l : List Bool) (hl : l.length ≤ 16) (d : Nat) : ∀ (k i : Nat), i + d = l.length →
    inode_Mask.l0 (k + d + 1) (maskN (l.take i) : Int) l (l.length : Int) (i : Int) = some ((maskN l : Int), 0) := by
  induction d with
  | zero =>
    intro k i hi
    conv => lhs; unfold inode_Mask.l0
    rw [if_neg (by omega), List.take_of_length_le (by omega)]
  | succ d ih =>
    intro k i hi
    have hil : i < l.length := by omega
    have hlt := take_lt l i (by omega)
    have h16 := pow16 i (by omega)
    have hs := take_step l i hil
    rw [show k + (d + 1) + 1 = (k + d + 1) + 1 from by omega]
    conv => lhs; unfold inode_Mask.l0
    rw [if_pos (by omega), if_pos (by omega), if_pos (by omega), rdOf_get l i hil, shl_one (by omega) (by omega), Int.toNat_natCast, or_bit _ i hlt (by omega), w64 (by omega) (by omega)]
    have ih' := ih k (i + 1) (by omega)
    rw [hs] at ih'
    cases hb : l[i] with
    | true =>
      rw [hb] at ih'
      rw [if_pos rfl]
      simpa using ih'
    | false =>
      rw [hb] at ih'
      rw [if_neg (by decide)]
      simpa using ih'

theorem refMask_at (l : List Bool) (hl : l.length ≤ 16) (d : Nat) : ∀ (k i : Nat), i + d = l.length →
    estoversref27_Mask.l0 (k + d + 1) l (maskN (l.take i) : Int) (i : Int) = some ((maskN l : Int), 0) := by
  induction d with
  | zero =>
    intro k i hi
    conv => lhs; unfold estoversref27_Mask.l0
    rw [if_neg (by omega), List.take_of_length_le (by omega)]
  | succ d ih =>
    intro k i hi
    have hil : i < l.length := by omega
    have hlt := take_lt l i (by omega)
    have h16 := pow16 i (by omega)
    have hs := take_step l i hil
    have e : (2 : Int) ^ i = ((2 ^ i : Nat) : Int) := by rw [Int.natCast_pow]; rfl
    rw [show k + (d + 1) + 1 = (k + d + 1) + 1 from by omega]
    conv => lhs; unfold estoversref27_Mask.l0
    rw [if_pos (by omega), if_pos (by omega), rdOf_get l i hil, u64w (by omega) (by omega), if_pos (show (0 : Int) ≤ (i : Int) by omega), shl_one (by omega) (by omega), Int.toNat_natCast, e, w64 (x := (i : Int) + 1) (by omega) (by omega), w64 (by omega) (by omega)]
    have ih' := ih k (i + 1) (by omega)
    rw [hs] at ih'
    cases hb : l[i] with
    | true =>
      rw [hb] at ih'
      rw [if_pos rfl]
      simpa using ih'
    | false =>
      rw [hb] at ih'
      rw [if_neg (by decide)]
      simpa using ih'

def maskf (l : List Bool) : Int × Int := if 16 < l.length then (0, 9) else ((maskN l : Int), 0)

theorem mask_all (k : Nat) (hk : 50 ≤ k) (l : List Bool) : inode_Mask.f k l = some (maskf l) := by
  unfold inode_Mask.f maskf
  by_cases h : 16 < l.length
  · rw [if_pos (by omega), if_pos h]
  · rw [if_neg (by omega), if_neg h]
    have := mask_at l (by omega) l.length (k - l.length - 1) 0 (by omega)
    rwa [show k - l.length - 1 + l.length + 1 = k from by omega] at this

theorem refMask_all (k : Nat) (hk : 50 ≤ k) (l : List Bool) : estoversref27_Mask.f k l = some (maskf l) := by
  unfold estoversref27_Mask.f maskf
  by_cases h : 16 < l.length
  · rw [if_pos (by omega), if_pos h]
  · rw [if_neg (by omega), if_neg h]
    have := refMask_at l (by omega) l.length (k - l.length - 1) 0 (by omega)
    rwa [show k - l.length - 1 + l.length + 1 = k from by omega] at this

def bitb (m : Int) (i : Nat) : Bool := m / 2 ^ i % 2 == 1
def back (m : Int) (n : Nat) : List Bool := (List.range n).map (bitb m)

theorem back_len (m : Int) (n : Nat) : (back m n).length = n := by simp [back]

theorem back_succ (m : Int) (n : Nat) : back m (n + 1) = back m n ++ [bitb m n] := by
  unfold back
  rw [List.range_succ, List.map_append]
  rfl

theorem div_bound {m : Int} (h0 : 0 ≤ m) (h1 : m ≤ 65536) (i : Nat) : 0 ≤ m / 2 ^ i ∧ m / 2 ^ i < 2 ^ 62 := by
  have hp : (0 : Int) < 2 ^ i := Int.pow_pos (by decide)
  refine ⟨Int.ediv_nonneg h0 (by omega), ?_⟩
  have h := Int.ediv_le_self (2 ^ i) h0
  have e : (2 : Int) ^ 62 = 4611686018427387904 := by decide
  omega

def part (m : Int) (n i : Nat) : List Bool := back m i ++ List.replicate (n - i) false

theorem part_set (m : Int) (n i : Nat) (h : i < n) : (part m n i).set i (bitb m i) = part m n (i + 1) := by
  unfold part
  obtain ⟨q, hq⟩ : ∃ q, n - i = q + 1 := ⟨n - i - 1, by omega⟩
  rw [List.set_append_right _ _ (by rw [back_len]; omega), back_len, Nat.sub_self, hq, List.replicate_succ, List.set_cons_zero, show n - (i + 1) = q from by omega, back_succ, List.append_assoc]
  rfl

theorem part_len (m : Int) (n i : Nat) (h : i ≤ n) : (part m n i).length = n := by
  unfold part
  rw [List.length_append, back_len, List.length_replicate]
  omega

theorem backed_at (m : Int) (h0 : 0 ≤ m) (h1 : m ≤ 65536) (n : Nat) (hn : n ≤ 16) (d : Nat) : ∀ (k i : Nat), i + d = n →
    inode_Backed.l0 (k + d + 1) m (part m n i) (n : Int) (i : Int) = some (back m n, 0) := by
  induction d with
  | zero =>
    intro k i hi
    conv => lhs; unfold inode_Backed.l0
    rw [if_neg (by omega), show i = n from by omega]
    unfold part
    simp
  | succ d ih =>
    intro k i hi
    have hl := part_len m n i (by omega)
    have hd := div_bound h0 h1 i
    rw [show k + (d + 1) + 1 = (k + d + 1) + 1 from by omega]
    conv => lhs; unfold inode_Backed.l0
    rw [if_pos (by omega), if_pos (by omega), if_pos (by omega), shr_f m i (by omega) (by omega), Int.toNat_natCast, and_one _ hd.1 hd.2, w64 (by omega) (by omega)]
    have ih' := ih k (i + 1) (by omega)
    rw [← part_set m n i (by omega)] at ih'
    exact ih'

theorem refBacked_at (m : Int) (h0 : 0 ≤ m) (h1 : m ≤ 65536) (n : Nat) (hn : n ≤ 16) (d : Nat) : ∀ (k i : Nat), i + d = n →
    estoversref27_Backed.l0 (k + d + 1) m (n : Int) (back m i) (i : Int) = some (back m n, 0) := by
  induction d with
  | zero =>
    intro k i hi
    conv => lhs; unfold estoversref27_Backed.l0
    rw [if_neg (by omega), show i = n from by omega]
  | succ d ih =>
    intro k i hi
    have hd := div_bound h0 h1 i
    rw [show k + (d + 1) + 1 = (k + d + 1) + 1 from by omega]
    conv => lhs; unfold estoversref27_Backed.l0
    rw [if_pos (by omega), u64w (by omega) (by omega), if_pos (by omega), if_pos (by rw [back_len]; omega), shr_f m i (by omega) (by omega), Int.toNat_natCast, w64 (by omega) (by omega), Int.tmod_eq_emod_of_nonneg hd.1]
    have ih' := ih k (i + 1) (by omega)
    rw [back_succ] at ih'
    exact ih'

def backf (m n : Int) : List Bool × Int := if n < 0 ∨ 16 < n then ([], 9) else if m < 0 ∨ 2 ^ n.toNat ≤ m then ([], 3) else (back m n.toNat, 0)

theorem backed_all (k : Nat) (hk : 50 ≤ k) (m n : Int) : inode_Backed.f k m n = some (backf m n) := by
  unfold inode_Backed.f backf
  rw [size_f, Option.bind_some]
  by_cases h : n < 0 ∨ 16 < n
  · rw [decide_eq_false (fun h' => h' h), if_neg (by decide), if_pos h]
  · rw [decide_eq_true h, if_pos rfl, if_neg h, mask_f m n (by omega) (by omega), Option.bind_some]
    by_cases h2 : m < 0 ∨ 2 ^ n.toNat ≤ m
    · rw [decide_eq_false (fun h' => h' h2), if_neg (by decide), if_pos h2]
    · have hp := pow_le (n := n) (by omega) (by omega)
      rw [decide_eq_true h2, if_pos rfl, if_neg h2, if_pos (by omega), if_pos (by omega), Option.bind_some, List.length_replicate]
      have := backed_at m (by omega) (by omega) n.toNat (by omega) n.toNat (k - n.toNat - 1) 0 (by omega)
      rw [show k - n.toNat - 1 + n.toNat + 1 = k from by omega] at this
      exact this

theorem refBacked_all (k : Nat) (hk : 50 ≤ k) (m n : Int) : estoversref27_Backed.f k m n = some (backf m n) := by
  obtain ⟨k, rfl⟩ : ∃ j, k = j + 1 := ⟨k - 1, by omega⟩
  unfold estoversref27_Backed.f backf
  by_cases h : n < 0 ∨ 16 < n
  · rw [if_pos h]
    by_cases h1 : n < 0
    · rw [if_pos h1]
      simp only [estoversref27_Backed.j0]
      rw [if_pos trivial]
    · rw [if_neg h1, decide_eq_true (by omega)]
      simp only [estoversref27_Backed.j0]
      rw [if_pos trivial]
  · rw [if_neg (by omega), decide_eq_false (by omega)]
    simp only [estoversref27_Backed.j0]
    rw [if_neg (by decide), if_neg h, isMask_f m n (by omega) (by omega), Option.bind_some]
    by_cases h2 : m < 0 ∨ 2 ^ n.toNat ≤ m
    · rw [decide_eq_false (fun h' => h' h2), if_neg (by decide), if_pos h2]
    · have hp := pow_le (n := n) (by omega) (by omega)
      rw [decide_eq_true h2, if_pos rfl, if_neg h2]
      have := refBacked_at m (by omega) (by omega) n.toNat (by omega) n.toNat (k - n.toNat - 1) 0 (by omega)
      rw [show k - n.toNat - 1 + n.toNat + 1 = k from by omega, show ((n.toNat : Nat) : Int) = n from by omega] at this
      exact this

theorem sameB_at (xs : List Bool) (hx : xs.length ≤ 1000) (d : Nat) : ∀ (k : Nat) (i : Int), 0 ≤ i → (xs.length : Int) - i ≤ d → d < k → estoversref27_SameBools.l0 k xs xs i = some true := by
  induction d with
  | zero =>
    intro k i h0 h1 hk
    obtain ⟨k, rfl⟩ : ∃ j, k = j + 1 := ⟨k - 1, by omega⟩
    conv => lhs; unfold estoversref27_SameBools.l0
    rw [if_neg (by omega)]
  | succ d ih =>
    intro k i h0 h1 hk
    obtain ⟨k, rfl⟩ : ∃ j, k = j + 1 := ⟨k - 1, by omega⟩
    conv => lhs; unfold estoversref27_SameBools.l0
    by_cases h : i < (xs.length : Int)
    · rw [if_pos h, if_pos h0, if_pos h, if_neg (by simp), w64 (by omega) (by omega)]
      exact ih k (i + 1) (by omega) (by omega) (by omega)
    · rw [if_neg h]

theorem sameB_f (xs : List Bool) (hx : xs.length ≤ 100) (k : Nat) (hk : 150 ≤ k) : estoversref27_SameBools.f k xs xs = some true := by
  unfold estoversref27_SameBools.f
  rw [if_pos rfl]
  exact sameB_at xs (by omega) 100 k 0 (by omega) (by omega) (by omega)

theorem backf_len (m n : Int) : (backf m n).1.length ≤ 16 := by
  unfold backf
  by_cases h : n < 0 ∨ 16 < n
  · rw [if_pos h]
    simp
  · rw [if_neg h]
    by_cases h2 : m < 0 ∨ 2 ^ n.toNat ≤ m
    · rw [if_pos h2]
      simp
    · rw [if_neg h2]
      show (back m n.toNat).length ≤ 16
      rw [back_len]
      omega

theorem bit_mask (l : List Bool) (i : Nat) (h2 : i < l.length) : bitb (maskN l : Int) i = l[i] := by
  have h := maskN_bit l i
  have e : (2 : Int) ^ i = ((2 ^ i : Nat) : Int) := by rw [Int.natCast_pow]; rfl
  have e2 : (maskN l : Int) / 2 ^ i % 2 = ((maskN l / 2 ^ i % 2 : Nat) : Int) := by
    rw [e]
    omega
  unfold bitb
  rw [e2, h, List.getD_eq_getElem?_getD, List.getElem?_eq_getElem h2]
  cases hb : l[i] <;> simp

theorem back_mask (l : List Bool) : back (maskN l : Int) l.length = l := by
  have h1 : (back (maskN l : Int) l.length).length = l.length := back_len _ _
  apply List.ext_getElem h1
  intro i h h2
  have e : (back (maskN l : Int) l.length)[i]? = some (l[i]) := by
    unfold back
    rw [List.getElem?_map, List.getElem?_range h2, Option.map_some, bit_mask l i h2]
  rw [List.getElem?_eq_getElem h] at e
  exact Option.some.inj e

end Go.Proofs.Ytnkopggkapdceaa.Plain
