/- What is proved: plain laws on the printed functions of the package inode: awake answers true, both Decode are decf. Conditions: bytes from 0 to 255. -/
import Derived.Test.YtnkopggkapdceaaPlainA
import Derived.Test.YtnkopggkapdceaaInox8
import Derived.Test.YtnkopggkapdceaaInox13
namespace Go.Proofs.Ytnkopggkapdceaa.Plain
open Go.RowKit Go.Proofs.Ytnkopggkapdceaa.Ino Go.Proofs.YtnkopggkapdceaaW.PrintWords Go.Proofs.YtnkopggkapdceaaW.PrintLast Go.Proofs.YtnkopggkapdceaaW.PrintMore Go.Proofs.Ytnkopggkapdceaa.Hand

theorem awake_all (k : Nat) (hk : 30 ≤ k) : estoverslaw27_awake.f k = some true := by
  induction k with
  | zero => omega
  | succ k ih =>
    by_cases h : k + 1 = 30
    · rw [h]
      decide +kernel
    · exact estoverslaw27_awake.mono k true (ih (by omega))

def Bytes (l : List Int) : Prop := ∀ x ∈ l, 0 ≤ x ∧ x ≤ 255

theorem map_inj : ∀ (xs ys : List Int), Bytes xs → Bytes ys → (xs.map fun n => UInt8.ofNat n.toNat) = (ys.map fun n => UInt8.ofNat n.toNat) → xs = ys
  | [], [], _, _, _ => rfl
  | [], _ :: _, _, _, h => by simp at h
  | _ :: _, [], _, _, h => by simp at h
  | x :: xs, y :: ys, hx, hy, h => by
    simp only [List.map_cons, List.cons.injEq] at h
    obtain ⟨h1, h2⟩ := h
    have a := hx x (by simp)
    have b := hy y (by simp)
    have e : (UInt8.ofNat x.toNat).toNat = (UInt8.ofNat y.toNat).toNat := by rw [h1]
    rw [UInt8.toNat_ofNat', UInt8.toNat_ofNat'] at e
    have e2 : x = y := by omega
    rw [e2, map_inj xs ys (fun z hz => hx z (by simp [hz])) (fun z hz => hy z (by simp [hz])) h2]

theorem bytesEq_f (xs ys : List Int) (hx : Bytes xs) (hy : Bytes ys) : bytes_Equal.f xs ys = some (decide (xs = ys)) := by
  unfold bytes_Equal.f
  congr 1
  rw [ByteArray.toList_eq, ByteArray.toList_eq, strOfNums_data, strOfNums_data]
  by_cases h : xs = ys
  · rw [h]
    simp
  · rw [decide_eq_false h, beq_eq_false_iff_ne]
    exact fun e => h (map_inj xs ys hx hy e)

def decf (l : List Int) : Int × Int × Int :=
  if l.length = 32 then (if (encf (rd l 4) (rd l 5 + 256 * rd l 6)).2 = 0 then (if (encf (rd l 4) (rd l 5 + 256 * rd l 6)).1 = l then (rd l 4, rd l 5 + 256 * rd l 6, 0) else (0, 0, 22)) else (0, 0, 22)) else (0, 0, 3)

theorem rd_byte {l : List Int} (h : Bytes l) (i : Int) : 0 ≤ rd l i ∧ rd l i ≤ 255 := by
  unfold rd
  rw [List.getD_eq_getElem?_getD]
  cases e : l[i.toNat]? with
  | none => simp
  | some x => exact h x (List.mem_of_getElem? e)

theorem encf_ok {n m : Int} (h : (encf n m).2 = 0) : (encf n m).1 = encL n m ∧ 0 ≤ n ∧ n ≤ 16 ∧ 0 ≤ m ∧ m < 2 ^ n.toNat := by
  unfold encf at *
  by_cases h1 : n < 0 ∨ 16 < n
  · rw [if_pos h1] at h
    exact absurd h (by decide)
  · rw [if_neg h1] at h ⊢
    by_cases h2 : m < 0 ∨ 2 ^ n.toNat ≤ m
    · rw [if_pos h2] at h
      exact absurd h (by decide)
    · rw [if_neg h2]
      exact ⟨rfl, by omega, by omega, by omega, by omega⟩

theorem encL_bytes {n m : Int} (h0 : 0 ≤ n) (h1 : n ≤ 16) (h2 : 0 ≤ m) (h3 : m < 2 ^ n.toNat) : Bytes (encL n m) := by
  have hp := pow_le h0 h1
  intro x hx
  unfold encL chk at hx
  simp only [List.mem_cons, List.not_mem_nil, or_false] at hx
  omega

theorem decode_f (l : List Int) (hb : Bytes l) : inode_Decode.f l = some (decf l) := by
  have b4 := rd_byte hb 4
  have b5 := rd_byte hb 5
  have b6 := rd_byte hb 6
  unfold inode_Decode.f decf
  by_cases h : l.length = 32
  · rw [if_pos h, if_pos (by omega), if_pos (by omega), if_pos (by omega), if_pos (by omega)]
    rw [w64 (x := rd l 4) (by omega) (by omega), w64 (x := rd l 5) (by omega) (by omega), w64 (x := rd l 6) (by omega) (by omega), w64 (x := rd l 6 * 256) (by omega) (by omega), w64 (x := rd l 5 + rd l 6 * 256) (by omega) (by omega)]
    unfold inode_Encode.f
    simp only [Option.bind_some]
    rw [show rd l 6 * 256 = 256 * rd l 6 from by omega]
    by_cases h1 : (encf (rd l 4) (rd l 5 + 256 * rd l 6)).2 = 0
    · rw [if_pos h1, if_pos h1]
      obtain ⟨e, a1, a2, a3, a4⟩ := encf_ok h1
      rw [e, bytesEq_f _ _ (encL_bytes a1 a2 a3 a4) hb]
      simp only [Option.bind_some]
      by_cases h2 : encL (rd l 4) (rd l 5 + 256 * rd l 6) = l
      · rw [if_pos h2, decide_eq_true h2, if_pos rfl]
      · rw [if_neg h2, decide_eq_false h2, if_neg (by decide)]
    · rw [if_neg h1, if_neg h1]
  · rw [if_neg h, if_neg (by omega)]

theorem rd_get (l : List Int) (i : Int) (h : i.toNat < l.length) : rd l i = l[i.toNat] := by
  unfold rd
  rw [List.getD_eq_getElem?_getD, List.getElem?_eq_getElem h]
  rfl

theorem cmp_at (l c : List Int) (n m : Int) (hl : l.length = 32) (hc : c.length = 32) (d : Nat) : ∀ (k : Nat) (i : Int), 0 ≤ i → 32 - i ≤ d → d < k →
    estoversref27_Decode.l0 k l n m c i = some (if c.drop i.toNat = l.drop i.toNat then (n, m, 0) else (0, 0, 22)) := by
  induction d with
  | zero =>
    intro k i h0 h1 hk
    obtain ⟨k, rfl⟩ : ∃ j, k = j + 1 := ⟨k - 1, by omega⟩
    simp only [estoversref27_Decode.l0]
    rw [if_neg (by omega), List.drop_of_length_le (by omega), List.drop_of_length_le (by omega), if_pos rfl]
  | succ d ih =>
    intro k i h0 h1 hk
    obtain ⟨k, rfl⟩ : ∃ j, k = j + 1 := ⟨k - 1, by omega⟩
    simp only [estoversref27_Decode.l0]
    by_cases h : i < (l.length : Int)
    · have e1 := rd_get l i (by omega)
      have e2 := rd_get c i (by omega)
      rw [if_pos h, if_pos h0, if_pos (by omega), List.drop_eq_getElem_cons (l := c) (i := i.toNat) (by omega), List.drop_eq_getElem_cons (l := l) (i := i.toNat) (by omega), ← e1, ← e2]
      by_cases h2 : rd l i = rd c i
      · rw [if_pos h2, w64 (by omega) (by omega), ih k (i + 1) (by omega) (by omega) (by omega), h2, show (i + 1).toNat = i.toNat + 1 from by omega]
        simp only [List.cons.injEq, true_and]
      · rw [if_neg h2, if_neg (by
          intro e
          simp only [List.cons.injEq] at e
          exact h2 e.1.symm)]
    · rw [if_neg h, List.drop_of_length_le (by omega), List.drop_of_length_le (by omega), if_pos rfl]

theorem refDecode_f (k : Nat) (hk : 50 ≤ k) (l : List Int) (hb : Bytes l) : estoversref27_Decode.f k l = some (decf l) := by
  have b4 := rd_byte hb 4
  have b5 := rd_byte hb 5
  have b6 := rd_byte hb 6
  unfold estoversref27_Decode.f decf
  by_cases h : l.length = 32
  · rw [if_pos h, if_pos (by omega), if_pos (by omega), if_pos (by omega), if_pos (by omega)]
    rw [w64 (x := rd l 4) (by omega) (by omega), w64 (x := rd l 5) (by omega) (by omega), w64 (x := rd l 6) (by omega) (by omega), w64 (x := 256 * rd l 6) (by omega) (by omega), w64 (x := rd l 5 + 256 * rd l 6) (by omega) (by omega)]
    rw [refEncode_f k _ _ (by omega)]
    simp only [Option.bind_some]
    by_cases h1 : (encf (rd l 4) (rd l 5 + 256 * rd l 6)).2 = 0
    · rw [if_pos h1, if_pos h1]
      obtain ⟨e, a1, a2, a3, a4⟩ := encf_ok h1
      rw [e, cmp_at l _ _ _ h rfl 32 k 0 (by omega) (by omega) (by omega)]
      rfl
    · rw [if_neg h1, if_neg h1]
  · rw [if_neg h, if_neg (by omega)]

end Go.Proofs.Ytnkopggkapdceaa.Plain
