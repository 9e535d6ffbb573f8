/- What is proved: plain laws on the printed Layout of the package inode and of its reference: both are layR. Conditions: at most four files. -/
import Derived.Test.YtnkopggkapdceaaPlainB
import Derived.Test.YtnkopggkapdceaaInox15
import Derived.Test.YtnkopggkapdceaaInox16
namespace Go.Proofs.Ytnkopggkapdceaa.Plain
open Go.RowKit Go.Proofs.Ytnkopggkapdceaa.Ino Go.Proofs.YtnkopggkapdceaaW.PrintWords Go.Proofs.YtnkopggkapdceaaW.PrintLast Go.Proofs.YtnkopggkapdceaaW.PrintMore Go.Proofs.Ytnkopggkapdceaa.Hand

def layR : List Int → Int → List Int → Int → List Int × Int
  | [], s, acc, a => if s < 0 ∨ 64 < s then ([], 2) else (acc ++ [a, a + s], 0)
  | f :: fs, s, acc, a => if f < 1 ∨ 16 < f then ([], 2) else layR fs s (acc ++ [a]) (a + (1 + f))

theorem layR_len : ∀ (fs : List Int) (s : Int) (acc : List Int) (a : Int), (layR fs s acc a).1.length ≤ acc.length + fs.length + 2
  | [], s, acc, a => by
    unfold layR
    split <;> simp
  | f :: fs, s, acc, a => by
    unfold layR
    split
    · simp
    · have h := layR_len fs s (acc ++ [a]) (a + (1 + f))
      simp only [List.length_append, List.length_cons, List.length_nil] at h ⊢
      omega

theorem lay_at (l : List Int) (s : Int) (hs0 : -9223372036854775808 ≤ s) (hs1 : s ≤ 9223372036854775807) (hl : l.length ≤ 4) (d : Nat) : ∀ (k : Nat) (i : Int) (acc : List Int) (a : Int), 0 ≤ i → (l.length : Int) - i = d → d < k → acc.length ≤ 10 + i.toNat → 0 ≤ a → a ≤ 20 * i →
    inode_Layout.l0 k s a acc l (l.length : Int) i = some (layR (l.drop i.toNat) s acc a) := by
  induction d with
  | zero =>
    intro k i acc a h0 h1 hk hc ha hb
    obtain ⟨k, rfl⟩ : ∃ j, k = j + 1 := ⟨k - 1, by omega⟩
    simp only [inode_Layout.l0]
    rw [if_neg (by omega), List.drop_of_length_le (by omega)]
    unfold layR
    by_cases c1 : s < 0
    · rw [if_pos c1, if_pos (by omega)]
    · rw [if_neg c1]
      by_cases c2 : s > 64
      · rw [if_pos c2, if_pos (by omega)]
      · rw [if_neg c2, if_neg (by omega), w64 (by omega) (by omega)]
        simp only [Option.bind_some, List.length_cons, List.length_nil]
        rw [if_pos (by omega)]
  | succ d ih =>
    intro k i acc a h0 h1 hk hc ha hb
    obtain ⟨k, rfl⟩ : ∃ j, k = j + 1 := ⟨k - 1, by omega⟩
    have hi : i.toNat < l.length := by omega
    have e1 := rd_get l i hi
    simp only [inode_Layout.l0]
    rw [if_pos (by omega), if_pos h0, if_pos (by omega), List.drop_eq_getElem_cons hi, ← e1]
    unfold layR
    by_cases c1 : rd l i < 1
    · rw [if_pos c1, if_pos (by omega)]
    · rw [if_neg c1, size_f]
      simp only [Option.bind_some]
      by_cases c2 : 16 < rd l i
      · rw [decide_eq_false (by omega), if_neg (by decide), if_pos (by omega)]
      · rw [decide_eq_true (by omega), if_pos rfl, if_neg (show ¬ (rd l i < 1 ∨ 16 < rd l i) by omega), if_pos (show acc.length < 17592186044416 by omega), w64 (x := 1 + rd l i) (by omega) (by omega), w64 (x := a + (1 + rd l i)) (by omega) (by omega), w64 (x := i + 1) (by omega) (by omega)]
        rw [ih k (i + 1) (acc ++ [a]) (a + (1 + rd l i)) (by omega) (by omega) (by omega) (by simp only [List.length_append, List.length_singleton]; omega) (by omega) (by omega)]
        rw [show (i + 1).toNat = i.toNat + 1 from by omega]

theorem refLay_at (l : List Int) (s : Int) (hs0 : -9223372036854775808 ≤ s) (hs1 : s ≤ 9223372036854775807) (hl : l.length ≤ 4) (d : Nat) : ∀ (k : Nat) (i : Int) (acc : List Int) (a : Int), 0 ≤ i → (l.length : Int) - i = d → d < k → acc.length ≤ 10 + i.toNat → 0 ≤ a → a ≤ 20 * i →
    estoversref27_Layout.l0 k l s acc a i = some (layR (l.drop i.toNat) s acc a) := by
  induction d with
  | zero =>
    intro k i acc a h0 h1 hk hc ha hb
    obtain ⟨k, rfl⟩ : ∃ j, k = j + 1 := ⟨k - 1, by omega⟩
    simp only [estoversref27_Layout.l0]
    rw [if_neg (by omega), List.drop_of_length_le (by omega)]
    unfold layR
    by_cases c1 : s < 0
    · rw [if_pos c1, if_pos (by omega)]
    · rw [if_neg c1]
      by_cases c2 : s > 64
      · rw [if_pos c2, if_pos (by omega)]
      · rw [if_neg c2, if_neg (by omega), w64 (by omega) (by omega)]
        simp only [Option.bind_some, List.length_cons, List.length_nil]
        rw [if_pos (by omega)]
  | succ d ih =>
    intro k i acc a h0 h1 hk hc ha hb
    obtain ⟨k, rfl⟩ : ∃ j, k = j + 1 := ⟨k - 1, by omega⟩
    have hi : i.toNat < l.length := by omega
    have e1 := rd_get l i hi
    simp only [estoversref27_Layout.l0]
    rw [if_pos (by omega), if_pos h0, List.drop_eq_getElem_cons hi, ← e1]
    unfold layR
    by_cases c1 : rd l i < 1
    · rw [if_pos c1, if_pos (by omega)]
    · rw [if_neg c1]
      by_cases c2 : 16 < rd l i
      · rw [if_pos (by omega), if_pos (by omega)]
      · rw [if_neg (show ¬ rd l i > 16 by omega), if_neg (show ¬ (rd l i < 1 ∨ 16 < rd l i) by omega), if_pos (show acc.length < 17592186044416 by omega), w64 (x := 1 + rd l i) (by omega) (by omega), w64 (x := a + (1 + rd l i)) (by omega) (by omega), w64 (x := i + 1) (by omega) (by omega)]
        rw [ih k (i + 1) (acc ++ [a]) (a + (1 + rd l i)) (by omega) (by omega) (by omega) (by simp only [List.length_append, List.length_singleton]; omega) (by omega) (by omega)]
        rw [show (i + 1).toNat = i.toNat + 1 from by omega]

def layf (l : List Int) (s : Int) : List Int × Int := if 4 < l.length then ([], 9) else layR l s [] 0

theorem layout_f (k : Nat) (hk : 10 ≤ k) (l : List Int) (s : Int) (hs0 : -9223372036854775808 ≤ s) (hs1 : s ≤ 9223372036854775807) : inode_Layout.f k l s = some (layf l s) := by
  unfold inode_Layout.f layf
  by_cases h : 4 < l.length
  · rw [if_pos (by omega), if_pos h]
  · rw [if_neg (by omega), if_neg h, lay_at l s hs0 hs1 (by omega) l.length k 0 [] 0 (by omega) (by omega) (by omega) (by simp) (by omega) (by omega)]
    rfl

theorem refLayout_f (k : Nat) (hk : 10 ≤ k) (l : List Int) (s : Int) (hs0 : -9223372036854775808 ≤ s) (hs1 : s ≤ 9223372036854775807) : estoversref27_Layout.f k l s = some (layf l s) := by
  unfold estoversref27_Layout.f layf
  by_cases h : 4 < l.length
  · rw [if_pos (by omega), if_pos h]
  · rw [if_neg (by omega), if_neg h, refLay_at l s hs0 hs1 (by omega) l.length k 0 [] 0 (by omega) (by omega) (by omega) (by simp) (by omega) (by omega)]
    rfl

theorem layf_len (l : List Int) (s : Int) : (layf l s).1.length ≤ 6 := by
  unfold layf
  by_cases h : 4 < l.length
  · rw [if_pos h]
    simp
  · rw [if_neg h]
    have := layR_len l s [] 0
    simp only [List.length_nil] at this
    omega

theorem sameI_at (xs : List Int) (hx : xs.length ≤ 1000) (d : Nat) : ∀ (k : Nat) (i : Int), 0 ≤ i → (xs.length : Int) - i ≤ d → d < k → estoversref27_SameInts.l0 k xs xs i = some true := by
  induction d with
  | zero =>
    intro k i h0 h1 hk
    obtain ⟨k, rfl⟩ : ∃ j, k = j + 1 := ⟨k - 1, by omega⟩
    simp only [estoversref27_SameInts.l0]
    rw [if_neg (by omega)]
  | succ d ih =>
    intro k i h0 h1 hk
    obtain ⟨k, rfl⟩ : ∃ j, k = j + 1 := ⟨k - 1, by omega⟩
    simp only [estoversref27_SameInts.l0]
    by_cases h : i < (xs.length : Int)
    · rw [if_pos h, if_pos h0, if_pos h, if_pos trivial, w64 (by omega) (by omega)]
      exact ih k (i + 1) (by omega) (by omega) (by omega)
    · rw [if_neg h]

theorem sameI_f (xs : List Int) (hx : xs.length ≤ 100) (k : Nat) (hk : 150 ≤ k) : estoversref27_SameInts.f k xs xs = some true := by
  unfold estoversref27_SameInts.f
  rw [if_pos rfl]
  exact sameI_at xs (by omega) 100 k 0 (by omega) (by omega) (by omega)

end Go.Proofs.Ytnkopggkapdceaa.Plain
