/- What is proved: the plain statement behind InodeApart: for every list of uint8 and every uint8 the law's printed function answers true. No condition beside the numbers' own range. -/
import Derived.Test.YtnkopggkapdceaaInox20
import Derived.Test.YtnkopggkapdceaaPlainC
import Derived.OpenShut
namespace Go.Proofs.Ytnkopggkapdceaa.Pure
open Go.RowKit Go.Proofs.Ytnkopggkapdceaa.Ino Go.Proofs.YtnkopggkapdceaaW.PrintWords Go.Proofs.YtnkopggkapdceaaW.PrintLast Go.Proofs.Ytnkopggkapdceaa.Plain Go.Proofs.Ytnkopggkapdceaa.Hand

/-- The first places of the files, of the swap area, and the end. -/
def pl : List Int → Int → Int → List Int
  | [], s, a => [a, a + s]
  | f :: fs, s, a => a :: pl fs s (a + (1 + f))

def Caps (c : List Int) : Prop := ∀ x ∈ c, 1 ≤ x ∧ x ≤ 16

theorem layR_pl : ∀ (c : List Int) (s : Int) (acc : List Int) (a : Int), Caps c → 0 ≤ s → s ≤ 64 → layR c s acc a = (acc ++ pl c s a, 0)
  | [], s, acc, a, _, h0, h1 => by
    unfold layR pl
    rw [if_neg (by omega)]
  | f :: fs, s, acc, a, hc, h0, h1 => by
    have hf := hc f (by simp)
    unfold layR pl
    rw [if_neg (by omega), layR_pl fs s (acc ++ [a]) (a + (1 + f)) (fun x hx => hc x (by simp [hx])) h0 h1]
    simp

theorem pl_len : ∀ (c : List Int) (s a : Int), (pl c s a).length = c.length + 2
  | [], s, a => rfl
  | f :: fs, s, a => by
    unfold pl
    rw [List.length_cons, pl_len fs s _, List.length_cons]

theorem pl_zero (c : List Int) (s a : Int) : (pl c s a).getD 0 0 = a := by
  cases c <;> rfl

theorem pl_step : ∀ (c : List Int) (s a : Int) (i : Nat), i < c.length → (pl c s a).getD (i + 1) 0 = (pl c s a).getD i 0 + (1 + c.getD i 0)
  | [], s, a, i, h => absurd h (by simp)
  | f :: fs, s, a, 0, h => by
    unfold pl
    rw [List.getD_cons_succ, pl_zero]
    rfl
  | f :: fs, s, a, i + 1, h => by
    unfold pl
    rw [List.getD_cons_succ, List.getD_cons_succ, List.getD_cons_succ]
    exact pl_step fs s (a + (1 + f)) i (by simpa using h)

theorem pl_last : ∀ (c : List Int) (s a : Int), (pl c s a).getD (c.length + 1) 0 = (pl c s a).getD c.length 0 + s
  | [], s, a => rfl
  | f :: fs, s, a => by
    unfold pl
    rw [List.length_cons, List.getD_cons_succ, List.getD_cons_succ]
    exact pl_last fs s (a + (1 + f))

theorem caps_at {c : List Int} (h : Caps c) (i : Nat) (hi : i < c.length) : 1 ≤ c.getD i 0 ∧ c.getD i 0 ≤ 16 := by
  rw [List.getD_eq_getElem?_getD, List.getElem?_eq_getElem hi]
  exact h _ (List.getElem_mem hi)

theorem pl_bound (c : List Int) (s : Int) (hc : Caps c) (i : Nat) (hi : i ≤ c.length) : 0 ≤ (pl c s 0).getD i 0 ∧ (pl c s 0).getD i 0 ≤ 17 * i := by
  induction i with
  | zero =>
    rw [pl_zero]
    omega
  | succ i ih =>
    have h := ih (by omega)
    have h2 := caps_at hc i (by omega)
    rw [pl_step c s 0 i (by omega)]
    omega

/-- Up to b all are 1, from there on 0. -/
def ones (b T : Nat) : List Int := List.replicate b 1 ++ List.replicate (T - b) 0

theorem ones_len (b T : Nat) (h : b ≤ T) : (ones b T).length = T := by
  unfold ones
  rw [List.length_append, List.length_replicate, List.length_replicate]
  omega

theorem ones_at (b T : Nat) (h : b < T) : rd (ones b T) (b : Int) = 0 := by
  unfold rd ones
  rw [Int.toNat_natCast, List.getD_eq_getElem?_getD, List.getElem?_append_right (by simp), List.length_replicate, Nat.sub_self, List.getElem?_replicate, if_pos (by omega)]
  rfl

theorem ones_set (b T : Nat) (h : b < T) : (ones b T).set b 1 = ones (b + 1) T := by
  unfold ones
  obtain ⟨m, hm⟩ : ∃ m, T - b = m + 1 := ⟨T - b - 1, by omega⟩
  rw [List.set_append_right _ _ (by simp), List.length_replicate, Nat.sub_self, hm, List.replicate_succ, List.set_cons_zero, show T - (b + 1) = m from by omega, List.replicate_succ', List.append_assoc]
  rfl

theorem ones_all (T : Nat) : ones T T = List.replicate T 1 := by
  unfold ones
  simp

theorem l3_at (T : Nat) (hT : T ≤ 1000) (d : Nat) : ∀ (k : Nat) (i : Int), 0 ≤ i → (T : Int) - i ≤ d → d < k → estoverslaw27_InodeApart.l3 k (List.replicate T 1) (T : Int) i = some true := by
  induction d with
  | zero =>
    intro k i h0 h1 hk
    obtain ⟨k, rfl⟩ : ∃ j, k = j + 1 := ⟨k - 1, by omega⟩
    simp only [estoverslaw27_InodeApart.l3]
    rw [if_neg (by omega)]
  | succ d ih =>
    intro k i h0 h1 hk
    obtain ⟨k, rfl⟩ : ∃ j, k = j + 1 := ⟨k - 1, by omega⟩
    simp only [estoverslaw27_InodeApart.l3]
    by_cases h : i < (T : Int)
    · have e : rd (List.replicate T (1 : Int)) i = 1 := by
        unfold rd
        rw [List.getD_eq_getElem?_getD, List.getElem?_replicate, if_pos (by omega)]
        rfl
      rw [if_pos h, if_pos h0, if_pos (by rw [List.length_replicate]; omega), if_pos e, w64 (by omega) (by omega)]
      exact ih k (i + 1) (by omega) (by omega) (by omega)
    · rw [if_neg h]

theorem l2_at (c : List Int) (s : Int) (L : List Int) (T : Nat) (hT : T ≤ 1000) (i : Nat) (hi : i < L.length) (hL : L.length ≤ 10) (w : Int) (e : Nat) (he : rd L (i : Int) + w = e) (heT : e ≤ T) (n1 : Int) (d : Nat) : ∀ (k b : Nat), b + d = e →
    estoverslaw27_InodeApart.l2 (k + d + 1) c s L (ones b T) (i : Int) w (b : Int) n1 (i : Int) = estoverslaw27_InodeApart.l1 k c s L (ones e T) n1 ((i : Int) + 1) := by
  induction d with
  | zero =>
    intro k b hb
    simp only [estoverslaw27_InodeApart.l2]
    rw [if_pos (by omega), if_pos (by omega), he, w64 (x := (e : Int)) (by omega) (by omega), if_neg (by omega), w64 (by omega) (by omega), show b = e from by omega]
  | succ d ih =>
    intro k b hb
    rw [show k + (d + 1) + 1 = (k + d + 1) + 1 from by omega]
    conv => lhs; unfold estoverslaw27_InodeApart.l2
    have hl := ones_len b T (by omega)
    rw [if_pos (by omega), if_pos (by omega), he, w64 (x := (e : Int)) (by omega) (by omega), if_pos (by omega), if_neg (by omega), if_neg (by omega), if_pos (by omega), if_pos (by omega), ones_at b T (by omega), w64 (x := (b : Int) + 1) (by omega) (by omega)]
    rw [show wrap64 ((0 : Int) + 1) = 1 from w64 (by omega) (by omega), Int.toNat_natCast, ones_set b T (by omega)]
    exact ih k (b + 1) (by omega)

theorem l1_at (c : List Int) (s : Int) (hc : Caps c) (hn : c.length ≤ 4) (h0 : 0 ≤ s) (h1 : s ≤ 64) (T : Nat) (hT : (pl c s 0).getD (c.length + 1) 0 = T) (hT1 : T ≤ 200) (d : Nat) : ∀ (k i b : Nat), i + d = c.length + 1 → (pl c s 0).getD i 0 = b → 100 * d + 300 ≤ k →
    estoverslaw27_InodeApart.l1 k c s (pl c s 0) (ones b T) ((c.length : Int) + 1) (i : Int) = some true := by
  induction d with
  | zero =>
    intro k i b hi hb hk
    obtain ⟨k, rfl⟩ : ∃ j, k = j + 1 := ⟨k - 1, by omega⟩
    have e : b = T := by
      rw [show i = c.length + 1 from by omega, hT] at hb
      omega
    simp only [estoverslaw27_InodeApart.l1]
    rw [if_neg (by omega), e, ones_all, List.length_replicate]
    exact l3_at T (by omega) T k 0 (by omega) (by omega) (by omega)
  | succ d ih =>
    intro k i b hi hb hk
    obtain ⟨k, rfl⟩ : ∃ j, k = j + 1 + 1 := ⟨k - 2, by omega⟩
    have hlen := pl_len c s 0
    have eb : rd (pl c s 0) (i : Int) = b := by
      unfold rd
      rw [Int.toNat_natCast]
      exact hb
    simp only [estoverslaw27_InodeApart.l1]
    rw [if_pos (by omega)]
    by_cases h : i < c.length
    · have hci := caps_at hc i h
      have erc : rd c (i : Int) = c.getD i 0 := by
        unfold rd
        rw [Int.toNat_natCast]
      have hst := pl_step c s 0 i h
      have hbd := pl_bound c s hc (i + 1) (by omega)
      have hbdn := pl_bound c s hc c.length (by omega)
      have hlast := pl_last c s 0
      have hmono : ∀ j, j ≤ c.length → ∀ m, m ≤ j → (pl c s 0).getD m 0 ≤ (pl c s 0).getD j 0 := by
        intro j hj
        induction j with
        | zero =>
          intro m hm
          rw [show m = 0 from by omega]
          omega
        | succ j ihj =>
          intro m hm
          by_cases hmj : m = j + 1
          · rw [hmj]
            omega
          · have a1 := ihj (by omega) m (by omega)
            have a2 := pl_step c s 0 j (by omega)
            have a3 := caps_at hc j (by omega)
            omega
      have hm1 := hmono c.length (by omega) (i + 1) (by omega)
      obtain ⟨e, he⟩ := Int.eq_ofNat_of_zero_le hbd.1
      rw [if_pos (by omega), if_pos (by omega), erc, w64 (x := 1 + c.getD i 0) (by omega) (by omega)]
      simp only [estoverslaw27_InodeApart.j4]
      rw [if_pos (by omega), if_pos (by omega), eb]
      obtain ⟨q, hq⟩ : ∃ q, k = q + (e - b) + 1 := ⟨k - (e - b) - 1, by omega⟩
      rw [hq, l2_at c s (pl c s 0) T (by omega) i (by omega) (by omega) (1 + c.getD i 0) e (by omega) (by omega) _ (e - b) q b (by omega)]
      exact ih q (i + 1) e (by omega) he (by omega)
    · have ein : i = c.length := by omega
      have hbdn := pl_bound c s hc c.length (by omega)
      have hlast := pl_last c s 0
      rw [if_neg (by omega)]
      simp only [estoverslaw27_InodeApart.j4]
      subst ein
      rw [if_pos (by omega), if_pos (by omega), eb]
      obtain ⟨q, hq⟩ : ∃ q, k = q + (T - b) + 1 := ⟨k - (T - b) - 1, by omega⟩
      rw [hq, l2_at c s (pl c s 0) T (by omega) c.length (by omega) (by omega) s T (by omega) (by omega) _ (T - b) q b (by omega)]
      exact ih q (c.length + 1) T (by omega) hT (by omega)

def cap (f : Int) : Int := 1 + f % 16

theorem l0_at (l : List Int) (a : Int) (hb : Bytes l) (hl : l.length ≤ 4) (d : Nat) : ∀ (k : Nat) (i : Int) (acc : List Int), 0 ≤ i → (l.length : Int) - i = d → acc.length ≤ i →
    estoverslaw27_InodeApart.l0 (k + d) a acc l (l.length : Int) i = estoverslaw27_InodeApart.l0 k a (acc ++ (l.drop i.toNat).map cap) l (l.length : Int) (l.length : Int) := by
  induction d with
  | zero =>
    intro k i acc h0 h1 h2
    rw [List.drop_of_length_le (by omega), show i = (l.length : Int) from by omega]
    simp
  | succ d ih =>
    intro k i acc h0 h1 h2
    rw [show k + (d + 1) = (k + d) + 1 from by omega]
    have hi : i.toNat < l.length := by omega
    have e1 := rd_get l i hi
    have hr := rd_byte hb i
    have ec : wrap64 (1 + wrap64 (Int.tmod (rd l i) 16)) = cap (rd l i) := by
      rw [Int.tmod_eq_emod_of_nonneg (by omega), w64 (x := rd l i % 16) (by omega) (by omega), w64 (by omega) (by omega)]
      rfl
    rw [List.drop_eq_getElem_cons hi, ← e1]
    conv => lhs; unfold estoverslaw27_InodeApart.l0
    rw [if_pos (by omega), if_pos h0, if_pos (by omega), if_pos (by omega), ec, w64 (x := i + 1) (by omega) (by omega)]
    rw [ih k (i + 1) (acc ++ [cap (rd l i)]) (by omega) (by omega) (by simp only [List.length_append, List.length_cons, List.length_nil]; omega), show (i + 1).toNat = i.toNat + 1 from by omega]
    simp

theorem ends_at (c P : List Int) (s : Int) (T : Nat) (k : Nat) (hlen : P.length = c.length + 2) (hn : c.length ≤ 4) (eT : rd P ((c.length : Int) + 1) = T) (hT : T ≤ 200)
    (h : estoverslaw27_InodeApart.l1 k c s P (ones 0 T) ((c.length : Int) + 1) 0 = some true) :
    estoverslaw27_InodeApart.j2 (k + 1) c s P (decide (rd P (wrap64 ((P.length : Int) - 1)) > 200)) = some true := by
  have ew : wrap64 ((P.length : Int) - 1) = (c.length : Int) + 1 := by
    rw [w64 (by omega) (by omega)]
    omega
  have etk : ((P.take ((c.length : Int) + 1).toNat).length : Int) = (c.length : Int) + 1 := by
    rw [List.length_take]
    omega
  have e0 : (T : Int).toNat = T := Int.toNat_natCast T
  have p1 : (0 : Int) ≤ (c.length : Int) + 1 := by omega
  have p2 : (c.length : Int) + 1 < (P.length : Int) := by omega
  have p3 : (c.length : Int) + 1 ≤ (P.length : Int) := by omega
  have p4 : (0 : Int) ≤ (T : Int) := by omega
  have p5 : T ≤ 35184372088832 := by omega
  have p6 : ¬ ((T : Int) > 200) := by omega
  rw [ew, eT, decide_eq_false p6]
  simp only [estoverslaw27_InodeApart.j2]
  rw [if_neg (by decide), ew, if_pos p1, if_pos p2, eT, if_pos p4, e0, if_pos p5, if_pos p3, etk]
  exact h

theorem exit_at (c l : List Int) (a : Int) (hcaps : Caps c) (hn : c.length ≤ 4) (h0 : 0 ≤ a) (h1 : a ≤ 255) (k : Nat) (hk : 900 ≤ k) :
    estoverslaw27_InodeApart.l0 (k + 2) a c l (l.length : Int) (l.length : Int) = some true := by
  obtain ⟨s, hs⟩ : ∃ s, s = a % 65 := ⟨_, rfl⟩
  have s0 : 0 ≤ s := by omega
  have s1 : s ≤ 64 := by omega
  have es : Int.tmod (wrap64 a) 65 = s := by
    rw [w64 (by omega) (by omega), Int.tmod_eq_emod_of_nonneg (by omega), hs]
  have el : layf c s = (pl c s 0, 0) := by
    unfold layf
    rw [if_neg (by omega), layR_pl c s [] 0 hcaps (by omega) (by omega)]
    rfl
  have ef := layout_f (k + 1) (by omega) c s (by omega) (by omega)
  rw [el] at ef
  have hlen := pl_len c s 0
  have hbd := pl_bound c s hcaps c.length (by omega)
  have hlast := pl_last c s 0
  have hz := pl_zero c s 0
  obtain ⟨T, hT⟩ := Int.eq_ofNat_of_zero_le (show 0 ≤ (pl c s 0).getD (c.length + 1) 0 by omega)
  have hT1 : T ≤ 200 := by omega
  have h := l1_at c s hcaps (by omega) (by omega) (by omega) T hT hT1 (c.length + 1) k 0 0 (by omega) hz (by omega)
  have eT : rd (pl c s 0) ((c.length : Int) + 1) = T := by
    unfold rd
    rw [show ((c.length : Int) + 1).toNat = c.length + 1 from by omega]
    exact hT
  clear hbd hlast hz hT
  generalize pl c s 0 = P at *
  have h2 := ends_at c P s T k hlen hn eT hT1 h
  have ew2 : wrap64 ((c.length : Int) + 2) = (P.length : Int) := by
    rw [w64 (by omega) (by omega)]
    omega
  have p0 : ¬ ((l.length : Int) < (l.length : Int)) := by omega
  have ew : wrap64 ((P.length : Int) - 1) = (c.length : Int) + 1 := by
    rw [w64 (by omega) (by omega)]
    omega
  have p1 : (0 : Int) ≤ wrap64 ((P.length : Int) - 1) := by omega
  have p2 : wrap64 ((P.length : Int) - 1) < (P.length : Int) := by omega
  have p3 : ¬ (rd P (wrap64 ((P.length : Int) - 1)) < 0) := by
    rw [ew, eT]
    omega
  simp only [estoverslaw27_InodeApart.l0]
  rw [if_neg p0, es, ef, Option.bind_some]
  dsimp only
  rw [if_pos rfl, ew2, if_pos rfl, if_pos p1, if_pos p2, if_neg p3]
  exact h2

theorem InodeApart : estoverslaw27_InodeApart.Pure := by
  intro l a _ _ hb ha
  have hb' : Bytes l := fun x hx => bounds_u8 (hb x hx)
  have ha' := bounds_u8 ha
  clear hb ha
  by_cases h : (l.length : Int) > 4
  · refine ⟨100, ?_⟩
    unfold estoverslaw27_InodeApart.f
    rw [awake_all 100 (by decide)]
    simp only [Option.bind_some, if_true]
    rw [decide_eq_true h]
    simp only [estoverslaw27_InodeApart.j0]
    rw [if_pos trivial, awake_all 99 (by decide)]
    rfl
  · refine ⟨(1000 + 2) + l.length + 1, ?_⟩
    have hcaps : Caps (l.map cap) := by
      intro x hx
      obtain ⟨f, hf, rfl⟩ := List.mem_map.1 hx
      have := hb' f hf
      unfold cap
      omega
    have hcl : (l.map cap).length ≤ 4 := by
      rw [List.length_map]
      omega
    have h0 := l0_at l a hb' (by omega) l.length (1000 + 2) 0 [] (by omega) (by omega) (by simp)
    have h1 := exit_at (l.map cap) l a hcaps hcl ha'.1 ha'.2 1000 (by omega)
    have e : ([] : List Int) ++ (l.drop (0 : Int).toNat).map cap = l.map cap := by simp
    rw [e, h1] at h0
    have hw := awake_all ((1000 + 2) + l.length + 1) (by omega)
    unfold estoverslaw27_InodeApart.f
    rw [hw]
    simp only [Option.bind_some, if_true]
    rw [decide_eq_false h]
    simp only [estoverslaw27_InodeApart.j0]
    rw [if_neg (by decide)]
    exact h0

end Go.Proofs.Ytnkopggkapdceaa.Pure
