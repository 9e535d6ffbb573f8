/- What is proved: what Check, request, clone, New, Durable, Decode and inodeOf answer at the devices that the law makes. Conditions: as each theorem says. -/
import Derived.Test.YtpfbajjpommjmaaTopx4
import Derived.Test.YtpfbajjpommjmaaTopx6
import Derived.Test.YtpfbajjpommjmaaTopx7
import Derived.Test.YtpfbajjpommjmaaTopx9
import Derived.Test.YtpfbajjpommjmaaTopx10
import Derived.Test.YtpfbajjpommjmaaTopx12
import Derived.Test.YtpfbajjpommjmaaTopx13
namespace Go.Proofs.Ytpfbajjpommjmaa.Hand
open Go.RowKit Go.Proofs.YtpfbajjpommjmaaW.PrintWords Go.Proofs.YtpfbajjpommjmaaW.PrintLast Go.Proofs.YtpfbajjpommjmaaW.PrintMore Go.Proofs.Ytpfbajjpommjmaa.Top
set_option linter.unusedVariables false
set_option linter.unusedSimpArgs false

theorem w64 {x : Int} (h0 : -9223372036854775808 ≤ x) (h1 : x ≤ 9223372036854775807) : wrap64 x = x := by
  unfold wrap64
  omega
theorem w01 : wrap64 (0 + 1) = 1 := w64 (by decide) (by decide)
theorem u64w {x : Int} (h0 : 0 ≤ x) (h1 : x ≤ 9223372036854775807) : IntKind.u64.wrap x = x := by
  unfold IntKind.wrap
  simp [IntKind.bits, IntKind.signed]
  omega
theorem encf_good {n m : Int} (h0 : 0 ≤ n) (h1 : n ≤ 16) (h2 : 0 ≤ m) (h3 : m < 2 ^ n.toNat) : encf n m = (encL n m, 0) := by
  unfold encf
  rw [if_neg (by omega), if_neg (by omega)]
theorem equal_self (l : List Int) : bytes_Equal.f l l = some true := by
  unfold bytes_Equal.f
  rw [beq_self_eq_true]

theorem decode_enc {n m : Int} (h0 : 0 ≤ n) (h1 : n ≤ 16) (h2 : 0 ≤ m) (h3 : m < 2 ^ n.toNat) : inode_Decode.f (encL n m) = some (n, m, 0) := by
  have hp := pow_le h0 h1
  have e4 : rd (encL n m) 4 = n := rfl
  have e5 : rd (encL n m) 5 = m % 256 := rfl
  have e6 : rd (encL n m) 6 = m / 256 := rfl
  have hl : (encL n m).length = 32 := rfl
  unfold inode_Decode.f
  rw [hl, if_pos (by decide), if_pos (by decide), if_pos (by decide), if_pos (by decide), e4, e5, e6]
  have q1 : wrap64 n = n := w64 (by omega) (by omega)
  have q2 : wrap64 (m % 256) = m % 256 := w64 (by omega) (by omega)
  have q3 : wrap64 (m / 256) = m / 256 := w64 (by omega) (by omega)
  have q4 : wrap64 (m / 256 * 256) = m / 256 * 256 := w64 (by omega) (by omega)
  have q5 : m % 256 + m / 256 * 256 = m := by omega
  have q6 : wrap64 m = m := w64 (by omega) (by omega)
  rw [q1, q2, q3, q4, q5, q6]
  unfold inode_Encode.f
  rw [encf_good h0 h1 h2 h3, Option.bind_some, if_pos rfl, equal_self, Option.bind_some, if_pos rfl]

theorem inodeOf_f (a b : Int) (ha0 : 0 ≤ a) (ha1 : a ≤ 255) (hb0 : 0 ≤ b) (hb1 : b ≤ 65535) : ∃ n m, 0 ≤ n ∧ n ≤ 16 ∧ 0 ≤ m ∧ m < 2 ^ n.toNat ∧ estoverstop_inodeOf.f a b = some (encL n m, n, m) := by
  unfold estoverstop_inodeOf.f
  have en : wrap64 (Int.tmod a 17) = a % 17 := by
    rw [Int.tmod_eq_emod_of_nonneg (by omega)]
    exact w64 (by omega) (by omega)
  rw [en]
  obtain ⟨n, hn⟩ : ∃ n, n = a % 17 := ⟨_, rfl⟩
  rw [← hn]
  have h0 : 0 ≤ n := by omega
  have h1 : n ≤ 16 := by omega
  have hp := pow_le h0 h1
  rw [u64w h0 (by omega), shl_one h0 h1, w64 (x := b) (by omega) (by omega), Int.tmod_eq_emod_of_nonneg (by omega)]
  have m0 : 0 ≤ b % 2 ^ n.toNat := Int.emod_nonneg _ (by omega)
  have m1 : b % 2 ^ n.toNat < 2 ^ n.toNat := Int.emod_lt_of_pos _ (by omega)
  generalize b % 2 ^ n.toNat = m at *
  refine ⟨n, m, h0, h1, m0, m1, ?_⟩
  rw [if_pos h0, if_neg (by omega)]
  unfold inode_Encode.f
  rw [Option.bind_some, encf_good h0 h1 m0 m1]

/-- A block of 32 bytes. -/
def Bl (x : List Int) : Prop := x.length = 32
/-- A request that is a write of a block, or a flush. -/
def Rq (p : S43) : Prop := (p.f1 = 2 ∧ p.f2 = 0 ∧ p.f3.length = 32) ∨ (p.f1 = 3 ∧ p.f2 = 0 ∧ p.f3 = [])

theorem page_f (x : List Int) (h : x.length = 32) : device_page.f x = some true := by
  unfold device_page.f
  rw [h]
  rfl

theorem request_f (k : Nat) (d n i : Int) (x : List Int) (ca : List S60) (qu : List S43) (p : S43) (h : Rq p) (hk : 5 ≤ k) : device_request.f k d n [x] ca qu i p.f1 p.f2 p.f3 = some 0 := by
  obtain ⟨k, rfl⟩ : ∃ j, k = j + 2 := ⟨k - 2, by omega⟩
  unfold device_request.f
  rcases h with ⟨h1, h2, h3⟩ | ⟨h1, h2, h3⟩
  · rw [h1, h2, if_neg (by decide), show ((2 : Int) == 2) = true from rfl]
    rw [device_request.j0, if_pos rfl, if_neg (by decide)]
    rw [show decide ((0 : Int) ≥ (([x] : List (List Int)).length : Int)) = false from rfl, device_request.j1, if_neg (by decide), if_pos rfl, page_f _ h3, Option.bind_some, if_pos rfl]
  · rw [h1, h2, h3, if_neg (by decide), show ((3 : Int) == 2) = false from rfl]
    rw [device_request.j0, if_neg (by decide), if_pos rfl, if_pos rfl, if_neg (by decide), if_pos (by simp)]

/-- What holds of the queue. -/
structure GQ (n : Int) (qu : List S43) : Prop where
  rq : ∀ i, i < qu.length → Rq (qu.getD i z43) ∧ 0 ≤ (qu.getD i z43).f0 ∧ (qu.getD i z43).f0 < n
  lt : ∀ i j, i < j → j < qu.length → (qu.getD i z43).f0 < (qu.getD j z43).f0

/-- What holds of the cache. -/
def GC (ca : List S60) : Prop := ca = [] ∨ ∃ y, ca = [⟨0, y⟩] ∧ y.length = 32

theorem rd_nat (qu : List S43) (i : Nat) : rd_T43 qu (i : Int) = qu.getD i z43 := by
  unfold rd_T43
  rw [Int.toNat_natCast]

theorem check_l3 (d n : Int) (x : List Int) (ca : List S60) (qu : List S43) (hq : GQ n qu) (hql : qu.length ≤ 100) : ∀ (m k i : Nat) (last : Int), i + m = qu.length → m + 10 ≤ k → (∀ j, i ≤ j → j < qu.length → last < (qu.getD j z43).f0) →
    device_Check.l3 k last qu (qu.length : Int) (i : Int) d n [x] ca qu = some 0
  | 0, k, i, last, hi, hk, hlast => by
    obtain ⟨k, rfl⟩ : ∃ j, k = j + 1 := ⟨k - 1, by omega⟩
    rw [device_Check.l3, if_neg (by omega)]
  | m + 1, k, i, last, hi, hk, hlast => by
    obtain ⟨k, rfl⟩ : ∃ j, k = j + 1 := ⟨k - 1, by omega⟩
    have hr := hq.rq i (by omega)
    have h1 := hlast i (Nat.le_refl _) (by omega)
    rw [device_Check.l3, if_pos (by omega), if_pos (by omega), if_pos (by omega), rd_nat, request_f k d n _ x ca qu _ hr.1 (by omega), Option.bind_some, if_pos rfl, if_neg (by omega), if_neg (by have := hr.2.2; omega)]
    rw [w64 (x := (i : Int) + 1) (by omega) (by omega), show (i : Int) + 1 = ((i + 1 : Nat) : Int) from rfl]
    exact check_l3 d n x ca qu hq hql m k (i + 1) _ (by omega) (by omega) (fun j hj hjl => hq.lt i j (by omega) hjl)

theorem check_f (k : Nat) (d n : Int) (x : List Int) (ca : List S60) (qu : List S43) (hk : 150 ≤ k) (hd : 1 ≤ d) (hd2 : d ≤ 16) (hn0 : 0 ≤ n) (hn : n ≤ 1000) (hx : x.length = 32) (hc : GC ca) (hq : GQ n qu) (hl : (qu.length : Int) ≤ d) : device_Check.f k d n [x] ca qu = some 0 := by
  have last : ∀ k, 140 ≤ k → device_Check.l2 k ca (ca.length : Int) 0 d n [x] ca qu = some 0 := by
    intro k hk
    have fin : ∀ k, 120 ≤ k → (if (qu.length : Int) > d then (some 8 : Option Int) else (device_Check.l3 k (-1) qu (qu.length : Int) 0 d n [x] ca qu)) = some 0 := by
      intro k hk
      rw [if_neg (by omega)]
      exact check_l3 d n x ca qu hq (by omega) qu.length k 0 (-1) (by omega) (by omega) (fun j _ hj => by have := (hq.rq j hj).2.1; omega)
    rcases hc with rfl | ⟨y, rfl, hy⟩
    · obtain ⟨k, rfl⟩ : ∃ j, k = j + 1 := ⟨k - 1, by omega⟩
      rw [device_Check.l2, if_neg (by decide)]
      exact fin k (by omega)
    · obtain ⟨k, rfl⟩ : ∃ j, k = j + 2 := ⟨k - 2, by omega⟩
      rw [device_Check.l2, if_pos (by simp), if_pos (by decide), if_pos (by simp), show (rd_T60 [⟨0, y⟩] 0).f1 = y from rfl, page_f y hy, Option.bind_some, if_pos rfl, w01, device_Check.l2, if_neg (by simp)]
      exact fin k (by omega)
  have l1 : ∀ k, 145 ≤ k → device_Check.l1 k (-1) ca (ca.length : Int) 0 d n [x] ca qu = some 0 := by
    intro k hk
    have hc' := hc
    rcases hc' with h | ⟨y, h, hy⟩
    · obtain ⟨k, rfl⟩ : ∃ j, k = j + 1 := ⟨k - 1, by omega⟩
      rw [device_Check.l1, if_neg (by rw [h]; decide)]
      exact last k (by omega)
    · obtain ⟨k, rfl⟩ : ∃ j, k = j + 2 := ⟨k - 2, by omega⟩
      have e0 : (rd_T60 ca 0).f0 = 0 := by rw [h]; rfl
      rw [device_Check.l1, if_pos (by rw [h]; simp), if_pos (by decide), if_pos (by rw [h]; simp), e0, if_neg (by decide), if_neg (show ¬ (0 : Int) ≥ (([x] : List (List Int)).length : Int) by simp), w01, device_Check.l1, if_neg (by rw [h]; simp)]
      exact last k (by omega)
  unfold device_Check.f
  obtain ⟨k, rfl⟩ : ∃ j, k = j + 3 := ⟨k - 3, by omega⟩
  rw [if_neg (by omega), if_neg (by omega), if_neg (by omega), if_neg (by omega), if_neg (show ¬ (([x] : List (List Int)).length : Int) < 1 by simp)]
  rw [show decide ((([x] : List (List Int)).length : Int) > 256) = false from rfl, device_Check.j0, if_neg (by decide)]
  rw [device_Check.l0, if_pos (by simp), if_pos (by decide), if_pos (by simp), show rd_L1 [x] 0 = x from rfl, page_f x hx, Option.bind_some, if_pos rfl, w01, device_Check.l0, if_neg (by simp)]
  exact l1 _ (by omega)

theorem clone_l2 (d n : Int) (bl : List (List Int)) (ca : List S60) (qu : List S43) (hq : ∀ i, i < qu.length → (qu.getD i z43).f3.length ≤ 1000) (hql : qu.length ≤ 100) : ∀ (m k i : Nat), i + m = qu.length → m + 1 ≤ k →
    device_clone.l2 k qu (qu.length : Int) (i : Int) d n bl ca (qu.take i) = some (d, n, bl, ca, qu)
  | 0, k, i, hi, hk => by
    obtain ⟨k, rfl⟩ : ∃ j, k = j + 1 := ⟨k - 1, by omega⟩
    rw [device_clone.l2, if_neg (by omega), List.take_of_length_le (by omega)]
  | m + 1, k, i, hi, hk => by
    obtain ⟨k, rfl⟩ : ∃ j, k = j + 1 := ⟨k - 1, by omega⟩
    have hr := hq i (by omega)
    rw [device_clone.l2, if_pos (by omega), if_pos (by omega), if_pos (by omega), rd_nat]
    rw [show bytes_Clone.f (qu.getD i z43).f3 = some (qu.getD i z43).f3 from if_pos (by omega), Option.bind_some, if_pos (by rw [List.length_take]; omega)]
    rw [w64 (x := (i : Int) + 1) (by omega) (by omega), show (i : Int) + 1 = ((i + 1 : Nat) : Int) from rfl]
    have e : qu.take i ++ [(⟨(qu.getD i z43).f0, (qu.getD i z43).f1, (qu.getD i z43).f2, (qu.getD i z43).f3⟩ : S43)] = qu.take (i + 1) := by
      have hi2 : i < qu.length := by omega
      rw [List.take_succ_eq_append_getElem hi2, List.getD_eq_getElem?_getD, List.getElem?_eq_getElem hi2]
      rfl
    rw [e]
    exact clone_l2 d n bl ca qu hq hql m k (i + 1) (by omega) (by omega)

theorem rq_len {p : S43} (h : Rq p) : p.f3.length ≤ 1000 := by
  rcases h with ⟨_, _, h⟩ | ⟨_, _, h⟩ <;> rw [h]
  · decide
  · decide

theorem clone_f (k : Nat) (d n : Int) (x : List Int) (ca : List S60) (qu : List S43) (hk : 150 ≤ k) (hx : x.length = 32) (hc : GC ca) (hq : GQ n qu) (hl : qu.length ≤ 100) : device_clone.f k d n [x] ca qu = some (d, n, [x], ca, qu) := by
  have fin : ∀ k, 120 ≤ k → device_clone.l2 k qu (qu.length : Int) 0 d n [x] ca ([] : List S43) = some (d, n, [x], ca, qu) := fun k hk => clone_l2 d n [x] ca qu (fun i hi => rq_len (hq.rq i hi).1) hl qu.length k 0 (by omega) (by omega)
  have l1 : ∀ k, 140 ≤ k → device_clone.l1 k ca (ca.length : Int) 0 d n [x] ca qu d n [x] ([] : List S60) = some (d, n, [x], ca, qu) := by
    intro k hk
    rcases hc with rfl | ⟨y, rfl, hy⟩
    · obtain ⟨k, rfl⟩ : ∃ j, k = j + 1 := ⟨k - 1, by omega⟩
      rw [device_clone.l1, if_neg (by simp)]
      exact fin k (by omega)
    · obtain ⟨k, rfl⟩ : ∃ j, k = j + 2 := ⟨k - 2, by omega⟩
      rw [device_clone.l1, if_pos (by simp), if_pos (by decide), if_pos (by simp), show rd_T60 [⟨0, y⟩] 0 = ⟨0, y⟩ from rfl]
      rw [show bytes_Clone.f (⟨0, y⟩ : S60).f1 = some y from if_pos (by show y.length ≤ _; omega), Option.bind_some, if_pos (by decide), w01, device_clone.l1, if_neg (by simp)]
      exact fin k (by omega)
  unfold device_clone.f
  obtain ⟨k, rfl⟩ : ∃ j, k = j + 2 := ⟨k - 2, by omega⟩
  rw [device_clone.l0, if_pos (by simp), if_pos (by decide), if_pos (by simp), show rd_L1 [x] 0 = x from rfl]
  rw [show bytes_Clone.f x = some x from if_pos (by omega), Option.bind_some, if_pos (by decide), w01, device_clone.l0, if_neg (by simp)]
  exact l1 k (by omega)

theorem gq_nil (n : Int) : GQ n [] := ⟨fun i h => by simp at h, fun i j _ h => by simp at h⟩

theorem new_f (k : Nat) (d : Int) (x : List Int) (hk : 150 ≤ k) (hd : 1 ≤ d) (hd2 : d ≤ 16) (hx : x.length = 32) : device_New.f k d [x] = some (d, 0, [x], [], [], 0) := by
  unfold device_New.f
  rw [check_f k d 0 x [] [] hk hd hd2 (by decide) (by decide) hx (Or.inl rfl) (gq_nil 0) (by simp; omega), Option.bind_some, if_pos rfl, clone_f k d 0 x [] [] hk hx (Or.inl rfl) (gq_nil 0) (by simp), Option.bind_some]

theorem durable_f (k : Nat) (d n : Int) (x : List Int) (hk : 150 ≤ k) (hd : 1 ≤ d) (hd2 : d ≤ 16) (hn0 : 0 ≤ n) (hn : n ≤ 1000) (hx : x.length = 32) : device_Durable.f k d n [x] [] [] 0 = some x := by
  unfold device_Durable.f
  rw [check_f k d n x [] [] hk hd hd2 hn0 hn hx (Or.inl rfl) (gq_nil n) (by simp; omega), Option.bind_some, if_pos rfl, if_neg (by decide), if_neg (by simp), if_pos (by decide), if_pos (by simp), show rd_L1 [x] 0 = x from rfl]
  rw [show bytes_Clone.f x = some x from if_pos (by omega), Option.bind_some]

/-- A request laid behind the queue. -/
theorem gq_snoc {n : Int} {qu : List S43} {p : S43} (h : GQ n qu) (hr : Rq p) (h0 : p.f0 = n) (hn : 0 ≤ n) : GQ (n + 1) (qu ++ [p]) := by
  have e : ∀ i, i < qu.length → (qu ++ [p]).getD i z43 = qu.getD i z43 := by
    intro i hi
    rw [List.getD_eq_getElem?_getD, List.getElem?_append_left hi, List.getD_eq_getElem?_getD]
  have e2 : (qu ++ [p]).getD qu.length z43 = p := by simp
  refine ⟨fun i hi => ?_, fun i j hij hj => ?_⟩
  · rw [List.length_append, List.length_singleton] at hi
    rcases Nat.lt_or_ge i qu.length with h1 | h1
    · have := h.rq i h1
      rw [e i h1]
      exact ⟨this.1, this.2.1, by omega⟩
    · obtain rfl : i = qu.length := by omega
      rw [e2, h0]
      exact ⟨hr, hn, by omega⟩
  · rw [List.length_append, List.length_singleton] at hj
    rcases Nat.lt_or_ge j qu.length with h1 | h1
    · rw [e i (by omega), e j h1]
      exact h.lt i j hij h1
    · obtain rfl : j = qu.length := by omega
      rw [e2, h0, e i hij]
      exact (h.rq i hij).2.2
/-- The last request taken out. -/
theorem gq_init {n : Int} {l : List S43} {q : S43} (h : GQ n (l ++ [q])) : GQ n l := by
  have e : ∀ i, i < l.length → (l ++ [q]).getD i z43 = l.getD i z43 := by
    intro i hi
    rw [List.getD_eq_getElem?_getD, List.getElem?_append_left hi, List.getD_eq_getElem?_getD]
  refine ⟨fun i hi => ?_, fun i j hij hj => ?_⟩
  · have := h.rq i (by simp; omega)
    rwa [e i hi] at this
  · have := h.lt i j hij (by simp; omega)
    rwa [e i (by omega), e j hj] at this
theorem gq_last {n : Int} {l : List S43} {q : S43} (h : GQ n (l ++ [q])) : Rq q := by
  have := (h.rq l.length (by simp)).1
  simpa using this
end Go.Proofs.Ytpfbajjpommjmaa.Hand
