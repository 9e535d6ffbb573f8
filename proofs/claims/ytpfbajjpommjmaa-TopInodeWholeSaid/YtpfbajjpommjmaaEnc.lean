/- What is proved: a call of inode.Encode with any two ints returns the block that encf names, in memory of its own, and leaves all that was there as it was. No condition. -/
import Derived.Test.YtpfbajjpommjmaaTopx0
import Derived.Test.YtpfbajjpommjmaaTopx1
import Derived.Test.YtpfbajjpommjmaaTopx2
import Derived.LoopTactic
import Derived.Lib.Hide
import Derived.Lib.SlBuf
import Derived.Lib.BufferWrite
import Derived.Deep.WholeRow
namespace Go.Proofs.Ytpfbajjpommjmaa.Hand
open Go.RowKit Go.Proofs.YtpfbajjpommjmaaW.PrintWords Go.Proofs.YtpfbajjpommjmaaW.PrintLast Go.Proofs.YtpfbajjpommjmaaW.PrintMore Go.Proofs.Ytpfbajjpommjmaa.Top
set_option linter.unusedVariables false
set_option linter.unusedSimpArgs false

def chk (n m : Int) : Int := (298 + n + m % 256 + m / 256) % 251
def encL (n m : Int) : List Int := [73, 78, 79, 68, n, m % 256, m / 256, chk n m, 0, 0, 0, 0, 0, 0, 0, 0, 0, 0, 0, 0, 0, 0, 0, 0, 0, 0, 0, 0, 0, 0, 0, 0]
def encf (n m : Int) : List Int × Int :=
  if n < 0 ∨ 16 < n then ([], 2) else if m < 0 ∨ 2 ^ n.toNat ≤ m then ([], 3) else (encL n m, 0)

theorem pow_le {n : Int} (h0 : 0 ≤ n) (h1 : n ≤ 16) : (1 : Int) ≤ 2 ^ n.toNat ∧ (2 : Int) ^ n.toNat ≤ 65536 := by
  obtain ⟨k, rfl⟩ := Int.eq_ofNat_of_zero_le h0
  have hk : k ≤ 16 := by omega
  rw [Int.toNat_natCast]
  have e : (2 : Int) ^ k = ((2 ^ k : Nat) : Int) := by rw [Int.natCast_pow]; rfl
  have a1 := Nat.one_le_two_pow (n := k)
  have a2 : 2 ^ k ≤ 65536 := Nat.le_trans (Nat.pow_le_pow_right (by decide) hk) (by decide)
  rw [e]
  omega

theorem shl_one {n : Int} (h0 : 0 ≤ n) (h1 : n ≤ 16) : shl .i64 1 n = 2 ^ n.toNat := by
  have hp := pow_le h0 h1
  have e : min n.toNat (IntKind.bits .i64) = n.toNat := by
    have : IntKind.bits .i64 = 64 := rfl
    omega
  unfold shl
  rw [e, Int.one_mul, i64_w]
  unfold wrap64
  omega

theorem mask_f (m n : Int) (h0 : 0 ≤ n) (h1 : n ≤ 16) : inode_mask.f m n = some (decide (¬ (m < 0 ∨ 2 ^ n.toNat ≤ m))) := by
  unfold inode_mask.f
  rw [shl_one h0 h1]
  by_cases h : m ≥ 0
  · rw [if_pos h, if_pos h0]
    congr 1
    by_cases h2 : m < 2 ^ n.toNat
    · rw [decide_eq_true h2, decide_eq_true (by omega)]
    · rw [decide_eq_false h2, decide_eq_false (by omega)]
  · rw [if_neg h, decide_eq_false (by omega)]

theorem size_f (n : Int) : inode_size.f n = some (decide (¬ (n < 0 ∨ 16 < n))) := by
  unfold inode_size.f
  by_cases h : n ≥ 0
  · rw [if_pos h]
    congr 1
    by_cases h2 : n ≤ 16
    · rw [decide_eq_true h2, decide_eq_true (by omega)]
    · rw [decide_eq_false h2, decide_eq_false (by omega)]
  · rw [if_neg h, decide_eq_false (by omega)]

def Bs (x y z u n a b c : Int) : Array Value := #[.int .u8 x, .int .u8 y, .int .u8 z, .int .u8 u, .int .u8 n, .int .u8 a, .int .u8 b, .int .u8 c, .int .u8 0, .int .u8 0, .int .u8 0, .int .u8 0, .int .u8 0, .int .u8 0, .int .u8 0, .int .u8 0, .int .u8 0, .int .u8 0, .int .u8 0, .int .u8 0, .int .u8 0, .int .u8 0, .int .u8 0, .int .u8 0, .int .u8 0, .int .u8 0, .int .u8 0, .int .u8 0, .int .u8 0, .int .u8 0, .int .u8 0, .int .u8 0]

def sumk (n a b : Int) : Nat → Int
  | 0 => 0
  | 1 => 73
  | 2 => 151
  | 3 => 230
  | 4 => 298
  | 5 => 298 + n
  | 6 => 298 + n + a
  | _ => 298 + n + a + b

theorem make32 (w : World) : (Instr.makeSlice 25 (.int .i64 32) (.int .i64 32)).run Try.prog w = .ok (.slice (some ⟨w.heap.size, 0, none⟩) 32 32) (w.alloc (.cells (Bs 0 0 0 0 0 0 0 0) 5)) := by kernel_rfl

theorem copy4 (w : World) (ty : TypeId) : (Builtin.copy_ #[25, 9] ty #[.slice (some ⟨w.heap.size, 0, none⟩) 32 32, .string ⟨#[73, 78, 79, 68]⟩]).run Try.prog (w.alloc (.cells (Bs 0 0 0 0 0 0 0 0) 5)) = .ok (goInt 4) (w.alloc (.cells (Bs 73 78 79 68 0 0 0 0) 5)) := by
  have h := Lib.run_copy_row_string (P := Try.prog) (w.alloc (.cells (Bs 0 0 0 0 0 0 0 0) 5)) 25 9 ty 5 w.heap.size 0 32 32 ⟨#[73, 78, 79, 68]⟩ (Bs 0 0 0 0 0 0 0 0) 5 Try.underlying25 (by kernel_rfl) (by show (w.heap.push _)[w.heap.size]? = _; simp) (by decide) (by decide)
  rw [h, World.setRow_alloc_new]
  rfl

theorem row_R (W : World) (base : Nat) (hb : base ≤ W.heap.size) (n a b c : Int) :
    Kd.R (Kd.int .u8) 5 (W.alloc (.cells #[.int .u8 73, .int .u8 78, .int .u8 79, .int .u8 68, .int .u8 n, .int .u8 a, .int .u8 b, .int .u8 c, .int .u8 0, .int .u8 0, .int .u8 0, .int .u8 0, .int .u8 0, .int .u8 0, .int .u8 0, .int .u8 0, .int .u8 0, .int .u8 0, .int .u8 0, .int .u8 0, .int .u8 0, .int .u8 0, .int .u8 0, .int .u8 0, .int .u8 0, .int .u8 0, .int .u8 0, .int .u8 0, .int .u8 0, .int .u8 0, .int .u8 0, .int .u8 0] 5)) base (fun _ => True) (.slice (some ⟨W.heap.size, 0, none⟩) 32 32)
      [73, 78, 79, 68, n, a, b, c, 0, 0, 0, 0, 0, 0, 0, 0, 0, 0, 0, 0, 0, 0, 0, 0, 0, 0, 0, 0, 0, 0, 0, 0] :=
  Kd.R_of_own (World.ownsRow_lit (base := base) (e := 5) (size := 1) W _ 32 hb (by decide) rfl) (fun _ _ => trivial)

set_option maxHeartbeats 800000 in
set_option maxRecDepth 100000 in
theorem encode_size (n m : Int) (w : World) (h : n < 0 ∨ 16 < n) :
    Calls Try.prog 12 #[.int .i64 n, .int .i64 m] w fun e w' => e = .returned (.tuple #[.slice none 0 0, .int .i64 2]) ∧ Below w.heap.size w w' := by
  have hf : inode_size.f n = some false := by rw [size_f, decide_eq_false (by omega)]
  go_enter Try.func12, Try.ntmps12
  go_wp2_with (go_at_call 23; (with_reducible refine (inode_size.calls n false _ hf).mono ?_); rintro e w' ⟨rfl, ⟨nd, rfl⟩⟩)
  go_ret2
  exact ⟨rfl, pw_below_drewN (Below.refl _ _) _⟩

set_option maxHeartbeats 800000 in
set_option maxRecDepth 100000 in
theorem encode_mask (n m : Int) (w : World) (h0 : 0 ≤ n) (h1 : n ≤ 16) (h : m < 0 ∨ 2 ^ n.toNat ≤ m) :
    Calls Try.prog 12 #[.int .i64 n, .int .i64 m] w fun e w' => e = .returned (.tuple #[.slice none 0 0, .int .i64 3]) ∧ Below w.heap.size w w' := by
  have hf : inode_size.f n = some true := by rw [size_f, decide_eq_true (by omega)]
  have hm : inode_mask.f m n = some false := by rw [mask_f m n h0 h1, decide_eq_false (by omega)]
  go_enter Try.func12, Try.ntmps12
  go_wp2_with (first | (go_at_call 23; (with_reducible refine (inode_size.calls n true _ hf).mono ?_); rintro e w' ⟨rfl, ⟨nd, rfl⟩⟩) | (go_at_call 24; (with_reducible refine (inode_mask.calls m n false _ hm).mono ?_); rintro e w' ⟨rfl, ⟨nd2, rfl⟩⟩))
  go_ret2
  exact ⟨rfl, by repeat (first | exact Below.refl _ _ | apply pw_below_drewN)⟩

set_option maxHeartbeats 800000 in
set_option maxRecDepth 100000 in
theorem encode_ok (n m : Int) (w : World) (h0 : 0 ≤ n) (h1 : n ≤ 16) (h2 : 0 ≤ m) (h3 : m < 2 ^ n.toNat) :
    Calls Try.prog 12 #[.int .i64 n, .int .i64 m] w fun e w' => ∃ v0_ : Value, e = .returned (.tuple #[v0_, .int .i64 0]) ∧ Kd.R (Kd.int .u8) 5 w' w.heap.size (fun _ => True) v0_ (encL n m) ∧ Below w.heap.size w w' := by
  have hp := pow_le h0 h1
  have hm : inode_mask.f m n = some true := by rw [mask_f m n h0 h1, decide_eq_true (by omega)]
  have h3' : m ≤ 65535 := by omega
  clear hp h3
  have hf : inode_size.f n = some true := by rw [size_f, decide_eq_true (by omega)]
  have hmk := make32
  have hcp := fun W : World => copy4 W 3
  unfold Bs at hcp hmk
  go_enter Try.func12, Try.ntmps12
  go_wp2_with (first | (go_at_call 23; (with_reducible refine (inode_size.calls n true _ hf).mono ?_); rintro e w1 ⟨rfl, hd1⟩) | (go_at_call 24; (with_reducible refine (inode_mask.calls m n true _ hm).mono ?_); rintro e w2 ⟨rfl, hd2⟩))
  clear hcp hmk hf hm
  have hb1 := hd1.below
  have hb2 : Below w.heap.size w w2 := hb1.trans (hd2.below.mono hb1.size)
  clear hd1 hd2 hb1
  have b1 : 0 ≤ m % 256 := by omega
  have b2 : m % 256 ≤ 255 := by omega
  have b3 : 0 ≤ m / 256 := by omega
  have b4 : m / 256 ≤ 255 := by omega
  generalize ha : m % 256 = a at *
  generalize hb : m / 256 = b at *
  have HA := Lib.hid ha
  have HB := Lib.hid hb
  clear ha hb
  go_loop [7, 36] (fun s i => ∃ k : Nat, k ≤ 7 ∧ i = .int .i64 k ∧ s = .int .i64 (sumk n a b k)) (fun _ i => 7 - (intOf i).toNat)
  case atStart => exact ⟨0, by omega, rfl, rfl⟩
  case round =>
    obtain ⟨k, hk, rfl, rfl⟩ := hrel
    rcases (by omega : k = 7 ∨ k = 0 ∨ k = 1 ∨ k = 2 ∨ k = 3 ∨ k = 4 ∨ k = 5 ∨ k = 6) with rfl | rfl | rfl | rfl | rfl | rfl | rfl | rfl
    · simp only [sumk]
      go_wp2
      go_ret2
      refine ⟨_, rfl, ?_, ?_⟩
      · have e : encL n m = [73, 78, 79, 68, n, a, b, (298 + n + a + b) % 251, 0, 0, 0, 0, 0, 0, 0, 0, 0, 0, 0, 0, 0, 0, 0, 0, 0, 0, 0, 0, 0, 0, 0, 0] := by
          unfold encL chk
          rw [HA.out, HB.out]
        rw [e]
        exact row_R w2 w.heap.size hb2.size n a b _
      · exact below_alloc hb2 _
    all_goals
      simp only [sumk]
      go_wp2
      first
      | exact ⟨⟨1, by omega, rfl, rfl⟩, by simp [intOf]⟩
      | exact ⟨⟨2, by omega, rfl, rfl⟩, by simp [intOf]⟩
      | exact ⟨⟨3, by omega, rfl, rfl⟩, by simp [intOf]⟩
      | exact ⟨⟨4, by omega, rfl, rfl⟩, by simp [intOf]⟩
      | exact ⟨⟨5, by omega, rfl, rfl⟩, by simp [intOf]⟩
      | exact ⟨⟨6, by omega, rfl, rfl⟩, by simp [intOf]⟩
      | exact ⟨⟨7, by omega, rfl, rfl⟩, by simp [intOf]⟩

theorem encode_any (n m : Int) (r1 : List Int) (r2 : Int) (w : World) (h : encf n m = (r1, r2)) :
    Calls Try.prog 12 #[.int .i64 n, .int .i64 m] w fun e w' => ∃ v0_ : Value, e = .returned (.tuple #[v0_, .int .i64 r2]) ∧ Kd.R (Kd.int .u8) 5 w' w.heap.size (fun _ => True) v0_ r1 ∧ Below w.heap.size w w' := by
  unfold encf at h
  by_cases h1 : n < 0 ∨ 16 < n
  · rw [if_pos h1] at h
    cases h
    exact (encode_size n m w h1).mono fun e w' ⟨he, hb⟩ => ⟨_, he, Kd.R_nil _ _ _ _ _, hb⟩
  · rw [if_neg h1] at h
    by_cases h2 : m < 0 ∨ 2 ^ n.toNat ≤ m
    · rw [if_pos h2] at h
      cases h
      exact (encode_mask n m w (by omega) (by omega) h2).mono fun e w' ⟨he, hb⟩ => ⟨_, he, Kd.R_nil _ _ _ _ _, hb⟩
    · rw [if_neg h2] at h
      cases h
      exact encode_ok n m w (by omega) (by omega) (by omega) (by omega)

end Go.Proofs.Ytpfbajjpommjmaa.Hand
