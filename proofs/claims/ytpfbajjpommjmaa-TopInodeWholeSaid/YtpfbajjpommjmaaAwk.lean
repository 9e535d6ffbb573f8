/- What is proved: awake14 answers true; inodeOf, Submit, Durable and Decode at blocks of 32 bytes. Conditions: as each theorem says. -/
import Derived.Test.YtpfbajjpommjmaaDev
namespace Go.Proofs.Ytpfbajjpommjmaa.Hand
open Go.RowKit Go.Proofs.YtpfbajjpommjmaaW.PrintWords Go.Proofs.YtpfbajjpommjmaaW.PrintLast Go.Proofs.YtpfbajjpommjmaaW.PrintMore Go.Proofs.Ytpfbajjpommjmaa.Top
set_option linter.unusedVariables false
set_option linter.unusedSimpArgs false

theorem inodeOf_at (a b n m : Int) (h : estoverstop_inodeOf.f a b = some (encL n m, n, m)) (w : World) :
    Calls Try.prog 5 #[.int .u8 a, .int .u16 b] w fun e w' => ∃ A c, e = .returned (.tuple #[.slice A 32 c, .int .i64 n, .int .i64 m]) ∧ 32 ≤ c ∧ (Kd.int .u8).C w' A 32 (encL n m) ∧ F5 w' A (encL n m) ∧ Below w.heap.size w w' := by
  refine (estoverstop_inodeOf.calls a b (encL n m) n m w h).mono ?_
  rintro e w' ⟨v, rfl, hR, hb⟩
  obtain ⟨A, c, rfl, hl, hf⟩ := F5_of_R hR
  exact ⟨A, c, rfl, hl, F5_C hf, hf, hb⟩

theorem decode_w (A : Option Addr) (c : Nat) (x : List Int) (r1 r2 r3 : Int) (w : World) (hx : x.length = 32) (hC : (Kd.int .u8).C w A 32 x) (hc : 32 ≤ c) (h : inode_Decode.f x = some (r1, r2, r3)) :
    Calls Try.prog 10 #[.slice A 32 c] w fun e w' => e = .returned (.tuple #[.int .i64 r1, .int .i64 r2, .int .i64 r3]) ∧ Below w.heap.size w w' := by
  have := inode_Decode.calls A c x r1 r2 r3 w (by rw [hx]; exact hC) (by rw [hx]; exact hc) h
  rwa [hx] at this

theorem durable_32 (d n : Int) (A2 A3 A4 : Option Addr) (c2 c3 c4 : Nat) (x : List Int) (w : World) (h2 : Kd.C (Kd.slice 5 (Kd.int .u8)) w A2 1 [x]) (l2 : 1 ≤ c2) (h3 : Kd.C k60 w A3 0 []) (h4 : Kd.C k43 w A4 0 []) (hd : 1 ≤ d) (hd2 : d ≤ 16) (hn0 : 0 ≤ n) (hn : n ≤ 1000) (hx : x.length = 32) :
    Calls Try.prog 11 #[.agg #[.int .i64 d, .int .i64 n, .slice A2 1 c2, .slice A3 0 c3, .slice A4 0 c4], .int .i64 0] w fun e w' => ∃ A c, e = .returned (.slice A 32 c) ∧ 32 ≤ c ∧ (Kd.int .u8).C w' A 32 x ∧ Below w.heap.size w w' := by
  have := durable_w d n A2 A3 A4 c2 c3 c4 x w h2 l2 h3 h4 hd hd2 hn0 hn hx
  rwa [hx] at this

theorem submit_d {w : World} {P : List Int → Prop} {n : Int} {x : List Int} {ca : List S60} {qu : List S43} {A2 A3 A4 : Option Addr} {c2 c3 c4 : Nat} (h : DevOk w P n x ca qu A2 A3 A4 c2 c3 c4) (hn : n ≤ 800) (A : Option Addr) (c : Nat) (y : List Int) (hy : (Kd.int .u8).C w A 32 y) (ly : 32 ≤ c) (hy3 : y.length = 32) (hP : P y) :
    Calls Try.prog 7 #[.agg #[.int .i64 4, .int .i64 n, .slice A2 1 c2, .slice A3 ca.length c3, .slice A4 qu.length c4], .int .i64 2, .int .i64 0, .slice A 32 c] w fun e w' => ∃ dd nn B2 B3 B4 m2 m3 m4 e2 e3 e4 id code, e = .returned (.tuple #[.agg #[.int .i64 dd, .int .i64 nn, .slice B2 m2 e2, .slice B3 m3 e3, .slice B4 m4 e4], .int .i64 id, .int .i64 code]) ∧ Res w' P (n + 1) code dd nn B2 B3 B4 m2 m3 m4 e2 e3 e4 ∧ Below w.heap.size w w' := by
  have := submit_w h hn 2 A c y (by rw [hy3]; exact hy) (by rw [hy3]; exact ly) (Or.inl ⟨rfl, hy3, hP⟩)
  rwa [hy3] at this

theorem submit_f {w : World} {P : List Int → Prop} {n : Int} {x : List Int} {ca : List S60} {qu : List S43} {A2 A3 A4 : Option Addr} {c2 c3 c4 : Nat} (h : DevOk w P n x ca qu A2 A3 A4 c2 c3 c4) (hn : n ≤ 800) :
    Calls Try.prog 7 #[.agg #[.int .i64 4, .int .i64 n, .slice A2 1 c2, .slice A3 ca.length c3, .slice A4 qu.length c4], .int .i64 3, .int .i64 0, .slice none 0 0] w fun e w' => ∃ dd nn B2 B3 B4 m2 m3 m4 e2 e3 e4 id code, e = .returned (.tuple #[.agg #[.int .i64 dd, .int .i64 nn, .slice B2 m2 e2, .slice B3 m3 e3, .slice B4 m4 e4], .int .i64 id, .int .i64 code]) ∧ Res w' P (n + 1) code dd nn B2 B3 B4 m2 m3 m4 e2 e3 e4 ∧ Below w.heap.size w w' :=
  submit_w h hn 3 none 0 [] (Kd.C_nil _ w) (Nat.zero_le _) (Or.inr ⟨rfl, rfl⟩)

theorem row_C {w1 : World} {A : Option Addr} {c : Nat} {x : List Int} (hx : x.length = 32) (hf : F5 w1 A x) (hc : 32 ≤ c) : Kd.C (Kd.slice 5 (Kd.int .u8)) (w1.alloc (.cells #[.slice A 32 c] 25)) (some ⟨w1.heap.size, 0, none⟩) 1 [x] :=
  blocks_C (blk_new w1 (.cells #[.slice A 32 c] 25)) (by rw [hx]; rfl) (by rw [hx]; exact hc) (F5_keeps hf (keeps_alloc w1 _))

theorem of35 : estoverstop_inodeOf.f 3 5 = some (encL 3 5, 3, 5) := by kernel_rfl

set_option maxHeartbeats 1000000 in
set_option maxRecDepth 100000 in
theorem awake_calls (w : World) : Calls Try.prog 4 #[] w fun e w' => e = .returned (.bool true) ∧ Below w.heap.size w w' := by
  have hu33 := Try.underlying33
  have hd := decode_enc (n := 3) (m := 5) (by decide) (by decide) (by decide) (by decide)
  have hof := of35
  have H := fun w => inodeOf_at 3 5 3 5 hof w
  have hx : Aside0 ((encL 3 5).length = 32) := ⟨rfl⟩
  generalize encL 3 5 = x at hd H hx
  clear hof
  have HD := Aside0.mk hd
  clear hd
  go_enter Try.func4, Try.ntmps4
  go_wp2_with (first
    | (go_at_call 5; (with_reducible refine (H _).mono ?_); rintro e w1 ⟨A, c, rfl, hc, hC, hf, hb⟩; have HC := Aside0.mk hc; have HF := Aside0.mk hf; have L1 := Aside0.mk hb; clear hc hC hf hb)
    | (go_at_call 6; (with_reducible refine (new_w (P := fun _ => True) (some ⟨w1.heap.size, 0, none⟩) 1 _ (row_C hx.out HF.out HC.out) (Nat.le_refl _) hx.out trivial 2 (by decide) (by decide)).mono ?_); rintro e w2 ⟨B2, B3, B4, e2, e3, e4, rfl, hD, hb⟩; have D := Aside0.mk hD; have L2 := Aside0.mk (below_step (below_alloc L1.out _) hb); clear hD hb)
    | (go_at_call 11; (with_reducible refine (durable_32 2 0 B2 B3 B4 e2 e3 e4 x _ (Kd.C_alloc (FT_C D.out.f2) _) D.out.l2 (Kd.C_alloc (FT_C D.out.f3) _) (Kd.C_alloc (FT_C D.out.f4) _) (by decide) (by decide) (by decide) (by decide) hx.out).mono ?_); rintro e w3 ⟨A', c', rfl, hc, hC, hb⟩; have HC' := Aside0.mk hc; have HE := Aside0.mk hC; have L3 := Aside0.mk (below_step (below_alloc L2.out _) hb); clear hc hC hb)
    | (go_at_call 10; (with_reducible refine (decode_w A' c' x 3 5 0 _ hx.out HE.out HC'.out HD.out).mono ?_); rintro e w4 ⟨rfl, hb⟩; have L4 := Aside0.mk (below_step L3.out hb); clear hb))
  go_ret
  exact ⟨rfl, L4.out⟩
end Go.Proofs.Ytpfbajjpommjmaa.Hand
