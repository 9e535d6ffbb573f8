/- What is proved: a call of the law answers true and leaves all that was there as it was. Conditions: the two slices that came in read as a list of steps and a list of bools. -/
import Derived.Test.YtpfbajjpommjmaaLoopa
import Derived.Deep.CutRange
namespace Go.Proofs.Ytpfbajjpommjmaa.Hand
open Go.RowKit Go.Proofs.YtpfbajjpommjmaaW.PrintWords Go.Proofs.YtpfbajjpommjmaaW.PrintLast Go.Proofs.YtpfbajjpommjmaaW.PrintMore Go.Proofs.Ytpfbajjpommjmaa.Top
attribute [local go_sem high] eqA36
set_option linter.unusedVariables false
set_option linter.unusedSimpArgs false

/-- The steps that came in. -/
def Steps (w : World) (Al : Option Addr) (nl : Nat) : Prop :=
  ∀ j : Nat, j < nl → ∃ ad s m b1 b2 b3, Al = some ad ∧ w.cell? (ad.add (j * 5)) = some (.int .u8 s) ∧ w.cell? ⟨(ad.add (j * 5)).block, (ad.add (j * 5)).off + 1, none⟩ = some (.int .u16 m) ∧ w.cell? ⟨(ad.add (j * 5)).block, (ad.add (j * 5)).off + 2, none⟩ = some (.bool b1) ∧ w.cell? ⟨(ad.add (j * 5)).block, (ad.add (j * 5)).off + 3, none⟩ = some (.bool b2) ∧ w.cell? ⟨(ad.add (j * 5)).block, (ad.add (j * 5)).off + 4, none⟩ = some (.bool b3) ∧ 0 ≤ s ∧ s ≤ 255 ∧ 0 ≤ m ∧ m ≤ 65535
def Bools (w : World) (Ap : Option Addr) (np : Nat) : Prop := ∀ j : Nat, j < np → ∃ ad b, Ap = some ad ∧ w.cell? (ad.add j) = some (.bool b)

set_option maxHeartbeats 1000000 in
set_option maxRecDepth 100000 in
theorem law_long (Al Ap : Option Addr) (nl cl np cp : Nat) (w : World) (h : 30 < nl ∨ 100 < np) :
    Calls Try.prog 3 #[.slice Al nl cl, .slice Ap np cp] w fun e w' => e = .returned (.bool true) ∧ Below w.heap.size w w' := by
  by_cases h30 : (30 : Int) < (nl : Int)
  · go_enter Try.func3, Try.ntmps3
    go_upto_region 2 with (go_at_call 4; (with_reducible refine (awake_calls _).mono ?_); rintro e w1 ⟨rfl, hb⟩; have L1 := Aside0.mk hb; clear hb)
    go_wp2_with (go_at_call 4; (with_reducible refine (awake_calls _).mono ?_); rintro e w2 ⟨rfl, hb⟩; have L2 := Aside0.mk (below_step L1.out hb); clear hb)
    go_ret
    exact ⟨rfl, L2.out⟩
  · have h100 : (100 : Int) < (np : Int) := by omega
    clear h
    go_enter Try.func3, Try.ntmps3
    go_upto_region 2 with (go_at_call 4; (with_reducible refine (awake_calls _).mono ?_); rintro e w1 ⟨rfl, hb⟩; have L1 := Aside0.mk hb; clear hb)
    go_wp2_with (go_at_call 4; (with_reducible refine (awake_calls _).mono ?_); rintro e w2 ⟨rfl, hb⟩; have L2 := Aside0.mk (below_step L1.out hb); clear hb)
    go_ret
    exact ⟨rfl, L2.out⟩

theorem raw_one {W : World} {g base : Nat} (a b : Int) (h : W.heap[g]? = some (.cells #[.int .i64 a, .int .i64 b] 36 (0, 0))) (hb : base ≤ g) : (Kd.raw 2).R 36 W base (fun _ => True) (.slice (some ⟨g, 0, none⟩) 1 1) [[.int .i64 a, .int .i64 b]] := by
  refine ⟨fun _ _ => trivial, [.int .i64 a, .int .i64 b], ⟨rfl, Or.inr ⟨g, 1, _, rfl, hb, h, Nat.le_refl _, by unfold maxLen; decide, rfl, rfl⟩⟩, ⟨rfl, fun j p hj => ?_⟩⟩
  cases j with
  | succ j => simp at hj
  | zero =>
    obtain rfl := Option.some.inj hj
    refine ⟨rfl, rfl, ?_⟩
    show ∀ u ∈ ([.int .i64 a, .int .i64 b] : List Value), u.oneCell' = true
    intro u hu
    simp at hu
    rcases hu with rfl | rfl <;> rfl

theorem one2 (a b : Int) : ∀ u ∈ ([.int .i64 a, .int .i64 b] : List Value), u.oneCell' = true := by
  intro u hu
  simp at hu
  rcases hu with rfl | rfl <;> rfl
theorem rows_snoc (W : List (Int × Int)) (a b : Int) : rows (W ++ [(a, b)]) = rows W ++ [[.int .i64 a, .int .i64 b]] := by
  unfold rows
  rw [List.map_append]
  rfl
theorem VW_snoc {W : List (Int × Int)} {a b : Int} (h : VW W) (hp : 0 ≤ a ∧ a ≤ 16 ∧ 0 ≤ b ∧ b < 2 ^ a.toNat) : VW (W ++ [(a, b)]) := by
  intro p hm
  rcases List.mem_append.1 hm with h1 | h1
  · exact h p h1
  · obtain rfl := List.mem_singleton.1 h1
    exact hp

set_option maxHeartbeats 4000000 in
set_option maxRecDepth 100000 in
theorem law_short (Al Ap : Option Addr) (nl cl np cp : Nat) (w : World) (hl : Steps w Al nl) (hp : Bools w Ap np) (h30 : ¬ (30 : Int) < (nl : Int)) (h100 : ¬ (100 : Int) < (np : Int)) :
    Calls Try.prog 3 #[.slice Al nl cl, .slice Ap np cp] w fun e w' => e = .returned (.bool true) ∧ Below w.heap.size w w' := by
  have hu33 := Try.underlying33
  have hu36 := Try.underlying36
  have hu39 := Try.underlying39
  have hu43 := Try.underlying43
  have H11 := fun w => inodeOf_at 1 1 1 1 of11 w
  have hx0 : Aside0 ((encL 1 1).length = 32) := ⟨rfl⟩
  have hpx : Aside0 (PW [(1, 1)] (encL 1 1)) := ⟨⟨(1, 1), by simp, rfl⟩⟩
  generalize encL 1 1 = x0 at H11 hx0 hpx
  have HST := Aside0.mk hl
  have HBO := Aside0.mk hp
  have H30 := Aside0.mk (show nl ≤ 30 by omega)
  clear hl hp
  go_enter Try.func3, Try.ntmps3
  go_upto_region 3 with (go_at_call 4; (with_reducible refine (awake_calls _).mono ?_); rintro e w1 ⟨rfl, hb⟩; have L1 := Aside0.mk hb; clear hb)
  go_wp2_with (first
    | (go_at_call 5; (with_reducible refine (H11 _).mono ?_); rintro e w2 ⟨A, c, rfl, hc, hC, hf, hb⟩; have HC := Aside0.mk hc; have HF := Aside0.mk hf; have L2 := Aside0.mk (below_step L1.out hb); clear hc hC hf hb)
    | (go_at_call 6; (with_reducible refine (new_w (P := PW [(1, 1)]) (some ⟨w2.heap.size, 0, none⟩) 1 _ (row_C hx0.out HF.out HC.out) (Nat.le_refl _) hx0.out hpx.out 4 (by decide) (by decide)).mono ?_); rintro e w3 ⟨B2, B3, B4, e2, e3, e4, rfl, hD, hb⟩; have D := Aside0.mk hD; have L3 := Aside0.mk (below_step (below_alloc L2.out _) hb); clear hD hb))
  have I0 : LI w ((w3.alloc (.cells #[.int .i64 4, .int .i64 0, .slice B2 1 e2, .slice B3 0 e3, .slice B4 0 e4] 33)).alloc (.cells #[.int .i64 1, .int .i64 1] 36)) w3.heap.size 0 1 (.slice (some ⟨w3.heap.size + 1, 0, none⟩) 1 1) :=
    ⟨[(1, 1)], 0, x0, [], [], B2, B3, B4, e2, e3, e4, (two w3 _ _).1, D.out.keeps (keepsT_below (below_alloc (below_alloc (Below.refl _ _) _) _)), Int.le_refl _, raw_one 1 1 (two w3 _ _).2 (Nat.le_succ_of_le L3.out.size), (by intro p hp; obtain rfl := List.mem_singleton.1 hp; decide), Nat.le_refl _, below_alloc (below_alloc L3.out _) _⟩
  have G8 : w.heap.size ≤ w3.heap.size := L3.out.size
  obtain ⟨Y, hY⟩ : ∃ Y, Y = (w3.alloc (.cells #[.int .i64 4, .int .i64 0, .slice B2 1 e2, .slice B3 0 e3, .slice B4 0 e4] 33)).alloc (.cells #[.int .i64 1, .int .i64 1] 36) := ⟨_, rfl⟩
  rw [← hY] at I0 ⊢
  clear hY L1 L2 L3 HC HF D H11 hx0 hpx
  obtain ⟨v10, hv10⟩ : ∃ v, v = Value.slice (some ⟨w3.heap.size + 1, 0, none⟩) 1 1 := ⟨_, rfl⟩
  rw [← hv10] at I0 ⊢
  clear hv10
  obtain ⟨g8, hg8⟩ : ∃ g, g = w3.heap.size := ⟨_, rfl⟩
  rw [← hg8] at I0 G8 ⊢
  clear hg8
  have HG8 := Aside0.mk G8
  clear G8
  have I1 := Aside0.mk I0
  clear I0
  go_loopg [10, 60] nl (fun kq v10 v60 wr => ∃ i : Nat, v60 = .int .i64 (i : Int) ∧ i + kq = nl ∧ Aside0 (LI w wr g8 (2 * (i : Int)) (i + 1) v10))
  case atStart => exact ⟨0, rfl, by omega, I1⟩
  case round =>
    clear I1
    obtain ⟨i, rfl, hik, I⟩ := hrel
    cases gk with
    | zero =>
      have c0 : ¬ (i : Int) < (nl : Int) := by omega
      have hi : i ≤ 30 := by have := H30.out; omega
      have HI30 := Aside0.mk hi
      clear hik hi
      obtain ⟨W, n, x, ca, qu, A2, A3, A4, c2, c3, c4, h8, hD, hn, hR, hV, hL, hB⟩ := I.out
      have hD2 := Aside0.mk hD
      have E8 := Aside0.mk h8
      have ER := Aside0.mk hR
      have EB := Aside0.mk hB
      have EV := Aside0.mk hV
      have EL := Aside0.mk hL
      have HPZ : Aside0 (∀ z, PW W z → z.length = 32) := ⟨fun z hz => by obtain ⟨p, hp, e⟩ := hz; rw [e]; rfl⟩
      have HPK : Aside0 (∀ j : Nat, j < np → ∃ ad b, Ap = some ad ∧ wr.cell? (ad.add j) = some (.bool b)) := ⟨fun j hj => by obtain ⟨ad, b, e, hc⟩ := HBO.out j hj; exact ⟨ad, b, e, (hB.cell (World.block_lt_of_cell? w _ hc)).trans hc⟩⟩
      have EN0 := Aside0.mk hD.n0
      have EN1 := Aside0.mk hD.n1
      clear h8 hD hn hR hV hL hB I
      obtain ⟨q0, q1, q2, q3, q4, f0, f1, f2, f3, f4⟩ := box5 E8.out
      go_upto_region 28 with (go_at_call 9; (with_reducible refine (crash_w hD2.out HPZ.out Ap np cp HPK.out).mono ?_); rintro e w5 ⟨B2, e2, rfl, z, hD', hb⟩; have D5 := Aside0.mk hD'; have FR := Aside0.mk (Kd.R_below ER.out hb); have FB := Aside0.mk (below_step EB.out hb); clear hD' hb q0 q1 q2 q3 q4 f0 f1 f2 f3 f4)
      obtain ⟨p, hpW, hz⟩ := D5.out.px
      have hv := EV.out p hpW
      have HDEC := Aside0.mk (show inode_Decode.f z = some (p.1, p.2, 0) by rw [hz]; exact decode_enc hv.1 hv.2.1 hv.2.2.1 hv.2.2.2)
      have HZ := Aside0.mk (show z.length = 32 from D5.out.hx)
      obtain ⟨i0, hi0, hip⟩ := List.getElem_of_mem hpW
      have HPW := Aside0.mk (show W[i0]? = some p by rw [List.getElem?_eq_getElem hi0, hip])
      have HI0 := Aside0.mk (show i0 < (rows W).length by unfold rows; rw [List.length_map]; exact hi0)
      clear hv hz hpW hip hi0
      obtain ⟨g10, cap10, e10, _, _, _⟩ := Kd.R_form ER.out (Nat.lt_of_le_of_lt (Nat.zero_le _) HI0.out)
      subst e10
      go_wp2_with (first
        | (go_at_call 11; (with_reducible refine (durable_32 4 n B2 none none e2 0 0 z _ (Kd.C_alloc (FT_C D5.out.f2) _) D5.out.l2 (Kd.C_alloc (FT_C D5.out.f3) _) (Kd.C_alloc (FT_C D5.out.f4) _) (by decide) (by decide) EN0.out (by have := EN1.out; omega) HZ.out).mono ?_); rintro e w6 ⟨A', c', rfl, hc, hC, hb⟩; have HC' := Aside0.mk hc; have HE := Aside0.mk hC; have GR := Aside0.mk (Kd.R_below (Kd.R_alloc FR.out _) hb); have GB := Aside0.mk (below_step (below_alloc FB.out _) hb); clear hc hC hb)
        | (go_at_call 10; (with_reducible refine (decode_w A' c' z p.1 p.2 0 _ HZ.out HE.out HC'.out HDEC.out).mono ?_); rintro e w7 ⟨rfl, hb⟩; have KR := Aside0.mk (Kd.R_below GR.out hb); have KB := Aside0.mk (below_step GB.out hb); clear hb))
      go_loopg [136] i0 (fun kq v wz => ∃ j : Nat, v = .int .i64 (j : Int) ∧ j + kq = i0 ∧ Aside0 (Below w7.heap.size w7 wz))
      case atStart => exact ⟨0, rfl, by omega, ⟨Below.refl _ _⟩⟩
      case round =>
        obtain ⟨j, rfl, hjk, HB7⟩ := hrel
        have c1 : (j : Int) < ((rows W).length : Int) := by have := HI0.out; omega
        have hz : (0 : Int) ≤ (j : Int) := by omega
        have hjW : j < W.length := by have := HI0.out; unfold rows at this; rw [List.length_map] at this; omega
        obtain ⟨cs, hcl, hM, hcc⟩ := Kd.R_getA KR.out [] (j : Int) hz c1
        have hrow : (rows W).getD j [] = [.int .i64 W[j].1, .int .i64 W[j].2] := by
          unfold rows
          rw [List.getD_eq_getElem?_getD, List.getElem?_map, List.getElem?_eq_getElem hjW]
          rfl
        rw [Int.toNat_natCast, hrow] at hM
        obtain ⟨rfl, _, _⟩ := hM
        have y0 := hcc 0 _ rfl
        have y1 := hcc 1 _ rfl
        rw [Int.toNat_natCast, add_plain] at y0 y1
        replace y0 := (HB7.out.cell (World.block_lt_of_cell? w7 _ y0)).trans y0
        replace y1 := (HB7.out.cell (World.block_lt_of_cell? w7 _ y1)).trans y1
        have HJK := Aside0.mk hjk
        have HW := Aside0.mk (show wrap64 ((j : Int) + 1) = ((j + 1 : Nat) : Int) by rw [w64 (by omega) (by have := EL.out; have := HI30.out; omega)]; exact (Int.natCast_succ j).symm)
        have hmatch : gk = 0 → W[j] = p := fun h0 => by
          have e : j = i0 := by omega
          have e2 := HPW.out
          rw [← e, List.getElem?_eq_getElem hjW] at e2
          exact Option.some.inj e2
        have HM := Aside0.mk hmatch
        clear hcc hcl hrow hjk hmatch
        rw [show (Kd.raw 2).sz = 2 from rfl, Nat.add_zero] at y0
        rw [show (Kd.raw 2).sz = 2 from rfl] at y1
        generalize W[j] = r at y0 y1 HM
        by_cases hr : r.1 = p.1 ∧ r.2 = p.2
        · rw [hr.1] at y0
          rw [hr.2] at y1
          clear hr HM
          go_wp2
          go_ret
          exact ⟨by simp, below_alloc (below_step KB.out HB7.out) _⟩
        · have hf : (r.1 == p.1 && r.2 == p.2) = false := by
            cases h1 : (r.1 == p.1 && r.2 == p.2)
            · rfl
            · simp at h1
              exact absurd h1 hr
          cases gk with
          | zero => exact absurd (by rw [HM.out rfl]; exact ⟨rfl, rfl⟩) hr
          | succ kq =>
            clear hr HM
            go_wp2
            go_roundg kq
            case measure => exact Nat.lt_succ_self kq
            case rel => exact ⟨j + 1, congrArg _ HW.out, by have := HJK.out; omega, ⟨below_alloc HB7.out _⟩⟩
    | succ kr =>
      have c0 : (i : Int) < (nl : Int) := by omega
      have hz : (0 : Int) ≤ (i : Int) := by omega
      have HI30 := Aside0.mk (show i ≤ 30 by have := H30.out; omega)
      have HIK := Aside0.mk (show i + 1 + kr = nl by omega)
      obtain ⟨ad, s, m, b1, b2, b3, eA, hx0, hx1, hx2, hx3, hx4, hs0, hs1, hm0, hm1⟩ := HST.out i (by omega)
      clear hik
      subst eA
      obtain ⟨sn, sm, v0, v1, v2, v3, hof⟩ := inodeOf_f s m hs0 hs1 hm0 hm1
      have HB : Below w.heap.size w wr := by
        obtain ⟨W, n, x, ca, qu, A2, A3, A4, c2, c3, c4, a1, a2, a3, a4, a5, a6, a7⟩ := I.out
        exact a7
      replace hx0 := (HB.cell (World.block_lt_of_cell? w _ hx0)).trans hx0
      replace hx1 := (HB.cell (World.block_lt_of_cell? w _ hx1)).trans hx1
      replace hx2 := (HB.cell (World.block_lt_of_cell? w _ hx2)).trans hx2
      replace hx3 := (HB.cell (World.block_lt_of_cell? w _ hx3)).trans hx3
      replace hx4 := (HB.cell (World.block_lt_of_cell? w _ hx4)).trans hx4
      have V4 := Aside0.mk (show 0 ≤ sn ∧ sn ≤ 16 ∧ 0 ≤ sm ∧ sm < 2 ^ sn.toNat from ⟨v0, v1, v2, v3⟩)
      have HOF := Aside0.mk hof
      clear v0 v1 v2 v3 hof hs0 hs1 hm0 hm1 HB
      go_upto_region 11 with fail
      go_cut [13, 14, 15] from 64 to 72 (fun v13 v14 v15 wc => ∃ A c, v13 = .slice A 32 c ∧ v14 = .int .i64 sn ∧ v15 = .int .i64 sm ∧ Aside0 (32 ≤ c) ∧ Aside0 ((Kd.int .u8).C wc A 32 (encL sn sm)) ∧ Aside0 (LI w wc g8 (2 * (i : Int)) (i + 1) u10) ∧ Aside0 (wc.heap[wr.heap.size]? = some (.cells #[.int .u8 s, .int .u16 m, .bool b1, .bool b2, .bool b3] 39 (0, 0))))
      case first =>
        go_wp2_with (go_at_call 5; (with_reducible refine (inodeOf_at s m sn sm HOF.out _).mono ?_); rintro e w4 ⟨A, c, rfl, hc, hC, hf, hb⟩; have HC := Aside0.mk hc; have HE := Aside0.mk hC; have J := Aside0.mk ((I.out.step (below_alloc (Below.refl _ _) _)).step hb); have X12 := Aside0.mk (blk_below (blk_new wr _) hb); clear hc hC hf hb)
        go_meet
        case rel => exact ⟨A, c, rfl, rfl, rfl, HC, HE, J, X12⟩
      case rest =>
        clear hx0 hx1 hx2 hx3 hx4 I
        obtain ⟨A, c, rfl, rfl, rfl, HC, HE, J, X12⟩ := hcut
        rename_i Kz az
        refine az _ _ ?_
        refine wp_seq_k (fun K1 hK1 => ?_)
        have hy32 : Aside0 ((encL sn sm).length = 32) := ⟨rfl⟩
        have hi30 : Aside0 ((i : Int) ≤ 30) := ⟨by have := HI30.out; omega⟩
        go_cut [10] from 73 to 88 (fun v10 wc => Aside0 (LI w wc g8 (2 * (i : Int) + 1) (i + 2) v10) ∧ Aside0 (wc.heap[wr.heap.size]? = some (.cells #[.int .u8 s, .int .u16 m, .bool b1, .bool b2, .bool b3] 39 (0, 0))))
        case first =>
          clear hK1 az
          obtain ⟨W, n, x, ca, qu, A2, A3, A4, c2, c3, c4, h8, hD, hn, hR, hV, hL, hB⟩ := J.out
          have hPy : Aside0 (PW (W ++ [(sn, sm)]) (encL sn sm)) := ⟨⟨(sn, sm), by simp, rfl⟩⟩
          have hD2 := Aside0.mk (hD.mono (Q := PW (W ++ [(sn, sm)])) (fun z hz => by obtain ⟨p, hp, e⟩ := hz; exact ⟨p, List.mem_append_left _ hp, e⟩))
          have hn8 : Aside0 (n ≤ 800) := ⟨by have := hi30.out; omega⟩
          have E8 := Aside0.mk h8
          have ER := Aside0.mk hR
          have EB := Aside0.mk hB
          have EN := Aside0.mk hn
          have EL := Aside0.mk hL
          have EV := Aside0.mk hV
          clear h8 hD hn hR hV hL hB
          obtain ⟨q0, q1, q2, q3, q4, f0, f1, f2, f3, f4⟩ := box5 E8.out
          go_upto_if 81 with (go_at_call 7; (with_reducible refine (submit_d hD2.out hn8.out A c (encL sn sm) HE.out HC.out hy32.out hPy.out).mono ?_); rintro e w5 ⟨dd, nn, B2, B3, B4, m2, m3, m4, e2, e3, e4, id, code, rfl, hRes, hb⟩; have RS := Aside0.mk hRes; have WB := Aside0.mk hb; have F8 := Aside0.mk (blk_below E8.out hb); have FX := Aside0.mk (blk_below X12.out hb); have FR := Aside0.mk (Kd.R_below ER.out hb); have FB := Aside0.mk (below_step EB.out hb); clear hRes hb q0 q1 q2 q3 q4 f0 f1 f2 f3 f4)
          by_cases hc0 : code = 0
          · obtain hno | ⟨rfl, rfl, x', ca', qu', rfl, rfl, hnn, hD'⟩ := RS.out
            · exact absurd hc0 hno
            have hDn := Aside0.mk hD'
            have hNN := Aside0.mk hnn
            clear hD' hnn RS
            obtain ⟨q0, q1, q2, q3, q4, f0, f1, f2, f3, f4⟩ := box5 F8.out
            have l8 := blk_lt F8.out
            go_upto_region 15 with fail
            have Z8 := Aside0.mk (blk_alloc (put5 F8.out (.int .i64 4) (.int .i64 nn) (.slice B2 1 e2) (.slice B3 ca'.length e3) (.slice B4 qu'.length e4)) (.cells #[.int .i64 4, .int .i64 nn, .slice B2 1 e2, .slice B3 ca'.length e3, .slice B4 qu'.length e4] 33))
            have ZX := Aside0.mk (blk_alloc (far5 FX.out (blk_ne FX.out F8.out (by decide)) (.int .i64 4) (.int .i64 nn) (.slice B2 1 e2) (.slice B3 ca'.length e3) (.slice B4 qu'.length e4)) (.cells #[.int .i64 4, .int .i64 nn, .slice B2 1 e2, .slice B3 ca'.length e3, .slice B4 qu'.length e4] 33))
            have ZR := Aside0.mk (Kd.R_alloc (raw_put5 FR.out F8.out (.int .i64 4) (.int .i64 nn) (.slice B2 1 e2) (.slice B3 ca'.length e3) (.slice B4 qu'.length e4)) (.cells #[.int .i64 4, .int .i64 nn, .slice B2 1 e2, .slice B3 ca'.length e3, .slice B4 qu'.length e4] 33))
            have ZD := Aside0.mk ((hDn.out.keeps (keepsT_put5 F8.out (.int .i64 4) (.int .i64 nn) (.slice B2 1 e2) (.slice B3 ca'.length e3) (.slice B4 qu'.length e4))).keeps (keepsT_below (below_alloc (Below.refl _ _) (.cells #[.int .i64 4, .int .i64 nn, .slice B2 1 e2, .slice B3 ca'.length e3, .slice B4 qu'.length e4] 33))))
            have ZB := Aside0.mk (below_alloc (below_put5 FB.out HG8.out (.int .i64 4) (.int .i64 nn) (.slice B2 1 e2) (.slice B3 ca'.length e3) (.slice B4 qu'.length e4)) (.cells #[.int .i64 4, .int .i64 nn, .slice B2 1 e2, .slice B3 ca'.length e3, .slice B4 qu'.length e4] 33))
            obtain ⟨Z, hZ⟩ : ∃ Z, Z = ((((((w5.setCell ⟨g8, 0, none⟩ (.int .i64 4)).setCell ⟨g8, 1, none⟩ (.int .i64 nn)).setCell ⟨g8, 2, none⟩ (.slice B2 1 e2)).setCell ⟨g8, 3, none⟩ (.slice B3 ca'.length e3)).setCell ⟨g8, 4, none⟩ (.slice B4 qu'.length e4)).alloc (.cells #[.int .i64 4, .int .i64 nn, .slice B2 1 e2, .slice B3 ca'.length e3, .slice B4 qu'.length e4] 33)) := ⟨_, rfl⟩
            rw [← hZ] at Z8 ZX ZR ZD ZB ⊢
            clear hZ F8 FX FR FB hDn q0 q1 q2 q3 q4 f0 f1 f2 f3 f4 l8
            have hrl : (rows W).length ≤ 40 := by unfold rows; rw [List.length_map]; have := EL.out; have := HI30.out; omega
            have HRL := Aside0.mk hrl
            clear hrl
            go_wp2_with (at_builtin; refine Kd.R_append (Kd.raw 2) (w0 := w) w.heap.size rfl (.tmp 83) (.tmp 87) 37 36 (.agg #[.int .i64 0, .int .i64 0]) 16 rfl Try.underlying37 info36 rfl (by decide) (by decide) u10 (rows W) [.int .i64 sn, .int .i64 sm] [.int .i64 sn, .int .i64 sm] (fun _ => True) (fun _ => False) rfl rfl ⟨rfl, rfl, one2 sn sm⟩ (fun _ h_ => h_.elim) (fun _ _ => trivial) ZR.out ZB.out ZB.out.size (by have := HRL.out; omega) ?_; intro v1 w6 hR6 hb6 hG6 _; have T8 := Aside0.mk (blk_grown Z8.out hG6 (Kd.R_ne ZR.out Z8.out (by decide))); have TX := Aside0.mk (blk_grown ZX.out hG6 (Kd.R_ne ZR.out ZX.out (by decide))); have TD := Aside0.mk (ZD.out.keeps (keepsT_grown hG6 (fun g hg => by obtain ⟨cells, hc⟩ := Kd.R_typed ZR.out g hg; exact ⟨cells, 36, hc, by decide⟩))); have TR := Aside0.mk hR6; have TB := Aside0.mk hb6; clear hR6 hb6 hG6)
            go_meet
            case rel => exact ⟨⟨W ++ [(sn, sm)], nn, x', ca', qu', B2, B3, B4, e2, e3, e4, T8.out, TD.out, by have := hNN.out; have := EN.out; omega, by rw [rows_snoc]; exact TR.out, VW_snoc EV.out V4.out, by rw [List.length_append, List.length_singleton]; have := EL.out; omega, TB.out⟩, TX⟩
          · go_wp2
            go_meet
            case rel => exact ⟨⟨(J.out.step (WB.out.alloc WB.out.size _)).more (by omega) (by omega)⟩, ⟨blk_alloc FX.out _⟩⟩
        case rest =>
          clear J X12 HE HC V4 HOF
          obtain ⟨J, X12⟩ := hcut
          refine hK1 _ _ ?_
          clear hK1 az
          refine wp_seq_k (fun K2 hK2 => ?_)
          go_cut [10] from 89 to 99 (fun v10 wd => Aside0 (LI w wd g8 (2 * (i : Int) + 2) (i + 2) v10) ∧ Aside0 (wd.heap[wr.heap.size]? = some (.cells #[.int .u8 s, .int .u16 m, .bool b1, .bool b2, .bool b3] 39 (0, 0))))
          case first =>
            clear hK2
            obtain ⟨g0, g1, g2, g3, g4, k0, k1, k2, k3, k4⟩ := box5 X12.out
            cases b3 with
            | false =>
              go_wp2
              go_meet
              case rel => exact ⟨⟨J.out.more (by omega) (Nat.le_refl _)⟩, X12⟩
            | true =>
              obtain ⟨W, n, x, ca, qu, A2, A3, A4, c2, c3, c4, h8, hD, hn, hR, hV, hL, hB⟩ := J.out
              have hD2 := Aside0.mk hD
              have hn8 : Aside0 (n ≤ 800) := ⟨by have := hi30.out; omega⟩
              have E8 := Aside0.mk h8
              have ER := Aside0.mk hR
              have EB := Aside0.mk hB
              have EN := Aside0.mk hn
              have EL := Aside0.mk hL
              have EV := Aside0.mk hV
              clear h8 hD hn hR hV hL hB
              obtain ⟨q0, q1, q2, q3, q4, f0, f1, f2, f3, f4⟩ := box5 E8.out
              go_upto_if 98 with (go_at_call 7; (with_reducible refine (submit_f hD2.out hn8.out).mono ?_); rintro e w5 ⟨dd, nn, B2, B3, B4, m2, m3, m4, e2, e3, e4, id, code, rfl, hRes, hb⟩; have RS := Aside0.mk hRes; have WB := Aside0.mk hb; have F8 := Aside0.mk (blk_below E8.out hb); have FX := Aside0.mk (blk_below X12.out hb); have FR := Aside0.mk (Kd.R_below ER.out hb); have FB := Aside0.mk (below_step EB.out hb); clear hRes hb q0 q1 q2 q3 q4 f0 f1 f2 f3 f4 g0 g1 g2 g3 g4 k0 k1 k2 k3 k4)
              by_cases hc0 : code = 0
              · obtain hno | ⟨rfl, rfl, x', ca', qu', rfl, rfl, hnn, hD'⟩ := RS.out
                · exact absurd hc0 hno
                have hDn := Aside0.mk hD'
                have hNN := Aside0.mk hnn
                clear hD' hnn RS
                obtain ⟨q0, q1, q2, q3, q4, f0, f1, f2, f3, f4⟩ := box5 F8.out
                have l8 := blk_lt F8.out
                go_wp2
                go_meet
                case rel => exact ⟨⟨(LI.put W F8.out ⟨_, _, _, _, _, rfl⟩ hDn.out (by have := hNN.out; have := EN.out; omega) FR.out EV.out EL.out FB.out HG8.out).step (below_alloc (Below.refl _ _) _)⟩, ⟨blk_alloc (far5 FX.out (blk_ne FX.out F8.out (by decide)) (.int .i64 4) (.int .i64 nn) (.slice B2 1 e2) (.slice B3 ca'.length e3) (.slice B4 qu'.length e4)) (.cells #[.int .i64 4, .int .i64 nn, .slice B2 1 e2, .slice B3 ca'.length e3, .slice B4 qu'.length e4] 33)⟩⟩
              · go_wp2
                go_meet
                case rel => exact ⟨⟨(J.out.step (WB.out.alloc WB.out.size _)).more (by omega) (Nat.le_refl _)⟩, ⟨blk_alloc FX.out _⟩⟩
          case rest =>
            clear J X12
            obtain ⟨J, X12⟩ := hcut
            refine hK2 _ _ ?_
            clear hK2
            obtain ⟨g0, g1, g2, g3, g4, k0, k1, k2, k3, k4⟩ := box5 X12.out
            cases b1 with
            | false =>
              go_wp2
              go_roundg kr
              case measure => exact Nat.lt_succ_self kr
              case rel => exact ⟨i + 1, congrArg _ (Int.natCast_succ i).symm, HIK.out, ⟨J.out.more (by omega) (Nat.le_refl _)⟩⟩
            | true =>
              obtain ⟨W, n, x, ca, qu, A2, A3, A4, c2, c3, c4, h8, hD, hn, hR, hV, hL, hB⟩ := J.out
              have hD2 := Aside0.mk hD
              have hq4 : qu.length ≤ 4 := hD.ql
              have E8 := Aside0.mk h8
              have ER := Aside0.mk hR
              have EB := Aside0.mk hB
              have EN := Aside0.mk hn
              have EL := Aside0.mk hL
              have EV := Aside0.mk hV
              clear h8 hD hn hR hV hL hB
              obtain ⟨q0, q1, q2, q3, q4, f0, f1, f2, f3, f4⟩ := box5 E8.out
              go_upto_if 116 with (go_at_call 8; (with_reducible refine (complete_w hD2.out (!b2) _ rfl).mono ?_); rintro e w5 ⟨dd, nn, B2, B3, B4, m2, m3, m4, e2, e3, e4, i1, i2, i3, A5, m5, e5, code, rfl, hRes, hb⟩; have RS := Aside0.mk hRes; have WB := Aside0.mk hb; have F8 := Aside0.mk (blk_below E8.out hb); have FR := Aside0.mk (Kd.R_below ER.out hb); have FB := Aside0.mk (below_step EB.out hb); clear hRes hb q0 q1 q2 q3 q4 f0 f1 f2 f3 f4 g0 g1 g2 g3 g4 k0 k1 k2 k3 k4 hq4)
              by_cases hc0 : code = 0
              · obtain hno | ⟨rfl, rfl, x', ca', qu', rfl, rfl, hnn, hD'⟩ := RS.out
                · exact absurd hc0 hno
                have hDn := Aside0.mk hD'
                have hNN := Aside0.mk hnn
                clear hD' hnn RS
                obtain ⟨q0, q1, q2, q3, q4, f0, f1, f2, f3, f4⟩ := box5 F8.out
                have l8 := blk_lt F8.out
                go_wp2
                go_roundg kr
                case measure => exact Nat.lt_succ_self kr
                case rel => exact ⟨i + 1, congrArg _ (Int.natCast_succ i).symm, HIK.out, ⟨(LI.put W F8.out ⟨_, _, _, _, _, rfl⟩ hDn.out (by have := hNN.out; have := EN.out; omega) FR.out EV.out EL.out FB.out HG8.out).step (below_alloc (below_alloc (Below.refl _ _) _) _)⟩⟩
              · go_wp2
                go_roundg kr
                case measure => exact Nat.lt_succ_self kr
                case rel => exact ⟨i + 1, congrArg _ (Int.natCast_succ i).symm, HIK.out, ⟨(J.out.step ((WB.out.alloc WB.out.size _).alloc (Nat.le_trans WB.out.size (below_alloc (Below.refl _ _) _).size) _)).more (by omega) (Nat.le_refl _)⟩⟩
end Go.Proofs.Ytpfbajjpommjmaa.Hand
