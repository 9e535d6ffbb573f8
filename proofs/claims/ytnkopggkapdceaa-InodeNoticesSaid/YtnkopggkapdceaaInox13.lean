/- Turned out by a program of this session (wip/tools/prt.py). -/
import Derived.Test.YtnkopggkapdceaaInox0
import Derived.Test.YtnkopggkapdceaaInox10
namespace Go.Proofs.Ytnkopggkapdceaa.Ino
open Go.RowKit Go.Proofs.YtnkopggkapdceaaW.PrintWords Go.Proofs.YtnkopggkapdceaaW.PrintLast Go.Proofs.YtnkopggkapdceaaW.PrintMore
attribute [local go_sem] max2_int min2_int max_two min_two max_three min_three max_four min_four   -- for this text's walks alone
set_option linter.unusedVariables false
set_option linter.unusedSimpArgs false

/-! ### estoversref27_Decode: function 16 -/
def estoversref27_Decode.l0 : Nat → List Int → Int → Int → List Int → Int → Option (Int × Int × Int)
 | 0, _, _, _, _, _ => none
 | k + 1, x0, x5, x6, x7, x9 => if x9 < (x0.length : Int) then (if 0 ≤ x9 then (if x9 < (x7.length : Int) then (if (rd x0 x9) = (rd x7 x9) then (estoversref27_Decode.l0 k x0 x5 x6 x7 (wrap64 (x9 + 1))) else (some (0, 0, 22))) else (none)) else (none)) else (some (x5, x6, 0))
def estoversref27_Decode.f (k : Nat) (l0 : List Int) : Option (Int × Int × Int) := if (l0.length : Int) = 32 then (if 4 < (l0.length : Int) then (if 5 < (l0.length : Int) then (if 6 < (l0.length : Int) then ((estoversref27_Encode.f k (wrap64 (rd l0 4)) (wrap64 ((wrap64 (rd l0 5)) + (wrap64 (256 * (wrap64 (rd l0 6))))))).bind fun bt174 => (if bt174.2 = 0 then (estoversref27_Decode.l0 k l0 (wrap64 (rd l0 4)) (wrap64 ((wrap64 (rd l0 5)) + (wrap64 (256 * (wrap64 (rd l0 6)))))) bt174.1 0) else (some (0, 0, 22)))) else (none)) else (none)) else (none)) else (some (0, 0, 3))
theorem estoversref27_Decode.mono_l : ∀ k, (∀ y0 y1 y2 y3 y4, LeO (estoversref27_Decode.l0 k y0 y1 y2 y3 y4) (estoversref27_Decode.l0 (k + 1) y0 y1 y2 y3 y4))
 | 0 => fun _ _ _ _ _ r h => by simp [estoversref27_Decode.l0] at h
 | k + 1 => by
  have ih0 := estoversref27_Decode.mono_l k
  ·intro y0 y1 y2 y3 y4
   unfold estoversref27_Decode.l0
   repeat' first
   | (with_reducible exact ih0 _ _ _ _ _)
   | (with_reducible exact estoversref27_Encode.mono _ _ _)
   | (with_reducible exact LeO.refl _)
   | (with_reducible exact LeO.none _)
   | (with_reducible refine LeO.ite ?_ ?_)
   | (with_reducible refine LeO.bind ?_ (fun _ => ?_))
   | exact ih0 _ _ _ _ _
   | exact estoversref27_Encode.mono _ _ _
   | exact LeO.none _
   | refine LeO.ite ?_ ?_
   | refine LeO.bind ?_ (fun _ => ?_)
theorem estoversref27_Decode.mono : ∀ a0 k, LeO (estoversref27_Decode.f k a0) (estoversref27_Decode.f (k + 1) a0) := by
 intro a0 k
 have ih0 := estoversref27_Decode.mono_l k
 unfold estoversref27_Decode.f
 repeat' first
   | (with_reducible exact ih0 _ _ _ _ _)
   | (with_reducible exact estoversref27_Encode.mono _ _ _)
   | (with_reducible exact LeO.refl _)
   | (with_reducible exact LeO.none _)
   | (with_reducible refine LeO.ite ?_ ?_)
   | (with_reducible refine LeO.bind ?_ (fun _ => ?_))
   | exact ih0 _ _ _ _ _
   | exact estoversref27_Encode.mono _ _ _
   | exact LeO.none _
   | refine LeO.ite ?_ ?_
   | refine LeO.bind ?_ (fun _ => ?_)
set_option maxHeartbeats 8000000 in
set_option maxRecDepth 100000 in
theorem estoversref27_Decode.calls (k : Nat) (A0 : Option Addr) (c0 : Nat) (l0 : List Int) (r1 : Int) (r2 : Int) (r3 : Int) (w : World) (hr0 : Kd.C (Kd.int .u8) w A0 l0.length l0) (hc0 : l0.length ≤ c0) (h : estoversref27_Decode.f k l0 = some (r1, r2, r3)) :
  Calls Try.prog 16 #[.slice A0 l0.length c0] w fun e w' => e = .returned (.tuple #[.int .i64 r1, .int .i64 r2, .int .i64 r3]) ∧ Below w.heap.size w w' := by
 have HR0 := Aside0.mk hr0
 have HC0 := Aside0.mk hc0
 clear hr0 hc0
 have HB := Aside0.mk (Below.refl w.heap.size w)
 have H : (if (l0.length : Int) = 32 then (if 4 < (l0.length : Int) then (if 5 < (l0.length : Int) then (if 6 < (l0.length : Int) then ((estoversref27_Encode.f k (wrap64 (rd l0 4)) (wrap64 ((wrap64 (rd l0 5)) + (wrap64 (256 * (wrap64 (rd l0 6))))))).bind fun bt174 => (if bt174.2 = 0 then (estoversref27_Decode.l0 k l0 (wrap64 (rd l0 4)) (wrap64 ((wrap64 (rd l0 5)) + (wrap64 (256 * (wrap64 (rd l0 6)))))) bt174.1 0) else (some (0, 0, 22)))) else (none)) else (none)) else (none)) else (some (0, 0, 3))) = some (r1, r2, r3) := h
 clear h
 by_cases c2 : (l0.length : Int) = 32
 ·rw [if_pos c2] at H
  have c2b0 : ((l0.length : Int) == 32) = true := beq_iff_eq.mpr c2
  have c2b1 : ((l0.length : Int) != 32) = false := bne_eq_false_iff_eq.mpr c2
  clear c2
  by_cases c3 : 4 < (l0.length : Int)
  ·rw [if_pos c3] at H
   have c3b0 : decide (4 < (l0.length : Int)) = true := decide_eq_true c3
   have c3b1 : decide (4 < l0.length) = true := decide_eq_true (by omega)
   clear c3
   by_cases c4 : 5 < (l0.length : Int)
   ·rw [if_pos c4] at H
    have c4b0 : decide (5 < (l0.length : Int)) = true := decide_eq_true c4
    have c4b1 : decide (5 < l0.length) = true := decide_eq_true (by omega)
    clear c4
    by_cases c5 : 6 < (l0.length : Int)
    ·rw [if_pos c5] at H
     have c5b0 : decide (6 < (l0.length : Int)) = true := decide_eq_true c5
     have c5b1 : decide (6 < l0.length) = true := decide_eq_true (by omega)
     clear c5
     replace H := Option.bind_eq_some_iff.mp H
     obtain ⟨⟨t174, t175⟩, A60, H⟩ := H
     replace H : (if t175 = 0 then (estoversref27_Decode.l0 k l0 (wrap64 (rd l0 4)) (wrap64 ((wrap64 (rd l0 5)) + (wrap64 (256 * (wrap64 (rd l0 6)))))) t174 0) else (some (0, 0, 22))) = some (r1, r2, r3) := H
     have A6 := Aside0.mk A60
     clear A60
     by_cases c7 : t175 = 0
     ·rw [if_pos c7] at H
      have c7b0 : (t175 == 0) = true := beq_iff_eq.mpr c7
      have c7b1 : (t175 != 0) = false := bne_eq_false_iff_eq.mpr c7
      clear c7
      have H' := Aside0.mk H
      clear H
      have p171 : 0 ≤ (4 : Int) := (by omega)
      have q171 : 4 < (l0.length : Int) := of_decide_eq_true (by first | (with_reducible assumption) | assumption)
      obtain ⟨ad171, e171, hx171_0⟩ := Kd.at_int HR0.out 4 p171 q171
      cases e171
      (try simp only [show (4 : Int).toNat = 4 from rfl, Nat.reduceMul, Nat.reduceEqDiff, Go.Addr.add, ↓reduceIte] at hx171_0)
      have qi171 : (4 < l0.length) = True := eq_true (by omega)
      (try rw [show ((4 : Int)).toNat = 4 from rfl] at hx171_0)
      replace p171 := eq_true p171
      replace q171 := eq_true q171
      have p172 : 0 ≤ (5 : Int) := (by omega)
      have q172 : 5 < (l0.length : Int) := of_decide_eq_true (by first | (with_reducible assumption) | assumption)
      obtain ⟨ad172, e172, hx172_0⟩ := Kd.at_int HR0.out 5 p172 q172
      obtain rfl : ad171 = ad172 := (by injection e172)
      (try simp only [show (5 : Int).toNat = 5 from rfl, Nat.reduceMul, Nat.reduceEqDiff, Go.Addr.add, ↓reduceIte] at hx172_0)
      have qi172 : (5 < l0.length) = True := eq_true (by omega)
      (try rw [show ((5 : Int)).toNat = 5 from rfl] at hx172_0)
      replace p172 := eq_true p172
      replace q172 := eq_true q172
      have p173 : 0 ≤ (6 : Int) := (by omega)
      have q173 : 6 < (l0.length : Int) := of_decide_eq_true (by first | (with_reducible assumption) | assumption)
      obtain ⟨ad173, e173, hx173_0⟩ := Kd.at_int HR0.out 6 p173 q173
      obtain rfl : ad171 = ad173 := (by injection e173)
      (try simp only [show (6 : Int).toNat = 6 from rfl, Nat.reduceMul, Nat.reduceEqDiff, Go.Addr.add, ↓reduceIte] at hx173_0)
      have qi173 : (6 < l0.length) = True := eq_true (by omega)
      (try rw [show ((6 : Int)).toNat = 6 from rfl] at hx173_0)
      replace p173 := eq_true p173
      replace q173 := eq_true q173
      go_enter Try.func16, Try.ntmps16
      go_wp2_with (first | (go_at_call 13; (with_reducible refine (estoversref27_Encode.calls k (wrap64 (rd l0 4)) (wrap64 ((wrap64 (rd l0 5)) + (wrap64 (256 * (wrap64 (rd l0 6)))))) t174 t175 _ A6.out).mono ?_); rintro e w8 ⟨v176, rfl, ho0, hb⟩; have n0_ := Aside0.mk (Kd.R_lower ho0 (below_size (by repeat (first | (with_reducible first | exact HB.out | apply below_alloc | apply pw_below_drewN | apply below_drew1) | exact HB.out)))); have n1_ := Aside0.mk (below_step (by repeat (first | (with_reducible first | exact HB.out | apply below_alloc | apply pw_below_drewN | apply below_drew1) | exact HB.out)) hb); clear HB; have HO177 := n0_; have HB := n1_; clear n0_ n1_; (try clear hb); (try clear hb2); (try clear hk); (try clear hi); (try clear ho0)))
      repeat (go_quiet (first | (go_at_call 13; (with_reducible refine (estoversref27_Encode.calls k (wrap64 (rd l0 4)) (wrap64 ((wrap64 (rd l0 5)) + (wrap64 (256 * (wrap64 (rd l0 6)))))) t174 t175 _ A6.out).mono ?_); rintro e w8 ⟨v176, rfl, ho0, hb⟩; have n0_ := Aside0.mk (Kd.R_lower ho0 (below_size (by repeat (first | (with_reducible first | exact HB.out | apply below_alloc | apply pw_below_drewN | apply below_drew1) | exact HB.out)))); have n1_ := Aside0.mk (below_step (by repeat (first | (with_reducible first | exact HB.out | apply below_alloc | apply pw_below_drewN | apply below_drew1) | exact HB.out)) hb); clear HB; have HO177 := n0_; have HB := n1_; clear n0_ n1_; (try clear hb); (try clear hb2); (try clear hk); (try clear hi); (try clear ho0))); try go_wp2_with (first | (go_at_call 13; (with_reducible refine (estoversref27_Encode.calls k (wrap64 (rd l0 4)) (wrap64 ((wrap64 (rd l0 5)) + (wrap64 (256 * (wrap64 (rd l0 6)))))) t174 t175 _ A6.out).mono ?_); rintro e w8 ⟨v176, rfl, ho0, hb⟩; have n0_ := Aside0.mk (Kd.R_lower ho0 (below_size (by repeat (first | (with_reducible first | exact HB.out | apply below_alloc | apply pw_below_drewN | apply below_drew1) | exact HB.out)))); have n1_ := Aside0.mk (below_step (by repeat (first | (with_reducible first | exact HB.out | apply below_alloc | apply pw_below_drewN | apply below_drew1) | exact HB.out)) hb); clear HB; have HO177 := n0_; have HB := n1_; clear n0_ n1_; (try clear hb); (try clear hb2); (try clear hk); (try clear hi); (try clear ho0))))
      go_loopg [9] k (fun kq v9 w' => ∃ (x9_1 : Int), v9 = .int .i64 x9_1 ∧ Aside0 (estoversref27_Decode.l0 kq l0 (wrap64 (rd l0 4)) (wrap64 ((wrap64 (rd l0 5)) + (wrap64 (256 * (wrap64 (rd l0 6)))))) t174 x9_1 = some (r1, r2, r3)) ∧ Aside0 (kq ≤ k) ∧ Aside0 (Kd.R (Kd.int .u8) 5 w' w.heap.size (fun _ => True) v176 t174) ∧ Aside0 (Below w.heap.size w w'))
      case atStart => exact ⟨(0), (by first | rfl | (simp; done) | (simp [*]; done)), H', ⟨Nat.le_refl _⟩, ⟨by (with_reducible repeat (first | apply Kd.R_alloc | apply Kd.R_drewN | apply Kd.R_drew)); exact HO177.out⟩, ⟨by repeat (first | (with_reducible first | exact HB.out | apply below_alloc | apply pw_below_drewN | apply below_drew1) | exact HB.out)⟩⟩
      case round =>
       clear H'
       (try clear c1); (try clear p1); (try clear q1); (try clear hx1); (try clear qi1); (try clear c2); (try clear c2b0); (try clear c2b1); (try clear p2); (try clear c3); (try clear c3b0); (try clear c3b1); (try clear c4); (try clear c4b0); (try clear c4b1); (try clear c5); (try clear c5b0); (try clear c5b1); (try clear p6); (try clear c7); (try clear c7b0); (try clear c7b1); (try clear hx171_0); (try clear hx172_0); (try clear hx173_0); (try clear p171); (try clear p172); (try clear p173); (try clear q171); (try clear q172); (try clear q173)
       obtain ⟨x9_1, rfl, HA, HK1, HO_7, HB⟩ := hrel
       cases gk with
       | zero => exact absurd HA.out (by simp [estoversref27_Decode.l0])
       | succ k1 =>
        have H := HA.out
        clear HA
        simp only [estoversref27_Decode.l0] at H
        by_cases c9 : x9_1 < (l0.length : Int)
        ·rw [if_pos c9] at H
         have c9b0 : decide (x9_1 < (l0.length : Int)) = true := decide_eq_true c9
         clear c9
         by_cases c10 : 0 ≤ x9_1
         ·rw [if_pos c10] at H
          have c10b0 : decide (0 ≤ x9_1) = true := decide_eq_true c10
          clear c10
          by_cases c11 : x9_1 < (t174.length : Int)
          ·rw [if_pos c11] at H
           have c11b0 : decide (x9_1 < (t174.length : Int)) = true := decide_eq_true c11
           clear c11
           by_cases c12 : (rd l0 x9_1) = (rd t174 x9_1)
           ·rw [if_pos c12] at H
            have c12b0 : ((rd l0 x9_1) == (rd t174 x9_1)) = true := beq_iff_eq.mpr c12
            have c12b1 : ((rd l0 x9_1) != (rd t174 x9_1)) = false := bne_eq_false_iff_eq.mpr c12
            clear c12
            have H' := Aside0.mk H
            clear H
            have p178 : 0 ≤ (x9_1 : Int) := of_decide_eq_true (by first | (with_reducible assumption) | assumption)
            have q178 : x9_1 < (l0.length : Int) := of_decide_eq_true (by first | (with_reducible assumption) | assumption)
            obtain ⟨ad178, e178, hx178_0⟩ := Kd.at_int HR0.out x9_1 p178 q178
            obtain rfl : ad171 = ad178 := (by injection e178)
            replace hx178_0 := (HB.out.cell (World.block_lt_of_cell? w _ hx178_0)).trans hx178_0
            replace p178 := eq_true p178
            replace q178 := eq_true q178
            obtain ⟨Ao13, co13, eo13⟩ := Kd.R_slice HO_7.out
            subst eo13
            have p179 : 0 ≤ (x9_1 : Int) := of_decide_eq_true (by first | (with_reducible assumption) | assumption)
            have q179 : x9_1 < (t174.length : Int) := of_decide_eq_true (by first | (with_reducible assumption) | assumption)
            obtain ⟨ad179, e179, hx179_0⟩ := Kd.at_int (Kd.R_reads' HO_7.out).2.2 x9_1 p179 q179
            cases e179
            replace p179 := eq_true p179
            replace q179 := eq_true q179
            go_wp2
            repeat (go_quiet (fail); try go_wp2)
            go_roundg k1
            case measure => have := HK1.out; omega
            case rel => exact ⟨(wrap64 (x9_1 + 1)), (by first | rfl | (simp; done) | (simp [*]; done)), H', ⟨by have := HK1.out; omega⟩, ⟨by (with_reducible repeat (first | apply Kd.R_alloc | apply Kd.R_drewN | apply Kd.R_drew)); exact HO_7.out⟩, ⟨by repeat (first | (with_reducible first | exact HB.out | apply below_alloc | apply pw_below_drewN | apply below_drew1) | exact HB.out)⟩⟩
           ·rw [if_neg c12] at H
            have c12b0 : ((rd l0 x9_1) == (rd t174 x9_1)) = false := beq_eq_false_iff_ne.mpr c12
            have c12b1 : ((rd l0 x9_1) != (rd t174 x9_1)) = true := bne_iff_ne.mpr c12
            simp only [Option.some.injEq, Prod.mk.injEq] at H
            obtain ⟨rfl, rfl, rfl⟩ := H
            have p178 : 0 ≤ (x9_1 : Int) := of_decide_eq_true (by first | (with_reducible assumption) | assumption)
            have q178 : x9_1 < (l0.length : Int) := of_decide_eq_true (by first | (with_reducible assumption) | assumption)
            obtain ⟨ad178, e178, hx178_0⟩ := Kd.at_int HR0.out x9_1 p178 q178
            obtain rfl : ad171 = ad178 := (by injection e178)
            replace hx178_0 := (HB.out.cell (World.block_lt_of_cell? w _ hx178_0)).trans hx178_0
            replace p178 := eq_true p178
            replace q178 := eq_true q178
            obtain ⟨Ao14, co14, eo14⟩ := Kd.R_slice HO_7.out
            subst eo14
            have p179 : 0 ≤ (x9_1 : Int) := of_decide_eq_true (by first | (with_reducible assumption) | assumption)
            have q179 : x9_1 < (t174.length : Int) := of_decide_eq_true (by first | (with_reducible assumption) | assumption)
            obtain ⟨ad179, e179, hx179_0⟩ := Kd.at_int (Kd.R_reads' HO_7.out).2.2 x9_1 p179 q179
            cases e179
            replace p179 := eq_true p179
            replace q179 := eq_true q179
            go_wp2
            repeat (go_quiet (fail); try go_wp2)
            go_ret3
            exact ⟨by first | rfl | (simp [errW_none, errW_some] <;> rfl) | (simp [*, errW_none, errW_some] <;> rfl), by repeat (first | (with_reducible first | exact HB.out | apply below_alloc | apply pw_below_drewN | apply below_drew1) | exact HB.out)⟩
          ·rw [if_neg c11] at H
           exact absurd H (by simp)
         ·rw [if_neg c10] at H
          exact absurd H (by simp)
        ·rw [if_neg c9] at H
         have c9b0 : decide (x9_1 < (l0.length : Int)) = false := decide_eq_false c9
         clear c9
         simp only [Option.some.injEq, Prod.mk.injEq] at H
         obtain ⟨rfl, rfl, rfl⟩ := H
         go_wp2
         repeat (go_quiet (fail); try go_wp2)
         go_ret3
         exact ⟨by first | rfl | (simp [errW_none, errW_some] <;> rfl) | (simp [*, errW_none, errW_some] <;> rfl), by repeat (first | (with_reducible first | exact HB.out | apply below_alloc | apply pw_below_drewN | apply below_drew1) | exact HB.out)⟩
     ·rw [if_neg c7] at H
      have c7b0 : (t175 == 0) = false := beq_eq_false_iff_ne.mpr c7
      have c7b1 : (t175 != 0) = true := bne_iff_ne.mpr c7
      simp only [Option.some.injEq, Prod.mk.injEq] at H
      obtain ⟨rfl, rfl, rfl⟩ := H
      have p171 : 0 ≤ (4 : Int) := (by omega)
      have q171 : 4 < (l0.length : Int) := of_decide_eq_true (by first | (with_reducible assumption) | assumption)
      obtain ⟨ad171, e171, hx171_0⟩ := Kd.at_int HR0.out 4 p171 q171
      cases e171
      (try simp only [show (4 : Int).toNat = 4 from rfl, Nat.reduceMul, Nat.reduceEqDiff, Go.Addr.add, ↓reduceIte] at hx171_0)
      have qi171 : (4 < l0.length) = True := eq_true (by omega)
      (try rw [show ((4 : Int)).toNat = 4 from rfl] at hx171_0)
      replace p171 := eq_true p171
      replace q171 := eq_true q171
      have p172 : 0 ≤ (5 : Int) := (by omega)
      have q172 : 5 < (l0.length : Int) := of_decide_eq_true (by first | (with_reducible assumption) | assumption)
      obtain ⟨ad172, e172, hx172_0⟩ := Kd.at_int HR0.out 5 p172 q172
      obtain rfl : ad171 = ad172 := (by injection e172)
      (try simp only [show (5 : Int).toNat = 5 from rfl, Nat.reduceMul, Nat.reduceEqDiff, Go.Addr.add, ↓reduceIte] at hx172_0)
      have qi172 : (5 < l0.length) = True := eq_true (by omega)
      (try rw [show ((5 : Int)).toNat = 5 from rfl] at hx172_0)
      replace p172 := eq_true p172
      replace q172 := eq_true q172
      have p173 : 0 ≤ (6 : Int) := (by omega)
      have q173 : 6 < (l0.length : Int) := of_decide_eq_true (by first | (with_reducible assumption) | assumption)
      obtain ⟨ad173, e173, hx173_0⟩ := Kd.at_int HR0.out 6 p173 q173
      obtain rfl : ad171 = ad173 := (by injection e173)
      (try simp only [show (6 : Int).toNat = 6 from rfl, Nat.reduceMul, Nat.reduceEqDiff, Go.Addr.add, ↓reduceIte] at hx173_0)
      have qi173 : (6 < l0.length) = True := eq_true (by omega)
      (try rw [show ((6 : Int)).toNat = 6 from rfl] at hx173_0)
      replace p173 := eq_true p173
      replace q173 := eq_true q173
      go_enter Try.func16, Try.ntmps16
      go_wp2_with (first | (go_at_call 13; (with_reducible refine (estoversref27_Encode.calls k (wrap64 (rd l0 4)) (wrap64 ((wrap64 (rd l0 5)) + (wrap64 (256 * (wrap64 (rd l0 6)))))) t174 t175 _ A6.out).mono ?_); rintro e w15 ⟨v176, rfl, ho0, hb⟩; have n0_ := Aside0.mk (Kd.R_lower ho0 (below_size (by repeat (first | (with_reducible first | exact HB.out | apply below_alloc | apply pw_below_drewN | apply below_drew1) | exact HB.out)))); have n1_ := Aside0.mk (below_step (by repeat (first | (with_reducible first | exact HB.out | apply below_alloc | apply pw_below_drewN | apply below_drew1) | exact HB.out)) hb); clear HB; have HO177 := n0_; have HB := n1_; clear n0_ n1_; (try clear hb); (try clear hb2); (try clear hk); (try clear hi); (try clear ho0)))
      repeat (go_quiet (first | (go_at_call 13; (with_reducible refine (estoversref27_Encode.calls k (wrap64 (rd l0 4)) (wrap64 ((wrap64 (rd l0 5)) + (wrap64 (256 * (wrap64 (rd l0 6)))))) t174 t175 _ A6.out).mono ?_); rintro e w15 ⟨v176, rfl, ho0, hb⟩; have n0_ := Aside0.mk (Kd.R_lower ho0 (below_size (by repeat (first | (with_reducible first | exact HB.out | apply below_alloc | apply pw_below_drewN | apply below_drew1) | exact HB.out)))); have n1_ := Aside0.mk (below_step (by repeat (first | (with_reducible first | exact HB.out | apply below_alloc | apply pw_below_drewN | apply below_drew1) | exact HB.out)) hb); clear HB; have HO177 := n0_; have HB := n1_; clear n0_ n1_; (try clear hb); (try clear hb2); (try clear hk); (try clear hi); (try clear ho0))); try go_wp2_with (first | (go_at_call 13; (with_reducible refine (estoversref27_Encode.calls k (wrap64 (rd l0 4)) (wrap64 ((wrap64 (rd l0 5)) + (wrap64 (256 * (wrap64 (rd l0 6)))))) t174 t175 _ A6.out).mono ?_); rintro e w15 ⟨v176, rfl, ho0, hb⟩; have n0_ := Aside0.mk (Kd.R_lower ho0 (below_size (by repeat (first | (with_reducible first | exact HB.out | apply below_alloc | apply pw_below_drewN | apply below_drew1) | exact HB.out)))); have n1_ := Aside0.mk (below_step (by repeat (first | (with_reducible first | exact HB.out | apply below_alloc | apply pw_below_drewN | apply below_drew1) | exact HB.out)) hb); clear HB; have HO177 := n0_; have HB := n1_; clear n0_ n1_; (try clear hb); (try clear hb2); (try clear hk); (try clear hi); (try clear ho0))))
      go_ret3
      exact ⟨by first | rfl | (simp [errW_none, errW_some] <;> rfl) | (simp [*, errW_none, errW_some] <;> rfl), by repeat (first | (with_reducible first | exact HB.out | apply below_alloc | apply pw_below_drewN | apply below_drew1) | exact HB.out)⟩
    ·rw [if_neg c5] at H
     exact absurd H (by simp)
   ·rw [if_neg c4] at H
    exact absurd H (by simp)
  ·rw [if_neg c3] at H
   exact absurd H (by simp)
 ·rw [if_neg c2] at H
  have c2b0 : ((l0.length : Int) == 32) = false := beq_eq_false_iff_ne.mpr c2
  have c2b1 : ((l0.length : Int) != 32) = true := bne_iff_ne.mpr c2
  simp only [Option.some.injEq, Prod.mk.injEq] at H
  obtain ⟨rfl, rfl, rfl⟩ := H
  go_enter Try.func16, Try.ntmps16
  go_wp2
  repeat (go_quiet (fail); try go_wp2)
  go_ret3
  exact ⟨by first | rfl | (simp [errW_none, errW_some] <;> rfl) | (simp [*, errW_none, errW_some] <;> rfl), by repeat (first | (with_reducible first | exact HB.out | apply below_alloc | apply pw_below_drewN | apply below_drew1) | exact HB.out)⟩

end Go.Proofs.Ytnkopggkapdceaa.Ino
