/- Turned out by a program of this session (wip/tools/prt.py). -/
import Derived.Test.YtnkopggkapdceaaInox0
import Derived.Test.YtnkopggkapdceaaInox9
namespace Go.Proofs.Ytnkopggkapdceaa.Ino
open Go.RowKit Go.Proofs.YtnkopggkapdceaaW.PrintWords Go.Proofs.YtnkopggkapdceaaW.PrintLast Go.Proofs.YtnkopggkapdceaaW.PrintMore
attribute [local go_sem] max2_int min2_int max_two min_two max_three min_three max_four min_four   -- for this text's walks alone
set_option linter.unusedVariables false
set_option linter.unusedSimpArgs false

/-! ### estoversref27_Encode: function 13 -/
mutual
def estoversref27_Encode.j0 : Nat → Int → Int → Bool → Option (List Int × Int)
 | 0, _, _, _ => none
 | k + 1, x0, x1, x14 => if x14 = true then (some (([] : List Int), 2)) else ((estoversref27_isMask.f x1 x0).bind fun t146 => (if t146 = true then (if 32 ≤ 281474976710656 then ((some (List.replicate 32 0 : List Int)).bind fun y147 => (if 0 < (y147.length : Int) then (if 1 < (y147.length : Int) then (if 2 < (y147.length : Int) then (if 3 < (y147.length : Int) then (if 4 < (y147.length : Int) then (if 5 < (y147.length : Int) then (if 6 < (y147.length : Int) then (estoversref27_Encode.l0 k (((((((y147.set (0 : Int).toNat 73).set (1 : Int).toNat 78).set (2 : Int).toNat 79).set (3 : Int).toNat 68).set (4 : Int).toNat ((x0) % 256)).set (5 : Int).toNat ((Int.tmod x1 256) % 256)).set (6 : Int).toNat ((wrap64 (Int.tdiv x1 256)) % 256)) 0 0) else (none)) else (none)) else (none)) else (none)) else (none)) else (none)) else (none))) else (none)) else (some (([] : List Int), 3))))
def estoversref27_Encode.l0 : Nat → List Int → Int → Int → Option (List Int × Int)
 | 0, _, _, _ => none
 | k + 1, x6, x7, x8 => if x8 < 7 then (if 0 ≤ x8 then (if x8 < (x6.length : Int) then (estoversref27_Encode.l0 k x6 (wrap64 (x7 + (wrap64 (rd x6 x8)))) (wrap64 (x8 + 1))) else (none)) else (none)) else (if 7 < (x6.length : Int) then (some ((x6.set (7 : Int).toNat ((Int.tmod x7 251) % 256)), 0)) else (none))
end
def estoversref27_Encode.f (k : Nat) (a0 : Int) (a1 : Int) : Option (List Int × Int) := if a0 < 0 then (estoversref27_Encode.j0 k a0 a1 true) else (estoversref27_Encode.j0 k a0 a1 (decide (a0 > 16)))
theorem estoversref27_Encode.mono_l : ∀ k, (∀ y0 y1 y2, LeO (estoversref27_Encode.j0 k y0 y1 y2) (estoversref27_Encode.j0 (k + 1) y0 y1 y2)) ∧ (∀ y0 y1 y2, LeO (estoversref27_Encode.l0 k y0 y1 y2) (estoversref27_Encode.l0 (k + 1) y0 y1 y2))
 | 0 => ⟨fun _ _ _ r h => by simp [estoversref27_Encode.j0] at h, fun _ _ _ r h => by simp [estoversref27_Encode.l0] at h⟩
 | k + 1 => by
  obtain ⟨ih0, ih1⟩ := estoversref27_Encode.mono_l k
  refine ⟨?_, ?_⟩
  ·intro y0 y1 y2
   unfold estoversref27_Encode.j0
   repeat' first
   | (with_reducible exact ih0 _ _ _)
   | (with_reducible exact ih1 _ _ _)
   | (with_reducible exact LeO.refl _)
   | (with_reducible exact LeO.none _)
   | (with_reducible refine LeO.ite ?_ ?_)
   | (with_reducible refine LeO.bind ?_ (fun _ => ?_))
   | exact ih0 _ _ _
   | exact ih1 _ _ _
   | exact LeO.none _
   | refine LeO.ite ?_ ?_
   | refine LeO.bind ?_ (fun _ => ?_)
  ·intro y0 y1 y2
   unfold estoversref27_Encode.l0
   repeat' first
   | (with_reducible exact ih0 _ _ _)
   | (with_reducible exact ih1 _ _ _)
   | (with_reducible exact LeO.refl _)
   | (with_reducible exact LeO.none _)
   | (with_reducible refine LeO.ite ?_ ?_)
   | (with_reducible refine LeO.bind ?_ (fun _ => ?_))
   | exact ih0 _ _ _
   | exact ih1 _ _ _
   | exact LeO.none _
   | refine LeO.ite ?_ ?_
   | refine LeO.bind ?_ (fun _ => ?_)
theorem estoversref27_Encode.mono : ∀ a0 a1 k, LeO (estoversref27_Encode.f k a0 a1) (estoversref27_Encode.f (k + 1) a0 a1) := by
 intro a0 a1 k
 obtain ⟨ih0, ih1⟩ := estoversref27_Encode.mono_l k
 unfold estoversref27_Encode.f
 repeat' first
   | (with_reducible exact ih0 _ _ _)
   | (with_reducible exact ih1 _ _ _)
   | (with_reducible exact LeO.refl _)
   | (with_reducible exact LeO.none _)
   | (with_reducible refine LeO.ite ?_ ?_)
   | (with_reducible refine LeO.bind ?_ (fun _ => ?_))
   | exact ih0 _ _ _
   | exact ih1 _ _ _
   | exact LeO.none _
   | refine LeO.ite ?_ ?_
   | refine LeO.bind ?_ (fun _ => ?_)
set_option maxHeartbeats 8000000 in
set_option maxRecDepth 100000 in
theorem estoversref27_Encode.calls (k : Nat) (a0 : Int) (a1 : Int) (r1 : List Int) (r2 : Int) (w : World) (h : estoversref27_Encode.f k a0 a1 = some (r1, r2)) :
  Calls Try.prog 13 #[.int .i64 a0, .int .i64 a1] w fun e w' => ∃ v0_ : Value, e = .returned (.tuple #[v0_, .int .i64 r2]) ∧ Kd.R (Kd.int .u8) 5 w' w.heap.size (fun _ => True) v0_ r1 ∧ Below w.heap.size w w' := by
 have HB := Aside0.mk (Below.refl w.heap.size w)
 have H : (if a0 < 0 then (estoversref27_Encode.j0 k a0 a1 true) else (estoversref27_Encode.j0 k a0 a1 (decide (a0 > 16)))) = some (r1, r2) := h
 clear h
 have HC3 := Aside0.mk H
 clear H
 go_enter Try.func13, Try.ntmps13
 go_upto_region 1 with (fail)
 go_cut [14] (fun v14 wc => ∃ (kq : Nat) (x14_2 : Bool), v14 = .bool x14_2 ∧ Aside0 (estoversref27_Encode.j0 kq a0 a1 x14_2 = some (r1, r2)) ∧ Aside0 (kq ≤ k) ∧ Aside0 (Below w.heap.size w wc))
 case first =>
  have H := HC3.out
  clear HC3
  by_cases c4 : a0 < 0
  ·rw [if_pos c4] at H
   have c4b0 : decide (a0 < 0) = true := decide_eq_true c4
   clear c4
   (first | rw [c4b0] | (simp only [i64_w, i32_w]; rw [c4b0]) | skip)
   have H' := Aside0.mk H
   clear H
   go_wp2
   go_meet
   case rel => exact ⟨_, (true), (by first | rfl | (simp; done) | (simp [*]; done)), H', ⟨by first | omega | exact Nat.le_refl _⟩, ⟨by repeat (first | (with_reducible first | exact HB.out | apply below_alloc | apply pw_below_drewN | apply below_drew1) | exact HB.out)⟩⟩
  ·rw [if_neg c4] at H
   have c4b0 : decide (a0 < 0) = false := decide_eq_false c4
   clear c4
   (first | rw [c4b0] | (simp only [i64_w, i32_w]; rw [c4b0]) | skip)
   have H' := Aside0.mk H
   clear H
   go_wp2
   go_meet
   case rel => exact ⟨_, (decide (a0 > 16)), (by first | rfl | (simp; done) | (simp [*]; done)), H', ⟨by first | omega | exact Nat.le_refl _⟩, ⟨by repeat (first | (with_reducible first | exact HB.out | apply below_alloc | apply pw_below_drewN | apply below_drew1) | exact HB.out)⟩⟩
 case rest =>
  clear HC3
  (try clear c1); (try clear p2); (try clear c4); (try clear c4b0)
  obtain ⟨kq, x14_2, rfl, HA, HJ2, HB⟩ := hcut
  cases kq with
  | zero => exact absurd HA.out (by simp [estoversref27_Encode.j0])
  | succ kj2 =>
   have H := HA.out
   clear HA
   simp only [estoversref27_Encode.j0] at H
   by_cases c5 : x14_2 = true
   ·subst c5
    have H1 : (some (([] : List Int), 2)) = some (r1, r2) := by rw [if_pos rfl] at H; exact H
    clear H
    have H := H1
    clear H1
    simp only [Option.some.injEq, Prod.mk.injEq] at H
    obtain ⟨rfl, rfl⟩ := H
    go_wp2
    go_ret2
    exact ⟨_, by first | rfl | (simp [errW_none, errW_some] <;> rfl) | (simp [*, errW_none, errW_some] <;> rfl), by first | exact Kd.R_nil _ _ _ _ _ | exact Kd.N_nil _ _ _ _ _ | exact Kd.V_nil _ _ _ _ _ | exact Kd.Q_nil _ _ _ _ _ | exact Kd.S_nil _ _ _ _ _, by repeat (first | (with_reducible first | exact HB.out | apply below_alloc | apply pw_below_drewN | apply below_drew1) | exact HB.out)⟩
   ·replace c5 := Bool.eq_false_iff.mpr c5
    subst c5
    have H1 : ((estoversref27_isMask.f a1 a0).bind fun t146 => (if t146 = true then (if 32 ≤ 281474976710656 then ((some (List.replicate 32 0 : List Int)).bind fun y147 => (if 0 < (y147.length : Int) then (if 1 < (y147.length : Int) then (if 2 < (y147.length : Int) then (if 3 < (y147.length : Int) then (if 4 < (y147.length : Int) then (if 5 < (y147.length : Int) then (if 6 < (y147.length : Int) then (estoversref27_Encode.l0 kj2 (((((((y147.set (0 : Int).toNat 73).set (1 : Int).toNat 78).set (2 : Int).toNat 79).set (3 : Int).toNat 68).set (4 : Int).toNat ((a0) % 256)).set (5 : Int).toNat ((Int.tmod a1 256) % 256)).set (6 : Int).toNat ((wrap64 (Int.tdiv a1 256)) % 256)) 0 0) else (none)) else (none)) else (none)) else (none)) else (none)) else (none)) else (none))) else (none)) else (some (([] : List Int), 3)))) = some (r1, r2) := by rw [if_neg (show ¬ (false = true) by decide)] at H; exact H
    clear H
    have H := H1
    clear H1
    replace H := Option.bind_eq_some_iff.mp H
    obtain ⟨t146, A60, H⟩ := H
    replace H : (if t146 = true then (if 32 ≤ 281474976710656 then ((some (List.replicate 32 0 : List Int)).bind fun y147 => (if 0 < (y147.length : Int) then (if 1 < (y147.length : Int) then (if 2 < (y147.length : Int) then (if 3 < (y147.length : Int) then (if 4 < (y147.length : Int) then (if 5 < (y147.length : Int) then (if 6 < (y147.length : Int) then (estoversref27_Encode.l0 kj2 (((((((y147.set (0 : Int).toNat 73).set (1 : Int).toNat 78).set (2 : Int).toNat 79).set (3 : Int).toNat 68).set (4 : Int).toNat ((a0) % 256)).set (5 : Int).toNat ((Int.tmod a1 256) % 256)).set (6 : Int).toNat ((wrap64 (Int.tdiv a1 256)) % 256)) 0 0) else (none)) else (none)) else (none)) else (none)) else (none)) else (none)) else (none))) else (none)) else (some (([] : List Int), 3))) = some (r1, r2) := H
    have A6 := Aside0.mk A60
    clear A60
    by_cases c7 : t146 = true
    ·subst c7
     have H1 : (if 32 ≤ 281474976710656 then ((some (List.replicate 32 0 : List Int)).bind fun y147 => (if 0 < (y147.length : Int) then (if 1 < (y147.length : Int) then (if 2 < (y147.length : Int) then (if 3 < (y147.length : Int) then (if 4 < (y147.length : Int) then (if 5 < (y147.length : Int) then (if 6 < (y147.length : Int) then (estoversref27_Encode.l0 kj2 (((((((y147.set (0 : Int).toNat 73).set (1 : Int).toNat 78).set (2 : Int).toNat 79).set (3 : Int).toNat 68).set (4 : Int).toNat ((a0) % 256)).set (5 : Int).toNat ((Int.tmod a1 256) % 256)).set (6 : Int).toNat ((wrap64 (Int.tdiv a1 256)) % 256)) 0 0) else (none)) else (none)) else (none)) else (none)) else (none)) else (none)) else (none))) else (none)) = some (r1, r2) := by rw [if_pos rfl] at H; exact H
     clear H
     have H := H1
     clear H1
     by_cases c8 : 32 ≤ 281474976710656
     ·rw [if_pos c8] at H
      have c8b0 := eq_true c8
      have c8b1 : decide (32 ≤ 281474976710656) = true := decide_eq_true c8
      clear c8
      obtain ⟨y147, hy147⟩ : ∃ y_ : List Int, y_ = (List.replicate 32 0) := ⟨_, rfl⟩
      replace H : (if 0 < (y147.length : Int) then (if 1 < (y147.length : Int) then (if 2 < (y147.length : Int) then (if 3 < (y147.length : Int) then (if 4 < (y147.length : Int) then (if 5 < (y147.length : Int) then (if 6 < (y147.length : Int) then (estoversref27_Encode.l0 kj2 (((((((y147.set (0 : Int).toNat 73).set (1 : Int).toNat 78).set (2 : Int).toNat 79).set (3 : Int).toNat 68).set (4 : Int).toNat ((a0) % 256)).set (5 : Int).toNat ((Int.tmod a1 256) % 256)).set (6 : Int).toNat ((wrap64 (Int.tdiv a1 256)) % 256)) 0 0) else (none)) else (none)) else (none)) else (none)) else (none)) else (none)) else (none)) = some (r1, r2) := by first | (rw [hy147]; with_reducible exact H) | (have H2_ := (Option.bind_some _ _).symm.trans H; rw [hy147]; with_reducible exact H2_) | (have H2_ := (Option.bind_some _ _).symm.trans H; with_reducible exact H2_) | with_reducible exact H | (rw [hy147]; exact H) | exact H
      have Ny147 := Aside0.mk hy147
      clear hy147
      by_cases c9 : 0 < (y147.length : Int)
      ·rw [if_pos c9] at H
       have c9b0 : decide (0 < (y147.length : Int)) = true := decide_eq_true c9
       have c9b1 : decide (0 < y147.length) = true := decide_eq_true (by omega)
       clear c9
       obtain ⟨y150, hy150⟩ : ∃ y_ : List Int, y_ = (y147.set (0 : Int).toNat 73) := ⟨_, rfl⟩
       replace H : (if 1 < (y147.length : Int) then (if 2 < (y147.length : Int) then (if 3 < (y147.length : Int) then (if 4 < (y147.length : Int) then (if 5 < (y147.length : Int) then (if 6 < (y147.length : Int) then (estoversref27_Encode.l0 kj2 ((((((y150.set (1 : Int).toNat 78).set (2 : Int).toNat 79).set (3 : Int).toNat 68).set (4 : Int).toNat ((a0) % 256)).set (5 : Int).toNat ((Int.tmod a1 256) % 256)).set (6 : Int).toNat ((wrap64 (Int.tdiv a1 256)) % 256)) 0 0) else (none)) else (none)) else (none)) else (none)) else (none)) else (none)) = some (r1, r2) := by first | (rw [hy150]; with_reducible exact H) | (have H2_ := (Option.bind_some _ _).symm.trans H; rw [hy150]; with_reducible exact H2_) | (have H2_ := (Option.bind_some _ _).symm.trans H; with_reducible exact H2_) | with_reducible exact H | (rw [hy150]; exact H) | exact H
       have Ny150 := Aside0.mk hy150
       clear hy150
       by_cases c11 : 1 < (y147.length : Int)
       ·rw [if_pos c11] at H
        have c11b0 : decide (1 < (y147.length : Int)) = true := decide_eq_true c11
        have c11b1 : decide (1 < y147.length) = true := decide_eq_true (by omega)
        clear c11
        obtain ⟨y151, hy151⟩ : ∃ y_ : List Int, y_ = (y150.set (1 : Int).toNat 78) := ⟨_, rfl⟩
        replace H : (if 2 < (y147.length : Int) then (if 3 < (y147.length : Int) then (if 4 < (y147.length : Int) then (if 5 < (y147.length : Int) then (if 6 < (y147.length : Int) then (estoversref27_Encode.l0 kj2 (((((y151.set (2 : Int).toNat 79).set (3 : Int).toNat 68).set (4 : Int).toNat ((a0) % 256)).set (5 : Int).toNat ((Int.tmod a1 256) % 256)).set (6 : Int).toNat ((wrap64 (Int.tdiv a1 256)) % 256)) 0 0) else (none)) else (none)) else (none)) else (none)) else (none)) = some (r1, r2) := by first | (rw [hy151]; with_reducible exact H) | (have H2_ := (Option.bind_some _ _).symm.trans H; rw [hy151]; with_reducible exact H2_) | (have H2_ := (Option.bind_some _ _).symm.trans H; with_reducible exact H2_) | with_reducible exact H | (rw [hy151]; exact H) | exact H
        have Ny151 := Aside0.mk hy151
        clear hy151
        by_cases c13 : 2 < (y147.length : Int)
        ·rw [if_pos c13] at H
         have c13b0 : decide (2 < (y147.length : Int)) = true := decide_eq_true c13
         have c13b1 : decide (2 < y147.length) = true := decide_eq_true (by omega)
         clear c13
         obtain ⟨y152, hy152⟩ : ∃ y_ : List Int, y_ = (y151.set (2 : Int).toNat 79) := ⟨_, rfl⟩
         replace H : (if 3 < (y147.length : Int) then (if 4 < (y147.length : Int) then (if 5 < (y147.length : Int) then (if 6 < (y147.length : Int) then (estoversref27_Encode.l0 kj2 ((((y152.set (3 : Int).toNat 68).set (4 : Int).toNat ((a0) % 256)).set (5 : Int).toNat ((Int.tmod a1 256) % 256)).set (6 : Int).toNat ((wrap64 (Int.tdiv a1 256)) % 256)) 0 0) else (none)) else (none)) else (none)) else (none)) = some (r1, r2) := by first | (rw [hy152]; with_reducible exact H) | (have H2_ := (Option.bind_some _ _).symm.trans H; rw [hy152]; with_reducible exact H2_) | (have H2_ := (Option.bind_some _ _).symm.trans H; with_reducible exact H2_) | with_reducible exact H | (rw [hy152]; exact H) | exact H
         have Ny152 := Aside0.mk hy152
         clear hy152
         by_cases c15 : 3 < (y147.length : Int)
         ·rw [if_pos c15] at H
          have c15b0 : decide (3 < (y147.length : Int)) = true := decide_eq_true c15
          have c15b1 : decide (3 < y147.length) = true := decide_eq_true (by omega)
          clear c15
          obtain ⟨y153, hy153⟩ : ∃ y_ : List Int, y_ = (y152.set (3 : Int).toNat 68) := ⟨_, rfl⟩
          replace H : (if 4 < (y147.length : Int) then (if 5 < (y147.length : Int) then (if 6 < (y147.length : Int) then (estoversref27_Encode.l0 kj2 (((y153.set (4 : Int).toNat ((a0) % 256)).set (5 : Int).toNat ((Int.tmod a1 256) % 256)).set (6 : Int).toNat ((wrap64 (Int.tdiv a1 256)) % 256)) 0 0) else (none)) else (none)) else (none)) = some (r1, r2) := by first | (rw [hy153]; with_reducible exact H) | (have H2_ := (Option.bind_some _ _).symm.trans H; rw [hy153]; with_reducible exact H2_) | (have H2_ := (Option.bind_some _ _).symm.trans H; with_reducible exact H2_) | with_reducible exact H | (rw [hy153]; exact H) | exact H
          have Ny153 := Aside0.mk hy153
          clear hy153
          by_cases c17 : 4 < (y147.length : Int)
          ·rw [if_pos c17] at H
           have c17b0 : decide (4 < (y147.length : Int)) = true := decide_eq_true c17
           have c17b1 : decide (4 < y147.length) = true := decide_eq_true (by omega)
           clear c17
           obtain ⟨y154, hy154⟩ : ∃ y_ : List Int, y_ = (y153.set (4 : Int).toNat ((a0) % 256)) := ⟨_, rfl⟩
           replace H : (if 5 < (y147.length : Int) then (if 6 < (y147.length : Int) then (estoversref27_Encode.l0 kj2 ((y154.set (5 : Int).toNat ((Int.tmod a1 256) % 256)).set (6 : Int).toNat ((wrap64 (Int.tdiv a1 256)) % 256)) 0 0) else (none)) else (none)) = some (r1, r2) := by first | (rw [hy154]; with_reducible exact H) | (have H2_ := (Option.bind_some _ _).symm.trans H; rw [hy154]; with_reducible exact H2_) | (have H2_ := (Option.bind_some _ _).symm.trans H; with_reducible exact H2_) | with_reducible exact H | (rw [hy154]; exact H) | exact H
           have Ny154 := Aside0.mk hy154
           clear hy154
           by_cases c19 : 5 < (y147.length : Int)
           ·rw [if_pos c19] at H
            have c19b0 : decide (5 < (y147.length : Int)) = true := decide_eq_true c19
            have c19b1 : decide (5 < y147.length) = true := decide_eq_true (by omega)
            clear c19
            obtain ⟨y155, hy155⟩ : ∃ y_ : List Int, y_ = (y154.set (5 : Int).toNat ((Int.tmod a1 256) % 256)) := ⟨_, rfl⟩
            replace H : (if 6 < (y147.length : Int) then (estoversref27_Encode.l0 kj2 (y155.set (6 : Int).toNat ((wrap64 (Int.tdiv a1 256)) % 256)) 0 0) else (none)) = some (r1, r2) := by first | (rw [hy155]; with_reducible exact H) | (have H2_ := (Option.bind_some _ _).symm.trans H; rw [hy155]; with_reducible exact H2_) | (have H2_ := (Option.bind_some _ _).symm.trans H; with_reducible exact H2_) | with_reducible exact H | (rw [hy155]; exact H) | exact H
            have Ny155 := Aside0.mk hy155
            clear hy155
            by_cases c21 : 6 < (y147.length : Int)
            ·rw [if_pos c21] at H
             have c21b0 : decide (6 < (y147.length : Int)) = true := decide_eq_true c21
             have c21b1 : decide (6 < y147.length) = true := decide_eq_true (by omega)
             clear c21
             obtain ⟨y156, hy156⟩ : ∃ y_ : List Int, y_ = (y155.set (6 : Int).toNat ((wrap64 (Int.tdiv a1 256)) % 256)) := ⟨_, rfl⟩
             replace H : (estoversref27_Encode.l0 kj2 y156 0 0) = some (r1, r2) := by first | (rw [hy156]; with_reducible exact H) | (have H2_ := (Option.bind_some _ _).symm.trans H; rw [hy156]; with_reducible exact H2_) | (have H2_ := (Option.bind_some _ _).symm.trans H; with_reducible exact H2_) | with_reducible exact H | (rw [hy156]; exact H) | exact H
             have Ny156 := Aside0.mk hy156
             clear hy156
             have H' := Aside0.mk H
             clear H
             go_wp2_with (first | ((with_reducible refine gate_callee (f := 27) rfl ?_); refine goesL_ (some 17) rfl rfl Try.func27 (by kernel_rfl) rfl #[.int .i64 a1, .int .i64 a0] rfl (by (try simp only [List.map_toArray, List.map_cons, List.map_nil]); first | done | rfl | (simp only [List.length_drop, List.length_take]; rfl)) ?_; (with_reducible refine (estoversref27_isMask.calls a1 a0 true _ A6.out).mono ?_); rintro e w' ⟨rfl, ⟨nd, rfl⟩⟩; refine ⟨_, rfl, ?_⟩; (try (rw [drewN_self wc]; generalize hq_ : World.drewN wc _ = wc; have n0_ : Aside0 (Below w.heap.size w wc) := ⟨by rw [← hq_]; exact (by repeat (first | (with_reducible first | exact HB.out | apply below_alloc | apply pw_below_drewN | apply below_drew1) | exact HB.out))⟩; clear HB hq_; have HB := n0_; clear n0_))) | ((with_reducible refine gate_dst (N := 19) rfl ?_); refine Kd.R_make (Kd.int .u8) _ 5 rfl (N := 19) rfl 23 _ _ rfl 32 rfl rfl Try.underlying23 (.int .u8 0) 1 info5 rfl (by decide) (by omega) 0 (ok := fun _ => True) (okp := fun _ => True) rfl (fun _ hk => hk) trivial (by omega) (by omega) (Below.refl _ _) (Nat.le_refl _) ?_; intro v148 w23 ho24 hb hg_ hnew_; clear hg_ hnew_; (first | rw [← Ny147.out] at ho24 | (simp only [Int.reduceToNat] at ho24; rw [← Ny147.out] at ho24)); have n0_ := Aside0.mk (Kd.R_lower ho24 (below_size (by repeat (first | (with_reducible first | exact HB.out | apply below_alloc | apply pw_below_drewN | apply below_drew1) | exact HB.out)))); have n1_ := Aside0.mk (below_step (by repeat (first | (with_reducible first | exact HB.out | apply below_alloc | apply pw_below_drewN | apply below_drew1) | exact HB.out)) hb); clear HB; have HO149 := n0_; have HB := n1_; clear n0_ n1_; clear hb ho24; have p10 : 0 ≤ (0 : Int) := (by omega); have q10 : (0 : Int) < ((y147.length : Int) : Int) := of_decide_eq_true (by first | (with_reducible assumption) | assumption); have qi10 : (0 < y147.length) = True := eq_true (by omega); obtain ⟨go10, co10, eo10, gb10, gl10, cl10, HG10⟩ := Kd.R_form HO149.out (by omega); (first | cases eo10 | (injection eo10 with ea_ en_ ec_; (first | subst ea_ | (injection ea_ with ea_; subst ea_)); subst ec_; clear en_)); have GB10 := Aside0.mk gb10; have GG10 := Aside0.mk HG10; clear gb10 gl10 HG10; obtain ⟨hx10_0, hf10_0⟩ := Kd.R_celln 0 HO149.out (0 : Int) p10 q10; (try rw [show ((0 : Int)).toNat = 0 from rfl] at hx10_0); (try simp only [Nat.reduceMul, Nat.zero_mul, Nat.zero_add, Nat.reduceAdd] at hx10_0); (try rw [show ((0 : Int)).toNat = 0 from rfl] at hf10_0); (try simp only [Nat.reduceMul, Nat.zero_mul, Nat.zero_add, Nat.reduceAdd] at hf10_0); replace p10 := eq_true p10; replace q10 := eq_true q10; obtain ⟨hy25_, hz25_⟩ := Kd.R_celln 0 HO149.out (0 : Int) (by omega) (of_decide_eq_true (by first | (with_reducible assumption) | assumption)); (try simp only [Int.reduceToNat, Int.toNat_zero, Int.toNat_ofNat, Nat.reduceMul, Nat.zero_mul, Nat.zero_add] at hy25_ hz25_); (try rw [show ((0 : Int)).toNat = 0 from rfl] at hy25_); (try rw [show ((0 : Int)).toNat = 0 from rfl] at hz25_); have HP25 := Kd.R_putg HO149.out (0 : Int) 73) | ((with_reducible refine gate_store (t := 5) (p := 24) rfl ?_); refine store_event (t := 5) (p := 24) (v := ?vo_w26) (w1 := (w23.setCell ⟨go10, (0 : Int).toNat, none⟩ (.int .u8 73))) ?hg ?ho ?hn ?hr ?_; (case ho => rfl); (case hg => rfl); (case hn => rfl); (case hr => first | (go_simp; done) | (go_simp; rfl)); intro w26 hw; have hg : w23.grownBy w26 (some go10) := (by rw [hw]; exact HP25.2); have hp_ : Kd.R (Kd.int .u8) 5 w26 w.heap.size (fun _ => True) (.slice (some ⟨go10, 0, none⟩) y147.length co10) y150 := (by rw [hw, Ny150.out]; exact HP25.1); clear HP25; have n0_ := Aside0.mk (hp_); have n1_ := Aside0.mk ((by rw [hw]; exact below_set (HB.out) GB10.out : Below w.heap.size w w26)); clear HO149; clear HB; have HO149 := n0_; have HB := n1_; clear n0_ n1_; clear hg hw hp_; have p12 : 0 ≤ (1 : Int) := (by omega); have q12 : (1 : Int) < ((y147.length : Int) : Int) := of_decide_eq_true (by first | (with_reducible assumption) | assumption); have qi12 : (1 < y147.length) = True := eq_true (by omega); obtain ⟨hx12_0, hf12_0⟩ := Kd.R_celln 0 HO149.out (1 : Int) p12 q12; (try rw [show ((1 : Int)).toNat = 1 from rfl] at hx12_0); (try simp only [Nat.reduceMul, Nat.zero_mul, Nat.zero_add, Nat.reduceAdd] at hx12_0); (try rw [show ((1 : Int)).toNat = 1 from rfl] at hf12_0); (try simp only [Nat.reduceMul, Nat.zero_mul, Nat.zero_add, Nat.reduceAdd] at hf12_0); replace p12 := eq_true p12; replace q12 := eq_true q12; obtain ⟨hy27_, hz27_⟩ := Kd.R_celln 0 HO149.out (1 : Int) (by omega) (of_decide_eq_true (by first | (with_reducible assumption) | assumption)); (try simp only [Int.reduceToNat, Int.toNat_zero, Int.toNat_ofNat, Nat.reduceMul, Nat.zero_mul, Nat.zero_add] at hy27_ hz27_); (try rw [show ((1 : Int)).toNat = 1 from rfl] at hy27_); (try rw [show ((1 : Int)).toNat = 1 from rfl] at hz27_); have HP27 := Kd.R_putg HO149.out (1 : Int) 78) | ((with_reducible refine gate_store (t := 5) (p := 25) rfl ?_); refine store_event (t := 5) (p := 25) (v := ?vo_w28) (w1 := (w26.setCell ⟨go10, (1 : Int).toNat, none⟩ (.int .u8 78))) ?hg ?ho ?hn ?hr ?_; (case ho => rfl); (case hg => rfl); (case hn => rfl); (case hr => first | (go_simp; done) | (go_simp; rfl)); intro w28 hw; have hg : w26.grownBy w28 (some go10) := (by rw [hw]; exact HP27.2); have hp_ : Kd.R (Kd.int .u8) 5 w28 w.heap.size (fun _ => True) (.slice (some ⟨go10, 0, none⟩) y147.length co10) y151 := (by rw [hw, Ny151.out]; exact HP27.1); clear HP27; have n0_ := Aside0.mk (hp_); have n1_ := Aside0.mk ((by rw [hw]; exact below_set (HB.out) GB10.out : Below w.heap.size w w28)); clear HO149; clear HB; have HO149 := n0_; have HB := n1_; clear n0_ n1_; clear hg hw hp_; have p14 : 0 ≤ (2 : Int) := (by omega); have q14 : (2 : Int) < ((y147.length : Int) : Int) := of_decide_eq_true (by first | (with_reducible assumption) | assumption); have qi14 : (2 < y147.length) = True := eq_true (by omega); obtain ⟨hx14_0, hf14_0⟩ := Kd.R_celln 0 HO149.out (2 : Int) p14 q14; (try rw [show ((2 : Int)).toNat = 2 from rfl] at hx14_0); (try simp only [Nat.reduceMul, Nat.zero_mul, Nat.zero_add, Nat.reduceAdd] at hx14_0); (try rw [show ((2 : Int)).toNat = 2 from rfl] at hf14_0); (try simp only [Nat.reduceMul, Nat.zero_mul, Nat.zero_add, Nat.reduceAdd] at hf14_0); replace p14 := eq_true p14; replace q14 := eq_true q14; obtain ⟨hy29_, hz29_⟩ := Kd.R_celln 0 HO149.out (2 : Int) (by omega) (of_decide_eq_true (by first | (with_reducible assumption) | assumption)); (try simp only [Int.reduceToNat, Int.toNat_zero, Int.toNat_ofNat, Nat.reduceMul, Nat.zero_mul, Nat.zero_add] at hy29_ hz29_); (try rw [show ((2 : Int)).toNat = 2 from rfl] at hy29_); (try rw [show ((2 : Int)).toNat = 2 from rfl] at hz29_); have HP29 := Kd.R_putg HO149.out (2 : Int) 79) | ((with_reducible refine gate_store (t := 5) (p := 26) rfl ?_); refine store_event (t := 5) (p := 26) (v := ?vo_w30) (w1 := (w28.setCell ⟨go10, (2 : Int).toNat, none⟩ (.int .u8 79))) ?hg ?ho ?hn ?hr ?_; (case ho => rfl); (case hg => rfl); (case hn => rfl); (case hr => first | (go_simp; done) | (go_simp; rfl)); intro w30 hw; have hg : w28.grownBy w30 (some go10) := (by rw [hw]; exact HP29.2); have hp_ : Kd.R (Kd.int .u8) 5 w30 w.heap.size (fun _ => True) (.slice (some ⟨go10, 0, none⟩) y147.length co10) y152 := (by rw [hw, Ny152.out]; exact HP29.1); clear HP29; have n0_ := Aside0.mk (hp_); have n1_ := Aside0.mk ((by rw [hw]; exact below_set (HB.out) GB10.out : Below w.heap.size w w30)); clear HO149; clear HB; have HO149 := n0_; have HB := n1_; clear n0_ n1_; clear hg hw hp_; have p16 : 0 ≤ (3 : Int) := (by omega); have q16 : (3 : Int) < ((y147.length : Int) : Int) := of_decide_eq_true (by first | (with_reducible assumption) | assumption); have qi16 : (3 < y147.length) = True := eq_true (by omega); obtain ⟨hx16_0, hf16_0⟩ := Kd.R_celln 0 HO149.out (3 : Int) p16 q16; (try rw [show ((3 : Int)).toNat = 3 from rfl] at hx16_0); (try simp only [Nat.reduceMul, Nat.zero_mul, Nat.zero_add, Nat.reduceAdd] at hx16_0); (try rw [show ((3 : Int)).toNat = 3 from rfl] at hf16_0); (try simp only [Nat.reduceMul, Nat.zero_mul, Nat.zero_add, Nat.reduceAdd] at hf16_0); replace p16 := eq_true p16; replace q16 := eq_true q16; obtain ⟨hy31_, hz31_⟩ := Kd.R_celln 0 HO149.out (3 : Int) (by omega) (of_decide_eq_true (by first | (with_reducible assumption) | assumption)); (try simp only [Int.reduceToNat, Int.toNat_zero, Int.toNat_ofNat, Nat.reduceMul, Nat.zero_mul, Nat.zero_add] at hy31_ hz31_); (try rw [show ((3 : Int)).toNat = 3 from rfl] at hy31_); (try rw [show ((3 : Int)).toNat = 3 from rfl] at hz31_); have HP31 := Kd.R_putg HO149.out (3 : Int) 68) | ((with_reducible refine gate_store (t := 5) (p := 27) rfl ?_); refine store_event (t := 5) (p := 27) (v := ?vo_w32) (w1 := (w30.setCell ⟨go10, (3 : Int).toNat, none⟩ (.int .u8 68))) ?hg ?ho ?hn ?hr ?_; (case ho => rfl); (case hg => rfl); (case hn => rfl); (case hr => first | (go_simp; done) | (go_simp; rfl)); intro w32 hw; have hg : w30.grownBy w32 (some go10) := (by rw [hw]; exact HP31.2); have hp_ : Kd.R (Kd.int .u8) 5 w32 w.heap.size (fun _ => True) (.slice (some ⟨go10, 0, none⟩) y147.length co10) y153 := (by rw [hw, Ny153.out]; exact HP31.1); clear HP31; have n0_ := Aside0.mk (hp_); have n1_ := Aside0.mk ((by rw [hw]; exact below_set (HB.out) GB10.out : Below w.heap.size w w32)); clear HO149; clear HB; have HO149 := n0_; have HB := n1_; clear n0_ n1_; clear hg hw hp_; have p18 : 0 ≤ (4 : Int) := (by omega); have q18 : (4 : Int) < ((y147.length : Int) : Int) := of_decide_eq_true (by first | (with_reducible assumption) | assumption); have qi18 : (4 < y147.length) = True := eq_true (by omega); obtain ⟨hx18_0, hf18_0⟩ := Kd.R_celln 0 HO149.out (4 : Int) p18 q18; (try rw [show ((4 : Int)).toNat = 4 from rfl] at hx18_0); (try simp only [Nat.reduceMul, Nat.zero_mul, Nat.zero_add, Nat.reduceAdd] at hx18_0); (try rw [show ((4 : Int)).toNat = 4 from rfl] at hf18_0); (try simp only [Nat.reduceMul, Nat.zero_mul, Nat.zero_add, Nat.reduceAdd] at hf18_0); replace p18 := eq_true p18; replace q18 := eq_true q18; obtain ⟨hy33_, hz33_⟩ := Kd.R_celln 0 HO149.out (4 : Int) (by omega) (of_decide_eq_true (by first | (with_reducible assumption) | assumption)); (try simp only [Int.reduceToNat, Int.toNat_zero, Int.toNat_ofNat, Nat.reduceMul, Nat.zero_mul, Nat.zero_add] at hy33_ hz33_); (try rw [show ((4 : Int)).toNat = 4 from rfl] at hy33_); (try rw [show ((4 : Int)).toNat = 4 from rfl] at hz33_); have HP33 := Kd.R_putg HO149.out (4 : Int) ((a0) % 256)) | ((with_reducible refine gate_store (t := 5) (p := 31) rfl ?_); refine store_event (t := 5) (p := 31) (v := ?vo_w34) (w1 := (w32.setCell ⟨go10, (4 : Int).toNat, none⟩ (.int .u8 ((a0) % 256)))) ?hg ?ho ?hn ?hr ?_; (case ho => rfl); (case hg => rfl); (case hn => rfl); (case hr => first | (go_simp; done) | (go_simp; rfl)); intro w34 hw; have hg : w32.grownBy w34 (some go10) := (by rw [hw]; exact HP33.2); have hp_ : Kd.R (Kd.int .u8) 5 w34 w.heap.size (fun _ => True) (.slice (some ⟨go10, 0, none⟩) y147.length co10) y154 := (by rw [hw, Ny154.out]; exact HP33.1); clear HP33; have n0_ := Aside0.mk (hp_); have n1_ := Aside0.mk ((by rw [hw]; exact below_set (HB.out) GB10.out : Below w.heap.size w w34)); clear HO149; clear HB; have HO149 := n0_; have HB := n1_; clear n0_ n1_; clear hg hw hp_; have p20 : 0 ≤ (5 : Int) := (by omega); have q20 : (5 : Int) < ((y147.length : Int) : Int) := of_decide_eq_true (by first | (with_reducible assumption) | assumption); have qi20 : (5 < y147.length) = True := eq_true (by omega); obtain ⟨hx20_0, hf20_0⟩ := Kd.R_celln 0 HO149.out (5 : Int) p20 q20; (try rw [show ((5 : Int)).toNat = 5 from rfl] at hx20_0); (try simp only [Nat.reduceMul, Nat.zero_mul, Nat.zero_add, Nat.reduceAdd] at hx20_0); (try rw [show ((5 : Int)).toNat = 5 from rfl] at hf20_0); (try simp only [Nat.reduceMul, Nat.zero_mul, Nat.zero_add, Nat.reduceAdd] at hf20_0); replace p20 := eq_true p20; replace q20 := eq_true q20; obtain ⟨hy35_, hz35_⟩ := Kd.R_celln 0 HO149.out (5 : Int) (by omega) (of_decide_eq_true (by first | (with_reducible assumption) | assumption)); (try simp only [Int.reduceToNat, Int.toNat_zero, Int.toNat_ofNat, Nat.reduceMul, Nat.zero_mul, Nat.zero_add] at hy35_ hz35_); (try rw [show ((5 : Int)).toNat = 5 from rfl] at hy35_); (try rw [show ((5 : Int)).toNat = 5 from rfl] at hz35_); have HP35 := Kd.R_putg HO149.out (5 : Int) ((Int.tmod a1 256) % 256)) | ((with_reducible refine gate_store (t := 5) (p := 36) rfl ?_); refine store_event (t := 5) (p := 36) (v := ?vo_w36) (w1 := (w34.setCell ⟨go10, (5 : Int).toNat, none⟩ (.int .u8 ((Int.tmod a1 256) % 256)))) ?hg ?ho ?hn ?hr ?_; (case ho => rfl); (case hg => rfl); (case hn => rfl); (case hr => first | (go_simp; done) | (go_simp; rfl)); intro w36 hw; have hg : w34.grownBy w36 (some go10) := (by rw [hw]; exact HP35.2); have hp_ : Kd.R (Kd.int .u8) 5 w36 w.heap.size (fun _ => True) (.slice (some ⟨go10, 0, none⟩) y147.length co10) y155 := (by rw [hw, Ny155.out]; exact HP35.1); clear HP35; have n0_ := Aside0.mk (hp_); have n1_ := Aside0.mk ((by rw [hw]; exact below_set (HB.out) GB10.out : Below w.heap.size w w36)); clear HO149; clear HB; have HO149 := n0_; have HB := n1_; clear n0_ n1_; clear hg hw hp_; have p22 : 0 ≤ (6 : Int) := (by omega); have q22 : (6 : Int) < ((y147.length : Int) : Int) := of_decide_eq_true (by first | (with_reducible assumption) | assumption); have qi22 : (6 < y147.length) = True := eq_true (by omega); obtain ⟨hx22_0, hf22_0⟩ := Kd.R_celln 0 HO149.out (6 : Int) p22 q22; (try rw [show ((6 : Int)).toNat = 6 from rfl] at hx22_0); (try simp only [Nat.reduceMul, Nat.zero_mul, Nat.zero_add, Nat.reduceAdd] at hx22_0); (try rw [show ((6 : Int)).toNat = 6 from rfl] at hf22_0); (try simp only [Nat.reduceMul, Nat.zero_mul, Nat.zero_add, Nat.reduceAdd] at hf22_0); replace p22 := eq_true p22; replace q22 := eq_true q22; obtain ⟨hy37_, hz37_⟩ := Kd.R_celln 0 HO149.out (6 : Int) (by omega) (of_decide_eq_true (by first | (with_reducible assumption) | assumption)); (try simp only [Int.reduceToNat, Int.toNat_zero, Int.toNat_ofNat, Nat.reduceMul, Nat.zero_mul, Nat.zero_add] at hy37_ hz37_); (try rw [show ((6 : Int)).toNat = 6 from rfl] at hy37_); (try rw [show ((6 : Int)).toNat = 6 from rfl] at hz37_); have HP37 := Kd.R_putg HO149.out (6 : Int) ((wrap64 (Int.tdiv a1 256)) % 256)) | ((with_reducible refine gate_store (t := 5) (p := 41) rfl ?_); refine store_event (t := 5) (p := 41) (v := ?vo_w38) (w1 := (w36.setCell ⟨go10, (6 : Int).toNat, none⟩ (.int .u8 ((wrap64 (Int.tdiv a1 256)) % 256)))) ?hg ?ho ?hn ?hr ?_; (case ho => rfl); (case hg => rfl); (case hn => rfl); (case hr => first | (go_simp; done) | (go_simp; rfl)); intro w38 hw; have hg : w36.grownBy w38 (some go10) := (by rw [hw]; exact HP37.2); have hp_ : Kd.R (Kd.int .u8) 5 w38 w.heap.size (fun _ => True) (.slice (some ⟨go10, 0, none⟩) y147.length co10) y156 := (by rw [hw, Ny156.out]; exact HP37.1); clear HP37; have n0_ := Aside0.mk (hp_); have n1_ := Aside0.mk ((by rw [hw]; exact below_set (HB.out) GB10.out : Below w.heap.size w w38)); clear HO149; clear HB; have HO149 := n0_; have HB := n1_; clear n0_ n1_; clear hg hw hp_))
             go_loopg [7, 8] kj2 (fun kq v7 v8 w' => ∃ (x7_2 : Int) (x8_2 : Int), v7 = .int .i64 x7_2 ∧ v8 = .int .i64 x8_2 ∧ Aside0 (estoversref27_Encode.l0 kq y156 x7_2 x8_2 = some (r1, r2)) ∧ Aside0 (kq ≤ kj2) ∧ Aside0 (Kd.R (Kd.int .u8) 5 w' w.heap.size (fun _ => True) (.slice (some ⟨go10, 0, none⟩) y147.length co10) y156) ∧ Aside0 (Below w.heap.size w w'))
             case atStart => exact ⟨(0), (0), (by first | rfl | (simp; done) | (simp [*]; done)), (by first | rfl | (simp; done) | (simp [*]; done)), H', ⟨Nat.le_refl _⟩, ⟨by (with_reducible repeat (first | apply Kd.R_alloc | apply Kd.R_drewN | apply Kd.R_drew)); exact HO149.out⟩, ⟨by repeat (first | (with_reducible first | exact HB.out | apply below_alloc | apply pw_below_drewN | apply below_drew1) | exact HB.out)⟩⟩
             case round =>
              clear H'
              (try clear c1); (try clear p1); (try clear q1); (try clear hx1); (try clear qi1); (try clear c2); (try clear p2); (try clear q2); (try clear hx2); (try clear qi2); (try clear hf2); (try clear c4); (try clear c4b0); (try clear c5); (try clear p6); (try clear c7); (try clear c8); (try clear c8b0); (try clear c8b1); (try clear c9); (try clear c9b0); (try clear c9b1); (try clear p10); (try clear q10); (try clear hx10); (try clear qi10); (try clear hf10); (try clear c11); (try clear c11b0); (try clear c11b1); (try clear p12); (try clear q12); (try clear hx12); (try clear qi12); (try clear hf12); (try clear c13); (try clear c13b0); (try clear c13b1); (try clear p14); (try clear q14); (try clear hx14); (try clear qi14); (try clear hf14); (try clear c15); (try clear c15b0); (try clear c15b1); (try clear p16); (try clear q16); (try clear hx16); (try clear qi16); (try clear hf16); (try clear c17); (try clear c17b0); (try clear c17b1); (try clear p18); (try clear q18); (try clear hx18); (try clear qi18); (try clear hf18); (try clear c19); (try clear c19b0); (try clear c19b1); (try clear p20); (try clear q20); (try clear hx20); (try clear qi20); (try clear hf20); (try clear c21); (try clear c21b0); (try clear c21b1); (try clear p22); (try clear q22); (try clear hx22); (try clear qi22); (try clear hf22); (try clear c27); (try clear hx10_0); (try clear hx12_0); (try clear hx14_0); (try clear hx16_0); (try clear hx18_0); (try clear hx20_0); (try clear hx22_0); (try clear p10); (try clear p12); (try clear p14); (try clear p16); (try clear p18); (try clear p2); (try clear p20); (try clear p22); (try clear q10); (try clear q12); (try clear q14); (try clear q16); (try clear q18); (try clear q20); (try clear q22)
              obtain ⟨x7_2, x8_2, rfl, rfl, HA, HK2, HO_6, HB⟩ := hrel
              have hl6_2 := (Kd.R_reads' HO_6.out).1
              rw [hl6_2] at HO_6
              (try simp only [hl6_2])
              cases gk with
              | zero => exact absurd HA.out (by simp [estoversref27_Encode.l0])
              | succ k2 =>
               have H := HA.out
               clear HA
               simp only [estoversref27_Encode.l0] at H
               by_cases c39 : x8_2 < 7
               ·rw [if_pos c39] at H
                have c39b0 : decide (x8_2 < 7) = true := decide_eq_true c39
                clear c39
                by_cases c40 : 0 ≤ x8_2
                ·rw [if_pos c40] at H
                 have c40b0 : decide (0 ≤ x8_2) = true := decide_eq_true c40
                 clear c40
                 by_cases c41 : x8_2 < (y156.length : Int)
                 ·rw [if_pos c41] at H
                  have c41b0 : decide (x8_2 < (y156.length : Int)) = true := decide_eq_true c41
                  clear c41
                  have H' := Aside0.mk H
                  clear H
                  have p157 : 0 ≤ (x8_2 : Int) := of_decide_eq_true (by first | (with_reducible assumption) | assumption)
                  have q157 : x8_2 < (y156.length : Int) := of_decide_eq_true (by first | (with_reducible assumption) | assumption)
                  obtain ⟨ad157, e157, hx157_0⟩ := Kd.at_int (Kd.R_reads' HO_6.out).2.2 x8_2 p157 q157
                  obtain rfl : (⟨go10, 0, none⟩ : Addr) = ad157 := (by injection e157)
                  (first | simp only [add_plain] at hx157_0 | simp only [add_at] at hx157_0 | simp only [Addr.add, Nat.zero_add] at hx157_0 | skip)
                  replace p157 := eq_true p157
                  replace q157 := eq_true q157
                  go_wp2
                  (try simp only [← hl6_2])
                  go_roundg k2
                  case measure => have := HJ2.out; have := HK2.out; omega
                  case rel => exact ⟨(wrap64 (x7_2 + (wrap64 (rd y156 x8_2)))), (wrap64 (x8_2 + 1)), (by first | rfl | (simp; done) | (simp [*]; done)), (by first | rfl | (simp; done) | (simp [*]; done)), H', ⟨by have := HJ2.out; have := HK2.out; omega⟩, ⟨by (try simp only [hl6_2]); (with_reducible repeat (first | apply Kd.R_alloc | apply Kd.R_drewN | apply Kd.R_drew)); exact HO_6.out⟩, ⟨by repeat (first | (with_reducible first | exact HB.out | apply below_alloc | apply pw_below_drewN | apply below_drew1) | exact HB.out)⟩⟩
                 ·rw [if_neg c41] at H
                  exact absurd H (by simp)
                ·rw [if_neg c40] at H
                 exact absurd H (by simp)
               ·rw [if_neg c39] at H
                have c39b0 : decide (x8_2 < 7) = false := decide_eq_false c39
                clear c39
                by_cases c42 : 7 < (y156.length : Int)
                ·rw [if_pos c42] at H
                 have c42b0 : decide (7 < (y156.length : Int)) = true := decide_eq_true c42
                 have c42b1 : decide (7 < y156.length) = true := decide_eq_true (by omega)
                 clear c42
                 obtain ⟨y158, hy158⟩ : ∃ y_ : List Int, y_ = (y156.set (7 : Int).toNat ((Int.tmod x7_2 251) % 256)) := ⟨_, rfl⟩
                 replace H : (some (y158, 0)) = some (r1, r2) := by first | (rw [hy158]; with_reducible exact H) | (have H2_ := (Option.bind_some _ _).symm.trans H; rw [hy158]; with_reducible exact H2_) | (have H2_ := (Option.bind_some _ _).symm.trans H; with_reducible exact H2_) | with_reducible exact H | (rw [hy158]; exact H) | exact H
                 have Ny158 := Aside0.mk hy158
                 clear hy158
                 simp only [Option.some.injEq, Prod.mk.injEq] at H
                 obtain ⟨rfl, rfl⟩ := H
                 have p43 : 0 ≤ (7 : Int) := (by omega)
                 have q43 : (7 : Int) < ((y156.length : Int) : Int) := of_decide_eq_true (by first | (with_reducible assumption) | assumption)
                 have qi43 : (7 < y156.length) = True := eq_true (by omega)
                 obtain ⟨hx43_0, hf43_0⟩ := Kd.R_celln 0 HO_6.out (7 : Int) p43 q43
                 (try rw [show ((7 : Int)).toNat = 7 from rfl] at hx43_0)
                 (try simp only [Nat.reduceMul, Nat.zero_mul, Nat.zero_add, Nat.reduceAdd] at hx43_0)
                 (try rw [show ((7 : Int)).toNat = 7 from rfl] at hf43_0)
                 (try simp only [Nat.reduceMul, Nat.zero_mul, Nat.zero_add, Nat.reduceAdd] at hf43_0)
                 replace p43 := eq_true p43
                 replace q43 := eq_true q43
                 have HP44 := Kd.R_putg HO_6.out (7 : Int) ((Int.tmod x7_2 251) % 256)
                 go_wp2_with (first | ((with_reducible refine gate_store (t := 5) (p := 57) rfl ?_); refine store_event (t := 5) (p := 57) (v := ?vo_w45) (w1 := (wr.setCell ⟨go10, (7 : Int).toNat, none⟩ (.int .u8 ((Int.tmod x7_2 251) % 256)))) ?hg ?ho ?hn ?hr ?_; (case ho => rfl); (case hg => rfl); (case hn => rfl); (case hr => first | (go_simp; done) | (go_simp; rfl)); intro w45 hw; have hg : wr.grownBy w45 (some go10) := (by rw [hw]; exact HP44.2); have hp_ : Kd.R (Kd.int .u8) 5 w45 w.heap.size (fun _ => True) (.slice (some ⟨go10, 0, none⟩) y156.length co10) y158 := (by rw [hw, Ny158.out]; exact HP44.1); clear HP44; have n0_ := Aside0.mk (hp_); have n1_ := Aside0.mk ((by rw [hw]; exact below_set (HB.out) GB10.out : Below w.heap.size w w45)); clear HO_6; clear HB; have HO_6 := n0_; have HB := n1_; clear n0_ n1_; clear hg hw hp_))
                 go_ret2
                 exact ⟨_, by first | rfl | (simp [errW_none, errW_some] <;> rfl) | (simp [*, errW_none, errW_some] <;> rfl), by (with_reducible repeat (first | apply Kd.R_alloc | apply Kd.R_drewN | apply Kd.R_drew)); exact HO_6.out, by repeat (first | (with_reducible first | exact HB.out | apply below_alloc | apply pw_below_drewN | apply below_drew1) | exact HB.out)⟩
                ·rw [if_neg c42] at H
                 exact absurd H (by simp)
            ·rw [if_neg c21] at H
             exact absurd H (by simp)
           ·rw [if_neg c19] at H
            exact absurd H (by simp)
          ·rw [if_neg c17] at H
           exact absurd H (by simp)
         ·rw [if_neg c15] at H
          exact absurd H (by simp)
        ·rw [if_neg c13] at H
         exact absurd H (by simp)
       ·rw [if_neg c11] at H
        exact absurd H (by simp)
      ·rw [if_neg c9] at H
       exact absurd H (by simp)
     ·rw [if_neg c8] at H
      exact absurd H (by simp)
    ·replace c7 := Bool.eq_false_iff.mpr c7
     subst c7
     have H1 : (some (([] : List Int), 3)) = some (r1, r2) := by rw [if_neg (show ¬ (false = true) by decide)] at H; exact H
     clear H
     have H := H1
     clear H1
     simp only [Option.some.injEq, Prod.mk.injEq] at H
     obtain ⟨rfl, rfl⟩ := H
     go_wp2_with (first | ((with_reducible refine gate_callee (f := 27) rfl ?_); refine goesL_ (some 17) rfl rfl Try.func27 (by kernel_rfl) rfl #[.int .i64 a1, .int .i64 a0] rfl (by (try simp only [List.map_toArray, List.map_cons, List.map_nil]); first | done | rfl | (simp only [List.length_drop, List.length_take]; rfl)) ?_; (with_reducible refine (estoversref27_isMask.calls a1 a0 false _ A6.out).mono ?_); rintro e w' ⟨rfl, ⟨nd, rfl⟩⟩; refine ⟨_, rfl, ?_⟩))
     go_ret2
     exact ⟨_, by first | rfl | (simp [errW_none, errW_some] <;> rfl) | (simp [*, errW_none, errW_some] <;> rfl), by first | exact Kd.R_nil _ _ _ _ _ | exact Kd.N_nil _ _ _ _ _ | exact Kd.V_nil _ _ _ _ _ | exact Kd.Q_nil _ _ _ _ _ | exact Kd.S_nil _ _ _ _ _, by repeat (first | (with_reducible first | exact HB.out | apply below_alloc | apply pw_below_drewN | apply below_drew1) | exact HB.out)⟩

end Go.Proofs.Ytnkopggkapdceaa.Ino
