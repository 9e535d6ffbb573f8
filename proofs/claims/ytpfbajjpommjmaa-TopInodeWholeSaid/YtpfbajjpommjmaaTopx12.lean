/- Turned out by a program of this session (wip/tools/prt.py). -/
import Derived.Test.YtpfbajjpommjmaaTopx0
import Derived.Test.YtpfbajjpommjmaaTopx3
import Derived.Test.YtpfbajjpommjmaaTopx11
namespace Go.Proofs.Ytpfbajjpommjmaa.Top
open Go.RowKit Go.Proofs.YtpfbajjpommjmaaW.PrintWords Go.Proofs.YtpfbajjpommjmaaW.PrintLast Go.Proofs.YtpfbajjpommjmaaW.PrintMore
attribute [local go_sem] max2_int min2_int max_two min_two max_three min_three max_four min_four   -- for this text's walks alone
set_option linter.unusedVariables false
set_option linter.unusedSimpArgs false

/-! ### inode_Decode: function 10 -/
def inode_Decode.f (l0 : List Int) : Option (Int × Int × Int) := if (l0.length : Int) = 32 then (if 4 < (l0.length : Int) then (if 5 < (l0.length : Int) then (if 6 < (l0.length : Int) then ((inode_Encode.f (wrap64 (rd l0 4)) (wrap64 ((wrap64 (rd l0 5)) + (wrap64 ((wrap64 (rd l0 6)) * 256))))).bind fun bt163 => (if bt163.2 = 0 then ((bytes_Equal.f bt163.1 l0).bind fun t167 => (if t167 = true then (some (wrap64 (rd l0 4), wrap64 ((wrap64 (rd l0 5)) + (wrap64 ((wrap64 (rd l0 6)) * 256))), 0)) else (some (0, 0, 22)))) else (some (0, 0, 22)))) else (none)) else (none)) else (none)) else (some (0, 0, 3))
set_option maxHeartbeats 8000000 in
set_option maxRecDepth 100000 in
theorem inode_Decode.calls (A0 : Option Addr) (c0 : Nat) (l0 : List Int) (r1 : Int) (r2 : Int) (r3 : Int) (w : World) (hr0 : Kd.C (Kd.int .u8) w A0 l0.length l0) (hc0 : l0.length ≤ c0) (h : inode_Decode.f l0 = some (r1, r2, r3)) :
  Calls Try.prog 10 #[.slice A0 l0.length c0] w fun e w' => e = .returned (.tuple #[.int .i64 r1, .int .i64 r2, .int .i64 r3]) ∧ Below w.heap.size w w' := by
 have HR0 := Aside0.mk hr0
 have HC0 := Aside0.mk hc0
 clear hr0 hc0
 have HB := Aside0.mk (Below.refl w.heap.size w)
 have H : (if (l0.length : Int) = 32 then (if 4 < (l0.length : Int) then (if 5 < (l0.length : Int) then (if 6 < (l0.length : Int) then ((inode_Encode.f (wrap64 (rd l0 4)) (wrap64 ((wrap64 (rd l0 5)) + (wrap64 ((wrap64 (rd l0 6)) * 256))))).bind fun bt163 => (if bt163.2 = 0 then ((bytes_Equal.f bt163.1 l0).bind fun t167 => (if t167 = true then (some (wrap64 (rd l0 4), wrap64 ((wrap64 (rd l0 5)) + (wrap64 ((wrap64 (rd l0 6)) * 256))), 0)) else (some (0, 0, 22)))) else (some (0, 0, 22)))) else (none)) else (none)) else (none)) else (some (0, 0, 3))) = some (r1, r2, r3) := h
 clear h
 by_cases c2 : (l0.length : Int) = 32
 ·rw [if_pos c2] at H
  have c2b0 : ((l0.length : Int) == 32) = true := beq_iff_eq.mpr c2
  have c2b1 : ((l0.length : Int) != 32) = false := bne_eq_false_iff_eq.mpr c2
  clear c2
  by_cases c3 : 4 < (l0.length : Int)
  ·rw [if_pos c3] at H
   have c3b0 : decide (4 < (l0.length : Int)) = true := decide_eq_true c3
   have c3b1 : decide (4 < l0.length) = true := decide_eq_true (by omega)
   clear c3
   by_cases c4 : 5 < (l0.length : Int)
   ·rw [if_pos c4] at H
    have c4b0 : decide (5 < (l0.length : Int)) = true := decide_eq_true c4
    have c4b1 : decide (5 < l0.length) = true := decide_eq_true (by omega)
    clear c4
    by_cases c5 : 6 < (l0.length : Int)
    ·rw [if_pos c5] at H
     have c5b0 : decide (6 < (l0.length : Int)) = true := decide_eq_true c5
     have c5b1 : decide (6 < l0.length) = true := decide_eq_true (by omega)
     clear c5
     replace H := Option.bind_eq_some_iff.mp H
     obtain ⟨⟨t163, t164⟩, A60, H⟩ := H
     replace H : (if t164 = 0 then ((bytes_Equal.f t163 l0).bind fun t167 => (if t167 = true then (some (wrap64 (rd l0 4), wrap64 ((wrap64 (rd l0 5)) + (wrap64 ((wrap64 (rd l0 6)) * 256))), 0)) else (some (0, 0, 22)))) else (some (0, 0, 22))) = some (r1, r2, r3) := H
     have A6 := Aside0.mk A60
     clear A60
     by_cases c7 : t164 = 0
     ·rw [if_pos c7] at H
      have c7b0 : (t164 == 0) = true := beq_iff_eq.mpr c7
      have c7b1 : (t164 != 0) = false := bne_eq_false_iff_eq.mpr c7
      clear c7
      replace H := Option.bind_eq_some_iff.mp H
      obtain ⟨t167, A80, H⟩ := H
      replace H : (if t167 = true then (some (wrap64 (rd l0 4), wrap64 ((wrap64 (rd l0 5)) + (wrap64 ((wrap64 (rd l0 6)) * 256))), 0)) else (some (0, 0, 22))) = some (r1, r2, r3) := H
      have A8 := Aside0.mk A80
      clear A80
      by_cases c9 : t167 = true
      ·subst c9
       have H1 : (some (wrap64 (rd l0 4), wrap64 ((wrap64 (rd l0 5)) + (wrap64 ((wrap64 (rd l0 6)) * 256))), 0)) = some (r1, r2, r3) := by rw [if_pos rfl] at H; exact H
       clear H
       have H := H1
       clear H1
       simp only [Option.some.injEq, Prod.mk.injEq] at H
       obtain ⟨rfl, rfl, rfl⟩ := H
       have p160 : 0 ≤ (4 : Int) := (by omega)
       have q160 : 4 < (l0.length : Int) := of_decide_eq_true (by first | (with_reducible assumption) | assumption)
       obtain ⟨ad160, e160, hx160_0⟩ := Kd.at_int HR0.out 4 p160 q160
       cases e160
       (try simp only [show (4 : Int).toNat = 4 from rfl, Nat.reduceMul, Nat.reduceEqDiff, Go.Addr.add, ↓reduceIte] at hx160_0)
       have qi160 : (4 < l0.length) = True := eq_true (by omega)
       (try rw [show ((4 : Int)).toNat = 4 from rfl] at hx160_0)
       replace p160 := eq_true p160
       replace q160 := eq_true q160
       have p161 : 0 ≤ (5 : Int) := (by omega)
       have q161 : 5 < (l0.length : Int) := of_decide_eq_true (by first | (with_reducible assumption) | assumption)
       obtain ⟨ad161, e161, hx161_0⟩ := Kd.at_int HR0.out 5 p161 q161
       obtain rfl : ad160 = ad161 := (by injection e161)
       (try simp only [show (5 : Int).toNat = 5 from rfl, Nat.reduceMul, Nat.reduceEqDiff, Go.Addr.add, ↓reduceIte] at hx161_0)
       have qi161 : (5 < l0.length) = True := eq_true (by omega)
       (try rw [show ((5 : Int)).toNat = 5 from rfl] at hx161_0)
       replace p161 := eq_true p161
       replace q161 := eq_true q161
       have p162 : 0 ≤ (6 : Int) := (by omega)
       have q162 : 6 < (l0.length : Int) := of_decide_eq_true (by first | (with_reducible assumption) | assumption)
       obtain ⟨ad162, e162, hx162_0⟩ := Kd.at_int HR0.out 6 p162 q162
       obtain rfl : ad160 = ad162 := (by injection e162)
       (try simp only [show (6 : Int).toNat = 6 from rfl, Nat.reduceMul, Nat.reduceEqDiff, Go.Addr.add, ↓reduceIte] at hx162_0)
       have qi162 : (6 < l0.length) = True := eq_true (by omega)
       (try rw [show ((6 : Int)).toNat = 6 from rfl] at hx162_0)
       replace p162 := eq_true p162
       replace q162 := eq_true q162
       go_enter Try.func10, Try.ntmps10
       go_wp2_with (first | (go_at_call 12; (with_reducible refine (inode_Encode.calls (wrap64 (rd l0 4)) (wrap64 ((wrap64 (rd l0 5)) + (wrap64 ((wrap64 (rd l0 6)) * 256)))) t163 t164 _ A6.out).mono ?_); rintro e w10 ⟨v165, rfl, ho0, hb⟩; have n0_ := Aside0.mk (Kd.R_lower ho0 (below_size (by repeat (first | (with_reducible first | exact HB.out | apply below_alloc | apply pw_below_drewN | apply below_drew1) | exact HB.out)))); have n1_ := Aside0.mk (below_step (by repeat (first | (with_reducible first | exact HB.out | apply below_alloc | apply pw_below_drewN | apply below_drew1) | exact HB.out)) hb); clear HB; have HO166 := n0_; have HB := n1_; clear n0_ n1_; (try clear hb); (try clear hb2); (try clear hk); (try clear hi); (try clear ho0); obtain ⟨Ao11, co11, eo11⟩ := Kd.R_slice HO166.out; subst eo11) | (go_at_call 22; (with_reducible refine (bytes_Equal.calls _ _ t163 _ _ l0 true _ ?side1 ?side2 ?side3 ?side4 A8.out).mono ?_); (case side1 => repeat (first | exact (Kd.R_reads' HO166.out).2.2 | (with_reducible refine Kd.C_alloc ?_ _) | (with_reducible refine Kd.C_drewN ?_ _) | (with_reducible refine Kd.C_drew ?_))); (case side2 => exact (Kd.R_reads' HO166.out).2.1); (case side3 => repeat (first | exact (Kd.C_below HR0.out HB.out) | (with_reducible refine Kd.C_alloc ?_ _) | (with_reducible refine Kd.C_drewN ?_ _) | (with_reducible refine Kd.C_drew ?_))); (case side4 => exact HC0.out); rintro e w' ⟨rfl, ⟨nd, rfl⟩⟩; (try first | exact ⟨rfl, _, World.drewN_drewN _ _ _⟩ | exact ⟨rfl, _, Eq.trans (World.drewN_drewN _ _ _) (congrArg (World.drewN _) (Nat.add_assoc _ _ _))⟩)))
       repeat (go_quiet (first | (go_at_call 12; (with_reducible refine (inode_Encode.calls (wrap64 (rd l0 4)) (wrap64 ((wrap64 (rd l0 5)) + (wrap64 ((wrap64 (rd l0 6)) * 256)))) t163 t164 _ A6.out).mono ?_); rintro e w10 ⟨v165, rfl, ho0, hb⟩; have n0_ := Aside0.mk (Kd.R_lower ho0 (below_size (by repeat (first | (with_reducible first | exact HB.out | apply below_alloc | apply pw_below_drewN | apply below_drew1) | exact HB.out)))); have n1_ := Aside0.mk (below_step (by repeat (first | (with_reducible first | exact HB.out | apply below_alloc | apply pw_below_drewN | apply below_drew1) | exact HB.out)) hb); clear HB; have HO166 := n0_; have HB := n1_; clear n0_ n1_; (try clear hb); (try clear hb2); (try clear hk); (try clear hi); (try clear ho0); obtain ⟨Ao11, co11, eo11⟩ := Kd.R_slice HO166.out; subst eo11) | (go_at_call 22; (with_reducible refine (bytes_Equal.calls _ _ t163 _ _ l0 true _ ?side1 ?side2 ?side3 ?side4 A8.out).mono ?_); (case side1 => repeat (first | exact (Kd.R_reads' HO166.out).2.2 | (with_reducible refine Kd.C_alloc ?_ _) | (with_reducible refine Kd.C_drewN ?_ _) | (with_reducible refine Kd.C_drew ?_))); (case side2 => exact (Kd.R_reads' HO166.out).2.1); (case side3 => repeat (first | exact (Kd.C_below HR0.out HB.out) | (with_reducible refine Kd.C_alloc ?_ _) | (with_reducible refine Kd.C_drewN ?_ _) | (with_reducible refine Kd.C_drew ?_))); (case side4 => exact HC0.out); rintro e w' ⟨rfl, ⟨nd, rfl⟩⟩; (try first | exact ⟨rfl, _, World.drewN_drewN _ _ _⟩ | exact ⟨rfl, _, Eq.trans (World.drewN_drewN _ _ _) (congrArg (World.drewN _) (Nat.add_assoc _ _ _))⟩))); try go_wp2_with (first | (go_at_call 12; (with_reducible refine (inode_Encode.calls (wrap64 (rd l0 4)) (wrap64 ((wrap64 (rd l0 5)) + (wrap64 ((wrap64 (rd l0 6)) * 256)))) t163 t164 _ A6.out).mono ?_); rintro e w10 ⟨v165, rfl, ho0, hb⟩; have n0_ := Aside0.mk (Kd.R_lower ho0 (below_size (by repeat (first | (with_reducible first | exact HB.out | apply below_alloc | apply pw_below_drewN | apply below_drew1) | exact HB.out)))); have n1_ := Aside0.mk (below_step (by repeat (first | (with_reducible first | exact HB.out | apply below_alloc | apply pw_below_drewN | apply below_drew1) | exact HB.out)) hb); clear HB; have HO166 := n0_; have HB := n1_; clear n0_ n1_; (try clear hb); (try clear hb2); (try clear hk); (try clear hi); (try clear ho0); obtain ⟨Ao11, co11, eo11⟩ := Kd.R_slice HO166.out; subst eo11) | (go_at_call 22; (with_reducible refine (bytes_Equal.calls _ _ t163 _ _ l0 true _ ?side1 ?side2 ?side3 ?side4 A8.out).mono ?_); (case side1 => repeat (first | exact (Kd.R_reads' HO166.out).2.2 | (with_reducible refine Kd.C_alloc ?_ _) | (with_reducible refine Kd.C_drewN ?_ _) | (with_reducible refine Kd.C_drew ?_))); (case side2 => exact (Kd.R_reads' HO166.out).2.1); (case side3 => repeat (first | exact (Kd.C_below HR0.out HB.out) | (with_reducible refine Kd.C_alloc ?_ _) | (with_reducible refine Kd.C_drewN ?_ _) | (with_reducible refine Kd.C_drew ?_))); (case side4 => exact HC0.out); rintro e w' ⟨rfl, ⟨nd, rfl⟩⟩; (try first | exact ⟨rfl, _, World.drewN_drewN _ _ _⟩ | exact ⟨rfl, _, Eq.trans (World.drewN_drewN _ _ _) (congrArg (World.drewN _) (Nat.add_assoc _ _ _))⟩))))
       go_ret3
       exact ⟨by first | rfl | (simp [errW_none, errW_some] <;> rfl) | (simp [*, errW_none, errW_some] <;> rfl), by repeat (first | (with_reducible first | exact HB.out | apply below_alloc | apply pw_below_drewN | apply below_drew1) | exact HB.out)⟩
      ·replace c9 := Bool.eq_false_iff.mpr c9
       subst c9
       have H1 : (some (0, 0, 22)) = some (r1, r2, r3) := by rw [if_neg (show ¬ (false = true) by decide)] at H; exact H
       clear H
       have H := H1
       clear H1
       simp only [Option.some.injEq, Prod.mk.injEq] at H
       obtain ⟨rfl, rfl, rfl⟩ := H
       have p160 : 0 ≤ (4 : Int) := (by omega)
       have q160 : 4 < (l0.length : Int) := of_decide_eq_true (by first | (with_reducible assumption) | assumption)
       obtain ⟨ad160, e160, hx160_0⟩ := Kd.at_int HR0.out 4 p160 q160
       cases e160
       (try simp only [show (4 : Int).toNat = 4 from rfl, Nat.reduceMul, Nat.reduceEqDiff, Go.Addr.add, ↓reduceIte] at hx160_0)
       have qi160 : (4 < l0.length) = True := eq_true (by omega)
       (try rw [show ((4 : Int)).toNat = 4 from rfl] at hx160_0)
       replace p160 := eq_true p160
       replace q160 := eq_true q160
       have p161 : 0 ≤ (5 : Int) := (by omega)
       have q161 : 5 < (l0.length : Int) := of_decide_eq_true (by first | (with_reducible assumption) | assumption)
       obtain ⟨ad161, e161, hx161_0⟩ := Kd.at_int HR0.out 5 p161 q161
       obtain rfl : ad160 = ad161 := (by injection e161)
       (try simp only [show (5 : Int).toNat = 5 from rfl, Nat.reduceMul, Nat.reduceEqDiff, Go.Addr.add, ↓reduceIte] at hx161_0)
       have qi161 : (5 < l0.length) = True := eq_true (by omega)
       (try rw [show ((5 : Int)).toNat = 5 from rfl] at hx161_0)
       replace p161 := eq_true p161
       replace q161 := eq_true q161
       have p162 : 0 ≤ (6 : Int) := (by omega)
       have q162 : 6 < (l0.length : Int) := of_decide_eq_true (by first | (with_reducible assumption) | assumption)
       obtain ⟨ad162, e162, hx162_0⟩ := Kd.at_int HR0.out 6 p162 q162
       obtain rfl : ad160 = ad162 := (by injection e162)
       (try simp only [show (6 : Int).toNat = 6 from rfl, Nat.reduceMul, Nat.reduceEqDiff, Go.Addr.add, ↓reduceIte] at hx162_0)
       have qi162 : (6 < l0.length) = True := eq_true (by omega)
       (try rw [show ((6 : Int)).toNat = 6 from rfl] at hx162_0)
       replace p162 := eq_true p162
       replace q162 := eq_true q162
       go_enter Try.func10, Try.ntmps10
       go_wp2_with (first | (go_at_call 12; (with_reducible refine (inode_Encode.calls (wrap64 (rd l0 4)) (wrap64 ((wrap64 (rd l0 5)) + (wrap64 ((wrap64 (rd l0 6)) * 256)))) t163 t164 _ A6.out).mono ?_); rintro e w12 ⟨v165, rfl, ho0, hb⟩; have n0_ := Aside0.mk (Kd.R_lower ho0 (below_size (by repeat (first | (with_reducible first | exact HB.out | apply below_alloc | apply pw_below_drewN | apply below_drew1) | exact HB.out)))); have n1_ := Aside0.mk (below_step (by repeat (first | (with_reducible first | exact HB.out | apply below_alloc | apply pw_below_drewN | apply below_drew1) | exact HB.out)) hb); clear HB; have HO166 := n0_; have HB := n1_; clear n0_ n1_; (try clear hb); (try clear hb2); (try clear hk); (try clear hi); (try clear ho0); obtain ⟨Ao13, co13, eo13⟩ := Kd.R_slice HO166.out; subst eo13) | (go_at_call 22; (with_reducible refine (bytes_Equal.calls _ _ t163 _ _ l0 false _ ?side1 ?side2 ?side3 ?side4 A8.out).mono ?_); (case side1 => repeat (first | exact (Kd.R_reads' HO166.out).2.2 | (with_reducible refine Kd.C_alloc ?_ _) | (with_reducible refine Kd.C_drewN ?_ _) | (with_reducible refine Kd.C_drew ?_))); (case side2 => exact (Kd.R_reads' HO166.out).2.1); (case side3 => repeat (first | exact (Kd.C_below HR0.out HB.out) | (with_reducible refine Kd.C_alloc ?_ _) | (with_reducible refine Kd.C_drewN ?_ _) | (with_reducible refine Kd.C_drew ?_))); (case side4 => exact HC0.out); rintro e w' ⟨rfl, ⟨nd, rfl⟩⟩; (try first | exact ⟨rfl, _, World.drewN_drewN _ _ _⟩ | exact ⟨rfl, _, Eq.trans (World.drewN_drewN _ _ _) (congrArg (World.drewN _) (Nat.add_assoc _ _ _))⟩)))
       repeat (go_quiet (first | (go_at_call 12; (with_reducible refine (inode_Encode.calls (wrap64 (rd l0 4)) (wrap64 ((wrap64 (rd l0 5)) + (wrap64 ((wrap64 (rd l0 6)) * 256)))) t163 t164 _ A6.out).mono ?_); rintro e w12 ⟨v165, rfl, ho0, hb⟩; have n0_ := Aside0.mk (Kd.R_lower ho0 (below_size (by repeat (first | (with_reducible first | exact HB.out | apply below_alloc | apply pw_below_drewN | apply below_drew1) | exact HB.out)))); have n1_ := Aside0.mk (below_step (by repeat (first | (with_reducible first | exact HB.out | apply below_alloc | apply pw_below_drewN | apply below_drew1) | exact HB.out)) hb); clear HB; have HO166 := n0_; have HB := n1_; clear n0_ n1_; (try clear hb); (try clear hb2); (try clear hk); (try clear hi); (try clear ho0); obtain ⟨Ao13, co13, eo13⟩ := Kd.R_slice HO166.out; subst eo13) | (go_at_call 22; (with_reducible refine (bytes_Equal.calls _ _ t163 _ _ l0 false _ ?side1 ?side2 ?side3 ?side4 A8.out).mono ?_); (case side1 => repeat (first | exact (Kd.R_reads' HO166.out).2.2 | (with_reducible refine Kd.C_alloc ?_ _) | (with_reducible refine Kd.C_drewN ?_ _) | (with_reducible refine Kd.C_drew ?_))); (case side2 => exact (Kd.R_reads' HO166.out).2.1); (case side3 => repeat (first | exact (Kd.C_below HR0.out HB.out) | (with_reducible refine Kd.C_alloc ?_ _) | (with_reducible refine Kd.C_drewN ?_ _) | (with_reducible refine Kd.C_drew ?_))); (case side4 => exact HC0.out); rintro e w' ⟨rfl, ⟨nd, rfl⟩⟩; (try first | exact ⟨rfl, _, World.drewN_drewN _ _ _⟩ | exact ⟨rfl, _, Eq.trans (World.drewN_drewN _ _ _) (congrArg (World.drewN _) (Nat.add_assoc _ _ _))⟩))); try go_wp2_with (first | (go_at_call 12; (with_reducible refine (inode_Encode.calls (wrap64 (rd l0 4)) (wrap64 ((wrap64 (rd l0 5)) + (wrap64 ((wrap64 (rd l0 6)) * 256)))) t163 t164 _ A6.out).mono ?_); rintro e w12 ⟨v165, rfl, ho0, hb⟩; have n0_ := Aside0.mk (Kd.R_lower ho0 (below_size (by repeat (first | (with_reducible first | exact HB.out | apply below_alloc | apply pw_below_drewN | apply below_drew1) | exact HB.out)))); have n1_ := Aside0.mk (below_step (by repeat (first | (with_reducible first | exact HB.out | apply below_alloc | apply pw_below_drewN | apply below_drew1) | exact HB.out)) hb); clear HB; have HO166 := n0_; have HB := n1_; clear n0_ n1_; (try clear hb); (try clear hb2); (try clear hk); (try clear hi); (try clear ho0); obtain ⟨Ao13, co13, eo13⟩ := Kd.R_slice HO166.out; subst eo13) | (go_at_call 22; (with_reducible refine (bytes_Equal.calls _ _ t163 _ _ l0 false _ ?side1 ?side2 ?side3 ?side4 A8.out).mono ?_); (case side1 => repeat (first | exact (Kd.R_reads' HO166.out).2.2 | (with_reducible refine Kd.C_alloc ?_ _) | (with_reducible refine Kd.C_drewN ?_ _) | (with_reducible refine Kd.C_drew ?_))); (case side2 => exact (Kd.R_reads' HO166.out).2.1); (case side3 => repeat (first | exact (Kd.C_below HR0.out HB.out) | (with_reducible refine Kd.C_alloc ?_ _) | (with_reducible refine Kd.C_drewN ?_ _) | (with_reducible refine Kd.C_drew ?_))); (case side4 => exact HC0.out); rintro e w' ⟨rfl, ⟨nd, rfl⟩⟩; (try first | exact ⟨rfl, _, World.drewN_drewN _ _ _⟩ | exact ⟨rfl, _, Eq.trans (World.drewN_drewN _ _ _) (congrArg (World.drewN _) (Nat.add_assoc _ _ _))⟩))))
       go_ret3
       exact ⟨by first | rfl | (simp [errW_none, errW_some] <;> rfl) | (simp [*, errW_none, errW_some] <;> rfl), by repeat (first | (with_reducible first | exact HB.out | apply below_alloc | apply pw_below_drewN | apply below_drew1) | exact HB.out)⟩
     ·rw [if_neg c7] at H
      have c7b0 : (t164 == 0) = false := beq_eq_false_iff_ne.mpr c7
      have c7b1 : (t164 != 0) = true := bne_iff_ne.mpr c7
      simp only [Option.some.injEq, Prod.mk.injEq] at H
      obtain ⟨rfl, rfl, rfl⟩ := H
      have p160 : 0 ≤ (4 : Int) := (by omega)
      have q160 : 4 < (l0.length : Int) := of_decide_eq_true (by first | (with_reducible assumption) | assumption)
      obtain ⟨ad160, e160, hx160_0⟩ := Kd.at_int HR0.out 4 p160 q160
      cases e160
      (try simp only [show (4 : Int).toNat = 4 from rfl, Nat.reduceMul, Nat.reduceEqDiff, Go.Addr.add, ↓reduceIte] at hx160_0)
      have qi160 : (4 < l0.length) = True := eq_true (by omega)
      (try rw [show ((4 : Int)).toNat = 4 from rfl] at hx160_0)
      replace p160 := eq_true p160
      replace q160 := eq_true q160
      have p161 : 0 ≤ (5 : Int) := (by omega)
      have q161 : 5 < (l0.length : Int) := of_decide_eq_true (by first | (with_reducible assumption) | assumption)
      obtain ⟨ad161, e161, hx161_0⟩ := Kd.at_int HR0.out 5 p161 q161
      obtain rfl : ad160 = ad161 := (by injection e161)
      (try simp only [show (5 : Int).toNat = 5 from rfl, Nat.reduceMul, Nat.reduceEqDiff, Go.Addr.add, ↓reduceIte] at hx161_0)
      have qi161 : (5 < l0.length) = True := eq_true (by omega)
      (try rw [show ((5 : Int)).toNat = 5 from rfl] at hx161_0)
      replace p161 := eq_true p161
      replace q161 := eq_true q161
      have p162 : 0 ≤ (6 : Int) := (by omega)
      have q162 : 6 < (l0.length : Int) := of_decide_eq_true (by first | (with_reducible assumption) | assumption)
      obtain ⟨ad162, e162, hx162_0⟩ := Kd.at_int HR0.out 6 p162 q162
      obtain rfl : ad160 = ad162 := (by injection e162)
      (try simp only [show (6 : Int).toNat = 6 from rfl, Nat.reduceMul, Nat.reduceEqDiff, Go.Addr.add, ↓reduceIte] at hx162_0)
      have qi162 : (6 < l0.length) = True := eq_true (by omega)
      (try rw [show ((6 : Int)).toNat = 6 from rfl] at hx162_0)
      replace p162 := eq_true p162
      replace q162 := eq_true q162
      go_enter Try.func10, Try.ntmps10
      go_wp2_with (first | (go_at_call 12; (with_reducible refine (inode_Encode.calls (wrap64 (rd l0 4)) (wrap64 ((wrap64 (rd l0 5)) + (wrap64 ((wrap64 (rd l0 6)) * 256)))) t163 t164 _ A6.out).mono ?_); rintro e w14 ⟨v165, rfl, ho0, hb⟩; have n0_ := Aside0.mk (Kd.R_lower ho0 (below_size (by repeat (first | (with_reducible first | exact HB.out | apply below_alloc | apply pw_below_drewN | apply below_drew1) | exact HB.out)))); have n1_ := Aside0.mk (below_step (by repeat (first | (with_reducible first | exact HB.out | apply below_alloc | apply pw_below_drewN | apply below_drew1) | exact HB.out)) hb); clear HB; have HO166 := n0_; have HB := n1_; clear n0_ n1_; (try clear hb); (try clear hb2); (try clear hk); (try clear hi); (try clear ho0)))
      repeat (go_quiet (first | (go_at_call 12; (with_reducible refine (inode_Encode.calls (wrap64 (rd l0 4)) (wrap64 ((wrap64 (rd l0 5)) + (wrap64 ((wrap64 (rd l0 6)) * 256)))) t163 t164 _ A6.out).mono ?_); rintro e w14 ⟨v165, rfl, ho0, hb⟩; have n0_ := Aside0.mk (Kd.R_lower ho0 (below_size (by repeat (first | (with_reducible first | exact HB.out | apply below_alloc | apply pw_below_drewN | apply below_drew1) | exact HB.out)))); have n1_ := Aside0.mk (below_step (by repeat (first | (with_reducible first | exact HB.out | apply below_alloc | apply pw_below_drewN | apply below_drew1) | exact HB.out)) hb); clear HB; have HO166 := n0_; have HB := n1_; clear n0_ n1_; (try clear hb); (try clear hb2); (try clear hk); (try clear hi); (try clear ho0))); try go_wp2_with (first | (go_at_call 12; (with_reducible refine (inode_Encode.calls (wrap64 (rd l0 4)) (wrap64 ((wrap64 (rd l0 5)) + (wrap64 ((wrap64 (rd l0 6)) * 256)))) t163 t164 _ A6.out).mono ?_); rintro e w14 ⟨v165, rfl, ho0, hb⟩; have n0_ := Aside0.mk (Kd.R_lower ho0 (below_size (by repeat (first | (with_reducible first | exact HB.out | apply below_alloc | apply pw_below_drewN | apply below_drew1) | exact HB.out)))); have n1_ := Aside0.mk (below_step (by repeat (first | (with_reducible first | exact HB.out | apply below_alloc | apply pw_below_drewN | apply below_drew1) | exact HB.out)) hb); clear HB; have HO166 := n0_; have HB := n1_; clear n0_ n1_; (try clear hb); (try clear hb2); (try clear hk); (try clear hi); (try clear ho0))))
      go_ret3
      exact ⟨by first | rfl | (simp [errW_none, errW_some] <;> rfl) | (simp [*, errW_none, errW_some] <;> rfl), by repeat (first | (with_reducible first | exact HB.out | apply below_alloc | apply pw_below_drewN | apply below_drew1) | exact HB.out)⟩
    ·rw [if_neg c5] at H
     exact absurd H (by simp)
   ·rw [if_neg c4] at H
    exact absurd H (by simp)
  ·rw [if_neg c3] at H
   exact absurd H (by simp)
 ·rw [if_neg c2] at H
  have c2b0 : ((l0.length : Int) == 32) = false := beq_eq_false_iff_ne.mpr c2
  have c2b1 : ((l0.length : Int) != 32) = true := bne_iff_ne.mpr c2
  simp only [Option.some.injEq, Prod.mk.injEq] at H
  obtain ⟨rfl, rfl, rfl⟩ := H
  go_enter Try.func10, Try.ntmps10
  go_wp2
  repeat (go_quiet (fail); try go_wp2)
  go_ret3
  exact ⟨by first | rfl | (simp [errW_none, errW_some] <;> rfl) | (simp [*, errW_none, errW_some] <;> rfl), by repeat (first | (with_reducible first | exact HB.out | apply below_alloc | apply pw_below_drewN | apply below_drew1) | exact HB.out)⟩

end Go.Proofs.Ytpfbajjpommjmaa.Top
