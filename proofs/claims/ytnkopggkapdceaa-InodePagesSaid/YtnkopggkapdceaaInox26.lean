/- Turned out by a program of this session (wip/tools/prt.py). -/
import Derived.Test.YtnkopggkapdceaaInox0
import Derived.Test.YtnkopggkapdceaaInox7
import Derived.Test.YtnkopggkapdceaaInox8
import Derived.Test.YtnkopggkapdceaaInox22
import Derived.Test.YtnkopggkapdceaaInox24
namespace Go.Proofs.Ytnkopggkapdceaa.Ino
open Go.RowKit Go.Proofs.YtnkopggkapdceaaW.PrintWords Go.Proofs.YtnkopggkapdceaaW.PrintLast Go.Proofs.YtnkopggkapdceaaW.PrintMore
attribute [local go_sem] max2_int min2_int max_two min_two max_three min_three max_four min_four   -- for this text's walks alone
set_option linter.unusedVariables false
set_option linter.unusedSimpArgs false

/-! ### estoverslaw27_InodePages: function 10 -/
mutual
def estoverslaw27_InodePages.j0 : Nat → List Bool → Bool → Option (Bool)
 | 0, _, _ => none
 | k + 1, x0, x13 => if x13 = true then ((estoverslaw27_awake.f k).bind fun t276 => (some t276)) else ((inode_Mask.f k x0).bind fun bt277 => (if bt277.2 = 0 then (if bt277.1 < 0 then (estoverslaw27_InodePages.j1 k x0 bt277.1 true) else (if 0 ≤ (IntKind.u64.wrap ((x0.length : Int))) then (estoverslaw27_InodePages.j1 k x0 bt277.1 (decide (bt277.1 ≥ (shl .i64 1 (IntKind.u64.wrap ((x0.length : Int))))))) else (none))) else (estoverslaw27_InodePages.j1 k x0 bt277.1 true)))
def estoverslaw27_InodePages.j1 : Nat → List Bool → Int → Bool → Option (Bool)
 | 0, _, _, _ => none
 | k + 1, x0, x3, x33 => if x33 = true then (some false) else ((inode_Backed.f k x3 (x0.length : Int)).bind fun bt279 => (if bt279.2 = 0 then ((estoversref27_SameBools.f k bt279.1 x0).bind fun t283 => (estoverslaw27_InodePages.j2 k x0 x3 (!t283))) else (estoverslaw27_InodePages.j2 k x0 x3 true)))
def estoverslaw27_InodePages.j2 : Nat → List Bool → Int → Bool → Option (Bool)
 | 0, _, _, _ => none
 | k + 1, x0, x3, x48 => if x48 = true then (some false) else (estoverslaw27_InodePages.l0 k x0 x3 (x0.length : Int) 0)
def estoverslaw27_InodePages.l0 : Nat → List Bool → Int → Int → Int → Option (Bool)
 | 0, _, _, _, _ => none
 | k + 1, x0, x3, x50, x51 => if x51 < x50 then (if 0 ≤ (IntKind.u64.wrap (x51)) then (if 0 ≤ x51 then (if x51 < (x0.length : Int) then (if (((Go.bits .and .i64 (shr .i64 x3 (IntKind.u64.wrap (x51))) 1) == 1) != (rdOf false x0 x51)) = true then (some false) else (estoverslaw27_InodePages.l0 k x0 x3 x50 (wrap64 (x51 + 1)))) else (none)) else (none)) else (none)) else (some true)
end
def estoverslaw27_InodePages.f (k : Nat) (l0 : List Bool) : Option (Bool) := (estoverslaw27_awake.f k).bind fun t275 => (if t275 = true then (estoverslaw27_InodePages.j0 k l0 (decide ((l0.length : Int) > 16))) else (estoverslaw27_InodePages.j0 k l0 true))
theorem estoverslaw27_InodePages.mono_l : ∀ k, (∀ y0 y1, LeO (estoverslaw27_InodePages.j0 k y0 y1) (estoverslaw27_InodePages.j0 (k + 1) y0 y1)) ∧ (∀ y0 y1 y2, LeO (estoverslaw27_InodePages.j1 k y0 y1 y2) (estoverslaw27_InodePages.j1 (k + 1) y0 y1 y2)) ∧ (∀ y0 y1 y2, LeO (estoverslaw27_InodePages.j2 k y0 y1 y2) (estoverslaw27_InodePages.j2 (k + 1) y0 y1 y2)) ∧ (∀ y0 y1 y2 y3, LeO (estoverslaw27_InodePages.l0 k y0 y1 y2 y3) (estoverslaw27_InodePages.l0 (k + 1) y0 y1 y2 y3))
 | 0 => ⟨fun _ _ r h => by simp [estoverslaw27_InodePages.j0] at h, fun _ _ _ r h => by simp [estoverslaw27_InodePages.j1] at h, fun _ _ _ r h => by simp [estoverslaw27_InodePages.j2] at h, fun _ _ _ _ r h => by simp [estoverslaw27_InodePages.l0] at h⟩
 | k + 1 => by
  obtain ⟨ih0, ih1, ih2, ih3⟩ := estoverslaw27_InodePages.mono_l k
  refine ⟨?_, ?_, ?_, ?_⟩
  ·intro y0 y1
   unfold estoverslaw27_InodePages.j0
   repeat' first
   | (with_reducible exact ih0 _ _)
   | (with_reducible exact ih1 _ _ _)
   | (with_reducible exact ih2 _ _ _)
   | (with_reducible exact ih3 _ _ _ _)
   | (with_reducible exact estoverslaw27_awake.mono _)
   | (with_reducible exact estoversref27_SameBools.mono _ _ _)
   | (with_reducible exact inode_Backed.mono _ _ _)
   | (with_reducible exact inode_Mask.mono _ _)
   | (with_reducible exact LeO.refl _)
   | (with_reducible exact LeO.none _)
   | (with_reducible refine LeO.ite ?_ ?_)
   | (with_reducible refine LeO.bind ?_ (fun _ => ?_))
   | exact ih0 _ _
   | exact ih1 _ _ _
   | exact ih2 _ _ _
   | exact ih3 _ _ _ _
   | exact estoverslaw27_awake.mono _
   | exact estoversref27_SameBools.mono _ _ _
   | exact inode_Backed.mono _ _ _
   | exact inode_Mask.mono _ _
   | exact LeO.none _
   | refine LeO.ite ?_ ?_
   | refine LeO.bind ?_ (fun _ => ?_)
  ·intro y0 y1 y2
   unfold estoverslaw27_InodePages.j1
   repeat' first
   | (with_reducible exact ih0 _ _)
   | (with_reducible exact ih1 _ _ _)
   | (with_reducible exact ih2 _ _ _)
   | (with_reducible exact ih3 _ _ _ _)
   | (with_reducible exact estoverslaw27_awake.mono _)
   | (with_reducible exact estoversref27_SameBools.mono _ _ _)
   | (with_reducible exact inode_Backed.mono _ _ _)
   | (with_reducible exact inode_Mask.mono _ _)
   | (with_reducible exact LeO.refl _)
   | (with_reducible exact LeO.none _)
   | (with_reducible refine LeO.ite ?_ ?_)
   | (with_reducible refine LeO.bind ?_ (fun _ => ?_))
   | exact ih0 _ _
   | exact ih1 _ _ _
   | exact ih2 _ _ _
   | exact ih3 _ _ _ _
   | exact estoverslaw27_awake.mono _
   | exact estoversref27_SameBools.mono _ _ _
   | exact inode_Backed.mono _ _ _
   | exact inode_Mask.mono _ _
   | exact LeO.none _
   | refine LeO.ite ?_ ?_
   | refine LeO.bind ?_ (fun _ => ?_)
  ·intro y0 y1 y2
   unfold estoverslaw27_InodePages.j2
   repeat' first
   | (with_reducible exact ih0 _ _)
   | (with_reducible exact ih1 _ _ _)
   | (with_reducible exact ih2 _ _ _)
   | (with_reducible exact ih3 _ _ _ _)
   | (with_reducible exact estoverslaw27_awake.mono _)
   | (with_reducible exact estoversref27_SameBools.mono _ _ _)
   | (with_reducible exact inode_Backed.mono _ _ _)
   | (with_reducible exact inode_Mask.mono _ _)
   | (with_reducible exact LeO.refl _)
   | (with_reducible exact LeO.none _)
   | (with_reducible refine LeO.ite ?_ ?_)
   | (with_reducible refine LeO.bind ?_ (fun _ => ?_))
   | exact ih0 _ _
   | exact ih1 _ _ _
   | exact ih2 _ _ _
   | exact ih3 _ _ _ _
   | exact estoverslaw27_awake.mono _
   | exact estoversref27_SameBools.mono _ _ _
   | exact inode_Backed.mono _ _ _
   | exact inode_Mask.mono _ _
   | exact LeO.none _
   | refine LeO.ite ?_ ?_
   | refine LeO.bind ?_ (fun _ => ?_)
  ·intro y0 y1 y2 y3
   unfold estoverslaw27_InodePages.l0
   repeat' first
   | (with_reducible exact ih0 _ _)
   | (with_reducible exact ih1 _ _ _)
   | (with_reducible exact ih2 _ _ _)
   | (with_reducible exact ih3 _ _ _ _)
   | (with_reducible exact estoverslaw27_awake.mono _)
   | (with_reducible exact estoversref27_SameBools.mono _ _ _)
   | (with_reducible exact inode_Backed.mono _ _ _)
   | (with_reducible exact inode_Mask.mono _ _)
   | (with_reducible exact LeO.refl _)
   | (with_reducible exact LeO.none _)
   | (with_reducible refine LeO.ite ?_ ?_)
   | (with_reducible refine LeO.bind ?_ (fun _ => ?_))
   | exact ih0 _ _
   | exact ih1 _ _ _
   | exact ih2 _ _ _
   | exact ih3 _ _ _ _
   | exact estoverslaw27_awake.mono _
   | exact estoversref27_SameBools.mono _ _ _
   | exact inode_Backed.mono _ _ _
   | exact inode_Mask.mono _ _
   | exact LeO.none _
   | refine LeO.ite ?_ ?_
   | refine LeO.bind ?_ (fun _ => ?_)
theorem estoverslaw27_InodePages.mono : ∀ a0 k, LeO (estoverslaw27_InodePages.f k a0) (estoverslaw27_InodePages.f (k + 1) a0) := by
 intro a0 k
 obtain ⟨ih0, ih1, ih2, ih3⟩ := estoverslaw27_InodePages.mono_l k
 unfold estoverslaw27_InodePages.f
 repeat' first
   | (with_reducible exact ih0 _ _)
   | (with_reducible exact ih1 _ _ _)
   | (with_reducible exact ih2 _ _ _)
   | (with_reducible exact ih3 _ _ _ _)
   | (with_reducible exact estoverslaw27_awake.mono _)
   | (with_reducible exact estoversref27_SameBools.mono _ _ _)
   | (with_reducible exact inode_Backed.mono _ _ _)
   | (with_reducible exact inode_Mask.mono _ _)
   | (with_reducible exact LeO.refl _)
   | (with_reducible exact LeO.none _)
   | (with_reducible refine LeO.ite ?_ ?_)
   | (with_reducible refine LeO.bind ?_ (fun _ => ?_))
   | exact ih0 _ _
   | exact ih1 _ _ _
   | exact ih2 _ _ _
   | exact ih3 _ _ _ _
   | exact estoverslaw27_awake.mono _
   | exact estoversref27_SameBools.mono _ _ _
   | exact inode_Backed.mono _ _ _
   | exact inode_Mask.mono _ _
   | exact LeO.none _
   | refine LeO.ite ?_ ?_
   | refine LeO.bind ?_ (fun _ => ?_)
set_option maxHeartbeats 8000000 in
set_option maxRecDepth 100000 in
theorem estoverslaw27_InodePages.calls (k : Nat) (A0 : Option Addr) (c0 : Nat) (l0 : List Bool) (r : Bool) (w : World) (hr0 : Kd.C Kd.bool w A0 l0.length l0) (hc0 : l0.length ≤ c0) (h : estoverslaw27_InodePages.f k l0 = some r) :
  Calls Try.prog 10 #[.slice A0 l0.length c0] w fun e w' => e = .returned (.bool r) ∧ Below w.heap.size w w' := by
 have HR0 := Aside0.mk hr0
 have HC0 := Aside0.mk hc0
 clear hr0 hc0
 have HB := Aside0.mk (Below.refl w.heap.size w)
 have H : ((estoverslaw27_awake.f k).bind fun t275 => (if t275 = true then (estoverslaw27_InodePages.j0 k l0 (decide ((l0.length : Int) > 16))) else (estoverslaw27_InodePages.j0 k l0 true))) = some r := h
 clear h
 have HC2 := Aside0.mk H
 clear H
 go_enter Try.func10, Try.ntmps10
 go_upto_region 1 with (fail)
 go_cut [13] (fun v13 wc => ∃ (kq : Nat) (x13_1 : Bool), v13 = .bool x13_1 ∧ Aside0 (estoverslaw27_InodePages.j0 kq l0 x13_1 = some r) ∧ Aside0 (kq ≤ k) ∧ Aside0 (Below w.heap.size w wc))
 case first =>
  have H := HC2.out
  clear HC2
  replace H := Option.bind_eq_some_iff.mp H
  obtain ⟨t275, A30, H⟩ := H
  replace H : (if t275 = true then (estoverslaw27_InodePages.j0 k l0 (decide ((l0.length : Int) > 16))) else (estoverslaw27_InodePages.j0 k l0 true)) = some r := H
  have A3 := Aside0.mk A30
  clear A30
  by_cases c4 : t275 = true
  ·subst c4
   have H1 : (estoverslaw27_InodePages.j0 k l0 (decide ((l0.length : Int) > 16))) = some r := by rw [if_pos rfl] at H; exact H
   clear H
   have H := H1
   clear H1
   have H' := Aside0.mk H
   clear H
   go_wp2_with (first | ((with_reducible refine gate_callee (f := 11) rfl ?_); refine goesL_ (some 7) rfl rfl Try.func11 (by kernel_rfl) rfl #[] rfl (by (try simp only [List.map_toArray, List.map_cons, List.map_nil]); first | done | rfl | (simp only [List.length_drop, List.length_take]; rfl)) ?_; (with_reducible refine (estoverslaw27_awake.calls k  true _ A3.out).mono ?_); rintro e w5 ⟨rfl, hb⟩; refine ⟨_, rfl, ?_⟩; have n0_ := Aside0.mk (below_step (by repeat (first | (with_reducible first | exact HB.out | apply below_alloc | apply pw_below_drewN | apply below_drew1) | exact HB.out)) hb); clear HB; have HB := n0_; clear n0_; (try clear hb); (try clear hb2); (try clear hk); (try clear hi)))
   go_meet
   case rel => exact ⟨_, (decide ((l0.length : Int) > 16)), (by first | rfl | (simp; done) | (simp [*]; done)), H', ⟨by first | omega | exact Nat.le_refl _⟩, ⟨by repeat (first | (with_reducible first | exact HB.out | apply below_alloc | apply pw_below_drewN | apply below_drew1) | exact HB.out)⟩⟩
  ·replace c4 := Bool.eq_false_iff.mpr c4
   subst c4
   have H1 : (estoverslaw27_InodePages.j0 k l0 true) = some r := by rw [if_neg (show ¬ (false = true) by decide)] at H; exact H
   clear H
   have H := H1
   clear H1
   have H' := Aside0.mk H
   clear H
   go_wp2_with (first | ((with_reducible refine gate_callee (f := 11) rfl ?_); refine goesL_ (some 7) rfl rfl Try.func11 (by kernel_rfl) rfl #[] rfl (by (try simp only [List.map_toArray, List.map_cons, List.map_nil]); first | done | rfl | (simp only [List.length_drop, List.length_take]; rfl)) ?_; (with_reducible refine (estoverslaw27_awake.calls k  false _ A3.out).mono ?_); rintro e w6 ⟨rfl, hb⟩; refine ⟨_, rfl, ?_⟩; have n0_ := Aside0.mk (below_step (by repeat (first | (with_reducible first | exact HB.out | apply below_alloc | apply pw_below_drewN | apply below_drew1) | exact HB.out)) hb); clear HB; have HB := n0_; clear n0_; (try clear hb); (try clear hb2); (try clear hk); (try clear hi)))
   go_meet
   case rel => exact ⟨_, (true), (by first | rfl | (simp; done) | (simp [*]; done)), H', ⟨by first | omega | exact Nat.le_refl _⟩, ⟨by repeat (first | (with_reducible first | exact HB.out | apply below_alloc | apply pw_below_drewN | apply below_drew1) | exact HB.out)⟩⟩
 case rest =>
  clear HC2
  (try clear c1); (try clear p2); (try clear c4)
  obtain ⟨kq, x13_1, rfl, HA, HJ1, HB⟩ := hcut
  cases kq with
  | zero => exact absurd HA.out (by simp [estoverslaw27_InodePages.j0])
  | succ kj1 =>
   have H := HA.out
   clear HA
   simp only [estoverslaw27_InodePages.j0] at H
   by_cases c7 : x13_1 = true
   ·subst c7
    have H1 : ((estoverslaw27_awake.f kj1).bind fun t276 => (some t276)) = some r := by rw [if_pos rfl] at H; exact H
    clear H
    have H := H1
    clear H1
    replace H := Option.bind_eq_some_iff.mp H
    obtain ⟨t276, A80, H⟩ := H
    replace H : (some t276) = some r := H
    have A8 := Aside0.mk A80
    clear A80
    obtain rfl := Option.some.inj H
    go_wp2_with (first | ((with_reducible refine gate_callee (f := 11) rfl ?_); refine goesL_ (some 14) rfl rfl Try.func11 (by kernel_rfl) rfl #[] rfl (by (try simp only [List.map_toArray, List.map_cons, List.map_nil]); first | done | rfl | (simp only [List.length_drop, List.length_take]; rfl)) ?_; (with_reducible refine (estoverslaw27_awake.calls kj1  t276 _ A8.out).mono ?_); rintro e w9 ⟨rfl, hb⟩; refine ⟨_, rfl, ?_⟩; have n0_ := Aside0.mk (below_step (by repeat (first | (with_reducible first | exact HB.out | apply below_alloc | apply pw_below_drewN | apply below_drew1) | exact HB.out)) hb); clear HB; have HB := n0_; clear n0_; (try clear hb); (try clear hb2); (try clear hk); (try clear hi)))
    go_ret
    exact ⟨by first | rfl | (simp [errW_none, errW_some] <;> rfl) | (simp [*, errW_none, errW_some] <;> rfl), by repeat (first | (with_reducible first | exact HB.out | apply below_alloc | apply pw_below_drewN | apply below_drew1) | exact HB.out)⟩
   ·replace c7 := Bool.eq_false_iff.mpr c7
    subst c7
    have H1 : ((inode_Mask.f kj1 l0).bind fun bt277 => (if bt277.2 = 0 then (if bt277.1 < 0 then (estoverslaw27_InodePages.j1 kj1 l0 bt277.1 true) else (if 0 ≤ (IntKind.u64.wrap ((l0.length : Int))) then (estoverslaw27_InodePages.j1 kj1 l0 bt277.1 (decide (bt277.1 ≥ (shl .i64 1 (IntKind.u64.wrap ((l0.length : Int))))))) else (none))) else (estoverslaw27_InodePages.j1 kj1 l0 bt277.1 true))) = some r := by rw [if_neg (show ¬ (false = true) by decide)] at H; exact H
    clear H
    have H := H1
    clear H1
    replace H := Option.bind_eq_some_iff.mp H
    obtain ⟨⟨t277, t278⟩, A100, H⟩ := H
    replace H : (if t278 = 0 then (if t277 < 0 then (estoverslaw27_InodePages.j1 kj1 l0 t277 true) else (if 0 ≤ (IntKind.u64.wrap ((l0.length : Int))) then (estoverslaw27_InodePages.j1 kj1 l0 t277 (decide (t277 ≥ (shl .i64 1 (IntKind.u64.wrap ((l0.length : Int))))))) else (none))) else (estoverslaw27_InodePages.j1 kj1 l0 t277 true)) = some r := H
    have A10 := Aside0.mk A100
    clear A100
    have HC11 := Aside0.mk H
    clear H
    go_upto_region 4 with (first | ((with_reducible refine gate_callee (f := 20) rfl ?_); refine goesL_ (some 17) rfl rfl Try.func20 (by kernel_rfl) rfl #[.slice A0 l0.length c0] rfl (by (try simp only [List.map_toArray, List.map_cons, List.map_nil]); first | done | rfl | (simp only [List.length_drop, List.length_take]; rfl)) ?_; (with_reducible refine (inode_Mask.calls kj1 _ _ l0 t277 t278 _ ?side1 ?side2 A10.out).mono ?_); (case side1 => repeat (first | exact (Kd.C_below HR0.out HB.out) | (with_reducible refine Kd.C_alloc ?_ _) | (with_reducible refine Kd.C_drewN ?_ _) | (with_reducible refine Kd.C_drew ?_))); (case side2 => exact HC0.out); rintro e w' ⟨rfl, ⟨nd, rfl⟩⟩; refine ⟨_, rfl, ?_⟩))
    (try simp only [Act.put, List.setIfInBounds_toArray, List.set_cons_zero, List.set_cons_succ])
    go_cut [33] (fun v33 wc => ∃ (kq : Nat) (x33_10 : Bool), v33 = .bool x33_10 ∧ Aside0 (estoverslaw27_InodePages.j1 kq l0 t277 x33_10 = some r) ∧ Aside0 (kq ≤ kj1) ∧ Aside0 (Below w.heap.size w wc))
    case first =>
     have H := HC11.out
     clear HC11
     by_cases c12 : t278 = 0
     ·rw [if_pos c12] at H
      have c12b0 : (t278 == 0) = true := beq_iff_eq.mpr c12
      have c12b1 : (t278 != 0) = false := bne_eq_false_iff_eq.mpr c12
      clear c12
      (first | rw [c12b0] | (simp only [i64_w, i32_w]; rw [c12b0]) | skip)
      by_cases c13 : t277 < 0
      ·rw [if_pos c13] at H
       have c13b0 : decide (t277 < 0) = true := decide_eq_true c13
       clear c13
       have H' := Aside0.mk H
       clear H
       go_wp2
       go_meet
       case rel => exact ⟨_, (true), (by first | rfl | (simp; done) | (simp [*]; done)), H', ⟨by have := HJ1.out; first | omega | exact Nat.le_refl _⟩, ⟨by repeat (first | (with_reducible first | exact HB.out | apply below_alloc | apply pw_below_drewN | apply below_drew1) | exact HB.out)⟩⟩
      ·rw [if_neg c13] at H
       have c13b0 : decide (t277 < 0) = false := decide_eq_false c13
       clear c13
       obtain ⟨ji14, hji14⟩ : ∃ j_ : Int, (IntKind.u64.wrap ((l0.length : Int))) = j_ := ⟨_, rfl⟩
       replace H : (if 0 ≤ (ji14) then (estoverslaw27_InodePages.j1 kj1 l0 t277 (decide (t277 ≥ (shl .i64 1 (ji14))))) else (none)) = some r := by first | (rw [hji14] at H; exact H) | (simp only [hji14] at H ⊢; exact H)
       by_cases c15 : 0 ≤ (ji14)
       ·rw [if_pos c15] at H
        have c15b0 := eq_true c15
        have c15b1 : decide (0 ≤ (ji14)) = true := decide_eq_true c15
        clear c15
        obtain ⟨ji16, hji16⟩ : ∃ j_ : Int, (shl .i64 1 (ji14)) = j_ := ⟨_, rfl⟩
        replace H : (estoverslaw27_InodePages.j1 kj1 l0 t277 (decide (t277 ≥ (ji16)))) = some r := by first | (rw [hji16] at H; exact H) | (simp only [hji16] at H ⊢; exact H)
        have hji16_ : (IntKind.i64.wrap (1 * 2 ^ min (ji14).toNat 64)) = ji16 := hji16
        have hji16z : (ji14) ≤ 64 → (IntKind.i64.wrap (1 * 2 ^ (ji14).toNat)) = ji16 := shl_small hji16
        have hji16u : (IntKind.i64.wrap (2 ^ min (ji14).toNat 64)) = ji16 := by have h_ := hji16_; rw [Int.one_mul] at h_; exact h_
        have hji16v : (ji14) ≤ 64 → (IntKind.i64.wrap (2 ^ (ji14).toNat)) = ji16 := fun hle_ => by have h_ := hji16z hle_; rw [Int.one_mul] at h_; exact h_
        have hji16y : (wrap64 (1 * 2 ^ min (ji14).toNat 64)) = ji16 := (i64_w _).symm.trans hji16_
        have hji16x : (ji14) ≤ 64 → (wrap64 (1 * 2 ^ (ji14).toNat)) = ji16 := fun h_ => (i64_w _).symm.trans (hji16z h_)
        have H' := Aside0.mk H
        clear H
        go_wp2
        go_meet
        case rel => exact ⟨_, (decide (t277 ≥ (ji16))), (by first | rfl | (simp; done) | (simp only [← hji16] <;> (first | rfl | simp)) | (simp [*]; done)), H', ⟨by have := HJ1.out; first | omega | exact Nat.le_refl _⟩, ⟨by repeat (first | (with_reducible first | exact HB.out | apply below_alloc | apply pw_below_drewN | apply below_drew1) | exact HB.out)⟩⟩
       ·rw [if_neg c15] at H
        exact absurd H (by simp)
     ·rw [if_neg c12] at H
      have c12b0 : (t278 == 0) = false := beq_eq_false_iff_ne.mpr c12
      have c12b1 : (t278 != 0) = true := bne_iff_ne.mpr c12
      (first | rw [c12b0] | (simp only [i64_w, i32_w]; rw [c12b0]) | skip)
      have H' := Aside0.mk H
      clear H
      go_wp2
      go_meet
      case rel => exact ⟨_, (true), (by first | rfl | (simp; done) | (simp [*]; done)), H', ⟨by have := HJ1.out; first | omega | exact Nat.le_refl _⟩, ⟨by repeat (first | (with_reducible first | exact HB.out | apply below_alloc | apply pw_below_drewN | apply below_drew1) | exact HB.out)⟩⟩
    case rest =>
     clear HC11
     (try clear c1); (try clear c2); (try clear p2); (try clear c4); (try clear p6); (try clear c7); (try clear c10); (try clear c11); (try clear c12); (try clear c12b0); (try clear c12b1); (try clear c13); (try clear c13b0); (try clear c15); (try clear c15b0); (try clear c15b1); (try clear p2)
     obtain ⟨kq, x33_10, rfl, HA, HJ10, HB⟩ := hcut
     cases kq with
     | zero => exact absurd HA.out (by simp [estoverslaw27_InodePages.j1])
     | succ kj10 =>
      have H := HA.out
      clear HA
      simp only [estoverslaw27_InodePages.j1] at H
      by_cases c17 : x33_10 = true
      ·subst c17
       have H1 : (some false) = some r := by rw [if_pos rfl] at H; exact H
       clear H
       have H := H1
       clear H1
       obtain rfl := Option.some.inj H
       go_wp2
       go_ret
       exact ⟨by first | rfl | (simp [errW_none, errW_some] <;> rfl) | (simp [*, errW_none, errW_some] <;> rfl), by repeat (first | (with_reducible first | exact HB.out | apply below_alloc | apply pw_below_drewN | apply below_drew1) | exact HB.out)⟩
      ·replace c17 := Bool.eq_false_iff.mpr c17
       subst c17
       have H1 : ((inode_Backed.f kj10 t277 (l0.length : Int)).bind fun bt279 => (if bt279.2 = 0 then ((estoversref27_SameBools.f kj10 bt279.1 l0).bind fun t283 => (estoverslaw27_InodePages.j2 kj10 l0 t277 (!t283))) else (estoverslaw27_InodePages.j2 kj10 l0 t277 true))) = some r := by rw [if_neg (show ¬ (false = true) by decide)] at H; exact H
       clear H
       have H := H1
       clear H1
       replace H := Option.bind_eq_some_iff.mp H
       obtain ⟨⟨t279, t280⟩, A180, H⟩ := H
       replace H : (if t280 = 0 then ((estoversref27_SameBools.f kj10 t279 l0).bind fun t283 => (estoverslaw27_InodePages.j2 kj10 l0 t277 (!t283))) else (estoverslaw27_InodePages.j2 kj10 l0 t277 true)) = some r := H
       have A18 := Aside0.mk A180
       clear A180
       have HC19 := Aside0.mk H
       clear H
       go_upto_region 7 with (first | ((with_reducible refine gate_callee (f := 22) rfl ?_); refine goesL_ (some 38) rfl rfl Try.func22 (by kernel_rfl) rfl #[.int .i64 t277, .int .i64 (l0.length : Int)] rfl (by (try simp only [List.map_toArray, List.map_cons, List.map_nil]); first | done | rfl | (simp only [List.length_drop, List.length_take]; rfl)) ?_; (with_reducible refine (inode_Backed.calls kj10 t277 (l0.length : Int) t279 t280 _ A18.out).mono ?_); rintro e w20 ⟨v281, rfl, ho0, hb⟩; refine ⟨_, rfl, ?_⟩; have n0_ := Aside0.mk (Kd.R_lower ho0 (below_size (by repeat (first | (with_reducible first | exact HB.out | apply below_alloc | apply pw_below_drewN | apply below_drew1) | exact HB.out)))); have n1_ := Aside0.mk (below_step (by repeat (first | (with_reducible first | exact HB.out | apply below_alloc | apply pw_below_drewN | apply below_drew1) | exact HB.out)) hb); clear HB; have HO282 := n0_; have HB := n1_; clear n0_ n1_; (try clear hb); (try clear hb2); (try clear hk); (try clear hi); (try clear ho0)))
       (try simp only [Act.put, List.setIfInBounds_toArray, List.set_cons_zero, List.set_cons_succ])
       go_cut [48] (fun v48 wc => ∃ (kq : Nat) (x48_18 : Bool), v48 = .bool x48_18 ∧ Aside0 (estoverslaw27_InodePages.j2 kq l0 t277 x48_18 = some r) ∧ Aside0 (kq ≤ kj10) ∧ Aside0 (Below w.heap.size w wc))
       case first =>
        have H := HC19.out
        clear HC19
        by_cases c21 : t280 = 0
        ·rw [if_pos c21] at H
         have c21b0 : (t280 == 0) = true := beq_iff_eq.mpr c21
         have c21b1 : (t280 != 0) = false := bne_eq_false_iff_eq.mpr c21
         clear c21
         (first | rw [c21b0] | (simp only [i64_w, i32_w]; rw [c21b0]) | skip)
         replace H := Option.bind_eq_some_iff.mp H
         obtain ⟨t283, A220, H⟩ := H
         replace H : (estoverslaw27_InodePages.j2 kj10 l0 t277 (!t283)) = some r := H
         have A22 := Aside0.mk A220
         clear A220
         have H' := Aside0.mk H
         clear H
         obtain ⟨Ao23, co23, eo23⟩ := Kd.R_slice HO282.out
         subst eo23
         go_wp2_with (first | (go_at_call 24; (with_reducible refine (estoversref27_SameBools.calls kj10 _ _ t279 _ _ l0 t283 _ ?side1 ?side2 ?side3 ?side4 A22.out).mono ?_); (case side1 => repeat (first | exact (Kd.R_reads' HO282.out).2.2 | (with_reducible refine Kd.C_alloc ?_ _) | (with_reducible refine Kd.C_drewN ?_ _) | (with_reducible refine Kd.C_drew ?_))); (case side2 => exact (Kd.R_reads' HO282.out).2.1); (case side3 => repeat (first | exact (Kd.C_below HR0.out HB.out) | (with_reducible refine Kd.C_alloc ?_ _) | (with_reducible refine Kd.C_drewN ?_ _) | (with_reducible refine Kd.C_drew ?_))); (case side4 => exact HC0.out); rintro e w' ⟨rfl, ⟨nd, rfl⟩⟩))
         go_meet
         case rel => exact ⟨_, (!t283), (by first | rfl | (simp; done) | (simp [*]; done)), H', ⟨by have := HJ1.out; have := HJ10.out; first | omega | exact Nat.le_refl _⟩, ⟨by repeat (first | (with_reducible first | exact HB.out | apply below_alloc | apply pw_below_drewN | apply below_drew1) | exact HB.out)⟩⟩
        ·rw [if_neg c21] at H
         have c21b0 : (t280 == 0) = false := beq_eq_false_iff_ne.mpr c21
         have c21b1 : (t280 != 0) = true := bne_iff_ne.mpr c21
         (first | rw [c21b0] | (simp only [i64_w, i32_w]; rw [c21b0]) | skip)
         have H' := Aside0.mk H
         clear H
         go_wp2
         go_meet
         case rel => exact ⟨_, (true), (by first | rfl | (simp; done) | (simp [*]; done)), H', ⟨by have := HJ1.out; have := HJ10.out; first | omega | exact Nat.le_refl _⟩, ⟨by repeat (first | (with_reducible first | exact HB.out | apply below_alloc | apply pw_below_drewN | apply below_drew1) | exact HB.out)⟩⟩
       case rest =>
        clear HC19
        (try clear c1); (try clear c2); (try clear p2); (try clear c4); (try clear p6); (try clear c7); (try clear c10); (try clear c11); (try clear c12); (try clear c12b0); (try clear c12b1); (try clear c13); (try clear c13b0); (try clear c15); (try clear c15b0); (try clear c15b1); (try clear c17); (try clear c20); (try clear c21); (try clear c21b0); (try clear c21b1); (try clear c22); (try clear p2); (try clear p6)
        obtain ⟨kq, x48_18, rfl, HA, HJ18, HB⟩ := hcut
        cases kq with
        | zero => exact absurd HA.out (by simp [estoverslaw27_InodePages.j2])
        | succ kj18 =>
         have H := HA.out
         clear HA
         simp only [estoverslaw27_InodePages.j2] at H
         by_cases c24 : x48_18 = true
         ·subst c24
          have H1 : (some false) = some r := by rw [if_pos rfl] at H; exact H
          clear H
          have H := H1
          clear H1
          obtain rfl := Option.some.inj H
          go_wp2
          go_ret
          exact ⟨by first | rfl | (simp [errW_none, errW_some] <;> rfl) | (simp [*, errW_none, errW_some] <;> rfl), by repeat (first | (with_reducible first | exact HB.out | apply below_alloc | apply pw_below_drewN | apply below_drew1) | exact HB.out)⟩
         ·replace c24 := Bool.eq_false_iff.mpr c24
          subst c24
          have H1 : (estoverslaw27_InodePages.l0 kj18 l0 t277 (l0.length : Int) 0) = some r := by rw [if_neg (show ¬ (false = true) by decide)] at H; exact H
          clear H
          have H := H1
          clear H1
          have H' := Aside0.mk H
          clear H
          go_wp2
          go_loopg [51] kj18 (fun kq v51 w' => ∃ (x51_4 : Int), v51 = .int .i64 x51_4 ∧ Aside0 (estoverslaw27_InodePages.l0 kq l0 t277 (l0.length : Int) x51_4 = some r) ∧ Aside0 (kq ≤ kj18) ∧ Aside0 (Below w.heap.size w w'))
          case atStart => exact ⟨(0), (by first | rfl | (simp; done) | (simp [*]; done)), H', ⟨Nat.le_refl _⟩, ⟨by repeat (first | (with_reducible first | exact HB.out | apply below_alloc | apply pw_below_drewN | apply below_drew1) | exact HB.out)⟩⟩
          case round =>
           clear H'
           (try clear c1); (try clear c2); (try clear p2); (try clear c4); (try clear p6); (try clear c7); (try clear c10); (try clear c11); (try clear c12); (try clear c12b0); (try clear c12b1); (try clear c13); (try clear c13b0); (try clear c15); (try clear c15b0); (try clear c15b1); (try clear c17); (try clear c20); (try clear c21); (try clear c21b0); (try clear c21b1); (try clear c22); (try clear c24); (try clear p2); (try clear p6)
           obtain ⟨x51_4, rfl, HA, HK4, HB⟩ := hrel
           cases gk with
           | zero => exact absurd HA.out (by simp [estoverslaw27_InodePages.l0])
           | succ k4 =>
            have H := HA.out
            clear HA
            simp only [estoverslaw27_InodePages.l0] at H
            by_cases c25 : x51_4 < (l0.length : Int)
            ·rw [if_pos c25] at H
             have c25b0 : decide (x51_4 < (l0.length : Int)) = true := decide_eq_true c25
             clear c25
             obtain ⟨ji26, hji26⟩ : ∃ j_ : Int, (IntKind.u64.wrap (x51_4)) = j_ := ⟨_, rfl⟩
             replace H : (if 0 ≤ (ji26) then (if 0 ≤ x51_4 then (if x51_4 < (l0.length : Int) then (if (((Go.bits .and .i64 (shr .i64 t277 (ji26)) 1) == 1) != (rdOf false l0 x51_4)) = true then (some false) else (estoverslaw27_InodePages.l0 k4 l0 t277 (l0.length : Int) (wrap64 (x51_4 + 1)))) else (none)) else (none)) else (none)) = some r := by first | (rw [hji26] at H; exact H) | (simp only [hji26] at H ⊢; exact H)
             by_cases c27 : 0 ≤ (ji26)
             ·rw [if_pos c27] at H
              have c27b0 := eq_true c27
              have c27b1 : decide (0 ≤ (ji26)) = true := decide_eq_true c27
              clear c27
              obtain ⟨ji28, hji28⟩ : ∃ j_ : Int, (shr .i64 t277 (ji26)) = j_ := ⟨_, rfl⟩
              replace H : (if 0 ≤ x51_4 then (if x51_4 < (l0.length : Int) then (if (((Go.bits .and .i64 (ji28) 1) == 1) != (rdOf false l0 x51_4)) = true then (some false) else (estoverslaw27_InodePages.l0 k4 l0 t277 (l0.length : Int) (wrap64 (x51_4 + 1)))) else (none)) else (none)) = some r := by first | (rw [hji28] at H; exact H) | (simp only [hji28] at H ⊢; exact H)
              have hji28_ : (t277 / 2 ^ min (ji26).toNat 64) = ji28 := hji28
              have hji28z : (ji26) ≤ 64 → (t277 / 2 ^ (ji26).toNat) = ji28 := shr_small hji28
              by_cases c29 : 0 ≤ x51_4
              ·rw [if_pos c29] at H
               have c29b0 : decide (0 ≤ x51_4) = true := decide_eq_true c29
               clear c29
               by_cases c30 : x51_4 < (l0.length : Int)
               ·rw [if_pos c30] at H
                have c30b0 : decide (x51_4 < (l0.length : Int)) = true := decide_eq_true c30
                clear c30
                by_cases c31 : (((Go.bits .and .i64 (ji28) 1) == 1) != (rdOf false l0 x51_4)) = true
                ·rw [if_pos c31] at H
                 have c31b0 : (((Go.bits .and .i64 (ji28) 1) == 1) != (rdOf false l0 x51_4)) = true := c31
                 (try (have c31b1 : decide (((Go.bits .and .i64 (ji28) 1) == 1) = (rdOf false l0 x51_4)) = false := by simpa using c31))
                 (try (have c31b2 : (((Go.bits .and .i64 (ji28) 1) == 1) == (rdOf false l0 x51_4)) = false := by simpa using c31))
                 (try (have c31b3 : ¬ (((Go.bits .and .i64 (ji28) 1) == 1) = (rdOf false l0 x51_4)) := by simpa using c31))
                 clear c31
                 obtain rfl := Option.some.inj H
                 have p284 : 0 ≤ (x51_4 : Int) := of_decide_eq_true (by first | (with_reducible assumption) | assumption)
                 have q284 : x51_4 < (l0.length : Int) := of_decide_eq_true (by first | (with_reducible assumption) | assumption)
                 obtain ⟨ad284, e284, hx284_0⟩ := Kd.at_bool HR0.out x51_4 p284 q284
                 cases e284
                 replace hx284_0 := (HB.out.cell (World.block_lt_of_cell? w _ hx284_0)).trans hx284_0
                 replace p284 := eq_true p284
                 replace q284 := eq_true q284
                 go_wp2
                 go_ret
                 exact ⟨by first | rfl | (simp [errW_none, errW_some] <;> rfl) | (simp only [← hji26, ← hji28]; first | rfl | (simp [errW_none, errW_some] <;> rfl)) | (simp [*, errW_none, errW_some] <;> rfl), by repeat (first | (with_reducible first | exact HB.out | apply below_alloc | apply pw_below_drewN | apply below_drew1) | exact HB.out)⟩
                ·rw [if_neg c31] at H
                 have c31b0 : (((Go.bits .and .i64 (ji28) 1) == 1) != (rdOf false l0 x51_4)) = false := by simpa using c31
                 (try (have c31b1 : decide (((Go.bits .and .i64 (ji28) 1) == 1) = (rdOf false l0 x51_4)) = true := by simpa using c31))
                 (try (have c31b2 : (((Go.bits .and .i64 (ji28) 1) == 1) == (rdOf false l0 x51_4)) = true := by simpa using c31))
                 clear c31
                 have H' := Aside0.mk H
                 clear H
                 have p284 : 0 ≤ (x51_4 : Int) := of_decide_eq_true (by first | (with_reducible assumption) | assumption)
                 have q284 : x51_4 < (l0.length : Int) := of_decide_eq_true (by first | (with_reducible assumption) | assumption)
                 obtain ⟨ad284, e284, hx284_0⟩ := Kd.at_bool HR0.out x51_4 p284 q284
                 cases e284
                 replace hx284_0 := (HB.out.cell (World.block_lt_of_cell? w _ hx284_0)).trans hx284_0
                 replace p284 := eq_true p284
                 replace q284 := eq_true q284
                 go_wp2
                 go_roundg k4
                 case measure => have := HJ1.out; have := HJ10.out; have := HJ18.out; have := HK4.out; omega
                 case rel => exact ⟨(wrap64 (x51_4 + 1)), (by first | rfl | (simp; done) | (simp [*]; done)), H', ⟨by have := HJ1.out; have := HJ10.out; have := HJ18.out; have := HK4.out; omega⟩, ⟨by repeat (first | (with_reducible first | exact HB.out | apply below_alloc | apply pw_below_drewN | apply below_drew1) | exact HB.out)⟩⟩
               ·rw [if_neg c30] at H
                exact absurd H (by simp)
              ·rw [if_neg c29] at H
               exact absurd H (by simp)
             ·rw [if_neg c27] at H
              exact absurd H (by simp)
            ·rw [if_neg c25] at H
             have c25b0 : decide (x51_4 < (l0.length : Int)) = false := decide_eq_false c25
             clear c25
             obtain rfl := Option.some.inj H
             go_wp2
             go_ret
             exact ⟨by first | rfl | (simp [errW_none, errW_some] <;> rfl) | (simp [*, errW_none, errW_some] <;> rfl), by repeat (first | (with_reducible first | exact HB.out | apply below_alloc | apply pw_below_drewN | apply below_drew1) | exact HB.out)⟩

end Go.Proofs.Ytnkopggkapdceaa.Ino
