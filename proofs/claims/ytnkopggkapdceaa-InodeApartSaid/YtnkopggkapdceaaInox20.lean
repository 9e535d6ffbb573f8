/- Turned out by a program of this session (wip/tools/prt.py). -/
import Derived.Test.YtnkopggkapdceaaInox0
import Derived.Test.YtnkopggkapdceaaInox6
import Derived.Test.YtnkopggkapdceaaInox8
namespace Go.Proofs.Ytnkopggkapdceaa.Ino
open Go.RowKit Go.Proofs.YtnkopggkapdceaaW.PrintWords Go.Proofs.YtnkopggkapdceaaW.PrintLast Go.Proofs.YtnkopggkapdceaaW.PrintMore
attribute [local go_sem] max2_int min2_int max_two min_two max_three min_three max_four min_four   -- for this text's walks alone
set_option linter.unusedVariables false
set_option linter.unusedSimpArgs false

/-! ### estoverslaw27_InodeApart: function 8 -/
mutual
def estoverslaw27_InodeApart.j0 : Nat → List Int → Int → Bool → Option (Bool)
 | 0, _, _, _ => none
 | k + 1, x0, x1, x23 => if x23 = true then ((estoverslaw27_awake.f k).bind fun t222 => (some t222)) else (estoverslaw27_InodeApart.l0 k x1 ([] : List Int) x0 (x0.length : Int) 0)
def estoverslaw27_InodeApart.l0 : Nat → Int → List Int → List Int → Int → Int → Option (Bool)
 | 0, _, _, _, _, _ => none
 | k + 1, x1, x5, x25, x26, x27 => if x27 < x26 then (if 0 ≤ x27 then (if x27 < (x25.length : Int) then (if x5.length < 17592186044416 then (estoverslaw27_InodeApart.l0 k x1 (x5 ++ [wrap64 (1 + (wrap64 (Int.tmod (rd x25 x27) 16)))]) x25 x26 (wrap64 (x27 + 1))) else (none)) else (none)) else (none)) else ((inode_Layout.f k x5 (Int.tmod (wrap64 (x1)) 65)).bind fun bt227 => (if bt227.2 = 0 then (if (bt227.1.length : Int) = (wrap64 ((x5.length : Int) + 2)) then (if 0 ≤ (wrap64 ((bt227.1.length : Int) - 1)) then (if (wrap64 ((bt227.1.length : Int) - 1)) < (bt227.1.length : Int) then (if (rd bt227.1 (wrap64 ((bt227.1.length : Int) - 1))) < 0 then (estoverslaw27_InodeApart.j2 k x5 (Int.tmod (wrap64 (x1)) 65) bt227.1 true) else (estoverslaw27_InodeApart.j2 k x5 (Int.tmod (wrap64 (x1)) 65) bt227.1 (decide ((rd bt227.1 (wrap64 ((bt227.1.length : Int) - 1))) > 200)))) else (none)) else (none)) else (estoverslaw27_InodeApart.j2 k x5 (Int.tmod (wrap64 (x1)) 65) bt227.1 true)) else (estoverslaw27_InodeApart.j2 k x5 (Int.tmod (wrap64 (x1)) 65) bt227.1 true)))
def estoverslaw27_InodeApart.j2 : Nat → List Int → Int → List Int → Bool → Option (Bool)
 | 0, _, _, _, _ => none
 | k + 1, x5, x8, x9, x75 => if x75 = true then (some false) else (if 0 ≤ (wrap64 ((x9.length : Int) - 1)) then (if (wrap64 ((x9.length : Int) - 1)) < (x9.length : Int) then (if 0 ≤ (rd x9 (wrap64 ((x9.length : Int) - 1))) then (if (rd x9 (wrap64 ((x9.length : Int) - 1)) : Int).toNat ≤ 35184372088832 then (if (wrap64 ((x9.length : Int) - 1)) ≤ (x9.length : Int) then (estoverslaw27_InodeApart.l1 k x5 x8 x9 (List.replicate (rd x9 (wrap64 ((x9.length : Int) - 1)) : Int).toNat 0) ((x9.take ((wrap64 ((x9.length : Int) - 1)) : Int).toNat).length : Int) 0) else (none)) else (none)) else (none)) else (none)) else (none))
def estoverslaw27_InodeApart.l1 : Nat → List Int → Int → List Int → List Int → Int → Int → Option (Bool)
 | 0, _, _, _, _, _, _ => none
 | k + 1, x5, x8, x9, x11, x88, x89 => if x89 < x88 then (if x89 < (x5.length : Int) then (if 0 ≤ x89 then (estoverslaw27_InodeApart.j4 k x5 x8 x9 x11 x89 (wrap64 (1 + (rd x5 x89))) x88 x89) else (none)) else (estoverslaw27_InodeApart.j4 k x5 x8 x9 x11 x89 x8 x88 x89)) else (estoverslaw27_InodeApart.l3 k x11 (x11.length : Int) 0)
def estoverslaw27_InodeApart.j4 : Nat → List Int → Int → List Int → List Int → Int → Int → Int → Int → Option (Bool)
 | 0, _, _, _, _, _, _, _, _ => none
 | k + 1, x5, x8, x9, x11, x12, x13, x88, x89 => if 0 ≤ x12 then (if x12 < (x9.length : Int) then (estoverslaw27_InodeApart.l2 k x5 x8 x9 x11 x12 x13 (rd x9 x12) x88 x89) else (none)) else (none)
def estoverslaw27_InodeApart.l2 : Nat → List Int → Int → List Int → List Int → Int → Int → Int → Int → Int → Option (Bool)
 | 0, _, _, _, _, _, _, _, _, _ => none
 | k + 1, x5, x8, x9, x11, x12, x13, x14, x88, x89 => if 0 ≤ x12 then (if x12 < (x9.length : Int) then (if x14 < (wrap64 ((rd x9 x12) + x13)) then (if x14 < 0 then (some false) else (if x14 ≥ (x11.length : Int) then (some false) else (if 0 ≤ x14 then (if x14 < (x11.length : Int) then (estoverslaw27_InodeApart.l2 k x5 x8 x9 (x11.set (x14 : Int).toNat (wrap64 ((rd x11 x14) + 1))) x12 x13 (wrap64 (x14 + 1)) x88 x89) else (none)) else (none)))) else (estoverslaw27_InodeApart.l1 k x5 x8 x9 x11 x88 (wrap64 (x89 + 1)))) else (none)) else (none)
def estoverslaw27_InodeApart.l3 : Nat → List Int → Int → Int → Option (Bool)
 | 0, _, _, _ => none
 | k + 1, x131, x132, x133 => if x133 < x132 then (if 0 ≤ x133 then (if x133 < (x131.length : Int) then (if (rd x131 x133) = 1 then (estoverslaw27_InodeApart.l3 k x131 x132 (wrap64 (x133 + 1))) else (some false)) else (none)) else (none)) else (some true)
end
def estoverslaw27_InodeApart.f (k : Nat) (l0 : List Int) (a1 : Int) : Option (Bool) := (estoverslaw27_awake.f k).bind fun t221 => (if t221 = true then (estoverslaw27_InodeApart.j0 k l0 a1 (decide ((l0.length : Int) > 4))) else (estoverslaw27_InodeApart.j0 k l0 a1 true))
theorem estoverslaw27_InodeApart.mono_l : ∀ k, (∀ y0 y1 y2, LeO (estoverslaw27_InodeApart.j0 k y0 y1 y2) (estoverslaw27_InodeApart.j0 (k + 1) y0 y1 y2)) ∧ (∀ y0 y1 y2 y3 y4, LeO (estoverslaw27_InodeApart.l0 k y0 y1 y2 y3 y4) (estoverslaw27_InodeApart.l0 (k + 1) y0 y1 y2 y3 y4)) ∧ (∀ y0 y1 y2 y3, LeO (estoverslaw27_InodeApart.j2 k y0 y1 y2 y3) (estoverslaw27_InodeApart.j2 (k + 1) y0 y1 y2 y3)) ∧ (∀ y0 y1 y2 y3 y4 y5, LeO (estoverslaw27_InodeApart.l1 k y0 y1 y2 y3 y4 y5) (estoverslaw27_InodeApart.l1 (k + 1) y0 y1 y2 y3 y4 y5)) ∧ (∀ y0 y1 y2 y3 y4 y5 y6 y7, LeO (estoverslaw27_InodeApart.j4 k y0 y1 y2 y3 y4 y5 y6 y7) (estoverslaw27_InodeApart.j4 (k + 1) y0 y1 y2 y3 y4 y5 y6 y7)) ∧ (∀ y0 y1 y2 y3 y4 y5 y6 y7 y8, LeO (estoverslaw27_InodeApart.l2 k y0 y1 y2 y3 y4 y5 y6 y7 y8) (estoverslaw27_InodeApart.l2 (k + 1) y0 y1 y2 y3 y4 y5 y6 y7 y8)) ∧ (∀ y0 y1 y2, LeO (estoverslaw27_InodeApart.l3 k y0 y1 y2) (estoverslaw27_InodeApart.l3 (k + 1) y0 y1 y2))
 | 0 => ⟨fun _ _ _ r h => by simp [estoverslaw27_InodeApart.j0] at h, fun _ _ _ _ _ r h => by simp [estoverslaw27_InodeApart.l0] at h, fun _ _ _ _ r h => by simp [estoverslaw27_InodeApart.j2] at h, fun _ _ _ _ _ _ r h => by simp [estoverslaw27_InodeApart.l1] at h, fun _ _ _ _ _ _ _ _ r h => by simp [estoverslaw27_InodeApart.j4] at h, fun _ _ _ _ _ _ _ _ _ r h => by simp [estoverslaw27_InodeApart.l2] at h, fun _ _ _ r h => by simp [estoverslaw27_InodeApart.l3] at h⟩
 | k + 1 => by
  obtain ⟨ih0, ih1, ih2, ih3, ih4, ih5, ih6⟩ := estoverslaw27_InodeApart.mono_l k
  refine ⟨?_, ?_, ?_, ?_, ?_, ?_, ?_⟩
  ·intro y0 y1 y2
   unfold estoverslaw27_InodeApart.j0
   repeat' first
   | (with_reducible exact ih0 _ _ _)
   | (with_reducible exact ih1 _ _ _ _ _)
   | (with_reducible exact ih2 _ _ _ _)
   | (with_reducible exact ih3 _ _ _ _ _ _)
   | (with_reducible exact ih4 _ _ _ _ _ _ _ _)
   | (with_reducible exact ih5 _ _ _ _ _ _ _ _ _)
   | (with_reducible exact ih6 _ _ _)
   | (with_reducible exact estoverslaw27_awake.mono _)
   | (with_reducible exact inode_Layout.mono _ _ _)
   | (with_reducible exact LeO.refl _)
   | (with_reducible exact LeO.none _)
   | (with_reducible refine LeO.ite ?_ ?_)
   | (with_reducible refine LeO.bind ?_ (fun _ => ?_))
   | exact ih0 _ _ _
   | exact ih1 _ _ _ _ _
   | exact ih2 _ _ _ _
   | exact ih3 _ _ _ _ _ _
   | exact ih4 _ _ _ _ _ _ _ _
   | exact ih5 _ _ _ _ _ _ _ _ _
   | exact ih6 _ _ _
   | exact estoverslaw27_awake.mono _
   | exact inode_Layout.mono _ _ _
   | exact LeO.none _
   | refine LeO.ite ?_ ?_
   | refine LeO.bind ?_ (fun _ => ?_)
  ·intro y0 y1 y2 y3 y4
   unfold estoverslaw27_InodeApart.l0
   repeat' first
   | (with_reducible exact ih0 _ _ _)
   | (with_reducible exact ih1 _ _ _ _ _)
   | (with_reducible exact ih2 _ _ _ _)
   | (with_reducible exact ih3 _ _ _ _ _ _)
   | (with_reducible exact ih4 _ _ _ _ _ _ _ _)
   | (with_reducible exact ih5 _ _ _ _ _ _ _ _ _)
   | (with_reducible exact ih6 _ _ _)
   | (with_reducible exact estoverslaw27_awake.mono _)
   | (with_reducible exact inode_Layout.mono _ _ _)
   | (with_reducible exact LeO.refl _)
   | (with_reducible exact LeO.none _)
   | (with_reducible refine LeO.ite ?_ ?_)
   | (with_reducible refine LeO.bind ?_ (fun _ => ?_))
   | exact ih0 _ _ _
   | exact ih1 _ _ _ _ _
   | exact ih2 _ _ _ _
   | exact ih3 _ _ _ _ _ _
   | exact ih4 _ _ _ _ _ _ _ _
   | exact ih5 _ _ _ _ _ _ _ _ _
   | exact ih6 _ _ _
   | exact estoverslaw27_awake.mono _
   | exact inode_Layout.mono _ _ _
   | exact LeO.none _
   | refine LeO.ite ?_ ?_
   | refine LeO.bind ?_ (fun _ => ?_)
  ·intro y0 y1 y2 y3
   unfold estoverslaw27_InodeApart.j2
   repeat' first
   | (with_reducible exact ih0 _ _ _)
   | (with_reducible exact ih1 _ _ _ _ _)
   | (with_reducible exact ih2 _ _ _ _)
   | (with_reducible exact ih3 _ _ _ _ _ _)
   | (with_reducible exact ih4 _ _ _ _ _ _ _ _)
   | (with_reducible exact ih5 _ _ _ _ _ _ _ _ _)
   | (with_reducible exact ih6 _ _ _)
   | (with_reducible exact estoverslaw27_awake.mono _)
   | (with_reducible exact inode_Layout.mono _ _ _)
   | (with_reducible exact LeO.refl _)
   | (with_reducible exact LeO.none _)
   | (with_reducible refine LeO.ite ?_ ?_)
   | (with_reducible refine LeO.bind ?_ (fun _ => ?_))
   | exact ih0 _ _ _
   | exact ih1 _ _ _ _ _
   | exact ih2 _ _ _ _
   | exact ih3 _ _ _ _ _ _
   | exact ih4 _ _ _ _ _ _ _ _
   | exact ih5 _ _ _ _ _ _ _ _ _
   | exact ih6 _ _ _
   | exact estoverslaw27_awake.mono _
   | exact inode_Layout.mono _ _ _
   | exact LeO.none _
   | refine LeO.ite ?_ ?_
   | refine LeO.bind ?_ (fun _ => ?_)
  ·intro y0 y1 y2 y3 y4 y5
   unfold estoverslaw27_InodeApart.l1
   repeat' first
   | (with_reducible exact ih0 _ _ _)
   | (with_reducible exact ih1 _ _ _ _ _)
   | (with_reducible exact ih2 _ _ _ _)
   | (with_reducible exact ih3 _ _ _ _ _ _)
   | (with_reducible exact ih4 _ _ _ _ _ _ _ _)
   | (with_reducible exact ih5 _ _ _ _ _ _ _ _ _)
   | (with_reducible exact ih6 _ _ _)
   | (with_reducible exact estoverslaw27_awake.mono _)
   | (with_reducible exact inode_Layout.mono _ _ _)
   | (with_reducible exact LeO.refl _)
   | (with_reducible exact LeO.none _)
   | (with_reducible refine LeO.ite ?_ ?_)
   | (with_reducible refine LeO.bind ?_ (fun _ => ?_))
   | exact ih0 _ _ _
   | exact ih1 _ _ _ _ _
   | exact ih2 _ _ _ _
   | exact ih3 _ _ _ _ _ _
   | exact ih4 _ _ _ _ _ _ _ _
   | exact ih5 _ _ _ _ _ _ _ _ _
   | exact ih6 _ _ _
   | exact estoverslaw27_awake.mono _
   | exact inode_Layout.mono _ _ _
   | exact LeO.none _
   | refine LeO.ite ?_ ?_
   | refine LeO.bind ?_ (fun _ => ?_)
  ·intro y0 y1 y2 y3 y4 y5 y6 y7
   unfold estoverslaw27_InodeApart.j4
   repeat' first
   | (with_reducible exact ih0 _ _ _)
   | (with_reducible exact ih1 _ _ _ _ _)
   | (with_reducible exact ih2 _ _ _ _)
   | (with_reducible exact ih3 _ _ _ _ _ _)
   | (with_reducible exact ih4 _ _ _ _ _ _ _ _)
   | (with_reducible exact ih5 _ _ _ _ _ _ _ _ _)
   | (with_reducible exact ih6 _ _ _)
   | (with_reducible exact estoverslaw27_awake.mono _)
   | (with_reducible exact inode_Layout.mono _ _ _)
   | (with_reducible exact LeO.refl _)
   | (with_reducible exact LeO.none _)
   | (with_reducible refine LeO.ite ?_ ?_)
   | (with_reducible refine LeO.bind ?_ (fun _ => ?_))
   | exact ih0 _ _ _
   | exact ih1 _ _ _ _ _
   | exact ih2 _ _ _ _
   | exact ih3 _ _ _ _ _ _
   | exact ih4 _ _ _ _ _ _ _ _
   | exact ih5 _ _ _ _ _ _ _ _ _
   | exact ih6 _ _ _
   | exact estoverslaw27_awake.mono _
   | exact inode_Layout.mono _ _ _
   | exact LeO.none _
   | refine LeO.ite ?_ ?_
   | refine LeO.bind ?_ (fun _ => ?_)
  ·intro y0 y1 y2 y3 y4 y5 y6 y7 y8
   unfold estoverslaw27_InodeApart.l2
   repeat' first
   | (with_reducible exact ih0 _ _ _)
   | (with_reducible exact ih1 _ _ _ _ _)
   | (with_reducible exact ih2 _ _ _ _)
   | (with_reducible exact ih3 _ _ _ _ _ _)
   | (with_reducible exact ih4 _ _ _ _ _ _ _ _)
   | (with_reducible exact ih5 _ _ _ _ _ _ _ _ _)
   | (with_reducible exact ih6 _ _ _)
   | (with_reducible exact estoverslaw27_awake.mono _)
   | (with_reducible exact inode_Layout.mono _ _ _)
   | (with_reducible exact LeO.refl _)
   | (with_reducible exact LeO.none _)
   | (with_reducible refine LeO.ite ?_ ?_)
   | (with_reducible refine LeO.bind ?_ (fun _ => ?_))
   | exact ih0 _ _ _
   | exact ih1 _ _ _ _ _
   | exact ih2 _ _ _ _
   | exact ih3 _ _ _ _ _ _
   | exact ih4 _ _ _ _ _ _ _ _
   | exact ih5 _ _ _ _ _ _ _ _ _
   | exact ih6 _ _ _
   | exact estoverslaw27_awake.mono _
   | exact inode_Layout.mono _ _ _
   | exact LeO.none _
   | refine LeO.ite ?_ ?_
   | refine LeO.bind ?_ (fun _ => ?_)
  ·intro y0 y1 y2
   unfold estoverslaw27_InodeApart.l3
   repeat' first
   | (with_reducible exact ih0 _ _ _)
   | (with_reducible exact ih1 _ _ _ _ _)
   | (with_reducible exact ih2 _ _ _ _)
   | (with_reducible exact ih3 _ _ _ _ _ _)
   | (with_reducible exact ih4 _ _ _ _ _ _ _ _)
   | (with_reducible exact ih5 _ _ _ _ _ _ _ _ _)
   | (with_reducible exact ih6 _ _ _)
   | (with_reducible exact estoverslaw27_awake.mono _)
   | (with_reducible exact inode_Layout.mono _ _ _)
   | (with_reducible exact LeO.refl _)
   | (with_reducible exact LeO.none _)
   | (with_reducible refine LeO.ite ?_ ?_)
   | (with_reducible refine LeO.bind ?_ (fun _ => ?_))
   | exact ih0 _ _ _
   | exact ih1 _ _ _ _ _
   | exact ih2 _ _ _ _
   | exact ih3 _ _ _ _ _ _
   | exact ih4 _ _ _ _ _ _ _ _
   | exact ih5 _ _ _ _ _ _ _ _ _
   | exact ih6 _ _ _
   | exact estoverslaw27_awake.mono _
   | exact inode_Layout.mono _ _ _
   | exact LeO.none _
   | refine LeO.ite ?_ ?_
   | refine LeO.bind ?_ (fun _ => ?_)
theorem estoverslaw27_InodeApart.mono : ∀ a0 a1 k, LeO (estoverslaw27_InodeApart.f k a0 a1) (estoverslaw27_InodeApart.f (k + 1) a0 a1) := by
 intro a0 a1 k
 obtain ⟨ih0, ih1, ih2, ih3, ih4, ih5, ih6⟩ := estoverslaw27_InodeApart.mono_l k
 unfold estoverslaw27_InodeApart.f
 repeat' first
   | (with_reducible exact ih0 _ _ _)
   | (with_reducible exact ih1 _ _ _ _ _)
   | (with_reducible exact ih2 _ _ _ _)
   | (with_reducible exact ih3 _ _ _ _ _ _)
   | (with_reducible exact ih4 _ _ _ _ _ _ _ _)
   | (with_reducible exact ih5 _ _ _ _ _ _ _ _ _)
   | (with_reducible exact ih6 _ _ _)
   | (with_reducible exact estoverslaw27_awake.mono _)
   | (with_reducible exact inode_Layout.mono _ _ _)
   | (with_reducible exact LeO.refl _)
   | (with_reducible exact LeO.none _)
   | (with_reducible refine LeO.ite ?_ ?_)
   | (with_reducible refine LeO.bind ?_ (fun _ => ?_))
   | exact ih0 _ _ _
   | exact ih1 _ _ _ _ _
   | exact ih2 _ _ _ _
   | exact ih3 _ _ _ _ _ _
   | exact ih4 _ _ _ _ _ _ _ _
   | exact ih5 _ _ _ _ _ _ _ _ _
   | exact ih6 _ _ _
   | exact estoverslaw27_awake.mono _
   | exact inode_Layout.mono _ _ _
   | exact LeO.none _
   | refine LeO.ite ?_ ?_
   | refine LeO.bind ?_ (fun _ => ?_)
set_option maxHeartbeats 8000000 in
set_option maxRecDepth 100000 in
theorem estoverslaw27_InodeApart.calls (k : Nat) (A0 : Option Addr) (c0 : Nat) (l0 : List Int) (a1 : Int) (r : Bool) (w : World) (hr0 : Kd.C (Kd.int .u8) w A0 l0.length l0) (hc0 : l0.length ≤ c0) (h : estoverslaw27_InodeApart.f k l0 a1 = some r) :
  Calls Try.prog 8 #[.slice A0 l0.length c0, .int .u8 a1] w fun e w' => e = .returned (.bool r) ∧ Below w.heap.size w w' := by
 have HR0 := Aside0.mk hr0
 have HC0 := Aside0.mk hc0
 clear hr0 hc0
 have HB := Aside0.mk (Below.refl w.heap.size w)
 have H : ((estoverslaw27_awake.f k).bind fun t221 => (if t221 = true then (estoverslaw27_InodeApart.j0 k l0 a1 (decide ((l0.length : Int) > 4))) else (estoverslaw27_InodeApart.j0 k l0 a1 true))) = some r := h
 clear h
 have HC3 := Aside0.mk H
 clear H
 go_enter Try.func8, Try.ntmps8
 go_upto_region 1 with (fail)
 go_cut [23] (fun v23 wc => ∃ (kq : Nat) (x23_2 : Bool), v23 = .bool x23_2 ∧ Aside0 (estoverslaw27_InodeApart.j0 kq l0 a1 x23_2 = some r) ∧ Aside0 (kq ≤ k) ∧ Aside0 (Below w.heap.size w wc))
 case first =>
  have H := HC3.out
  clear HC3
  replace H := Option.bind_eq_some_iff.mp H
  obtain ⟨t221, A40, H⟩ := H
  replace H : (if t221 = true then (estoverslaw27_InodeApart.j0 k l0 a1 (decide ((l0.length : Int) > 4))) else (estoverslaw27_InodeApart.j0 k l0 a1 true)) = some r := H
  have A4 := Aside0.mk A40
  clear A40
  by_cases c5 : t221 = true
  ·subst c5
   have H1 : (estoverslaw27_InodeApart.j0 k l0 a1 (decide ((l0.length : Int) > 4))) = some r := by rw [if_pos rfl] at H; exact H
   clear H
   have H := H1
   clear H1
   have H' := Aside0.mk H
   clear H
   go_wp2_with (first | ((with_reducible refine gate_callee (f := 11) rfl ?_); refine goesL_ (some 17) rfl rfl Try.func11 (by kernel_rfl) rfl #[] rfl (by (try simp only [List.map_toArray, List.map_cons, List.map_nil]); first | done | rfl | (simp only [List.length_drop, List.length_take]; rfl)) ?_; (with_reducible refine (estoverslaw27_awake.calls k  true _ A4.out).mono ?_); rintro e w6 ⟨rfl, hb⟩; refine ⟨_, rfl, ?_⟩; have n0_ := Aside0.mk (below_step (by repeat (first | (with_reducible first | exact HB.out | apply below_alloc | apply pw_below_drewN | apply below_drew1) | exact HB.out)) hb); clear HB; have HB := n0_; clear n0_; (try clear hb); (try clear hb2); (try clear hk); (try clear hi)))
   go_meet
   case rel => exact ⟨_, (decide ((l0.length : Int) > 4)), (by first | rfl | (simp; done) | (simp [*]; done)), H', ⟨by first | omega | exact Nat.le_refl _⟩, ⟨by repeat (first | (with_reducible first | exact HB.out | apply below_alloc | apply pw_below_drewN | apply below_drew1) | exact HB.out)⟩⟩
  ·replace c5 := Bool.eq_false_iff.mpr c5
   subst c5
   have H1 : (estoverslaw27_InodeApart.j0 k l0 a1 true) = some r := by rw [if_neg (show ¬ (false = true) by decide)] at H; exact H
   clear H
   have H := H1
   clear H1
   have H' := Aside0.mk H
   clear H
   go_wp2_with (first | ((with_reducible refine gate_callee (f := 11) rfl ?_); refine goesL_ (some 17) rfl rfl Try.func11 (by kernel_rfl) rfl #[] rfl (by (try simp only [List.map_toArray, List.map_cons, List.map_nil]); first | done | rfl | (simp only [List.length_drop, List.length_take]; rfl)) ?_; (with_reducible refine (estoverslaw27_awake.calls k  false _ A4.out).mono ?_); rintro e w7 ⟨rfl, hb⟩; refine ⟨_, rfl, ?_⟩; have n0_ := Aside0.mk (below_step (by repeat (first | (with_reducible first | exact HB.out | apply below_alloc | apply pw_below_drewN | apply below_drew1) | exact HB.out)) hb); clear HB; have HB := n0_; clear n0_; (try clear hb); (try clear hb2); (try clear hk); (try clear hi)))
   go_meet
   case rel => exact ⟨_, (true), (by first | rfl | (simp; done) | (simp [*]; done)), H', ⟨by first | omega | exact Nat.le_refl _⟩, ⟨by repeat (first | (with_reducible first | exact HB.out | apply below_alloc | apply pw_below_drewN | apply below_drew1) | exact HB.out)⟩⟩
 case rest =>
  clear HC3
  (try clear c1); (try clear p2); (try clear c5)
  obtain ⟨kq, x23_2, rfl, HA, HJ2, HB⟩ := hcut
  cases kq with
  | zero => exact absurd HA.out (by simp [estoverslaw27_InodeApart.j0])
  | succ kj2 =>
   have H := HA.out
   clear HA
   simp only [estoverslaw27_InodeApart.j0] at H
   by_cases c8 : x23_2 = true
   ·subst c8
    have H1 : ((estoverslaw27_awake.f kj2).bind fun t222 => (some t222)) = some r := by rw [if_pos rfl] at H; exact H
    clear H
    have H := H1
    clear H1
    replace H := Option.bind_eq_some_iff.mp H
    obtain ⟨t222, A90, H⟩ := H
    replace H : (some t222) = some r := H
    have A9 := Aside0.mk A90
    clear A90
    obtain rfl := Option.some.inj H
    go_wp2_with (first | ((with_reducible refine gate_callee (f := 11) rfl ?_); refine goesL_ (some 24) rfl rfl Try.func11 (by kernel_rfl) rfl #[] rfl (by (try simp only [List.map_toArray, List.map_cons, List.map_nil]); first | done | rfl | (simp only [List.length_drop, List.length_take]; rfl)) ?_; (with_reducible refine (estoverslaw27_awake.calls kj2  t222 _ A9.out).mono ?_); rintro e w10 ⟨rfl, hb⟩; refine ⟨_, rfl, ?_⟩; have n0_ := Aside0.mk (below_step (by repeat (first | (with_reducible first | exact HB.out | apply below_alloc | apply pw_below_drewN | apply below_drew1) | exact HB.out)) hb); clear HB; have HB := n0_; clear n0_; (try clear hb); (try clear hb2); (try clear hk); (try clear hi)))
    go_ret
    exact ⟨by first | rfl | (simp [errW_none, errW_some] <;> rfl) | (simp [*, errW_none, errW_some] <;> rfl), by repeat (first | (with_reducible first | exact HB.out | apply below_alloc | apply pw_below_drewN | apply below_drew1) | exact HB.out)⟩
   ·replace c8 := Bool.eq_false_iff.mpr c8
    subst c8
    have H1 : (estoverslaw27_InodeApart.l0 kj2 a1 ([] : List Int) l0 (l0.length : Int) 0) = some r := by rw [if_neg (show ¬ (false = true) by decide)] at H; exact H
    clear H
    have H := H1
    clear H1
    have H' := Aside0.mk H
    clear H
    go_wp2
    go_loopg [5, 27] kj2 (fun kq v5 v27 w' => ∃ (x5_2 : List Int) (x27_2 : Int), v27 = .int .i64 x27_2 ∧ Aside0 (estoverslaw27_InodeApart.l0 kq a1 x5_2 l0 (l0.length : Int) x27_2 = some r) ∧ Aside0 (kq ≤ kj2) ∧ Aside0 (Kd.R (Kd.int .i64) 3 w' w.heap.size (fun _ => True) v5 x5_2) ∧ Aside0 (Below w.heap.size w w'))
    case atStart => exact ⟨(([] : List Int)), (0), (by first | rfl | (simp; done) | (simp [*]; done)), H', ⟨Nat.le_refl _⟩, ⟨by first | exact Kd.R_nil _ _ _ _ _ | exact Kd.N_nil _ _ _ _ _ | exact Kd.V_nil _ _ _ _ _ | exact Kd.Q_nil _ _ _ _ _ | exact Kd.S_nil _ _ _ _ _⟩, ⟨by repeat (first | (with_reducible first | exact HB.out | apply below_alloc | apply pw_below_drewN | apply below_drew1) | exact HB.out)⟩⟩
    case round =>
     clear H'
     (try clear c1); (try clear p2); (try clear c5); (try clear c8); (try clear p2)
     obtain ⟨x5_2, x27_2, rfl, HA, HK2, HO_5, HB⟩ := hrel
     cases gk with
     | zero => exact absurd HA.out (by simp [estoverslaw27_InodeApart.l0])
     | succ k2 =>
      have H := HA.out
      clear HA
      simp only [estoverslaw27_InodeApart.l0] at H
      by_cases c11 : x27_2 < (l0.length : Int)
      ·rw [if_pos c11] at H
       have c11b0 : decide (x27_2 < (l0.length : Int)) = true := decide_eq_true c11
       clear c11
       by_cases c12 : 0 ≤ x27_2
       ·rw [if_pos c12] at H
        have c12b0 : decide (0 ≤ x27_2) = true := decide_eq_true c12
        clear c12
        by_cases c13 : x27_2 < (l0.length : Int)
        ·rw [if_pos c13] at H
         have c13b0 : decide (x27_2 < (l0.length : Int)) = true := decide_eq_true c13
         clear c13
         by_cases c14 : x5_2.length < 17592186044416
         ·rw [if_pos c14] at H
          have LMc14 := Aside0.mk c14
          clear c14
          obtain ⟨y224, hy224⟩ : ∃ y_ : List Int, y_ = (x5_2 ++ [wrap64 (1 + (wrap64 (Int.tmod (rd l0 x27_2) 16)))]) := ⟨_, rfl⟩
          replace H : (estoverslaw27_InodeApart.l0 k2 a1 y224 l0 (l0.length : Int) (wrap64 (x27_2 + 1))) = some r := by first | (rw [hy224]; with_reducible exact H) | (have H2_ := (Option.bind_some _ _).symm.trans H; rw [hy224]; with_reducible exact H2_) | (have H2_ := (Option.bind_some _ _).symm.trans H; with_reducible exact H2_) | with_reducible exact H | (rw [hy224]; exact H) | exact H
          have Ny224 := Aside0.mk hy224
          clear hy224
          have H' := Aside0.mk H
          clear H
          have p223 : 0 ≤ (x27_2 : Int) := of_decide_eq_true (by first | (with_reducible assumption) | assumption)
          have q223 : x27_2 < (l0.length : Int) := of_decide_eq_true (by first | (with_reducible assumption) | assumption)
          obtain ⟨ad223, e223, hx223_0⟩ := Kd.at_int HR0.out x27_2 p223 q223
          cases e223
          replace hx223_0 := (HB.out.cell (World.block_lt_of_cell? w _ hx223_0)).trans hx223_0
          replace p223 := eq_true p223
          replace q223 := eq_true q223
          go_wp2_with (first | ((with_reducible refine gate_builtin (b := .append) (xs := #[.tmp 31, .tmp 36]) rfl ?_); (try (refine gate_guard (by rfl) ?_; dsimp only)); at_builtin; refine Kd.R_append (Kd.int .i64) (w0 := w) w.heap.size rfl (.tmp 31) (.tmp 36) 31 3 (.int .i64 0) 8 rfl Try.underlying31 info3 rfl (by decide) (by omega) u5 x5_2 (wrap64 (1 + (wrap64 (Int.tmod (rd l0 x27_2) 16)))) [.int .i64 (wrap64 (1 + (wrap64 (Int.tmod (rd l0 x27_2) 16))))] (fun _ => True) (fun _ => False) rfl rfl ?aP (fun _ hk => hk.elim) ?aF ?aO ?aB ?aS ?aL ?_; (case aP => exact rfl); (case aB => exact (by repeat (first | (with_reducible first | exact HB.out | apply below_alloc | apply pw_below_drewN | apply below_drew1) | exact HB.out))); (case aF => exact (fun _ _ => trivial)); (case aO => exact (by (with_reducible repeat (first | apply Kd.R_alloc | apply Kd.R_drewN | apply Kd.R_drew)); exact HO_5.out)); (case aS => exact (below_size (by repeat (first | (with_reducible first | exact HB.out | apply below_alloc | apply pw_below_drewN | apply below_drew1) | exact HB.out)))); (case aL => have := LMc14.out; omega); intro v225 w15 ho hb hg hat; rw [← Ny224.out] at ho; have n0_ := Aside0.mk (hb); have n1_ := Aside0.mk (ho); clear HB; clear HO_5; have HB := n0_; have HO226 := n1_; clear n0_ n1_; clear ho hb hg hat))
          go_roundg k2
          case measure => have := HJ2.out; have := HK2.out; omega
          case rel => exact ⟨(y224), (wrap64 (x27_2 + 1)), (by first | rfl | (simp; done) | (simp [*]; done)), H', ⟨by have := HJ2.out; have := HK2.out; omega⟩, ⟨by (with_reducible repeat (first | apply Kd.R_alloc | apply Kd.R_drewN | apply Kd.R_drew)); exact HO226.out⟩, ⟨by repeat (first | (with_reducible first | exact HB.out | apply below_alloc | apply pw_below_drewN | apply below_drew1) | exact HB.out)⟩⟩
         ·rw [if_neg c14] at H
          exact absurd H (by simp)
        ·rw [if_neg c13] at H
         exact absurd H (by simp)
       ·rw [if_neg c12] at H
        exact absurd H (by simp)
      ·rw [if_neg c11] at H
       have c11b0 : decide (x27_2 < (l0.length : Int)) = false := decide_eq_false c11
       clear c11
       replace H := Option.bind_eq_some_iff.mp H
       obtain ⟨⟨t227, t228⟩, A160, H⟩ := H
       replace H : (if t228 = 0 then (if (t227.length : Int) = (wrap64 ((x5_2.length : Int) + 2)) then (if 0 ≤ (wrap64 ((t227.length : Int) - 1)) then (if (wrap64 ((t227.length : Int) - 1)) < (t227.length : Int) then (if (rd t227 (wrap64 ((t227.length : Int) - 1))) < 0 then (estoverslaw27_InodeApart.j2 k2 x5_2 (Int.tmod (wrap64 (a1)) 65) t227 true) else (estoverslaw27_InodeApart.j2 k2 x5_2 (Int.tmod (wrap64 (a1)) 65) t227 (decide ((rd t227 (wrap64 ((t227.length : Int) - 1))) > 200)))) else (none)) else (none)) else (estoverslaw27_InodeApart.j2 k2 x5_2 (Int.tmod (wrap64 (a1)) 65) t227 true)) else (estoverslaw27_InodeApart.j2 k2 x5_2 (Int.tmod (wrap64 (a1)) 65) t227 true)) = some r := H
       have A16 := Aside0.mk A160
       clear A160
       have HC17 := Aside0.mk H
       clear H
       obtain ⟨Ao18, co18, eo18⟩ := Kd.R_slice HO_5.out
       subst eo18
       go_upto_region 11 with (first | ((with_reducible refine gate_callee (f := 17) rfl ?_); refine goesL_ (some 45) rfl rfl Try.func17 (by kernel_rfl) rfl #[.slice Ao18 x5_2.length co18, .int .i64 (Int.tmod (wrap64 (a1)) 65)] rfl (by (try simp only [List.map_toArray, List.map_cons, List.map_nil]); first | done | rfl | (simp only [List.length_drop, List.length_take]; rfl)) ?_; (with_reducible refine (inode_Layout.calls k2 _ _ x5_2 (Int.tmod (wrap64 (a1)) 65) t227 t228 _ ?side1 ?side2 A16.out).mono ?_); (case side1 => repeat (first | exact (Kd.R_reads' HO_5.out).2.2 | (with_reducible refine Kd.C_alloc ?_ _) | (with_reducible refine Kd.C_drewN ?_ _) | (with_reducible refine Kd.C_drew ?_))); (case side2 => exact (Kd.R_reads' HO_5.out).2.1); rintro e w19 ⟨v229, rfl, ho0, hb⟩; refine ⟨_, rfl, ?_⟩; have n0_ := Aside0.mk (Kd.R_elder' (by (with_reducible repeat (first | apply Kd.R_alloc | apply Kd.R_drewN | apply Kd.R_drew)); exact HO_5.out) (Kd.R_base ho0) hb); have n1_ := Aside0.mk (Kd.R_lower (Kd.R_new' ho0 (Kd.R_lt (by (with_reducible repeat (first | apply Kd.R_alloc | apply Kd.R_drewN | apply Kd.R_drew)); exact HO_5.out))) (below_size (by repeat (first | (with_reducible first | exact HB.out | apply below_alloc | apply pw_below_drewN | apply below_drew1) | exact HB.out)))); have n2_ := Aside0.mk (below_step (by repeat (first | (with_reducible first | exact HB.out | apply below_alloc | apply pw_below_drewN | apply below_drew1) | exact HB.out)) hb); clear HO_5; clear HB; have HO_5 := n0_; have HO230 := n1_; have HB := n2_; clear n0_ n1_ n2_; (try clear hb); (try clear hb2); (try clear hk); (try clear hi); (try clear ho0)))
       (try simp only [Act.put, List.setIfInBounds_toArray, List.set_cons_zero, List.set_cons_succ])
       go_cut [75] (fun v75 wc => ∃ (kq : Nat) (x75_16 : Bool), v75 = .bool x75_16 ∧ Aside0 (estoverslaw27_InodeApart.j2 kq x5_2 (Int.tmod (wrap64 (a1)) 65) t227 x75_16 = some r) ∧ Aside0 (kq ≤ k2) ∧ Aside0 (Kd.R (Kd.int .i64) 3 wc w.heap.size (fun k_ => some k_ ≠ (v229 : Value).ownBlock) (.slice Ao18 x5_2.length co18) x5_2) ∧ Aside0 (Kd.R (Kd.int .i64) 3 wc w.heap.size (fun k_ => some k_ ≠ ((.slice Ao18 x5_2.length co18) : Value).ownBlock) v229 t227) ∧ Aside0 (Below w.heap.size w wc))
       case first =>
        have H := HC17.out
        clear HC17
        by_cases c20 : t228 = 0
        ·rw [if_pos c20] at H
         have c20b0 : (t228 == 0) = true := beq_iff_eq.mpr c20
         have c20b1 : (t228 != 0) = false := bne_eq_false_iff_eq.mpr c20
         clear c20
         (first | rw [c20b0] | (simp only [i64_w, i32_w]; rw [c20b0]) | skip)
         by_cases c21 : (t227.length : Int) = (wrap64 ((x5_2.length : Int) + 2))
         ·rw [if_pos c21] at H
          have c21b0 : ((t227.length : Int) == (wrap64 ((x5_2.length : Int) + 2))) = true := beq_iff_eq.mpr c21
          have c21b1 : ((t227.length : Int) != (wrap64 ((x5_2.length : Int) + 2))) = false := bne_eq_false_iff_eq.mpr c21
          clear c21
          obtain ⟨ji22, hji22⟩ : ∃ j_ : Int, (wrap64 ((t227.length : Int) - 1)) = j_ := ⟨_, rfl⟩
          replace H : (if 0 ≤ (ji22) then (if (ji22) < (t227.length : Int) then (if (rd t227 (ji22)) < 0 then (estoverslaw27_InodeApart.j2 k2 x5_2 (Int.tmod (wrap64 (a1)) 65) t227 true) else (estoverslaw27_InodeApart.j2 k2 x5_2 (Int.tmod (wrap64 (a1)) 65) t227 (decide ((rd t227 (ji22)) > 200)))) else (none)) else (none)) = some r := by first | (rw [hji22] at H; exact H) | (simp only [hji22] at H ⊢; exact H)
          have hji22w : (IntKind.i64.wrap ((t227.length : Int) - 1)) = ji22 := (i64_w _).trans hji22
          by_cases c23 : 0 ≤ (ji22)
          ·rw [if_pos c23] at H
           have c23b0 : decide (0 ≤ (ji22)) = true := decide_eq_true c23
           clear c23
           by_cases c24 : (ji22) < (t227.length : Int)
           ·rw [if_pos c24] at H
            have c24b0 : decide ((ji22) < (t227.length : Int)) = true := decide_eq_true c24
            clear c24
            by_cases c25 : (rd t227 (ji22)) < 0
            ·rw [if_pos c25] at H
             have c25b0 : decide ((rd t227 (ji22)) < 0) = true := decide_eq_true c25
             clear c25
             have H' := Aside0.mk H
             clear H
             obtain ⟨Ao26, co26, eo26⟩ := Kd.R_slice HO230.out
             subst eo26
             have p231 : 0 ≤ ((ji22) : Int) := of_decide_eq_true (by first | (with_reducible assumption) | assumption)
             have q231 : (ji22) < (t227.length : Int) := of_decide_eq_true (by first | (with_reducible assumption) | assumption)
             obtain ⟨ad231, e231, hx231_0⟩ := Kd.at_int (Kd.R_reads' HO230.out).2.2 (ji22) p231 q231
             cases e231
             replace p231 := eq_true p231
             replace q231 := eq_true q231
             go_wp2
             go_meet
             case rel => exact ⟨_, (true), (by first | rfl | (simp; done) | (simp [*]; done)), H', ⟨by have := HJ2.out; have := HK2.out; first | omega | exact Nat.le_refl _⟩, ⟨by (with_reducible repeat (first | apply Kd.R_alloc | apply Kd.R_drewN | apply Kd.R_drew)); exact Kd.R_mono HO_5.out (fun _ hk => hk.2)⟩, ⟨by (with_reducible repeat (first | apply Kd.R_alloc | apply Kd.R_drewN | apply Kd.R_drew)); exact Kd.R_mono HO230.out (fun _ hk => hk.2)⟩, ⟨by repeat (first | (with_reducible first | exact HB.out | apply below_alloc | apply pw_below_drewN | apply below_drew1) | exact HB.out)⟩⟩
            ·rw [if_neg c25] at H
             have c25b0 : decide ((rd t227 (ji22)) < 0) = false := decide_eq_false c25
             clear c25
             have H' := Aside0.mk H
             clear H
             obtain ⟨Ao27, co27, eo27⟩ := Kd.R_slice HO230.out
             subst eo27
             have p231 : 0 ≤ ((ji22) : Int) := of_decide_eq_true (by first | (with_reducible assumption) | assumption)
             have q231 : (ji22) < (t227.length : Int) := of_decide_eq_true (by first | (with_reducible assumption) | assumption)
             obtain ⟨ad231, e231, hx231_0⟩ := Kd.at_int (Kd.R_reads' HO230.out).2.2 (ji22) p231 q231
             cases e231
             replace p231 := eq_true p231
             replace q231 := eq_true q231
             have p232 : 0 ≤ ((ji22) : Int) := of_decide_eq_true (by first | (with_reducible assumption) | assumption)
             have q232 : (ji22) < (t227.length : Int) := of_decide_eq_true (by first | (with_reducible assumption) | assumption)
             obtain ⟨ad232, e232, hx232_0⟩ := Kd.at_int (Kd.R_reads' HO230.out).2.2 (ji22) p232 q232
             obtain rfl : ad231 = ad232 := (by injection e232)
             replace p232 := eq_true p232
             replace q232 := eq_true q232
             go_wp2
             go_meet
             case rel => exact ⟨_, (decide ((rd t227 (ji22)) > 200)), (by first | rfl | (simp; done) | (simp only [← hji22] <;> (first | rfl | simp)) | (simp [*]; done)), H', ⟨by have := HJ2.out; have := HK2.out; first | omega | exact Nat.le_refl _⟩, ⟨by (with_reducible repeat (first | apply Kd.R_alloc | apply Kd.R_drewN | apply Kd.R_drew)); exact Kd.R_mono HO_5.out (fun _ hk => hk.2)⟩, ⟨by (with_reducible repeat (first | apply Kd.R_alloc | apply Kd.R_drewN | apply Kd.R_drew)); exact Kd.R_mono HO230.out (fun _ hk => hk.2)⟩, ⟨by repeat (first | (with_reducible first | exact HB.out | apply below_alloc | apply pw_below_drewN | apply below_drew1) | exact HB.out)⟩⟩
           ·rw [if_neg c24] at H
            exact absurd H (by simp)
          ·rw [if_neg c23] at H
           exact absurd H (by simp)
         ·rw [if_neg c21] at H
          have c21b0 : ((t227.length : Int) == (wrap64 ((x5_2.length : Int) + 2))) = false := beq_eq_false_iff_ne.mpr c21
          have c21b1 : ((t227.length : Int) != (wrap64 ((x5_2.length : Int) + 2))) = true := bne_iff_ne.mpr c21
          have H' := Aside0.mk H
          clear H
          obtain ⟨Ao28, co28, eo28⟩ := Kd.R_slice HO230.out
          subst eo28
          go_wp2
          go_meet
          case rel => exact ⟨_, (true), (by first | rfl | (simp; done) | (simp [*]; done)), H', ⟨by have := HJ2.out; have := HK2.out; first | omega | exact Nat.le_refl _⟩, ⟨by (with_reducible repeat (first | apply Kd.R_alloc | apply Kd.R_drewN | apply Kd.R_drew)); exact Kd.R_mono HO_5.out (fun _ hk => hk.2)⟩, ⟨by (with_reducible repeat (first | apply Kd.R_alloc | apply Kd.R_drewN | apply Kd.R_drew)); exact Kd.R_mono HO230.out (fun _ hk => hk.2)⟩, ⟨by repeat (first | (with_reducible first | exact HB.out | apply below_alloc | apply pw_below_drewN | apply below_drew1) | exact HB.out)⟩⟩
        ·rw [if_neg c20] at H
         have c20b0 : (t228 == 0) = false := beq_eq_false_iff_ne.mpr c20
         have c20b1 : (t228 != 0) = true := bne_iff_ne.mpr c20
         (first | rw [c20b0] | (simp only [i64_w, i32_w]; rw [c20b0]) | skip)
         have H' := Aside0.mk H
         clear H
         go_wp2
         go_meet
         case rel => exact ⟨_, (true), (by first | rfl | (simp; done) | (simp [*]; done)), H', ⟨by have := HJ2.out; have := HK2.out; first | omega | exact Nat.le_refl _⟩, ⟨by (with_reducible repeat (first | apply Kd.R_alloc | apply Kd.R_drewN | apply Kd.R_drew)); exact Kd.R_mono HO_5.out (fun _ hk => hk.2)⟩, ⟨by (with_reducible repeat (first | apply Kd.R_alloc | apply Kd.R_drewN | apply Kd.R_drew)); exact Kd.R_mono HO230.out (fun _ hk => hk.2)⟩, ⟨by repeat (first | (with_reducible first | exact HB.out | apply below_alloc | apply pw_below_drewN | apply below_drew1) | exact HB.out)⟩⟩
       case rest =>
        clear HC17
        (try clear c1); (try clear c2); (try clear p2); (try clear q2); (try clear hx2); (try clear c5); (try clear p6); (try clear c8); (try clear c11); (try clear c11b0); (try clear c12); (try clear c12b0); (try clear c13); (try clear c13b0); (try clear c14); (try clear c17); (try clear c20); (try clear c20b0); (try clear c20b1); (try clear c21); (try clear c21b0); (try clear c21b1); (try clear p22); (try clear q22); (try clear hx22); (try clear c23); (try clear c23b0); (try clear p23); (try clear q23); (try clear hx23); (try clear c24); (try clear c24b0); (try clear c25); (try clear c25b0); (try clear hx223_0); (try clear hx231_0); (try clear hx232_0); (try clear p2); (try clear p223); (try clear p231); (try clear p232); (try clear q223); (try clear q231); (try clear q232)
        obtain ⟨kq, x75_16, rfl, HA, HJ16, HO_5, HO_9, HB⟩ := hcut
        cases kq with
        | zero => exact absurd HA.out (by simp [estoverslaw27_InodeApart.j2])
        | succ kj16 =>
         have H := HA.out
         clear HA
         simp only [estoverslaw27_InodeApart.j2] at H
         by_cases c29 : x75_16 = true
         ·subst c29
          have H1 : (some false) = some r := by rw [if_pos rfl] at H; exact H
          clear H
          have H := H1
          clear H1
          obtain rfl := Option.some.inj H
          go_wp2
          go_ret
          exact ⟨by first | rfl | (simp [errW_none, errW_some] <;> rfl) | (simp [*, errW_none, errW_some] <;> rfl), by repeat (first | (with_reducible first | exact HB.out | apply below_alloc | apply pw_below_drewN | apply below_drew1) | exact HB.out)⟩
         ·replace c29 := Bool.eq_false_iff.mpr c29
          subst c29
          have H1 : (if 0 ≤ (wrap64 ((t227.length : Int) - 1)) then (if (wrap64 ((t227.length : Int) - 1)) < (t227.length : Int) then (if 0 ≤ (rd t227 (wrap64 ((t227.length : Int) - 1))) then (if (rd t227 (wrap64 ((t227.length : Int) - 1)) : Int).toNat ≤ 35184372088832 then (if (wrap64 ((t227.length : Int) - 1)) ≤ (t227.length : Int) then (estoverslaw27_InodeApart.l1 kj16 x5_2 (Int.tmod (wrap64 (a1)) 65) t227 (List.replicate (rd t227 (wrap64 ((t227.length : Int) - 1)) : Int).toNat 0) ((t227.take ((wrap64 ((t227.length : Int) - 1)) : Int).toNat).length : Int) 0) else (none)) else (none)) else (none)) else (none)) else (none)) = some r := by rw [if_neg (show ¬ (false = true) by decide)] at H; exact H
          clear H
          have H := H1
          clear H1
          obtain ⟨ji30, hji30⟩ : ∃ j_ : Int, (wrap64 ((t227.length : Int) - 1)) = j_ := ⟨_, rfl⟩
          replace H : (if 0 ≤ (ji30) then (if (ji30) < (t227.length : Int) then (if 0 ≤ (rd t227 (ji30)) then (if (rd t227 (ji30) : Int).toNat ≤ 35184372088832 then (if (ji30) ≤ (t227.length : Int) then (estoverslaw27_InodeApart.l1 kj16 x5_2 (Int.tmod (wrap64 (a1)) 65) t227 (List.replicate (rd t227 (ji30) : Int).toNat 0) ((t227.take ((ji30) : Int).toNat).length : Int) 0) else (none)) else (none)) else (none)) else (none)) else (none)) = some r := by first | (rw [hji30] at H; exact H) | (simp only [hji30] at H ⊢; exact H)
          have hji30w : (IntKind.i64.wrap ((t227.length : Int) - 1)) = ji30 := (i64_w _).trans hji30
          by_cases c31 : 0 ≤ (ji30)
          ·rw [if_pos c31] at H
           have c31b0 : decide (0 ≤ (ji30)) = true := decide_eq_true c31
           clear c31
           by_cases c32 : (ji30) < (t227.length : Int)
           ·rw [if_pos c32] at H
            have c32b0 : decide ((ji30) < (t227.length : Int)) = true := decide_eq_true c32
            clear c32
            by_cases c33 : 0 ≤ (rd t227 (ji30))
            ·rw [if_pos c33] at H
             have c33b0 := eq_true c33
             have c33b1 : decide (0 ≤ (rd t227 (ji30))) = true := decide_eq_true c33
             clear c33
             by_cases c34 : (rd t227 (ji30) : Int).toNat ≤ 35184372088832
             ·rw [if_pos c34] at H
              have c34b0 := eq_true c34
              have c34b1 : decide ((rd t227 (ji30) : Int).toNat ≤ 35184372088832) = true := decide_eq_true c34
              clear c34
              obtain ⟨y234, hy234⟩ : ∃ y_ : List Int, y_ = (List.replicate (rd t227 (ji30) : Int).toNat 0) := ⟨_, rfl⟩
              replace H : (if (ji30) ≤ (t227.length : Int) then (estoverslaw27_InodeApart.l1 kj16 x5_2 (Int.tmod (wrap64 (a1)) 65) t227 y234 ((t227.take ((ji30) : Int).toNat).length : Int) 0) else (none)) = some r := by first | (rw [hy234]; with_reducible exact H) | (have H2_ := (Option.bind_some _ _).symm.trans H; rw [hy234]; with_reducible exact H2_) | (have H2_ := (Option.bind_some _ _).symm.trans H; with_reducible exact H2_) | with_reducible exact H | (rw [hy234]; exact H) | exact H
              have Ny234 := Aside0.mk hy234
              clear hy234
              have c35b0 := eq_true (of_decide_eq_true (by first | (with_reducible assumption) | assumption) : 0 ≤ (ji30))
              by_cases c36 : (ji30) ≤ (t227.length : Int)
              ·rw [if_pos c36] at H
               have c36b0 := eq_true c36
               have c36b1 : decide ((ji30) ≤ (t227.length : Int)) = true := decide_eq_true c36
               clear c36
               obtain ⟨y237, hy237⟩ : ∃ y_ : List Int, y_ = (t227.take ((ji30) : Int).toNat) := ⟨_, rfl⟩
               replace H : (estoverslaw27_InodeApart.l1 kj16 x5_2 (Int.tmod (wrap64 (a1)) 65) t227 y234 (y237.length : Int) 0) = some r := by first | (rw [hy237]; with_reducible exact H) | (have H2_ := (Option.bind_some _ _).symm.trans H; rw [hy237]; with_reducible exact H2_) | (have H2_ := (Option.bind_some _ _).symm.trans H; with_reducible exact H2_) | with_reducible exact H | (rw [hy237]; exact H) | exact H
               have Ny237 := Aside0.mk hy237
               clear hy237
               have H' := Aside0.mk H
               clear H
               obtain ⟨Ao37, co37, eo37⟩ := Kd.R_slice HO_9.out
               subst eo37
               have p233 : 0 ≤ ((ji30) : Int) := of_decide_eq_true (by first | (with_reducible assumption) | assumption)
               have q233 : (ji30) < (t227.length : Int) := of_decide_eq_true (by first | (with_reducible assumption) | assumption)
               obtain ⟨ad233, e233, hx233_0⟩ := Kd.at_int (Kd.R_reads' HO_9.out).2.2 (ji30) p233 q233
               cases e233
               replace p233 := eq_true p233
               replace q233 := eq_true q233
               go_wp2_with (first | ((with_reducible refine gate_dst (N := 82) rfl ?_); (try (refine gate_guard (by rfl) ?_; dsimp only)); refine Kd.R_make (Kd.int .i64) _ 3 rfl (N := 82) rfl 31 _ _ rfl (rd t227 (ji30)) rfl rfl Try.underlying31 (.int .i64 0) 8 info3 rfl (by decide) (by omega) 0 (ok := fun _ => True) (okp := fun _ => True) rfl (fun _ hk => hk) trivial (of_decide_eq_true (by first | (with_reducible assumption) | assumption)) (Nat.le_trans (Nat.mul_le_mul_right _ (of_decide_eq_true (by first | (with_reducible assumption) | assumption) : (rd t227 (ji30)).toNat ≤ 35184372088832)) (by omega)) (Below.refl _ _) (Nat.le_refl _) ?_; intro v235 w38 ho39 hb hg_ hnew_; clear hg_ hnew_; (first | rw [← Ny234.out] at ho39 | (simp only [Int.reduceToNat] at ho39; rw [← Ny234.out] at ho39)); have n0_ := Aside0.mk (Kd.R_elder' (by (with_reducible repeat (first | apply Kd.R_alloc | apply Kd.R_drewN | apply Kd.R_drew)); exact HO_5.out) (Kd.R_base ho39) hb); have n1_ := Aside0.mk (Kd.R_elder' (by (with_reducible repeat (first | apply Kd.R_alloc | apply Kd.R_drewN | apply Kd.R_drew)); exact HO_9.out) (Kd.R_base ho39) hb); have n2_ := Aside0.mk (Kd.R_lower (Kd.R_new' (Kd.R_new' ho39 (Kd.R_lt (by (with_reducible repeat (first | apply Kd.R_alloc | apply Kd.R_drewN | apply Kd.R_drew)); exact HO_5.out))) (Kd.R_lt (by (with_reducible repeat (first | apply Kd.R_alloc | apply Kd.R_drewN | apply Kd.R_drew)); exact HO_9.out))) (below_size (by repeat (first | (with_reducible first | exact HB.out | apply below_alloc | apply pw_below_drewN | apply below_drew1) | exact HB.out)))); have n3_ := Aside0.mk (below_step (by repeat (first | (with_reducible first | exact HB.out | apply below_alloc | apply pw_below_drewN | apply below_drew1) | exact HB.out)) hb); clear HO_5; clear HO_9; clear HB; have HO_5 := n0_; have HO_9 := n1_; have HO236 := n2_; have HB := n3_; clear n0_ n1_ n2_ n3_; clear hb ho39; have q40 : ((ji30) : Int) ≤ ((t227.length : Int) : Int) := of_decide_eq_true (by first | (with_reducible assumption) | assumption); obtain ⟨i040, hi040, _, hsz40, _⟩ := info_parts info3; have hroom40 : t227.length ≤ co37 := (Kd.R_reads' HO_9.out).2.1; have hC40 : Kd.C (Kd.int .i64) _ (some ad233) t227.length t227 := (Kd.R_reads' HO_9.out).2.2; have hcut40 := cut_to (P := Try.prog) 31 3 .i64 Try.underlying31 hi040 (some ad233) t227.length co37 (ji30) (of_decide_eq_true (by first | (with_reducible assumption) | assumption)) q40 hroom40; have hr40 := Kd.C_take (m := ((ji30) : Int).toNat) hC40 (by omega); have hy40 : y237.length = ((ji30) : Int).toNat := (by rw [Ny237.out, List.length_take]; omega); rw [← Ny237.out] at hr40; rw [← hy40] at hcut40; have HR240 := Aside0.mk hr40; have HC240 := Aside0.mk (show y237.length ≤ co37 from by omega); clear hr40 hC40 hroom40 hi040 hsz40; have KY40 := Aside0.mk hy40; clear hy40; have KL40 := Aside0.mk (show ((ji30) : Int).toNat ≤ t227.length from by omega); replace q40 := eq_true q40))
               go_loopg [89] kj16 (fun kq v89 w' => ∃ (x11_4 : List Int) (x89_4 : Int), v89 = .int .i64 x89_4 ∧ Aside0 (estoverslaw27_InodeApart.l1 kq x5_2 (Int.tmod (wrap64 (a1)) 65) t227 x11_4 (y237.length : Int) x89_4 = some r) ∧ Aside0 (kq ≤ kj16) ∧ Aside0 (Kd.R (Kd.int .i64) 3 w' w.heap.size (fun k_ => some k_ ≠ ((.slice (some ad233) t227.length co37) : Value).ownBlock ∧ some k_ ≠ (v235 : Value).ownBlock) (.slice Ao18 x5_2.length co18) x5_2) ∧ Aside0 (Kd.R (Kd.int .i64) 3 w' w.heap.size (fun k_ => some k_ ≠ ((.slice Ao18 x5_2.length co18) : Value).ownBlock ∧ some k_ ≠ (v235 : Value).ownBlock) (.slice (some ad233) t227.length co37) t227) ∧ Aside0 (Kd.R (Kd.int .i64) 3 w' w.heap.size (fun k_ => some k_ ≠ ((.slice Ao18 x5_2.length co18) : Value).ownBlock ∧ some k_ ≠ ((.slice (some ad233) t227.length co37) : Value).ownBlock) v235 x11_4) ∧ Aside0 (Kd.C (Kd.int .i64) w' (some ad233) y237.length y237) ∧ Aside0 (Below w.heap.size w w'))
               case atStart => exact ⟨(y234), (0), (by first | rfl | (simp; done) | (simp [*]; done)), H', ⟨Nat.le_refl _⟩, ⟨by (with_reducible repeat (first | apply Kd.R_alloc | apply Kd.R_drewN | apply Kd.R_drew)); exact HO_5.out⟩, ⟨by (with_reducible repeat (first | apply Kd.R_alloc | apply Kd.R_drewN | apply Kd.R_drew)); exact HO_9.out⟩, ⟨by (with_reducible repeat (first | apply Kd.R_alloc | apply Kd.R_drewN | apply Kd.R_drew)); exact Kd.R_mono HO236.out (fun _ hk => ⟨hk.1.2, hk.2⟩)⟩, ⟨by repeat (first | (with_reducible exact HR240.out) | (with_reducible refine Kd.C_alloc ?_ _) | (with_reducible refine Kd.C_drewN ?_ _) | (with_reducible refine Kd.C_drew ?_) | exact HR240.out)⟩, ⟨by repeat (first | (with_reducible first | exact HB.out | apply below_alloc | apply pw_below_drewN | apply below_drew1) | exact HB.out)⟩⟩
               case round =>
                clear H'
                (try clear c1); (try clear c2); (try clear p2); (try clear q2); (try clear hx2); (try clear c3); (try clear q4); (try clear c5); (try clear p6); (try clear c8); (try clear c11); (try clear c11b0); (try clear c12); (try clear c12b0); (try clear c13); (try clear c13b0); (try clear c14); (try clear c17); (try clear c20); (try clear c20b0); (try clear c20b1); (try clear c21); (try clear c21b0); (try clear c21b1); (try clear p22); (try clear q22); (try clear hx22); (try clear c23); (try clear c23b0); (try clear p23); (try clear q23); (try clear hx23); (try clear c24); (try clear c24b0); (try clear c25); (try clear c25b0); (try clear c29); (try clear c31); (try clear c31b0); (try clear c32); (try clear c32b0); (try clear c33); (try clear c33b0); (try clear c33b1); (try clear c34); (try clear c34b0); (try clear c34b1); (try clear c35); (try clear c35b0); (try clear c36); (try clear c36b0); (try clear c36b1); (try clear q40); (try clear hx223_0); (try clear hx231_0); (try clear hx232_0); (try clear hx233_0); (try clear p2); (try clear p22); (try clear p223); (try clear p23); (try clear p231); (try clear p232); (try clear p233); (try clear p6); (try clear q2); (try clear q22); (try clear q223); (try clear q23); (try clear q231); (try clear q232); (try clear q233); (try clear q40)
                obtain ⟨x11_4, x89_4, rfl, HA, HK4, HO_5, HO_9, HO_11, HR240, HB⟩ := hrel
                cases gk with
                | zero => exact absurd HA.out (by simp [estoverslaw27_InodeApart.l1])
                | succ k4 =>
                 have H := HA.out
                 clear HA
                 simp only [estoverslaw27_InodeApart.l1] at H
                 by_cases c41 : x89_4 < (y237.length : Int)
                 ·rw [if_pos c41] at H
                  have c41b0 : decide (x89_4 < (y237.length : Int)) = true := decide_eq_true c41
                  clear c41
                  have HC42 := Aside0.mk H
                  clear H
                  go_upto_if 96 with (fail)
                  go_cut [13] (fun v13 wc => ∃ (kq : Nat) (x13_41 : Int), v13 = .int .i64 x13_41 ∧ Aside0 (estoverslaw27_InodeApart.j4 kq x5_2 (Int.tmod (wrap64 (a1)) 65) t227 x11_4 x89_4 x13_41 (y237.length : Int) x89_4 = some r) ∧ Aside0 (kq ≤ k4) ∧ Aside0 (Kd.R (Kd.int .i64) 3 wc w.heap.size (fun k_ => some k_ ≠ ((.slice (some ad233) t227.length co37) : Value).ownBlock ∧ some k_ ≠ (v235 : Value).ownBlock) (.slice Ao18 x5_2.length co18) x5_2) ∧ Aside0 (Kd.R (Kd.int .i64) 3 wc w.heap.size (fun k_ => some k_ ≠ ((.slice Ao18 x5_2.length co18) : Value).ownBlock ∧ some k_ ≠ (v235 : Value).ownBlock) (.slice (some ad233) t227.length co37) t227) ∧ Aside0 (Kd.R (Kd.int .i64) 3 wc w.heap.size (fun k_ => some k_ ≠ ((.slice Ao18 x5_2.length co18) : Value).ownBlock ∧ some k_ ≠ ((.slice (some ad233) t227.length co37) : Value).ownBlock) v235 x11_4) ∧ Aside0 (Kd.C (Kd.int .i64) wc (some ad233) y237.length y237) ∧ Aside0 (Below w.heap.size w wc))
                  case first =>
                   have H := HC42.out
                   clear HC42
                   by_cases c43 : x89_4 < (x5_2.length : Int)
                   ·rw [if_pos c43] at H
                    have c43b0 : decide (x89_4 < (x5_2.length : Int)) = true := decide_eq_true c43
                    clear c43
                    (first | rw [c43b0] | (simp only [i64_w, i32_w]; rw [c43b0]) | skip)
                    by_cases c44 : 0 ≤ x89_4
                    ·rw [if_pos c44] at H
                     have c44b0 : decide (0 ≤ x89_4) = true := decide_eq_true c44
                     clear c44
                     have H' := Aside0.mk H
                     clear H
                     have p241 : 0 ≤ (x89_4 : Int) := of_decide_eq_true (by first | (with_reducible assumption) | assumption)
                     have q241 : x89_4 < (x5_2.length : Int) := of_decide_eq_true (by first | (with_reducible assumption) | assumption)
                     obtain ⟨ad241, e241, hx241_0⟩ := Kd.at_int (Kd.R_reads' HO_5.out).2.2 x89_4 p241 q241
                     cases e241
                     replace p241 := eq_true p241
                     replace q241 := eq_true q241
                     go_wp2
                     go_meet
                     case rel => exact ⟨_, (wrap64 (1 + (rd x5_2 x89_4))), (by first | rfl | (simp; done) | (simp [*]; done)), H', ⟨by have := HJ2.out; have := HK2.out; have := HJ16.out; have := HK4.out; first | omega | exact Nat.le_refl _⟩, ⟨by (with_reducible repeat (first | apply Kd.R_alloc | apply Kd.R_drewN | apply Kd.R_drew)); exact HO_5.out⟩, ⟨by (with_reducible repeat (first | apply Kd.R_alloc | apply Kd.R_drewN | apply Kd.R_drew)); exact HO_9.out⟩, ⟨by (with_reducible repeat (first | apply Kd.R_alloc | apply Kd.R_drewN | apply Kd.R_drew)); exact HO_11.out⟩, ⟨by repeat (first | (with_reducible exact HR240.out) | (with_reducible refine Kd.C_alloc ?_ _) | (with_reducible refine Kd.C_drewN ?_ _) | (with_reducible refine Kd.C_drew ?_) | exact HR240.out)⟩, ⟨by repeat (first | (with_reducible first | exact HB.out | apply below_alloc | apply pw_below_drewN | apply below_drew1) | exact HB.out)⟩⟩
                    ·rw [if_neg c44] at H
                     exact absurd H (by simp)
                   ·rw [if_neg c43] at H
                    have c43b0 : decide (x89_4 < (x5_2.length : Int)) = false := decide_eq_false c43
                    clear c43
                    (first | rw [c43b0] | (simp only [i64_w, i32_w]; rw [c43b0]) | skip)
                    have H' := Aside0.mk H
                    clear H
                    go_wp2
                    go_meet
                    case rel => exact ⟨_, ((Int.tmod (wrap64 (a1)) 65)), (by first | rfl | (simp; done) | (simp [*]; done)), H', ⟨by have := HJ2.out; have := HK2.out; have := HJ16.out; have := HK4.out; first | omega | exact Nat.le_refl _⟩, ⟨by (with_reducible repeat (first | apply Kd.R_alloc | apply Kd.R_drewN | apply Kd.R_drew)); exact HO_5.out⟩, ⟨by (with_reducible repeat (first | apply Kd.R_alloc | apply Kd.R_drewN | apply Kd.R_drew)); exact HO_9.out⟩, ⟨by (with_reducible repeat (first | apply Kd.R_alloc | apply Kd.R_drewN | apply Kd.R_drew)); exact HO_11.out⟩, ⟨by repeat (first | (with_reducible exact HR240.out) | (with_reducible refine Kd.C_alloc ?_ _) | (with_reducible refine Kd.C_drewN ?_ _) | (with_reducible refine Kd.C_drew ?_) | exact HR240.out)⟩, ⟨by repeat (first | (with_reducible first | exact HB.out | apply below_alloc | apply pw_below_drewN | apply below_drew1) | exact HB.out)⟩⟩
                  case rest =>
                   clear HC42
                   (try clear c1); (try clear c2); (try clear p2); (try clear q2); (try clear hx2); (try clear c3); (try clear c4); (try clear q4); (try clear c5); (try clear p6); (try clear c8); (try clear c11); (try clear c11b0); (try clear c12); (try clear c12b0); (try clear c13); (try clear c13b0); (try clear c14); (try clear c17); (try clear c20); (try clear c20b0); (try clear c20b1); (try clear c21); (try clear c21b0); (try clear c21b1); (try clear p22); (try clear q22); (try clear hx22); (try clear c23); (try clear c23b0); (try clear p23); (try clear q23); (try clear hx23); (try clear c24); (try clear c24b0); (try clear p24); (try clear q24); (try clear hx24); (try clear c25); (try clear c25b0); (try clear c29); (try clear c31); (try clear c31b0); (try clear c32); (try clear c32b0); (try clear c33); (try clear c33b0); (try clear c33b1); (try clear c34); (try clear c34b0); (try clear c34b1); (try clear c35); (try clear c35b0); (try clear c36); (try clear c36b0); (try clear c36b1); (try clear q40); (try clear c41); (try clear c41b0); (try clear c43); (try clear c43b0); (try clear c44); (try clear c44b0); (try clear hx223_0); (try clear hx231_0); (try clear hx232_0); (try clear hx233_0); (try clear hx241_0); (try clear p2); (try clear p22); (try clear p223); (try clear p23); (try clear p231); (try clear p232); (try clear p233); (try clear p241); (try clear p6); (try clear q2); (try clear q22); (try clear q223); (try clear q23); (try clear q231); (try clear q232); (try clear q233); (try clear q241); (try clear q4); (try clear q40)
                   obtain ⟨kq, x13_41, rfl, HA, HJ41, HO_5, HO_9, HO_11, HR240, HB⟩ := hcut
                   cases kq with
                   | zero => exact absurd HA.out (by simp [estoverslaw27_InodeApart.j4])
                   | succ kj41 =>
                    have H := HA.out
                    clear HA
                    simp only [estoverslaw27_InodeApart.j4] at H
                    by_cases c45 : 0 ≤ x89_4
                    ·rw [if_pos c45] at H
                     have c45b0 : decide (0 ≤ x89_4) = true := decide_eq_true c45
                     clear c45
                     by_cases c46 : x89_4 < (t227.length : Int)
                     ·rw [if_pos c46] at H
                      have c46b0 : decide (x89_4 < (t227.length : Int)) = true := decide_eq_true c46
                      clear c46
                      have H' := Aside0.mk H
                      clear H
                      have p242 : 0 ≤ (x89_4 : Int) := of_decide_eq_true (by first | (with_reducible assumption) | assumption)
                      have q242 : x89_4 < (t227.length : Int) := of_decide_eq_true (by first | (with_reducible assumption) | assumption)
                      obtain ⟨ad242, e242, hx242_0⟩ := Kd.at_int (Kd.R_reads' HO_9.out).2.2 x89_4 p242 q242
                      obtain rfl : ad233 = ad242 := (by injection e242)
                      replace p242 := eq_true p242
                      replace q242 := eq_true q242
                      go_wp2
                      go_loopg [14] kj41 (fun kq v14 w' => ∃ (x11_6 : List Int) (x14_6 : Int), v14 = .int .i64 x14_6 ∧ Aside0 (estoverslaw27_InodeApart.l2 kq x5_2 (Int.tmod (wrap64 (a1)) 65) t227 x11_6 x89_4 x13_41 x14_6 (y237.length : Int) x89_4 = some r) ∧ Aside0 (kq ≤ kj41) ∧ Aside0 (Kd.R (Kd.int .i64) 3 w' w.heap.size (fun k_ => some k_ ≠ ((.slice (some ad233) t227.length co37) : Value).ownBlock ∧ some k_ ≠ (v235 : Value).ownBlock) (.slice Ao18 x5_2.length co18) x5_2) ∧ Aside0 (Kd.R (Kd.int .i64) 3 w' w.heap.size (fun k_ => some k_ ≠ ((.slice Ao18 x5_2.length co18) : Value).ownBlock ∧ some k_ ≠ (v235 : Value).ownBlock) (.slice (some ad233) t227.length co37) t227) ∧ Aside0 (Kd.R (Kd.int .i64) 3 w' w.heap.size (fun k_ => some k_ ≠ ((.slice Ao18 x5_2.length co18) : Value).ownBlock ∧ some k_ ≠ ((.slice (some ad233) t227.length co37) : Value).ownBlock) v235 x11_6) ∧ Aside0 (Kd.C (Kd.int .i64) w' (some ad233) y237.length y237) ∧ Aside0 (Below w.heap.size w w'))
                      case atStart => exact ⟨(x11_4), (rd t227 x89_4), (by first | rfl | (simp; done) | (simp [*]; done)), H', ⟨Nat.le_refl _⟩, ⟨by (with_reducible repeat (first | apply Kd.R_alloc | apply Kd.R_drewN | apply Kd.R_drew)); exact HO_5.out⟩, ⟨by (with_reducible repeat (first | apply Kd.R_alloc | apply Kd.R_drewN | apply Kd.R_drew)); exact HO_9.out⟩, ⟨by (with_reducible repeat (first | apply Kd.R_alloc | apply Kd.R_drewN | apply Kd.R_drew)); exact HO_11.out⟩, ⟨by repeat (first | (with_reducible exact HR240.out) | (with_reducible refine Kd.C_alloc ?_ _) | (with_reducible refine Kd.C_drewN ?_ _) | (with_reducible refine Kd.C_drew ?_) | exact HR240.out)⟩, ⟨by repeat (first | (with_reducible first | exact HB.out | apply below_alloc | apply pw_below_drewN | apply below_drew1) | exact HB.out)⟩⟩
                      case round =>
                       clear H'
                       (try clear c1); (try clear c2); (try clear p2); (try clear q2); (try clear hx2); (try clear c3); (try clear c4); (try clear q4); (try clear c5); (try clear p6); (try clear c8); (try clear c11); (try clear c11b0); (try clear c12); (try clear c12b0); (try clear c13); (try clear c13b0); (try clear c14); (try clear c17); (try clear c20); (try clear c20b0); (try clear c20b1); (try clear c21); (try clear c21b0); (try clear c21b1); (try clear p22); (try clear q22); (try clear hx22); (try clear c23); (try clear c23b0); (try clear p23); (try clear q23); (try clear hx23); (try clear c24); (try clear c24b0); (try clear p24); (try clear q24); (try clear hx24); (try clear c25); (try clear c25b0); (try clear c29); (try clear c31); (try clear c31b0); (try clear c32); (try clear c32b0); (try clear c33); (try clear c33b0); (try clear c33b1); (try clear c34); (try clear c34b0); (try clear c34b1); (try clear c35); (try clear c35b0); (try clear c36); (try clear c36b0); (try clear c36b1); (try clear q40); (try clear c41); (try clear c41b0); (try clear c43); (try clear c43b0); (try clear c44); (try clear c44b0); (try clear c45); (try clear c45b0); (try clear c46); (try clear c46b0); (try clear hx223_0); (try clear hx231_0); (try clear hx232_0); (try clear hx233_0); (try clear hx241_0); (try clear hx242_0); (try clear p2); (try clear p22); (try clear p223); (try clear p23); (try clear p231); (try clear p232); (try clear p233); (try clear p24); (try clear p241); (try clear p242); (try clear p6); (try clear q2); (try clear q22); (try clear q223); (try clear q23); (try clear q231); (try clear q232); (try clear q233); (try clear q24); (try clear q241); (try clear q242); (try clear q4); (try clear q40)
                       obtain ⟨x11_6, x14_6, rfl, HA, HK6, HO_5, HO_9, HO_11, HR240, HB⟩ := hrel
                       cases gk with
                       | zero => exact absurd HA.out (by simp [estoverslaw27_InodeApart.l2])
                       | succ k6 =>
                        have H := HA.out
                        clear HA
                        simp only [estoverslaw27_InodeApart.l2] at H
                        by_cases c47 : 0 ≤ x89_4
                        ·rw [if_pos c47] at H
                         have c47b0 : decide (0 ≤ x89_4) = true := decide_eq_true c47
                         clear c47
                         by_cases c48 : x89_4 < (t227.length : Int)
                         ·rw [if_pos c48] at H
                          have c48b0 : decide (x89_4 < (t227.length : Int)) = true := decide_eq_true c48
                          clear c48
                          by_cases c49 : x14_6 < (wrap64 ((rd t227 x89_4) + x13_41))
                          ·rw [if_pos c49] at H
                           have c49b0 : decide (x14_6 < (wrap64 ((rd t227 x89_4) + x13_41))) = true := decide_eq_true c49
                           clear c49
                           by_cases c50 : x14_6 < 0
                           ·rw [if_pos c50] at H
                            have c50b0 : decide (x14_6 < 0) = true := decide_eq_true c50
                            clear c50
                            obtain rfl := Option.some.inj H
                            have p243 : 0 ≤ (x89_4 : Int) := of_decide_eq_true (by first | (with_reducible assumption) | assumption)
                            have q243 : x89_4 < (t227.length : Int) := of_decide_eq_true (by first | (with_reducible assumption) | assumption)
                            obtain ⟨ad243, e243, hx243_0⟩ := Kd.at_int (Kd.R_reads' HO_9.out).2.2 x89_4 p243 q243
                            obtain rfl : ad233 = ad243 := (by injection e243)
                            replace p243 := eq_true p243
                            replace q243 := eq_true q243
                            go_wp2
                            go_ret
                            exact ⟨by first | rfl | (simp [errW_none, errW_some] <;> rfl) | (simp only [← hji30]; first | rfl | (simp [errW_none, errW_some] <;> rfl)) | (simp [*, errW_none, errW_some] <;> rfl), by repeat (first | (with_reducible first | exact HB.out | apply below_alloc | apply pw_below_drewN | apply below_drew1) | exact HB.out)⟩
                           ·rw [if_neg c50] at H
                            have c50b0 : decide (x14_6 < 0) = false := decide_eq_false c50
                            clear c50
                            by_cases c51 : x14_6 ≥ (x11_6.length : Int)
                            ·rw [if_pos c51] at H
                             have c51b0 : decide ((x11_6.length : Int) ≤ x14_6) = true := decide_eq_true c51
                             clear c51
                             obtain rfl := Option.some.inj H
                             have p243 : 0 ≤ (x89_4 : Int) := of_decide_eq_true (by first | (with_reducible assumption) | assumption)
                             have q243 : x89_4 < (t227.length : Int) := of_decide_eq_true (by first | (with_reducible assumption) | assumption)
                             obtain ⟨ad243, e243, hx243_0⟩ := Kd.at_int (Kd.R_reads' HO_9.out).2.2 x89_4 p243 q243
                             obtain rfl : ad233 = ad243 := (by injection e243)
                             replace p243 := eq_true p243
                             replace q243 := eq_true q243
                             obtain ⟨Ao52, co52, eo52⟩ := Kd.R_slice HO_11.out
                             subst eo52
                             go_wp2
                             go_ret
                             exact ⟨by first | rfl | (simp [errW_none, errW_some] <;> rfl) | (simp only [← hji30]; first | rfl | (simp [errW_none, errW_some] <;> rfl)) | (simp [*, errW_none, errW_some] <;> rfl), by repeat (first | (with_reducible first | exact HB.out | apply below_alloc | apply pw_below_drewN | apply below_drew1) | exact HB.out)⟩
                            ·rw [if_neg c51] at H
                             have c51b0 : decide ((x11_6.length : Int) ≤ x14_6) = false := decide_eq_false c51
                             clear c51
                             by_cases c53 : 0 ≤ x14_6
                             ·rw [if_pos c53] at H
                              have c53b0 : decide (0 ≤ x14_6) = true := decide_eq_true c53
                              clear c53
                              by_cases c54 : x14_6 < (x11_6.length : Int)
                              ·rw [if_pos c54] at H
                               have c54b0 : decide (x14_6 < (x11_6.length : Int)) = true := decide_eq_true c54
                               clear c54
                               obtain ⟨y245, hy245⟩ : ∃ y_ : List Int, y_ = (x11_6.set (x14_6 : Int).toNat (wrap64 ((rd x11_6 x14_6) + 1))) := ⟨_, rfl⟩
                               replace H : (estoverslaw27_InodeApart.l2 k6 x5_2 (Int.tmod (wrap64 (a1)) 65) t227 y245 x89_4 x13_41 (wrap64 (x14_6 + 1)) (y237.length : Int) x89_4) = some r := by first | (rw [hy245]; with_reducible exact H) | (have H2_ := (Option.bind_some _ _).symm.trans H; rw [hy245]; with_reducible exact H2_) | (have H2_ := (Option.bind_some _ _).symm.trans H; with_reducible exact H2_) | with_reducible exact H | (rw [hy245]; exact H) | exact H
                               have Ny245 := Aside0.mk hy245
                               clear hy245
                               have H' := Aside0.mk H
                               clear H
                               have p243 : 0 ≤ (x89_4 : Int) := of_decide_eq_true (by first | (with_reducible assumption) | assumption)
                               have q243 : x89_4 < (t227.length : Int) := of_decide_eq_true (by first | (with_reducible assumption) | assumption)
                               obtain ⟨ad243, e243, hx243_0⟩ := Kd.at_int (Kd.R_reads' HO_9.out).2.2 x89_4 p243 q243
                               obtain rfl : ad233 = ad243 := (by injection e243)
                               replace p243 := eq_true p243
                               replace q243 := eq_true q243
                               obtain ⟨Ao56, co56, eo56⟩ := Kd.R_slice HO_11.out
                               subst eo56
                               have p244 : 0 ≤ (x14_6 : Int) := of_decide_eq_true (by first | (with_reducible assumption) | assumption)
                               have q244 : x14_6 < (x11_6.length : Int) := of_decide_eq_true (by first | (with_reducible assumption) | assumption)
                               obtain ⟨ad244, e244, hx244_0⟩ := Kd.at_int (Kd.R_reads' HO_11.out).2.2 x14_6 p244 q244
                               cases e244
                               replace p244 := eq_true p244
                               replace q244 := eq_true q244
                               have p55 : 0 ≤ (x14_6 : Int) := of_decide_eq_true (by first | (with_reducible assumption) | assumption)
                               have q55 : (x14_6 : Int) < ((x11_6.length : Int) : Int) := of_decide_eq_true (by first | (with_reducible assumption) | assumption)
                               obtain ⟨go55, co55, eo55, gb55, gl55, cl55, HG55⟩ := Kd.R_form HO_11.out (by omega)
                               (first | cases eo55 | (injection eo55 with ea_ en_ ec_; (first | subst ea_ | (injection ea_ with ea_; subst ea_)); subst ec_; clear en_))
                               have GB55 := Aside0.mk gb55
                               have GG55 := Aside0.mk HG55
                               clear gb55 gl55 HG55
                               (first | simp only [add_plain] at hx244_0 | skip)
                               obtain ⟨hx55_0, hf55_0⟩ := Kd.R_celln 0 HO_11.out (x14_6 : Int) p55 q55
                               replace p55 := eq_true p55
                               replace q55 := eq_true q55
                               have HP57 := Kd.R_putg HO_11.out (x14_6 : Int) (wrap64 ((rd x11_6 x14_6) + 1))
                               go_wp2_with (first | ((with_reducible refine gate_store (t := 3) (p := 129) rfl ?_); refine store_event (t := 3) (p := 129) (v := ?vo_w58) (w1 := (wr.setCell ⟨go55, (x14_6 : Int).toNat, none⟩ (.int .i64 (wrap64 ((rd x11_6 x14_6) + 1))))) ?hg ?ho ?hn ?hr ?_; (case ho => rfl); (case hg => rfl); (case hn => rfl); (case hr => first | (go_simp; done) | (go_simp; rfl)); intro w58 hw; have hg : wr.grownBy w58 (some go55) := (by rw [hw]; exact HP57.2); have hp_ : Kd.R (Kd.int .i64) 3 w58 w.heap.size (fun k_ => some k_ ≠ (.slice Ao18 x5_2.length co18 : Value).ownBlock ∧ some k_ ≠ (.slice (some ad233) t227.length co37 : Value).ownBlock) (.slice (some ⟨go55, 0, none⟩) x11_6.length co56) y245 := (by rw [hw, Ny245.out]; exact HP57.1); clear HP57; have n0_ := Aside0.mk (Kd.R_after (v := (.slice (some ⟨go55, 0, none⟩) x11_6.length co56)) (v1 := (.slice (some ⟨go55, 0, none⟩) x11_6.length co56)) (ok := (fun k_ => some k_ ≠ (.slice (some ad233) t227.length co37 : Value).ownBlock)) (by (with_reducible repeat (first | apply Kd.R_alloc | apply Kd.R_drewN | apply Kd.R_drew)); exact HO_5.out) hg (.inl rfl)); have n1_ := Aside0.mk (Kd.R_after (v := (.slice (some ⟨go55, 0, none⟩) x11_6.length co56)) (v1 := (.slice (some ⟨go55, 0, none⟩) x11_6.length co56)) (ok := (fun k_ => some k_ ≠ (.slice Ao18 x5_2.length co18 : Value).ownBlock)) (by (with_reducible repeat (first | apply Kd.R_alloc | apply Kd.R_drewN | apply Kd.R_drew)); exact HO_9.out) hg (.inl rfl)); have n2_ := Aside0.mk (hp_); have n3_ := Aside0.mk ((by rw [hw]; exact below_set (HB.out) GB55.out : Below w.heap.size w w58)); have n4_ := Aside0.mk ((show Kd.C (Kd.int .i64) w58 (some ad233) y237.length y237 from by rw [Ny237.out]; exact Kd.C_take (m := ((ji30) : Int).toNat) ((Kd.R_reads' (Kd.R_after (v := (.slice (some ⟨go55, 0, none⟩) x11_6.length co56)) (v1 := (.slice (some ⟨go55, 0, none⟩) x11_6.length co56)) (ok := (fun k_ => some k_ ≠ (.slice Ao18 x5_2.length co18 : Value).ownBlock)) (by (with_reducible repeat (first | apply Kd.R_alloc | apply Kd.R_drewN | apply Kd.R_drew)); exact HO_9.out) hg (.inl rfl))).2.2) KL40.out)); clear HO_5; clear HO_9; clear HO_11; clear HB; clear HR240; have HO_5 := n0_; have HO_9 := n1_; have HO_11 := n2_; have HB := n3_; have HR240 := n4_; clear n0_ n1_ n2_ n3_ n4_; clear hg hw hp_))
                               go_roundg k6
                               case measure => have := HJ2.out; have := HK2.out; have := HJ16.out; have := HK4.out; have := HJ41.out; have := HK6.out; omega
                               case rel => exact ⟨(y245), (wrap64 (x14_6 + 1)), (by first | rfl | (simp; done) | (simp [*]; done)), H', ⟨by have := HJ2.out; have := HK2.out; have := HJ16.out; have := HK4.out; have := HJ41.out; have := HK6.out; omega⟩, ⟨by (with_reducible repeat (first | apply Kd.R_alloc | apply Kd.R_drewN | apply Kd.R_drew)); exact HO_5.out⟩, ⟨by (with_reducible repeat (first | apply Kd.R_alloc | apply Kd.R_drewN | apply Kd.R_drew)); exact HO_9.out⟩, ⟨by (with_reducible repeat (first | apply Kd.R_alloc | apply Kd.R_drewN | apply Kd.R_drew)); exact HO_11.out⟩, ⟨by repeat (first | (with_reducible exact HR240.out) | (with_reducible refine Kd.C_alloc ?_ _) | (with_reducible refine Kd.C_drewN ?_ _) | (with_reducible refine Kd.C_drew ?_) | exact HR240.out)⟩, ⟨by repeat (first | (with_reducible first | exact HB.out | apply below_alloc | apply pw_below_drewN | apply below_drew1) | exact HB.out)⟩⟩
                              ·rw [if_neg c54] at H
                               exact absurd H (by simp)
                             ·rw [if_neg c53] at H
                              exact absurd H (by simp)
                          ·rw [if_neg c49] at H
                           have c49b0 : decide (x14_6 < (wrap64 ((rd t227 x89_4) + x13_41))) = false := decide_eq_false c49
                           clear c49
                           have H' := Aside0.mk H
                           clear H
                           have p243 : 0 ≤ (x89_4 : Int) := of_decide_eq_true (by first | (with_reducible assumption) | assumption)
                           have q243 : x89_4 < (t227.length : Int) := of_decide_eq_true (by first | (with_reducible assumption) | assumption)
                           obtain ⟨ad243, e243, hx243_0⟩ := Kd.at_int (Kd.R_reads' HO_9.out).2.2 x89_4 p243 q243
                           obtain rfl : ad233 = ad243 := (by injection e243)
                           replace p243 := eq_true p243
                           replace q243 := eq_true q243
                           go_wp2
                           go_roundg k6
                           case measure => have := HJ2.out; have := HK2.out; have := HJ16.out; have := HK4.out; have := HJ41.out; have := HK6.out; omega
                           case rel => exact ⟨(x11_6), (wrap64 (x89_4 + 1)), (by first | rfl | (simp; done) | (simp [*]; done)), H', ⟨by have := HJ2.out; have := HK2.out; have := HJ16.out; have := HK4.out; have := HJ41.out; have := HK6.out; omega⟩, ⟨by (with_reducible repeat (first | apply Kd.R_alloc | apply Kd.R_drewN | apply Kd.R_drew)); exact HO_5.out⟩, ⟨by (with_reducible repeat (first | apply Kd.R_alloc | apply Kd.R_drewN | apply Kd.R_drew)); exact HO_9.out⟩, ⟨by (with_reducible repeat (first | apply Kd.R_alloc | apply Kd.R_drewN | apply Kd.R_drew)); exact HO_11.out⟩, ⟨by repeat (first | (with_reducible exact HR240.out) | (with_reducible refine Kd.C_alloc ?_ _) | (with_reducible refine Kd.C_drewN ?_ _) | (with_reducible refine Kd.C_drew ?_) | exact HR240.out)⟩, ⟨by repeat (first | (with_reducible first | exact HB.out | apply below_alloc | apply pw_below_drewN | apply below_drew1) | exact HB.out)⟩⟩
                         ·rw [if_neg c48] at H
                          exact absurd H (by simp)
                        ·rw [if_neg c47] at H
                         exact absurd H (by simp)
                     ·rw [if_neg c46] at H
                      exact absurd H (by simp)
                    ·rw [if_neg c45] at H
                     exact absurd H (by simp)
                 ·rw [if_neg c41] at H
                  have c41b0 : decide (x89_4 < (y237.length : Int)) = false := decide_eq_false c41
                  clear c41
                  have H' := Aside0.mk H
                  clear H
                  obtain ⟨Ao59, co59, eo59⟩ := Kd.R_slice HO_11.out
                  subst eo59
                  go_wp2
                  go_loopg [133] k4 (fun kq v133 w' => ∃ (x133_5 : Int), v133 = .int .i64 x133_5 ∧ Aside0 (estoverslaw27_InodeApart.l3 kq x11_4 (x11_4.length : Int) x133_5 = some r) ∧ Aside0 (kq ≤ k4) ∧ Aside0 (Kd.R (Kd.int .i64) 3 w' w.heap.size (fun _ => True) (.slice Ao59 x11_4.length co59) x11_4) ∧ Aside0 (Kd.C (Kd.int .i64) w' (some ad233) y237.length y237) ∧ Aside0 (Below w.heap.size w w'))
                  case atStart => exact ⟨(0), (by first | rfl | (simp; done) | (simp [*]; done)), H', ⟨Nat.le_refl _⟩, ⟨by (with_reducible repeat (first | apply Kd.R_alloc | apply Kd.R_drewN | apply Kd.R_drew)); exact Kd.R_mono HO_11.out (fun _ hk => trivial)⟩, ⟨by repeat (first | (with_reducible exact HR240.out) | (with_reducible refine Kd.C_alloc ?_ _) | (with_reducible refine Kd.C_drewN ?_ _) | (with_reducible refine Kd.C_drew ?_) | exact HR240.out)⟩, ⟨by repeat (first | (with_reducible first | exact HB.out | apply below_alloc | apply pw_below_drewN | apply below_drew1) | exact HB.out)⟩⟩
                  case round =>
                   clear H'
                   (try clear c1); (try clear c2); (try clear p2); (try clear q2); (try clear hx2); (try clear c3); (try clear c4); (try clear q4); (try clear c5); (try clear p5); (try clear q5); (try clear hx5); (try clear hf5); (try clear p6); (try clear c8); (try clear c11); (try clear c11b0); (try clear c12); (try clear c12b0); (try clear c13); (try clear c13b0); (try clear c14); (try clear c17); (try clear c20); (try clear c20b0); (try clear c20b1); (try clear c21); (try clear c21b0); (try clear c21b1); (try clear p22); (try clear q22); (try clear hx22); (try clear c23); (try clear c23b0); (try clear p23); (try clear q23); (try clear hx23); (try clear c24); (try clear c24b0); (try clear p24); (try clear q24); (try clear hx24); (try clear c25); (try clear c25b0); (try clear c29); (try clear c31); (try clear c31b0); (try clear c32); (try clear c32b0); (try clear c33); (try clear c33b0); (try clear c33b1); (try clear c34); (try clear c34b0); (try clear c34b1); (try clear c35); (try clear c35b0); (try clear c36); (try clear c36b0); (try clear c36b1); (try clear q40); (try clear c41); (try clear c41b0); (try clear c43); (try clear c43b0); (try clear c44); (try clear c44b0); (try clear c45); (try clear c45b0); (try clear c46); (try clear c46b0); (try clear c47); (try clear c47b0); (try clear c48); (try clear c48b0); (try clear c49); (try clear c49b0); (try clear c50); (try clear c50b0); (try clear c51); (try clear c51b0); (try clear c53); (try clear c53b0); (try clear c54); (try clear c54b0); (try clear p55); (try clear q55); (try clear hx55); (try clear hf55); (try clear hx223_0); (try clear hx231_0); (try clear hx232_0); (try clear hx233_0); (try clear hx241_0); (try clear hx242_0); (try clear hx243_0); (try clear hx244_0); (try clear hx55_0); (try clear p2); (try clear p22); (try clear p223); (try clear p23); (try clear p231); (try clear p232); (try clear p233); (try clear p24); (try clear p241); (try clear p242); (try clear p243); (try clear p244); (try clear p55); (try clear p6); (try clear q2); (try clear q22); (try clear q223); (try clear q23); (try clear q231); (try clear q232); (try clear q233); (try clear q24); (try clear q241); (try clear q242); (try clear q243); (try clear q244); (try clear q4); (try clear q40); (try clear q55)
                   obtain ⟨x133_5, rfl, HA, HK5, HO_131, HR240, HB⟩ := hrel
                   cases gk with
                   | zero => exact absurd HA.out (by simp [estoverslaw27_InodeApart.l3])
                   | succ k5 =>
                    have H := HA.out
                    clear HA
                    simp only [estoverslaw27_InodeApart.l3] at H
                    by_cases c60 : x133_5 < (x11_4.length : Int)
                    ·rw [if_pos c60] at H
                     have c60b0 : decide (x133_5 < (x11_4.length : Int)) = true := decide_eq_true c60
                     clear c60
                     by_cases c61 : 0 ≤ x133_5
                     ·rw [if_pos c61] at H
                      have c61b0 : decide (0 ≤ x133_5) = true := decide_eq_true c61
                      clear c61
                      by_cases c62 : x133_5 < (x11_4.length : Int)
                      ·rw [if_pos c62] at H
                       have c62b0 : decide (x133_5 < (x11_4.length : Int)) = true := decide_eq_true c62
                       clear c62
                       by_cases c63 : (rd x11_4 x133_5) = 1
                       ·rw [if_pos c63] at H
                        have c63b0 : ((rd x11_4 x133_5) == 1) = true := beq_iff_eq.mpr c63
                        have c63b1 : ((rd x11_4 x133_5) != 1) = false := bne_eq_false_iff_eq.mpr c63
                        clear c63
                        have H' := Aside0.mk H
                        clear H
                        have p246 : 0 ≤ (x133_5 : Int) := of_decide_eq_true (by first | (with_reducible assumption) | assumption)
                        have q246 : x133_5 < (x11_4.length : Int) := of_decide_eq_true (by first | (with_reducible assumption) | assumption)
                        obtain ⟨ad246, e246, hx246_0⟩ := Kd.at_int (Kd.R_reads' HO_131.out).2.2 x133_5 p246 q246
                        cases e246
                        replace p246 := eq_true p246
                        replace q246 := eq_true q246
                        go_wp2
                        go_roundg k5
                        case measure => have := HJ2.out; have := HK2.out; have := HJ16.out; have := HK4.out; have := HK5.out; omega
                        case rel => exact ⟨(wrap64 (x133_5 + 1)), (by first | rfl | (simp; done) | (simp [*]; done)), H', ⟨by have := HJ2.out; have := HK2.out; have := HJ16.out; have := HK4.out; have := HK5.out; omega⟩, ⟨by (with_reducible repeat (first | apply Kd.R_alloc | apply Kd.R_drewN | apply Kd.R_drew)); exact HO_131.out⟩, ⟨by repeat (first | (with_reducible exact HR240.out) | (with_reducible refine Kd.C_alloc ?_ _) | (with_reducible refine Kd.C_drewN ?_ _) | (with_reducible refine Kd.C_drew ?_) | exact HR240.out)⟩, ⟨by repeat (first | (with_reducible first | exact HB.out | apply below_alloc | apply pw_below_drewN | apply below_drew1) | exact HB.out)⟩⟩
                       ·rw [if_neg c63] at H
                        have c63b0 : ((rd x11_4 x133_5) == 1) = false := beq_eq_false_iff_ne.mpr c63
                        have c63b1 : ((rd x11_4 x133_5) != 1) = true := bne_iff_ne.mpr c63
                        obtain rfl := Option.some.inj H
                        have p246 : 0 ≤ (x133_5 : Int) := of_decide_eq_true (by first | (with_reducible assumption) | assumption)
                        have q246 : x133_5 < (x11_4.length : Int) := of_decide_eq_true (by first | (with_reducible assumption) | assumption)
                        obtain ⟨ad246, e246, hx246_0⟩ := Kd.at_int (Kd.R_reads' HO_131.out).2.2 x133_5 p246 q246
                        cases e246
                        replace p246 := eq_true p246
                        replace q246 := eq_true q246
                        go_wp2
                        go_ret
                        exact ⟨by first | rfl | (simp [errW_none, errW_some] <;> rfl) | (simp only [← hji30]; first | rfl | (simp [errW_none, errW_some] <;> rfl)) | (simp [*, errW_none, errW_some] <;> rfl), by repeat (first | (with_reducible first | exact HB.out | apply below_alloc | apply pw_below_drewN | apply below_drew1) | exact HB.out)⟩
                      ·rw [if_neg c62] at H
                       exact absurd H (by simp)
                     ·rw [if_neg c61] at H
                      exact absurd H (by simp)
                    ·rw [if_neg c60] at H
                     have c60b0 : decide (x133_5 < (x11_4.length : Int)) = false := decide_eq_false c60
                     clear c60
                     obtain rfl := Option.some.inj H
                     go_wp2
                     go_ret
                     exact ⟨by first | rfl | (simp [errW_none, errW_some] <;> rfl) | (simp only [← hji30]; first | rfl | (simp [errW_none, errW_some] <;> rfl)) | (simp [*, errW_none, errW_some] <;> rfl), by repeat (first | (with_reducible first | exact HB.out | apply below_alloc | apply pw_below_drewN | apply below_drew1) | exact HB.out)⟩
              ·rw [if_neg c36] at H
               exact absurd H (by simp)
             ·rw [if_neg c34] at H
              exact absurd H (by simp)
            ·rw [if_neg c33] at H
             exact absurd H (by simp)
           ·rw [if_neg c32] at H
            exact absurd H (by simp)
          ·rw [if_neg c31] at H
           exact absurd H (by simp)

/-- THE ONE PURE STATEMENT of estoverslaw27_InodeApart: yours. -/
def estoverslaw27_InodeApart.Pure : Prop := ∀ (l0 : List Int) (a1 : Int), l0.length ≤ maxLen → l0.length * 1 ≤ 140737488351232 → (∀ x ∈ l0, (Lit.int .u8 x).wf = true) → (Lit.int .u8 a1).wf = true → ∃ k, estoverslaw27_InodeApart.f k l0 a1 = some true
theorem estoverslaw27_InodeApart.walk (P : estoverslaw27_InodeApart.Pure) (a0 : Option Addr) (len0 cap0 : Nat) (z0 : List Int) (a1 : Int) (w : World) (w0 : (a0 = none ∧ len0 = 0 ∧ cap0 = 0 ∧ z0 = []) ∨ ∃ x, a0 = some x ∧ len0 ≤ cap0 ∧ cap0 ≤ maxLen ∧ z0.length = cap0 ∧ (∀ i, i < z0.length → w.cell? (x.add i) = some (.int .u8 (z0.getD i 0))) ∧ ∀ n ∈ z0, (Lit.int .u8 n).wf = true) (y0 : len0 * 1 ≤ 140737488351232) (w1 : (Lit.int .u8 a1).wf = true) :
  Calls Try.prog 8 #[.slice a0 len0 cap0, .int .u8 a1] w fun e w' => e = .returned (.bool true) ∧ Below w.heap.size w w' := by
 obtain ⟨l0, rfl, hr0, hm0, hw0, hc0⟩ := ReadsInt.ofRowC w0
 obtain ⟨k, h⟩ := P l0 a1 hm0 y0 hw0 w1
 refine (estoverslaw27_InodeApart.calls k _ _ l0 a1 true w (Kd.C_of_reads (d := (0 : Int)) (h1 := fun _ => rfl) hr0) hc0 h).mono ?_
 rintro e w' ⟨rfl, hd⟩
 exact ⟨rfl, hd⟩

end Go.Proofs.Ytnkopggkapdceaa.Ino
