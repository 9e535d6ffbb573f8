/- Turned out by a program of this session (wip/tools/prt.py). -/
import Derived.Test.YtpfbajjpommjmaaTopx0
import Derived.Test.YtpfbajjpommjmaaTopx3
namespace Go.Proofs.Ytpfbajjpommjmaa.Top
open Go.RowKit Go.Proofs.YtpfbajjpommjmaaW.PrintWords Go.Proofs.YtpfbajjpommjmaaW.PrintLast Go.Proofs.YtpfbajjpommjmaaW.PrintMore
attribute [local go_sem] max2_int min2_int max_two min_two max_three min_three max_four min_four   -- for this text's walks alone
set_option linter.unusedVariables false
set_option linter.unusedSimpArgs false

/-! ### estoverstop_inodeOf: function 5 -/
def estoverstop_inodeOf.f (a0 : Int) (a1 : Int) : Option (List Int × Int × Int) := if 0 ≤ (IntKind.u64.wrap (wrap64 (Int.tmod a0 17))) then (if (shl .i64 1 (IntKind.u64.wrap (wrap64 (Int.tmod a0 17)))) = 0 then (none) else ((inode_Encode.f (wrap64 (Int.tmod a0 17)) (Int.tmod (wrap64 (a1)) (shl .i64 1 (IntKind.u64.wrap (wrap64 (Int.tmod a0 17)))))).bind fun bt101 => (some (bt101.1, wrap64 (Int.tmod a0 17), Int.tmod (wrap64 (a1)) (shl .i64 1 (IntKind.u64.wrap (wrap64 (Int.tmod a0 17)))))))) else (none)
set_option maxHeartbeats 8000000 in
set_option maxRecDepth 100000 in
theorem estoverstop_inodeOf.calls (a0 : Int) (a1 : Int) (r1 : List Int) (r2 : Int) (r3 : Int) (w : World) (h : estoverstop_inodeOf.f a0 a1 = some (r1, r2, r3)) :
  Calls Try.prog 5 #[.int .u8 a0, .int .u16 a1] w fun e w' => ∃ v0_ : Value, e = .returned (.tuple #[v0_, .int .i64 r2, .int .i64 r3]) ∧ Kd.R (Kd.int .u8) 5 w' w.heap.size (fun _ => True) v0_ r1 ∧ Below w.heap.size w w' := by
 have HB := Aside0.mk (Below.refl w.heap.size w)
 have H : (if 0 ≤ (IntKind.u64.wrap (wrap64 (Int.tmod a0 17))) then (if (shl .i64 1 (IntKind.u64.wrap (wrap64 (Int.tmod a0 17)))) = 0 then (none) else ((inode_Encode.f (wrap64 (Int.tmod a0 17)) (Int.tmod (wrap64 (a1)) (shl .i64 1 (IntKind.u64.wrap (wrap64 (Int.tmod a0 17)))))).bind fun bt101 => (some (bt101.1, wrap64 (Int.tmod a0 17), Int.tmod (wrap64 (a1)) (shl .i64 1 (IntKind.u64.wrap (wrap64 (Int.tmod a0 17)))))))) else (none)) = some (r1, r2, r3) := h
 clear h
 obtain ⟨ji3, hji3⟩ : ∃ j_ : Int, (IntKind.u64.wrap (wrap64 (Int.tmod a0 17))) = j_ := ⟨_, rfl⟩
 replace H : (if 0 ≤ (ji3) then (if (shl .i64 1 (ji3)) = 0 then (none) else ((inode_Encode.f (wrap64 (Int.tmod a0 17)) (Int.tmod (wrap64 (a1)) (shl .i64 1 (ji3)))).bind fun bt101 => (some (bt101.1, wrap64 (Int.tmod a0 17), Int.tmod (wrap64 (a1)) (shl .i64 1 (ji3)))))) else (none)) = some (r1, r2, r3) := by first | (rw [hji3] at H; exact H) | (simp only [hji3] at H ⊢; exact H)
 by_cases c4 : 0 ≤ (ji3)
 ·rw [if_pos c4] at H
  have c4b0 := eq_true c4
  have c4b1 : decide (0 ≤ (ji3)) = true := decide_eq_true c4
  clear c4
  obtain ⟨ji5, hji5⟩ : ∃ j_ : Int, (shl .i64 1 (ji3)) = j_ := ⟨_, rfl⟩
  replace H : (if (ji5) = 0 then (none) else ((inode_Encode.f (wrap64 (Int.tmod a0 17)) (Int.tmod (wrap64 (a1)) (ji5))).bind fun bt101 => (some (bt101.1, wrap64 (Int.tmod a0 17), Int.tmod (wrap64 (a1)) (ji5))))) = some (r1, r2, r3) := by first | (rw [hji5] at H; exact H) | (simp only [hji5] at H ⊢; exact H)
  have hji5_ : (IntKind.i64.wrap (1 * 2 ^ min (ji3).toNat 64)) = ji5 := hji5
  have hji5z : (ji3) ≤ 64 → (IntKind.i64.wrap (1 * 2 ^ (ji3).toNat)) = ji5 := shl_small hji5
  have hji5u : (IntKind.i64.wrap (2 ^ min (ji3).toNat 64)) = ji5 := by have h_ := hji5_; rw [Int.one_mul] at h_; exact h_
  have hji5v : (ji3) ≤ 64 → (IntKind.i64.wrap (2 ^ (ji3).toNat)) = ji5 := fun hle_ => by have h_ := hji5z hle_; rw [Int.one_mul] at h_; exact h_
  have hji5y : (wrap64 (1 * 2 ^ min (ji3).toNat 64)) = ji5 := (i64_w _).symm.trans hji5_
  have hji5x : (ji3) ≤ 64 → (wrap64 (1 * 2 ^ (ji3).toNat)) = ji5 := fun h_ => (i64_w _).symm.trans (hji5z h_)
  by_cases c6 : (ji5) = 0
  ·rw [if_pos c6] at H
   exact absurd H (by simp)
  ·rw [if_neg c6] at H
   have c6b0 : ((ji5) == 0) = false := beq_eq_false_iff_ne.mpr c6
   have c6b1 : ((ji5) != 0) = true := bne_iff_ne.mpr c6
   replace H := Option.bind_eq_some_iff.mp H
   obtain ⟨⟨t101, t102⟩, A70, H⟩ := H
   replace H : (some (t101, wrap64 (Int.tmod a0 17), Int.tmod (wrap64 (a1)) (ji5))) = some (r1, r2, r3) := H
   have A7 := Aside0.mk A70
   clear A70
   simp only [Option.some.injEq, Prod.mk.injEq] at H
   obtain ⟨rfl, rfl, rfl⟩ := H
   go_enter Try.func5, Try.ntmps5
   go_wp2_with (first | ((with_reducible refine gate_callee (f := 12) rfl ?_); refine goesL_ (some 23) rfl rfl Try.func12 (by kernel_rfl) rfl #[.int .i64 (wrap64 (Int.tmod a0 17)), .int .i64 (Int.tmod (wrap64 (a1)) (ji5))] rfl (by (try simp only [List.map_toArray, List.map_cons, List.map_nil]); first | done | (simp only [hji5]; rfl) | rfl | (simp only [List.length_drop, List.length_take]; rfl)) ?_; (with_reducible refine (inode_Encode.calls (wrap64 (Int.tmod a0 17)) (Int.tmod (wrap64 (a1)) (ji5)) t101 t102 _ A7.out).mono ?_); rintro e w8 ⟨v103, rfl, ho0, hb⟩; refine ⟨_, rfl, ?_⟩; have n0_ := Aside0.mk (Kd.R_lower ho0 (below_size (by repeat (first | (with_reducible first | exact HB.out | apply below_alloc | apply pw_below_drewN | apply below_drew1) | exact HB.out)))); have n1_ := Aside0.mk (below_step (by repeat (first | (with_reducible first | exact HB.out | apply below_alloc | apply pw_below_drewN | apply below_drew1) | exact HB.out)) hb); clear HB; have HO104 := n0_; have HB := n1_; clear n0_ n1_; (try clear hb); (try clear hb2); (try clear hk); (try clear hi); (try clear ho0)))
   go_ret3
   exact ⟨_, by first | rfl | (simp [errW_none, errW_some] <;> rfl) | (simp only [← hji3, ← hji5]; first | rfl | (simp [errW_none, errW_some] <;> rfl)) | (simp [*, errW_none, errW_some] <;> rfl), by (with_reducible repeat (first | apply Kd.R_alloc | apply Kd.R_drewN | apply Kd.R_drew)); exact HO104.out, by repeat (first | (with_reducible first | exact HB.out | apply below_alloc | apply pw_below_drewN | apply below_drew1) | exact HB.out)⟩
 ·rw [if_neg c4] at H
  exact absurd H (by simp)

end Go.Proofs.Ytpfbajjpommjmaa.Top
