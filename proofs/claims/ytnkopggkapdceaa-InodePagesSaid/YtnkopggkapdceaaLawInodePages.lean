/- What is proved: the given statement InodePagesSaid: for every input the law returns true and its arguments read as before. No condition. -/
import Derived.Test.YtnkopggkapdceaaRows
import Derived.Test.YtnkopggkapdceaaInox26
import Derived.Test.YtnkopggkapdceaaPureInodePages
import Derived.WalkKit
import Derived.ProofKit
import Derived.OpenShut
import Derived.ShutString
import Derived.ChangeOld
import Derived.Below
import Derived.SizedLaws
import Derived.Deep.Grids
namespace Go.Proofs.Ytnkopggkapdceaa.inodePages
open Go.ChangeShapes Go.WideShapes Go.ChangeAt Go.RowKit
open Go.ChangeMaps (open_string shut_string)
set_option linter.unusedVariables false
theorem own : ownKnob Try.prog.godebug = none := by kernel_rfl
theorem laidOut : laidOutB Try.prog = true := by kernel_rfl
open Go.Proofs.YtnkopggkapdceaaW.PrintWords in
/-- A slice of bools that came in reads as a list. -/
theorem bools_row (w : World) (a : Addr) (len cap : Nat) (B : Nat → Bool) (hl : len ≤ cap) (hm : cap ≤ maxLen) (hc : ∀ i, i < cap → w.cell? (a.add i) = some (.bool (B i))) :
    Kd.C Kd.bool w (some a) len ((List.range len).map B) := by
  unfold maxLen at hm
  refine ⟨by simp, by omega, fun _ => ⟨a, rfl, fun j p hj => ?_⟩⟩
  have hjl : j < len := by
    have := (List.getElem?_eq_some_iff.1 hj).1
    simpa using this
  have hp : p = B j := by
    rw [List.getElem?_map, List.getElem?_range hjl] at hj
    simpa using hj.symm
  refine ⟨[.bool p], rfl, rfl, fun i u hu => ?_⟩
  match i, hu with
  | 0, hu =>
    have e : u = .bool p := by simpa using hu.symm
    have := hc j (by omega)
    rw [e, hp, Nat.add_zero, show j * Kd.bool.sz = j from Nat.mul_one j]
    exact this
  | i + 1, hu => simp at hu
set_option maxRecDepth 100000 in
theorem lifted (os : Os) (started : os.Started) (H : Type) (enc : TypeId × Value → H) :
    ReturnsInHanded {} Try.checked os 10 .any (Rows.inodePagesSpec.pre6 enc Try.prog Try.f10 Rows.inodePagesRow.domain false) (Rows.inodePagesSpec.post enc Try.prog Try.f10 false true false false) := by
  refine returnsInHanded_of_change_sized (C := Try.checked) own started (by kernel_rfl) Try.func10
    (ChangeSpec.witness6 (enc := enc) (C := Try.checked) false ⟨#[], #[.slice none 0 0], []⟩ 8 (by kernel_rfl) (by kernel_rfl) (by kernel_rfl) (by kernel_rfl)) ?_
  intro W base args ds gs before hval0 hW hcnd hsz0 _
  have hsz : (DataW.weightsEach Try.prog (Try.f10.params.toList ++ Rows.inodePagesSpec.plain.varTypes Try.prog) (ds ++ gs)).all (· ≤ reachBytes) = true := hsz0
  have hval : ∀ (j : Nat) t v, Try.f10.params[j]? = some t → args[j]? = some v → Value.okWide Try.prog W .any base t v := hval0
  have hW' := hW
  obtain ⟨p, q, hA0, hV, rfl, hfz, hnd⟩ := hW
  have hA : DataW.TrodAll enc Try.prog W 0 (fun _ => true) true Try.f10.params.toList args.toList ds p := hA0
  rw [Try.params10] at hA hval hsz
  obtain ⟨v0, vs0, d0, ds0, p0, q0, hargs, rfl, rfl, h0, r0⟩ := trodAll_cons hA
  obtain ⟨rfl, rfl, rfl⟩ := trodAll_nil r0
  obtain rfl : args = #[v0] := by cases args; simp_all
  obtain ⟨rfl, rfl⟩ := trodVars_none hV
  obtain ⟨a0, len0, cap0, rfl⟩ := okWide_slice Try.underlying42 (hval 0 42 v0 rfl rfl)
  have k0 := h0
  have lt0 : ∀ x ∈ p0, x.block < W.heap.size := by obtain ⟨m, hm⟩ := k0; exact DataW.trod_lt m _ _ _ hm
  obtain ⟨l0, e0, w0, c0⟩ : ∃ l : List Bool, l.length = len0 ∧ Go.Proofs.YtnkopggkapdceaaW.PrintWords.Kd.C Go.Proofs.YtnkopggkapdceaaW.PrintWords.Kd.bool W a0 len0 l ∧ len0 ≤ cap0 := by
    obtain ⟨fuel, hf⟩ := h0
    rcases Go.Deep.open_bools Try.underlying42 Try.underlying4 (by kernel_rfl) hf with ⟨hcs, _⟩ | ⟨x, l, c, B, hcs, _, hl, hm, _, hcell⟩
    · simp [Value.cells] at hcs
      obtain ⟨rfl, rfl, rfl⟩ := hcs
      exact ⟨[], rfl, ⟨rfl, by omega, fun h => absurd h (by omega)⟩, by omega⟩
    · simp [Value.cells] at hcs
      obtain ⟨rfl, rfl, rfl⟩ := hcs
      exact ⟨_, by simp, bools_row W x _ _ B hl hm hcell, hl⟩
  subst e0
  clear hA0 hval0 hsz0 hsz
  refine (Ino.estoverslaw27_InodePages.calls 204 a0 cap0 l0 true W w0 c0 (Pure.InodePages l0)).mono fun e W' ⟨he, bel⟩ => ?_
  subst he
  exact ⟨_, rfl, _, _, _, [], _, [], hW', trodAll_mk1 (shut_bool Try.underlying4 _), (trodAll_cons_mk (Below.trod laidOut (by kernel_rfl) (of_decide_eq_true (by kernel_rfl)) k0 bel lt0) trodAll_mk0), rfl, bel.frame _, fun h => by cases h⟩
theorem over : Rows.inodePagesRow.holds Try.pinned (OpenSpec.ofChange Rows.inodePagesSpec) :=
  OpenClaim.holds_of_wide 10 Try.f10 rfl rfl rfl rfl rfl rfl rfl ⟨rfl, rfl, rfl, rfl, rfl⟩ rfl rfl rfl rfl rfl (by kernel_rfl) Try.func10 (by kernel_rfl)
    (of_decide_eq_true (by kernel_rfl)) (by unfold Func.isWrapper; first | (rw [if_pos (by decide +kernel)]; kernel_rfl) | (rw [if_neg (by decide +kernel)]; exact ⟨rfl, rfl⟩))
    (fun os started H enc _ => lifted os started H enc)
theorem proved : Rows.InodePagesSaid := over
#print axioms proved
end Go.Proofs.Ytnkopggkapdceaa.inodePages
namespace Go.Proofs.Ytnkopggkapdceaa
/-- The row, under a short name, for the claim. -/
theorem inodePages_holds : Rows.InodePagesSaid := inodePages.proved
end Go.Proofs.Ytnkopggkapdceaa
