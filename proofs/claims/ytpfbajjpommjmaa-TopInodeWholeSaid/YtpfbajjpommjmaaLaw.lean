/- What is proved: the given statement TopInodeWholeSaid: for every input the law returns true and its arguments read as before. No condition. -/
import Derived.Test.YtpfbajjpommjmaaRows
import Derived.Test.YtpfbajjpommjmaaLoopb
import Derived.WalkKit
import Derived.ProofKit
import Derived.OpenShut
import Derived.ShutString
import Derived.ChangeOld
import Derived.Below
import Derived.SizedLaws
import Derived.Deep.Grids
import Derived.Deep.SlicePairs
namespace Go.Proofs.Ytpfbajjpommjmaa.topInodeWhole
open Go.ChangeShapes Go.WideShapes Go.ChangeAt Go.RowKit
open Go.ChangeMaps (open_string shut_string)
set_option linter.unusedVariables false
theorem own : ownKnob Try.prog.godebug = none := by kernel_rfl
theorem laidOut : laidOutB Try.prog = true := by kernel_rfl
theorem c39 : Try.prog.cellsOf 39 = 5 := by kernel_rfl
theorem c5 : Try.prog.cellsOf 5 = 1 := by kernel_rfl
theorem c28 : Try.prog.cellsOf 28 = 1 := by kernel_rfl
theorem c4 : Try.prog.cellsOf 4 = 1 := by kernel_rfl

/-- The steps that came in, out of what the reading says of their row. -/
theorem steps_open {H : Type} {enc : TypeId × Value → H} {W : World} {held : Bool} {fuel : Nat} {A : Option Addr} {len cap : Nat} {x : DataW H × List MemPlace}
    (h : DataW.trod enc Try.prog W 0 (fun _ => true) held fuel 22 [.slice A len cap] = some x) : Hand.Steps W A len := by
  rcases Go.Deep.open_slice Try.underlying22 h with ⟨hcs, _⟩ | ⟨a, len', cap', m, n, D, Pl, hcs, hb, hl, hm, hmm, hx, hel⟩
  · simp at hcs
    intro j hj
    omega
  · simp at hcs
    obtain ⟨rfl, rfl, rfl⟩ := hcs
    simp only [if_true] at hmm
    intro j hj
    obtain ⟨cs', h1, h2⟩ := hel j (by omega)
    rw [c39] at h1
    obtain ⟨_, hlen, hcell⟩ := World.cells?_some h1
    obtain ⟨xs, k, hk, hxy, _, hxl, hf⟩ := DataW.trod_struct Try.underlying39 h2
    match xs, hxl, cs', hlen with
    | [y0, y1, y2, y3, y4], _, [v0, v1, v2, v3, v4], _ =>
      have g0 := hf 0 _ rfl
      have g1 := hf 1 _ rfl
      have g2 := hf 2 _ rfl
      have g3 := hf 3 _ rfl
      have g4 := hf 4 _ rfl
      simp [c5, c28, c4] at g0 g1 g2 g3 g4
      obtain ⟨s, e0, _, w0⟩ := DataW.trod_int Try.underlying5 g0
      obtain ⟨u, e1, _, w1⟩ := DataW.trod_int Try.underlying28 g1
      obtain ⟨b1, e2, _⟩ := DataW.trod_bool Try.underlying4 g2
      obtain ⟨b2, e3, _⟩ := DataW.trod_bool Try.underlying4 g3
      obtain ⟨b3, e4, _⟩ := DataW.trod_bool Try.underlying4 g4
      simp at e0 e1 e2 e3 e4
      subst e0 e1 e2 e3 e4
      have q0 := hcell 0 (by omega)
      have q1 := hcell 1 (by omega)
      have q2 := hcell 2 (by omega)
      have q3 := hcell 3 (by omega)
      have q4 := hcell 4 (by omega)
      have B0 := bounds_u8 w0
      have B1 := bounds_u16 w1
      rw [Go.Deep.add_add] at q0 q1 q2 q3 q4
      rw [Go.Proofs.YtpfbajjpommjmaaW.PrintWords.add_field a (j * 5) 1 (by omega)] at q1
      rw [Go.Proofs.YtpfbajjpommjmaaW.PrintWords.add_field a (j * 5) 2 (by omega)] at q2
      rw [Go.Proofs.YtpfbajjpommjmaaW.PrintWords.add_field a (j * 5) 3 (by omega)] at q3
      rw [Go.Proofs.YtpfbajjpommjmaaW.PrintWords.add_field a (j * 5) 4 (by omega)] at q4
      exact ⟨a, s, u, b1, b2, b3, rfl, by simpa using q0, by simpa using q1, by simpa using q2, by simpa using q3, by simpa using q4, by omega, by omega, by omega, by omega⟩

theorem bools_open {H : Type} {enc : TypeId × Value → H} {W : World} {held : Bool} {fuel : Nat} {A : Option Addr} {len cap : Nat} {x : DataW H × List MemPlace}
    (h : DataW.trod enc Try.prog W 0 (fun _ => true) held fuel 23 [.slice A len cap] = some x) : Hand.Bools W A len := by
  rcases Go.Deep.open_bools Try.underlying23 Try.underlying4 c4 h with ⟨hcs, _⟩ | ⟨a, len', cap', B, hcs, _, hl, hm, _, hcell⟩
  · simp at hcs
    intro j hj
    omega
  · simp at hcs
    obtain ⟨rfl, rfl, rfl⟩ := hcs
    intro j hj
    exact ⟨a, B j, rfl, hcell j (by omega)⟩

theorem law_calls (Al Ap : Option Addr) (nl cl np cp : Nat) (w : World) (hl : Hand.Steps w Al nl) (hp : Hand.Bools w Ap np) :
    Calls Try.prog 3 #[.slice Al nl cl, .slice Ap np cp] w fun e w' => e = .returned (.bool true) ∧ Below w.heap.size w w' := by
  by_cases h1 : 30 < nl
  · exact Hand.law_long Al Ap nl cl np cp w (Or.inl h1)
  · by_cases h2 : 100 < np
    · exact Hand.law_long Al Ap nl cl np cp w (Or.inr h2)
    · exact Hand.law_short Al Ap nl cl np cp w hl hp (by omega) (by omega)

set_option maxRecDepth 100000 in
theorem lifted (os : Os) (started : os.Started) (H : Type) (enc : TypeId × Value → H) :
    ReturnsInHanded {} Try.checked os 3 .any (Rows.topInodeWholeSpec.pre6 enc Try.prog Try.f3 Rows.topInodeWholeRow.domain false) (Rows.topInodeWholeSpec.post enc Try.prog Try.f3 false true false false) := by
  refine returnsInHanded_of_change_sized (C := Try.checked) own started (by kernel_rfl) Try.func3
    (ChangeSpec.witness6 (enc := enc) (C := Try.checked) false ⟨#[], #[.slice none 0 0, .slice none 0 0], []⟩ 8 (by kernel_rfl) (by kernel_rfl) (by kernel_rfl) (by kernel_rfl)) ?_
  intro W base args ds gs before hval0 hW hcnd hsz0 _
  have hval : ∀ (j : Nat) t v, Try.f3.params[j]? = some t → args[j]? = some v → Value.okWide Try.prog W .any base t v := hval0
  have hW' := hW
  obtain ⟨p, q, hA0, hV, rfl, hfz, hnd⟩ := hW
  have hA : DataW.TrodAll enc Try.prog W 0 (fun _ => true) true Try.f3.params.toList args.toList ds p := hA0
  rw [Try.params3] at hA hval
  obtain ⟨v0, vs0, d0, ds0, p0, q0, hargs, rfl, rfl, h0, r0⟩ := trodAll_cons hA
  obtain ⟨v1, vs1, d1, ds1, p1, q1, rfl, rfl, rfl, h1, r1⟩ := trodAll_cons r0
  obtain ⟨rfl, rfl, rfl⟩ := trodAll_nil r1
  obtain rfl : args = #[v0, v1] := by cases args; simp_all
  obtain ⟨rfl, rfl⟩ := trodVars_none hV
  obtain ⟨a0, len0, cap0, rfl⟩ := okWide_slice Try.underlying22 (hval 0 22 v0 rfl rfl)
  obtain ⟨a1, len1, cap1, rfl⟩ := okWide_slice Try.underlying23 (hval 1 23 v1 rfl rfl)
  have k0 := h0
  have k1 := h1
  have lt0 : ∀ x ∈ p0, x.block < W.heap.size := by obtain ⟨m, hm⟩ := k0; exact DataW.trod_lt m _ _ _ hm
  have lt1 : ∀ x ∈ p1, x.block < W.heap.size := by obtain ⟨m, hm⟩ := k1; exact DataW.trod_lt m _ _ _ hm
  have s0 : Hand.Steps W a0 len0 := by obtain ⟨m, hm⟩ := k0; exact steps_open hm
  have s1 : Hand.Bools W a1 len1 := by obtain ⟨m, hm⟩ := k1; exact bools_open hm
  clear hA0 hval0 hsz0
  refine (law_calls a0 a1 len0 cap0 len1 cap1 W s0 s1).mono fun e W' ⟨he, bel⟩ => ?_
  subst he
  exact ⟨_, rfl, _, _, _, [], _, [], hW', trodAll_mk1 (shut_bool Try.underlying4 _), (trodAll_cons_mk (Below.trod laidOut (by kernel_rfl) (of_decide_eq_true (by kernel_rfl)) k0 bel lt0) (trodAll_cons_mk (Below.trod laidOut (by kernel_rfl) (of_decide_eq_true (by kernel_rfl)) k1 bel lt1) trodAll_mk0)), rfl, bel.frame _, fun h => by cases h⟩
theorem over : Rows.topInodeWholeRow.holds Try.pinned (OpenSpec.ofChange Rows.topInodeWholeSpec) :=
  OpenClaim.holds_of_wide 3 Try.f3 rfl rfl rfl rfl rfl rfl rfl ⟨rfl, rfl, rfl, rfl, rfl⟩ rfl rfl rfl rfl rfl (by kernel_rfl) Try.func3 (by kernel_rfl)
    (of_decide_eq_true (by kernel_rfl)) (by unfold Func.isWrapper; first | (rw [if_pos (by decide +kernel)]; kernel_rfl) | (rw [if_neg (by decide +kernel)]; exact ⟨rfl, rfl⟩))
    (fun os started H enc _ => lifted os started H enc)
theorem proved : Rows.TopInodeWholeSaid := over
#print axioms proved
end Go.Proofs.Ytpfbajjpommjmaa.topInodeWhole
namespace Go.Proofs.Ytpfbajjpommjmaa
/-- The row, under a short name, for the claim. -/
theorem topInodeWhole_holds : Rows.TopInodeWholeSaid := topInodeWhole.proved
end Go.Proofs.Ytpfbajjpommjmaa
