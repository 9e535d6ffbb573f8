/- What is proved: a call of estoverslaw22.awake returns true where its plain function does so within k rounds, and leaves all that was there as it was. -/
import Derived.Test.YtajephbmbdnjpaaRegx0
import Derived.Test.YtajephbmbdnjpaaRegx7
import Derived.Test.YtajephbmbdnjpaaRegx9
import Derived.Test.YtajephbmbdnjpaaRegx10
import Derived.Test.YtajephbmbdnjpaaRegx12
import Derived.Test.YtajephbmbdnjpaaRegx13
namespace Go.Proofs.Ytajephbmbdnjpaa.Hand
open Go.RowKit Go.Proofs.YtajephbmbdnjpaaW.PrintWords Go.Proofs.YtajephbmbdnjpaaW.PrintLast Go.Proofs.YtajephbmbdnjpaaW.PrintMore Go.Proofs.Ytajephbmbdnjpaa.Reg
attribute [local go_sem] max2_int min2_int max_two min_two max_three min_three max_four min_four
attribute [local go_sem high] eqA23
set_option linter.unusedVariables false
set_option linter.unusedSimpArgs false

def estoverslaw22_awake.f (k : Nat)  : Option (Bool) := (region_Split.f k 4 6 3 1 2 5 7).bind fun bt188 => ((region_Merge.f k bt188.1 bt188.2.1 bt188.2.2.1 bt188.2.2.2.1 bt188.2.2.2.2.1 bt188.2.2.2.2.2.1 bt188.2.2.2.2.2.2.1 bt188.2.2.2.2.2.2.2.1 bt188.2.2.2.2.2.2.2.2.1 bt188.2.2.2.2.2.2.2.2.2.1 bt188.2.2.2.2.2.2.2.2.2.2.1 bt188.2.2.2.2.2.2.2.2.2.2.2.1).bind fun bt203 => ((region_Cut.f k 4 6 3 1 2 5 5 2).bind fun bt211 => ((region_Split.f k 500 12 1 2 (-1) 0 505).bind fun bt216 => (if bt188.2.2.2.2.2.2.2.2.2.2.2.2 = 0 then (if bt203.2.2.2.2.2.2 = 0 then (if bt211.2 = 0 then (if bt216.2.2.2.2.2.2.2.2.2.2.2.2 = 0 then (if (bt203.1 == 4 && (bt203.2.1 == 6 && (bt203.2.2.1 == 3 && (bt203.2.2.2.1 == 1 && (bt203.2.2.2.2.1 == 2 && (bt203.2.2.2.2.2.1 == 5)))))) = true then ((region_Page.f k 4 6 3 1 2 5 7).bind fun t231 => (if t231 = 8 then ((region_End.f k 4 6 3 1 2 5).bind fun t232 => (if t232 = 10 then ((region_Permits.f k 4 6 3 1 2 5 true).bind fun t233 => (if t233 = true then (if (bt211.1.length : Int) = 2 then (if 1 < (bt211.1.length : Int) then (if (((rd_T23 bt211.1 1).f0) == bt188.2.2.2.2.2.2.1 && (((rd_T23 bt211.1 1).f1) == bt188.2.2.2.2.2.2.2.1 && (((rd_T23 bt211.1 1).f2) == bt188.2.2.2.2.2.2.2.2.1 && (((rd_T23 bt211.1 1).f3) == bt188.2.2.2.2.2.2.2.2.2.1 && (((rd_T23 bt211.1 1).f4) == bt188.2.2.2.2.2.2.2.2.2.2.1 && (((rd_T23 bt211.1 1).f5) == bt188.2.2.2.2.2.2.2.2.2.2.2.1)))))) = true then (if (bt188.2.2.2.2.2.2.1 == 7 && (bt188.2.2.2.2.2.2.2.1 == 3 && (bt188.2.2.2.2.2.2.2.2.1 == 3 && (bt188.2.2.2.2.2.2.2.2.2.1 == 1 && (bt188.2.2.2.2.2.2.2.2.2.2.1 == 2 && (bt188.2.2.2.2.2.2.2.2.2.2.2.1 == 8)))))) = true then (if (bt216.2.2.2.2.2.2.1 == 505 && (bt216.2.2.2.2.2.2.2.1 == 7 && (bt216.2.2.2.2.2.2.2.2.1 == 1 && (bt216.2.2.2.2.2.2.2.2.2.1 == 0 && (bt216.2.2.2.2.2.2.2.2.2.2.1 == (-1) && (bt216.2.2.2.2.2.2.2.2.2.2.2.1 == 0)))))) = true then ((region_Check.f k 0 1 2 0 (-1) 0).bind fun t235 => (if t235 = 1 then ((region_Check.f k 500 13 1 0 (-1) 0).bind fun t236 => (some (t236 == 2))) else (some false))) else (some false)) else (some false)) else (some false)) else (none)) else (some false)) else (some false))) else (some false))) else (some false))) else (some false)) else (some false)) else (some false)) else (some false)) else (some false)))))
def estoverslaw22_awake.T7 : Bool × List (List Nat × List Nat) := (true, [([], []), ([0], [0]), ([1], [1]), ([2], [2]), ([3, 2], [2, 3]), ([2, 4], [2, 4]), ([5, 2], [5]), ([6], [6]), ([7, 6], [6, 7]), ([6, 8], [6, 8]), ([9, 6], [9]), ([10], [10]), ([11, 10], [10, 11]), ([10, 12], [10, 12]), ([13, 10], [13]), ([14], [14]), ([14], [14]), ([15, 16, 14], [14, 15, 16]), ([14, 17], [14, 17]), ([18, 14], [18]), ([19], [19]), ([20, 19, 19], [19, 20]), ([21, 19], [19, 21]), ([19, 22], [19, 22]), ([23, 21], [23]), ([24], [24]), ([25, 24, 24], [24, 25]), ([26, 24], [24, 26]), ([24, 27], [24, 27]), ([28, 26], [28]), ([29], [29]), ([30, 29, 29], [29, 30]), ([29, 31], [29, 31]), ([32, 31], [32]), ([33], [33]), ([34, 33], [33, 34]), ([35, 33], [33, 35]), ([33, 36], [33, 36]), ([37, 33], [37]), ([38], [38]), ([39, 38], [38, 39]), ([40, 38], [38, 40]), ([38], [38]), ([41, 42, 38], [38, 41, 42]), ([38, 43], [38, 43]), ([44, 38], [44]), ([45], [45]), ([45], [45]), ([46, 47, 45], [45, 46, 47]), ([45, 48], [45, 48]), ([49, 45], [49]), ([50], [50]), ([50], [50]), ([51, 52, 50], [50, 51, 52]), ([50, 53], [50, 53]), ([54, 50], [54]), ([55], [55]), ([56, 55, 55], [55, 56]), ([57, 55], [55, 57]), ([55, 58], [55, 58]), ([59, 57], [59]), ([60], [60]), ([61, 60, 60], [60, 61]), ([62, 60], [60, 62]), ([60, 63], [60, 63]), ([64, 62, 0, 1, 2, 3, 4, 5, 6, 7, 8, 9, 10, 11, 12, 13, 14, 15, 16, 17, 18, 19, 20, 21, 22, 23, 24, 25, 26, 27, 28, 29, 30, 31, 32, 33, 34, 35, 36, 37, 38, 39, 40, 41, 42, 43, 44, 45, 46, 47, 48, 49, 50, 51, 52, 53, 54, 55, 56, 57, 58, 59, 60, 61, 62, 63, 64], [64])])
def estoverslaw22_awake.B7 : List Nat := [0, 1, 3, 7, 15, 31, 63, 127, 255, 511, 1023, 2047, 4095, 8191, 16383, 32767, 32767, 131071, 262143, 524287, 1048575, 2097151, 4194303, 8388607, 16777215, 33554431, 67108863, 134217727, 268435455, 536870911, 1073741823, 2147483647, 4294967295, 8589934591, 17179869183, 34359738367, 68719476735, 137438953471, 274877906943, 549755813887, 1099511627775, 2199023255551, 549755813887, 8796093022207, 17592186044415, 35184372088831, 70368744177663, 70368744177663, 281474976710655, 562949953421311, 1125899906842623, 2251799813685247, 2251799813685247, 9007199254740991, 18014398509481983, 36028797018963967, 72057594037927935, 144115188075855871, 288230376151711743, 576460752303423487, 1152921504606846975, 2305843009213693951, 4611686018427387903, 9223372036854775807, 18446744073709551615, 36893488147419103231]
theorem estoverslaw22_awake.tab7 : rtab .any (opsOf Try.f13 7) = estoverslaw22_awake.T7 := by kernel_rfl
theorem estoverslaw22_awake.bits7 : waitsOk estoverslaw22_awake.T7.2 estoverslaw22_awake.B7 = true := by kernel_rfl
set_option maxHeartbeats 8000000 in
set_option maxRecDepth 100000 in
theorem awake_calls (k : Nat) (w : World) (h : estoverslaw22_awake.f k = some true) : Calls Try.prog 13 #[] w fun e w' => e = .returned (.bool true) ∧ Below w.heap.size w w' := by
 have hu23 := Try.underlying23
 have HB := Aside0.mk (Below.refl w.heap.size w)
 have H : ((region_Split.f k 4 6 3 1 2 5 7).bind fun bt188 => ((region_Merge.f k bt188.1 bt188.2.1 bt188.2.2.1 bt188.2.2.2.1 bt188.2.2.2.2.1 bt188.2.2.2.2.2.1 bt188.2.2.2.2.2.2.1 bt188.2.2.2.2.2.2.2.1 bt188.2.2.2.2.2.2.2.2.1 bt188.2.2.2.2.2.2.2.2.2.1 bt188.2.2.2.2.2.2.2.2.2.2.1 bt188.2.2.2.2.2.2.2.2.2.2.2.1).bind fun bt203 => ((region_Cut.f k 4 6 3 1 2 5 5 2).bind fun bt211 => ((region_Split.f k 500 12 1 2 (-1) 0 505).bind fun bt216 => (if bt188.2.2.2.2.2.2.2.2.2.2.2.2 = 0 then (if bt203.2.2.2.2.2.2 = 0 then (if bt211.2 = 0 then (if bt216.2.2.2.2.2.2.2.2.2.2.2.2 = 0 then (if (bt203.1 == 4 && (bt203.2.1 == 6 && (bt203.2.2.1 == 3 && (bt203.2.2.2.1 == 1 && (bt203.2.2.2.2.1 == 2 && (bt203.2.2.2.2.2.1 == 5)))))) = true then ((region_Page.f k 4 6 3 1 2 5 7).bind fun t231 => (if t231 = 8 then ((region_End.f k 4 6 3 1 2 5).bind fun t232 => (if t232 = 10 then ((region_Permits.f k 4 6 3 1 2 5 true).bind fun t233 => (if t233 = true then (if (bt211.1.length : Int) = 2 then (if 1 < (bt211.1.length : Int) then (if (((rd_T23 bt211.1 1).f0) == bt188.2.2.2.2.2.2.1 && (((rd_T23 bt211.1 1).f1) == bt188.2.2.2.2.2.2.2.1 && (((rd_T23 bt211.1 1).f2) == bt188.2.2.2.2.2.2.2.2.1 && (((rd_T23 bt211.1 1).f3) == bt188.2.2.2.2.2.2.2.2.2.1 && (((rd_T23 bt211.1 1).f4) == bt188.2.2.2.2.2.2.2.2.2.2.1 && (((rd_T23 bt211.1 1).f5) == bt188.2.2.2.2.2.2.2.2.2.2.2.1)))))) = true then (if (bt188.2.2.2.2.2.2.1 == 7 && (bt188.2.2.2.2.2.2.2.1 == 3 && (bt188.2.2.2.2.2.2.2.2.1 == 3 && (bt188.2.2.2.2.2.2.2.2.2.1 == 1 && (bt188.2.2.2.2.2.2.2.2.2.2.1 == 2 && (bt188.2.2.2.2.2.2.2.2.2.2.2.1 == 8)))))) = true then (if (bt216.2.2.2.2.2.2.1 == 505 && (bt216.2.2.2.2.2.2.2.1 == 7 && (bt216.2.2.2.2.2.2.2.2.1 == 1 && (bt216.2.2.2.2.2.2.2.2.2.1 == 0 && (bt216.2.2.2.2.2.2.2.2.2.2.1 == (-1) && (bt216.2.2.2.2.2.2.2.2.2.2.2.1 == 0)))))) = true then ((region_Check.f k 0 1 2 0 (-1) 0).bind fun t235 => (if t235 = 1 then ((region_Check.f k 500 13 1 0 (-1) 0).bind fun t236 => (some (t236 == 2))) else (some false))) else (some false)) else (some false)) else (some false)) else (none)) else (some false)) else (some false))) else (some false))) else (some false))) else (some false)) else (some false)) else (some false)) else (some false)) else (some false)))))) = some true := h
 clear h
 replace H := Option.bind_eq_some_iff.mp H
 obtain ⟨⟨t188, t189, t190, t191, t192, t193, t194, t195, t196, t197, t198, t199, t200⟩, A10, H⟩ := H
 replace H : ((region_Merge.f k t188 t189 t190 t191 t192 t193 t194 t195 t196 t197 t198 t199).bind fun bt203 => ((region_Cut.f k 4 6 3 1 2 5 5 2).bind fun bt211 => ((region_Split.f k 500 12 1 2 (-1) 0 505).bind fun bt216 => (if t200 = 0 then (if bt203.2.2.2.2.2.2 = 0 then (if bt211.2 = 0 then (if bt216.2.2.2.2.2.2.2.2.2.2.2.2 = 0 then (if (bt203.1 == 4 && (bt203.2.1 == 6 && (bt203.2.2.1 == 3 && (bt203.2.2.2.1 == 1 && (bt203.2.2.2.2.1 == 2 && (bt203.2.2.2.2.2.1 == 5)))))) = true then ((region_Page.f k 4 6 3 1 2 5 7).bind fun t231 => (if t231 = 8 then ((region_End.f k 4 6 3 1 2 5).bind fun t232 => (if t232 = 10 then ((region_Permits.f k 4 6 3 1 2 5 true).bind fun t233 => (if t233 = true then (if (bt211.1.length : Int) = 2 then (if 1 < (bt211.1.length : Int) then (if (((rd_T23 bt211.1 1).f0) == t194 && (((rd_T23 bt211.1 1).f1) == t195 && (((rd_T23 bt211.1 1).f2) == t196 && (((rd_T23 bt211.1 1).f3) == t197 && (((rd_T23 bt211.1 1).f4) == t198 && (((rd_T23 bt211.1 1).f5) == t199)))))) = true then (if (t194 == 7 && (t195 == 3 && (t196 == 3 && (t197 == 1 && (t198 == 2 && (t199 == 8)))))) = true then (if (bt216.2.2.2.2.2.2.1 == 505 && (bt216.2.2.2.2.2.2.2.1 == 7 && (bt216.2.2.2.2.2.2.2.2.1 == 1 && (bt216.2.2.2.2.2.2.2.2.2.1 == 0 && (bt216.2.2.2.2.2.2.2.2.2.2.1 == (-1) && (bt216.2.2.2.2.2.2.2.2.2.2.2.1 == 0)))))) = true then ((region_Check.f k 0 1 2 0 (-1) 0).bind fun t235 => (if t235 = 1 then ((region_Check.f k 500 13 1 0 (-1) 0).bind fun t236 => (some (t236 == 2))) else (some false))) else (some false)) else (some false)) else (some false)) else (none)) else (some false)) else (some false))) else (some false))) else (some false))) else (some false)) else (some false)) else (some false)) else (some false)) else (some false))))) = some true := H
 have A1 := Aside0.mk A10
 clear A10
 replace H := Option.bind_eq_some_iff.mp H
 obtain ⟨⟨t203, t204, t205, t206, t207, t208, t209⟩, A20, H⟩ := H
 replace H : ((region_Cut.f k 4 6 3 1 2 5 5 2).bind fun bt211 => ((region_Split.f k 500 12 1 2 (-1) 0 505).bind fun bt216 => (if t200 = 0 then (if t209 = 0 then (if bt211.2 = 0 then (if bt216.2.2.2.2.2.2.2.2.2.2.2.2 = 0 then (if (t203 == 4 && (t204 == 6 && (t205 == 3 && (t206 == 1 && (t207 == 2 && (t208 == 5)))))) = true then ((region_Page.f k 4 6 3 1 2 5 7).bind fun t231 => (if t231 = 8 then ((region_End.f k 4 6 3 1 2 5).bind fun t232 => (if t232 = 10 then ((region_Permits.f k 4 6 3 1 2 5 true).bind fun t233 => (if t233 = true then (if (bt211.1.length : Int) = 2 then (if 1 < (bt211.1.length : Int) then (if (((rd_T23 bt211.1 1).f0) == t194 && (((rd_T23 bt211.1 1).f1) == t195 && (((rd_T23 bt211.1 1).f2) == t196 && (((rd_T23 bt211.1 1).f3) == t197 && (((rd_T23 bt211.1 1).f4) == t198 && (((rd_T23 bt211.1 1).f5) == t199)))))) = true then (if (t194 == 7 && (t195 == 3 && (t196 == 3 && (t197 == 1 && (t198 == 2 && (t199 == 8)))))) = true then (if (bt216.2.2.2.2.2.2.1 == 505 && (bt216.2.2.2.2.2.2.2.1 == 7 && (bt216.2.2.2.2.2.2.2.2.1 == 1 && (bt216.2.2.2.2.2.2.2.2.2.1 == 0 && (bt216.2.2.2.2.2.2.2.2.2.2.1 == (-1) && (bt216.2.2.2.2.2.2.2.2.2.2.2.1 == 0)))))) = true then ((region_Check.f k 0 1 2 0 (-1) 0).bind fun t235 => (if t235 = 1 then ((region_Check.f k 500 13 1 0 (-1) 0).bind fun t236 => (some (t236 == 2))) else (some false))) else (some false)) else (some false)) else (some false)) else (none)) else (some false)) else (some false))) else (some false))) else (some false))) else (some false)) else (some false)) else (some false)) else (some false)) else (some false)))) = some true := H
 have A2 := Aside0.mk A20
 clear A20
 replace H := Option.bind_eq_some_iff.mp H
 obtain ⟨⟨t211, t214⟩, A30, H⟩ := H
 replace H : ((region_Split.f k 500 12 1 2 (-1) 0 505).bind fun bt216 => (if t200 = 0 then (if t209 = 0 then (if t214 = 0 then (if bt216.2.2.2.2.2.2.2.2.2.2.2.2 = 0 then (if (t203 == 4 && (t204 == 6 && (t205 == 3 && (t206 == 1 && (t207 == 2 && (t208 == 5)))))) = true then ((region_Page.f k 4 6 3 1 2 5 7).bind fun t231 => (if t231 = 8 then ((region_End.f k 4 6 3 1 2 5).bind fun t232 => (if t232 = 10 then ((region_Permits.f k 4 6 3 1 2 5 true).bind fun t233 => (if t233 = true then (if (t211.length : Int) = 2 then (if 1 < (t211.length : Int) then (if (((rd_T23 t211 1).f0) == t194 && (((rd_T23 t211 1).f1) == t195 && (((rd_T23 t211 1).f2) == t196 && (((rd_T23 t211 1).f3) == t197 && (((rd_T23 t211 1).f4) == t198 && (((rd_T23 t211 1).f5) == t199)))))) = true then (if (t194 == 7 && (t195 == 3 && (t196 == 3 && (t197 == 1 && (t198 == 2 && (t199 == 8)))))) = true then (if (bt216.2.2.2.2.2.2.1 == 505 && (bt216.2.2.2.2.2.2.2.1 == 7 && (bt216.2.2.2.2.2.2.2.2.1 == 1 && (bt216.2.2.2.2.2.2.2.2.2.1 == 0 && (bt216.2.2.2.2.2.2.2.2.2.2.1 == (-1) && (bt216.2.2.2.2.2.2.2.2.2.2.2.1 == 0)))))) = true then ((region_Check.f k 0 1 2 0 (-1) 0).bind fun t235 => (if t235 = 1 then ((region_Check.f k 500 13 1 0 (-1) 0).bind fun t236 => (some (t236 == 2))) else (some false))) else (some false)) else (some false)) else (some false)) else (none)) else (some false)) else (some false))) else (some false))) else (some false))) else (some false)) else (some false)) else (some false)) else (some false)) else (some false))) = some true := H
 have A3 := Aside0.mk A30
 clear A30
 replace H := Option.bind_eq_some_iff.mp H
 obtain ⟨⟨t216, t217, t218, t219, t220, t221, t222, t223, t224, t225, t226, t227, t228⟩, A40, H⟩ := H
 replace H : (if t200 = 0 then (if t209 = 0 then (if t214 = 0 then (if t228 = 0 then (if (t203 == 4 && (t204 == 6 && (t205 == 3 && (t206 == 1 && (t207 == 2 && (t208 == 5)))))) = true then ((region_Page.f k 4 6 3 1 2 5 7).bind fun t231 => (if t231 = 8 then ((region_End.f k 4 6 3 1 2 5).bind fun t232 => (if t232 = 10 then ((region_Permits.f k 4 6 3 1 2 5 true).bind fun t233 => (if t233 = true then (if (t211.length : Int) = 2 then (if 1 < (t211.length : Int) then (if (((rd_T23 t211 1).f0) == t194 && (((rd_T23 t211 1).f1) == t195 && (((rd_T23 t211 1).f2) == t196 && (((rd_T23 t211 1).f3) == t197 && (((rd_T23 t211 1).f4) == t198 && (((rd_T23 t211 1).f5) == t199)))))) = true then (if (t194 == 7 && (t195 == 3 && (t196 == 3 && (t197 == 1 && (t198 == 2 && (t199 == 8)))))) = true then (if (t222 == 505 && (t223 == 7 && (t224 == 1 && (t225 == 0 && (t226 == (-1) && (t227 == 0)))))) = true then ((region_Check.f k 0 1 2 0 (-1) 0).bind fun t235 => (if t235 = 1 then ((region_Check.f k 500 13 1 0 (-1) 0).bind fun t236 => (some (t236 == 2))) else (some false))) else (some false)) else (some false)) else (some false)) else (none)) else (some false)) else (some false))) else (some false))) else (some false))) else (some false)) else (some false)) else (some false)) else (some false)) else (some false)) = some true := H
 have A4 := Aside0.mk A40
 clear A40
 by_cases c5 : t200 = 0
 ·rw [if_pos c5] at H
  have c5b0 : (t200 == 0) = true := beq_iff_eq.mpr c5
  have c5b1 : (t200 != 0) = false := bne_eq_false_iff_eq.mpr c5
  clear c5
  by_cases c6 : t209 = 0
  ·rw [if_pos c6] at H
   have c6b0 : (t209 == 0) = true := beq_iff_eq.mpr c6
   have c6b1 : (t209 != 0) = false := bne_eq_false_iff_eq.mpr c6
   clear c6
   by_cases c7 : t214 = 0
   ·rw [if_pos c7] at H
    have c7b0 : (t214 == 0) = true := beq_iff_eq.mpr c7
    have c7b1 : (t214 != 0) = false := bne_eq_false_iff_eq.mpr c7
    clear c7
    by_cases c8 : t228 = 0
    ·rw [if_pos c8] at H
     have c8b0 : (t228 == 0) = true := beq_iff_eq.mpr c8
     have c8b1 : (t228 != 0) = false := bne_eq_false_iff_eq.mpr c8
     clear c8
     by_cases c9 : (t203 == 4 && (t204 == 6 && (t205 == 3 && (t206 == 1 && (t207 == 2 && (t208 == 5)))))) = true
     ·rw [if_pos c9] at H
      have c9b0 : (t203 == 4 && (t204 == 6 && (t205 == 3 && (t206 == 1 && (t207 == 2 && (t208 == 5)))))) = true := c9
      (try (have c9b1 : decide (t203 = 4 && (t204 == 6 && (t205 == 3 && (t206 == 1 && (t207 == 2 && (t208 == 5)))))) = true := by simpa using c9))
      (try (have c9b2 : (t203 == 4 && (t204 == 6 && (t205 == 3 && (t206 == 1 && (t207 == 2 && (t208 == 5)))))) = true := by simpa using c9))
      clear c9
      replace H := Option.bind_eq_some_iff.mp H
      obtain ⟨t231, A100, H⟩ := H
      replace H : (if t231 = 8 then ((region_End.f k 4 6 3 1 2 5).bind fun t232 => (if t232 = 10 then ((region_Permits.f k 4 6 3 1 2 5 true).bind fun t233 => (if t233 = true then (if (t211.length : Int) = 2 then (if 1 < (t211.length : Int) then (if (((rd_T23 t211 1).f0) == t194 && (((rd_T23 t211 1).f1) == t195 && (((rd_T23 t211 1).f2) == t196 && (((rd_T23 t211 1).f3) == t197 && (((rd_T23 t211 1).f4) == t198 && (((rd_T23 t211 1).f5) == t199)))))) = true then (if (t194 == 7 && (t195 == 3 && (t196 == 3 && (t197 == 1 && (t198 == 2 && (t199 == 8)))))) = true then (if (t222 == 505 && (t223 == 7 && (t224 == 1 && (t225 == 0 && (t226 == (-1) && (t227 == 0)))))) = true then ((region_Check.f k 0 1 2 0 (-1) 0).bind fun t235 => (if t235 = 1 then ((region_Check.f k 500 13 1 0 (-1) 0).bind fun t236 => (some (t236 == 2))) else (some false))) else (some false)) else (some false)) else (some false)) else (none)) else (some false)) else (some false))) else (some false))) else (some false)) = some true := H
      have A10 := Aside0.mk A100
      clear A100
      by_cases c11 : t231 = 8
      ·rw [if_pos c11] at H
       have c11b0 : (t231 == 8) = true := beq_iff_eq.mpr c11
       have c11b1 : (t231 != 8) = false := bne_eq_false_iff_eq.mpr c11
       clear c11
       replace H := Option.bind_eq_some_iff.mp H
       obtain ⟨t232, A120, H⟩ := H
       replace H : (if t232 = 10 then ((region_Permits.f k 4 6 3 1 2 5 true).bind fun t233 => (if t233 = true then (if (t211.length : Int) = 2 then (if 1 < (t211.length : Int) then (if (((rd_T23 t211 1).f0) == t194 && (((rd_T23 t211 1).f1) == t195 && (((rd_T23 t211 1).f2) == t196 && (((rd_T23 t211 1).f3) == t197 && (((rd_T23 t211 1).f4) == t198 && (((rd_T23 t211 1).f5) == t199)))))) = true then (if (t194 == 7 && (t195 == 3 && (t196 == 3 && (t197 == 1 && (t198 == 2 && (t199 == 8)))))) = true then (if (t222 == 505 && (t223 == 7 && (t224 == 1 && (t225 == 0 && (t226 == (-1) && (t227 == 0)))))) = true then ((region_Check.f k 0 1 2 0 (-1) 0).bind fun t235 => (if t235 = 1 then ((region_Check.f k 500 13 1 0 (-1) 0).bind fun t236 => (some (t236 == 2))) else (some false))) else (some false)) else (some false)) else (some false)) else (none)) else (some false)) else (some false))) else (some false)) = some true := H
       have A12 := Aside0.mk A120
       clear A120
       by_cases c13 : t232 = 10
       ·rw [if_pos c13] at H
        have c13b0 : (t232 == 10) = true := beq_iff_eq.mpr c13
        have c13b1 : (t232 != 10) = false := bne_eq_false_iff_eq.mpr c13
        clear c13
        replace H := Option.bind_eq_some_iff.mp H
        obtain ⟨t233, A140, H⟩ := H
        replace H : (if t233 = true then (if (t211.length : Int) = 2 then (if 1 < (t211.length : Int) then (if (((rd_T23 t211 1).f0) == t194 && (((rd_T23 t211 1).f1) == t195 && (((rd_T23 t211 1).f2) == t196 && (((rd_T23 t211 1).f3) == t197 && (((rd_T23 t211 1).f4) == t198 && (((rd_T23 t211 1).f5) == t199)))))) = true then (if (t194 == 7 && (t195 == 3 && (t196 == 3 && (t197 == 1 && (t198 == 2 && (t199 == 8)))))) = true then (if (t222 == 505 && (t223 == 7 && (t224 == 1 && (t225 == 0 && (t226 == (-1) && (t227 == 0)))))) = true then ((region_Check.f k 0 1 2 0 (-1) 0).bind fun t235 => (if t235 = 1 then ((region_Check.f k 500 13 1 0 (-1) 0).bind fun t236 => (some (t236 == 2))) else (some false))) else (some false)) else (some false)) else (some false)) else (none)) else (some false)) else (some false)) = some true := H
        have A14 := Aside0.mk A140
        clear A140
        by_cases c15 : t233 = true
        ·subst c15
         have H1 : (if (t211.length : Int) = 2 then (if 1 < (t211.length : Int) then (if (((rd_T23 t211 1).f0) == t194 && (((rd_T23 t211 1).f1) == t195 && (((rd_T23 t211 1).f2) == t196 && (((rd_T23 t211 1).f3) == t197 && (((rd_T23 t211 1).f4) == t198 && (((rd_T23 t211 1).f5) == t199)))))) = true then (if (t194 == 7 && (t195 == 3 && (t196 == 3 && (t197 == 1 && (t198 == 2 && (t199 == 8)))))) = true then (if (t222 == 505 && (t223 == 7 && (t224 == 1 && (t225 == 0 && (t226 == (-1) && (t227 == 0)))))) = true then ((region_Check.f k 0 1 2 0 (-1) 0).bind fun t235 => (if t235 = 1 then ((region_Check.f k 500 13 1 0 (-1) 0).bind fun t236 => (some (t236 == 2))) else (some false))) else (some false)) else (some false)) else (some false)) else (none)) else (some false)) = some true := by rw [if_pos rfl] at H; exact H
         clear H
         have H := H1
         clear H1
         by_cases c16 : (t211.length : Int) = 2
         ·rw [if_pos c16] at H
          have c16b0 : ((t211.length : Int) == 2) = true := beq_iff_eq.mpr c16
          have c16b1 : ((t211.length : Int) != 2) = false := bne_eq_false_iff_eq.mpr c16
          clear c16
          by_cases c17 : 1 < (t211.length : Int)
          ·rw [if_pos c17] at H
           have c17b0 : decide (1 < (t211.length : Int)) = true := decide_eq_true c17
           have c17b1 : decide (1 < t211.length) = true := decide_eq_true (by omega)
           clear c17
           by_cases c18 : (((rd_T23 t211 1).f0) == t194 && (((rd_T23 t211 1).f1) == t195 && (((rd_T23 t211 1).f2) == t196 && (((rd_T23 t211 1).f3) == t197 && (((rd_T23 t211 1).f4) == t198 && (((rd_T23 t211 1).f5) == t199)))))) = true
           ·rw [if_pos c18] at H
            have c18b0 : (((rd_T23 t211 1).f0) == t194 && (((rd_T23 t211 1).f1) == t195 && (((rd_T23 t211 1).f2) == t196 && (((rd_T23 t211 1).f3) == t197 && (((rd_T23 t211 1).f4) == t198 && (((rd_T23 t211 1).f5) == t199)))))) = true := c18
            (try (have c18b1 : decide (((rd_T23 t211 1).f0) = t194 && (((rd_T23 t211 1).f1) == t195 && (((rd_T23 t211 1).f2) == t196 && (((rd_T23 t211 1).f3) == t197 && (((rd_T23 t211 1).f4) == t198 && (((rd_T23 t211 1).f5) == t199)))))) = true := by simpa using c18))
            (try (have c18b2 : (((rd_T23 t211 1).f0) == t194 && (((rd_T23 t211 1).f1) == t195 && (((rd_T23 t211 1).f2) == t196 && (((rd_T23 t211 1).f3) == t197 && (((rd_T23 t211 1).f4) == t198 && (((rd_T23 t211 1).f5) == t199)))))) = true := by simpa using c18))
            clear c18
            by_cases c19 : (t194 == 7 && (t195 == 3 && (t196 == 3 && (t197 == 1 && (t198 == 2 && (t199 == 8)))))) = true
            ·rw [if_pos c19] at H
             have c19b0 : (t194 == 7 && (t195 == 3 && (t196 == 3 && (t197 == 1 && (t198 == 2 && (t199 == 8)))))) = true := c19
             (try (have c19b1 : decide (t194 = 7 && (t195 == 3 && (t196 == 3 && (t197 == 1 && (t198 == 2 && (t199 == 8)))))) = true := by simpa using c19))
             (try (have c19b2 : (t194 == 7 && (t195 == 3 && (t196 == 3 && (t197 == 1 && (t198 == 2 && (t199 == 8)))))) = true := by simpa using c19))
             clear c19
             by_cases c20 : (t222 == 505 && (t223 == 7 && (t224 == 1 && (t225 == 0 && (t226 == (-1) && (t227 == 0)))))) = true
             ·rw [if_pos c20] at H
              have c20b0 : (t222 == 505 && (t223 == 7 && (t224 == 1 && (t225 == 0 && (t226 == (-1) && (t227 == 0)))))) = true := c20
              (try (have c20b1 : decide (t222 = 505 && (t223 == 7 && (t224 == 1 && (t225 == 0 && (t226 == (-1) && (t227 == 0)))))) = true := by simpa using c20))
              (try (have c20b2 : (t222 == 505 && (t223 == 7 && (t224 == 1 && (t225 == 0 && (t226 == (-1) && (t227 == 0)))))) = true := by simpa using c20))
              clear c20
              replace H := Option.bind_eq_some_iff.mp H
              obtain ⟨t235, A210, H⟩ := H
              replace H : (if t235 = 1 then ((region_Check.f k 500 13 1 0 (-1) 0).bind fun t236 => (some (t236 == 2))) else (some false)) = some true := H
              have A21 := Aside0.mk A210
              clear A210
              by_cases c22 : t235 = 1
              ·rw [if_pos c22] at H
               have c22b0 : (t235 == 1) = true := beq_iff_eq.mpr c22
               have c22b1 : (t235 != 1) = false := bne_eq_false_iff_eq.mpr c22
               clear c22
               replace H := Option.bind_eq_some_iff.mp H
               obtain ⟨t236, A230, H⟩ := H
               replace H : (some (t236 == 2)) = some true := H
               have A23 := Aside0.mk A230
               clear A230
               have hr : (t236 == 2) = true := Option.some.inj H
               go_enter Try.func13, Try.ntmps13
               go_wp2_with (first | (go_at_call 18; (with_reducible refine (region_Split.calls k 4 6 3 1 2 5 7 t188 t189 t190 t191 t192 t193 t194 t195 t196 t197 t198 t199 t200 _ A1.out).mono ?_); rintro e w1 ⟨rfl, hb⟩; have F1 := Aside0.mk (blk_below (blk_new w _) hb); have L1 := Aside0.mk (below_step (below_alloc (Below.refl w.heap.size w) _) hb); clear hb) | (go_at_call 14; (with_reducible refine (region_Merge.calls k t188 t189 t190 t191 t192 t193 t194 t195 t196 t197 t198 t199 t203 t204 t205 t206 t207 t208 t209 _ A2.out).mono ?_); rintro e w2 ⟨rfl, hb⟩; have F2 := Aside0.mk (blk_below (blk_alloc (blk_alloc F1.out _) _) hb); have G2 := Aside0.mk (blk_below (two w1 _ _).1 hb); have M2 := Aside0.mk (blk_below (two w1 _ _).2 hb); have L2 := Aside0.mk (below_step (below_alloc (below_alloc L1.out _) _) hb); clear hb; obtain ⟨r0, r1, r2, r3, r4, r5, s0, s1, s2, s3, s4, s5⟩ := box6 F2.out; have la := blk_lt F2.out) | (go_at_call 20; (with_reducible refine (region_Cut.calls k 4 6 3 1 2 5 5 2 t211 t214 _ A3.out).mono ?_); rintro e w3 ⟨v212, rfl, hR, hb⟩; have F3 := Aside0.mk (blk_below (blk_alloc F2.out _) hb); have G3 := Aside0.mk (blk_below (blk_alloc G2.out _) hb); have M3 := Aside0.mk (blk_below (blk_alloc M2.out _) hb); have D3 := Aside0.mk (blk_below (blk_new w2 _) hb); have L3 := Aside0.mk (below_step (below_alloc L2.out _) hb); have R3 := Aside0.mk hR; clear hb hR r0 r1 r2 r3 r4 r5 s0 s1 s2 s3 s4 s5 la; obtain ⟨r0, r1, r2, r3, r4, r5, s0, s1, s2, s3, s4, s5⟩ := box6 F3.out; have la := blk_lt F3.out))
               refine (region_Split.calls k 500 12 1 2 (-1) 0 505 t216 t217 t218 t219 t220 t221 t222 t223 t224 t225 t226 t227 t228 _ A4.out).mono ?_
               rintro e w4 ⟨rfl, hb⟩
               have F4 := Aside0.mk (blk_below (blk_alloc F3.out _) hb)
               have G4 := Aside0.mk (blk_below (blk_alloc G3.out _) hb)
               have M4 := Aside0.mk (blk_below (blk_alloc M3.out _) hb)
               have D4 := Aside0.mk (blk_below (blk_alloc D3.out _) hb)
               have E4 := Aside0.mk (blk_below (blk_new w3 _) hb)
               have R4 := Aside0.mk (Kd.R_below (Kd.R_alloc R3.out _) hb)
               have L4 := Aside0.mk (below_step (below_alloc L3.out _) hb)
               clear hb r0 r1 r2 r3 r4 r5 s0 s1 s2 s3 s4 s5 la F1 F2 F3 G2 G3 M2 M3 D3 R3 L1 L2 L3
               obtain ⟨A213, c213, hv, _, _⟩ := Kd.R_reads R4.out
               subst hv
               go_wp2_with fail
               have n0_ := Aside0.mk (Kd.R_alloc (Kd.R_alloc R4.out (.cells #[.int .i64 t216, .int .i64 t217, .int .i64 t218, .int .i64 t219, .int .i64 t220, .int .i64 t221] 23)) (.cells #[.int .i64 t222, .int .i64 t223, .int .i64 t224, .int .i64 t225, .int .i64 t226, .int .i64 t227] 23))
               have n1_ := Aside0.mk (blk_alloc (blk_alloc F4.out (.cells #[.int .i64 t216, .int .i64 t217, .int .i64 t218, .int .i64 t219, .int .i64 t220, .int .i64 t221] 23)) (.cells #[.int .i64 t222, .int .i64 t223, .int .i64 t224, .int .i64 t225, .int .i64 t226, .int .i64 t227] 23))
               have n2_ := Aside0.mk (blk_alloc (blk_alloc G4.out (.cells #[.int .i64 t216, .int .i64 t217, .int .i64 t218, .int .i64 t219, .int .i64 t220, .int .i64 t221] 23)) (.cells #[.int .i64 t222, .int .i64 t223, .int .i64 t224, .int .i64 t225, .int .i64 t226, .int .i64 t227] 23))
               have n3_ := Aside0.mk (blk_alloc (blk_alloc M4.out (.cells #[.int .i64 t216, .int .i64 t217, .int .i64 t218, .int .i64 t219, .int .i64 t220, .int .i64 t221] 23)) (.cells #[.int .i64 t222, .int .i64 t223, .int .i64 t224, .int .i64 t225, .int .i64 t226, .int .i64 t227] 23))
               have n4_ := Aside0.mk (blk_alloc (blk_alloc D4.out (.cells #[.int .i64 t216, .int .i64 t217, .int .i64 t218, .int .i64 t219, .int .i64 t220, .int .i64 t221] 23)) (.cells #[.int .i64 t222, .int .i64 t223, .int .i64 t224, .int .i64 t225, .int .i64 t226, .int .i64 t227] 23))
               have n5_ := Aside0.mk (blk_alloc (blk_alloc E4.out (.cells #[.int .i64 t216, .int .i64 t217, .int .i64 t218, .int .i64 t219, .int .i64 t220, .int .i64 t221] 23)) (.cells #[.int .i64 t222, .int .i64 t223, .int .i64 t224, .int .i64 t225, .int .i64 t226, .int .i64 t227] 23))
               have n6_ := Aside0.mk ((two w4 (.cells #[.int .i64 t216, .int .i64 t217, .int .i64 t218, .int .i64 t219, .int .i64 t220, .int .i64 t221] 23) (.cells #[.int .i64 t222, .int .i64 t223, .int .i64 t224, .int .i64 t225, .int .i64 t226, .int .i64 t227] 23)).1)
               have n7_ := Aside0.mk ((two w4 (.cells #[.int .i64 t216, .int .i64 t217, .int .i64 t218, .int .i64 t219, .int .i64 t220, .int .i64 t221] 23) (.cells #[.int .i64 t222, .int .i64 t223, .int .i64 t224, .int .i64 t225, .int .i64 t226, .int .i64 t227] 23)).2)
               have n8_ := Aside0.mk (below_alloc (below_alloc L4.out (.cells #[.int .i64 t216, .int .i64 t217, .int .i64 t218, .int .i64 t219, .int .i64 t220, .int .i64 t221] 23)) (.cells #[.int .i64 t222, .int .i64 t223, .int .i64 t224, .int .i64 t225, .int .i64 t226, .int .i64 t227] 23))
               clear F4 G4 M4 D4 E4 R4 L4
               generalize (w4.alloc (.cells #[.int .i64 t216, .int .i64 t217, .int .i64 t218, .int .i64 t219, .int .i64 t220, .int .i64 t221] 23)).alloc (.cells #[.int .i64 t222, .int .i64 t223, .int .i64 t224, .int .i64 t225, .int .i64 t226, .int .i64 t227] 23) = w64 at n0_ n1_ n2_ n3_ n4_ n5_ n6_ n7_ n8_ ⊢
               have HO213 := n0_
               have BK187 := n1_
               have BK201 := n2_
               have BK202 := n3_
               have BK210 := n4_
               have BK215 := n5_
               have BK229 := n6_
               have BK230 := n7_
               have HB := n8_
               clear n0_ n1_ n2_ n3_ n4_ n5_ n6_ n7_ n8_
               have n0_ := Aside0.mk (Kd.R_drew HO213.out)
               have n1_ := Aside0.mk (blk_drew BK187.out)
               have n2_ := Aside0.mk (blk_drew BK201.out)
               have n3_ := Aside0.mk (blk_drew BK202.out)
               have n4_ := Aside0.mk (blk_drew BK210.out)
               have n5_ := Aside0.mk (blk_drew BK215.out)
               have n6_ := Aside0.mk (blk_drew BK229.out)
               have n7_ := Aside0.mk (blk_drew BK230.out)
               have n8_ := Aside0.mk (below_drew1 HB.out)
               clear HO213
               clear BK187
               clear BK201
               clear BK202
               clear BK210
               clear BK215
               clear BK229
               clear BK230
               clear HB
               have HO213 := n0_
               have BK187 := n1_
               have BK201 := n2_
               have BK202 := n3_
               have BK210 := n4_
               have BK215 := n5_
               have BK229 := n6_
               have BK230 := n7_
               have HB := n8_
               clear n0_ n1_ n2_ n3_ n4_ n5_ n6_ n7_ n8_
               have p234 : 0 ≤ (1 : Int) := (by omega)
               have q234 : 1 < (t211.length : Int) := of_decide_eq_true (by first | (with_reducible assumption) | assumption)
               obtain ⟨ad234, e234, hx234_0, hx234_1, hx234_2, hx234_3, hx234_4, hx234_5⟩ := at_T23 (Kd.R_reads' HO213.out).2.2 1 p234 q234
               cases e234
               (try simp only [show (1 : Int).toNat = 1 from rfl, Nat.reduceMul, Nat.reduceEqDiff, Go.Addr.add, ↓reduceIte] at hx234_0)
               (try simp only [show (1 : Int).toNat = 1 from rfl, Nat.reduceMul, Nat.reduceEqDiff, Go.Addr.add, ↓reduceIte] at hx234_1)
               (try simp only [show (1 : Int).toNat = 1 from rfl, Nat.reduceMul, Nat.reduceEqDiff, Go.Addr.add, ↓reduceIte] at hx234_2)
               (try simp only [show (1 : Int).toNat = 1 from rfl, Nat.reduceMul, Nat.reduceEqDiff, Go.Addr.add, ↓reduceIte] at hx234_3)
               (try simp only [show (1 : Int).toNat = 1 from rfl, Nat.reduceMul, Nat.reduceEqDiff, Go.Addr.add, ↓reduceIte] at hx234_4)
               (try simp only [show (1 : Int).toNat = 1 from rfl, Nat.reduceMul, Nat.reduceEqDiff, Go.Addr.add, ↓reduceIte] at hx234_5)
               have qi234 : (1 < t211.length) = True := eq_true (by omega)
               (try rw [show ((1 : Int)).toNat = 1 from rfl] at hx234_0)
               (try rw [show 1 * 6 = 6 from rfl] at hx234_0)
               (try rw [show ((1 : Int)).toNat = 1 from rfl] at hx234_1)
               (try rw [show 1 * 6 = 6 from rfl] at hx234_1)
               (try rw [show ((1 : Int)).toNat = 1 from rfl] at hx234_2)
               (try rw [show 1 * 6 = 6 from rfl] at hx234_2)
               (try rw [show ((1 : Int)).toNat = 1 from rfl] at hx234_3)
               (try rw [show 1 * 6 = 6 from rfl] at hx234_3)
               (try rw [show ((1 : Int)).toNat = 1 from rfl] at hx234_4)
               (try rw [show 1 * 6 = 6 from rfl] at hx234_4)
               (try rw [show ((1 : Int)).toNat = 1 from rfl] at hx234_5)
               (try rw [show 1 * 6 = 6 from rfl] at hx234_5)
               replace p234 := eq_true p234
               replace q234 := eq_true q234
               refine start_ (n := 66) (S := fun w' => w'.cell? ⟨w2.heap.size, 0, none⟩ = some (.int .i64 t203) ∧ w'.cell? ⟨w2.heap.size, 1, none⟩ = some (.int .i64 t204) ∧ w'.cell? ⟨w2.heap.size, 2, none⟩ = some (.int .i64 t205) ∧ w'.cell? ⟨w2.heap.size, 3, none⟩ = some (.int .i64 t206) ∧ w'.cell? ⟨w2.heap.size, 4, none⟩ = some (.int .i64 t207) ∧ w'.cell? ⟨w2.heap.size, 5, none⟩ = some (.int .i64 t208) ∧ w'.cell? ⟨w.heap.size, 0, none⟩ = some (.int .i64 4) ∧ w'.cell? ⟨w.heap.size, 1, none⟩ = some (.int .i64 6) ∧ w'.cell? ⟨w.heap.size, 2, none⟩ = some (.int .i64 3) ∧ w'.cell? ⟨w.heap.size, 3, none⟩ = some (.int .i64 1) ∧ w'.cell? ⟨w.heap.size, 4, none⟩ = some (.int .i64 2) ∧ w'.cell? ⟨w.heap.size, 5, none⟩ = some (.int .i64 5) ∧ w'.cell? ⟨(w1.heap.size + 1), 0, none⟩ = some (.int .i64 t194) ∧ w'.cell? ⟨(w1.heap.size + 1), 1, none⟩ = some (.int .i64 t195) ∧ w'.cell? ⟨(w1.heap.size + 1), 2, none⟩ = some (.int .i64 t196) ∧ w'.cell? ⟨(w1.heap.size + 1), 3, none⟩ = some (.int .i64 t197) ∧ w'.cell? ⟨(w1.heap.size + 1), 4, none⟩ = some (.int .i64 t198) ∧ w'.cell? ⟨(w1.heap.size + 1), 5, none⟩ = some (.int .i64 t199) ∧ w'.cell? ⟨(w4.heap.size + 1), 0, none⟩ = some (.int .i64 t222) ∧ w'.cell? ⟨(w4.heap.size + 1), 1, none⟩ = some (.int .i64 t223) ∧ w'.cell? ⟨(w4.heap.size + 1), 2, none⟩ = some (.int .i64 t224) ∧ w'.cell? ⟨(w4.heap.size + 1), 3, none⟩ = some (.int .i64 t225) ∧ w'.cell? ⟨(w4.heap.size + 1), 4, none⟩ = some (.int .i64 t226) ∧ w'.cell? ⟨(w4.heap.size + 1), 5, none⟩ = some (.int .i64 t227) ∧ w'.cell? ⟨ad234.block, ad234.off + 6, none⟩ = some (.int .i64 ((rd_T23 t211 1).f0)) ∧ w'.cell? ⟨ad234.block, ad234.off + 6 + 1, none⟩ = some (.int .i64 ((rd_T23 t211 1).f1)) ∧ w'.cell? ⟨ad234.block, ad234.off + 6 + 2, none⟩ = some (.int .i64 ((rd_T23 t211 1).f2)) ∧ w'.cell? ⟨ad234.block, ad234.off + 6 + 3, none⟩ = some (.int .i64 ((rd_T23 t211 1).f3)) ∧ w'.cell? ⟨ad234.block, ad234.off + 6 + 4, none⟩ = some (.int .i64 ((rd_T23 t211 1).f4)) ∧ w'.cell? ⟨ad234.block, ad234.off + 6 + 5, none⟩ = some (.int .i64 ((rd_T23 t211 1).f5))) (ds := []) #[false, false, false, false, false, false, false, false, false, false, false, false, false, false, false, false, false, false, false, false, false, false, false, false, false, false, false, false, false, false, false, false, false, false, false, false, false, false, false, false, false, false, false, false, false, false, false, false, false, false, false, false, false, false, false, false, false, false, false, false, false, false, false, false, false, false] (by kernel_rfl) rfl rfl ⟨(blk_cell BK210.out 0).trans rfl, (blk_cell BK210.out 1).trans rfl, (blk_cell BK210.out 2).trans rfl, (blk_cell BK210.out 3).trans rfl, (blk_cell BK210.out 4).trans rfl, (blk_cell BK210.out 5).trans rfl, (blk_cell BK187.out 0).trans rfl, (blk_cell BK187.out 1).trans rfl, (blk_cell BK187.out 2).trans rfl, (blk_cell BK187.out 3).trans rfl, (blk_cell BK187.out 4).trans rfl, (blk_cell BK187.out 5).trans rfl, (blk_cell BK202.out 0).trans rfl, (blk_cell BK202.out 1).trans rfl, (blk_cell BK202.out 2).trans rfl, (blk_cell BK202.out 3).trans rfl, (blk_cell BK202.out 4).trans rfl, (blk_cell BK202.out 5).trans rfl, (blk_cell BK230.out 0).trans rfl, (blk_cell BK230.out 1).trans rfl, (blk_cell BK230.out 2).trans rfl, (blk_cell BK230.out 3).trans rfl, (blk_cell BK230.out 4).trans rfl, (blk_cell BK230.out 5).trans rfl, hx234_0, hx234_1, hx234_2, hx234_3, hx234_4, hx234_5⟩ (fun hHeld => ?_); refine with_tabW estoverslaw22_awake.tab7 estoverslaw22_awake.bits7 (fun HT_ HW_ => ?_)
               generalize w64.drew = w65 at HO213 BK187 BK201 BK202 BK210 BK215 BK229 BK230 HB hx234_0 hx234_1 hx234_2 hx234_3 hx234_4 hx234_5 hHeld ⊢
               refine pure_ (i := 0) (N := some 38) (v := ?_) (a' := ?_) #[true, false, false, false, false, false, false, false, false, false, false, false, false, false, false, false, false, false, false, false, false, false, false, false, false, false, false, false, false, false, false, false, false, false, false, false, false, false, false, false, false, false, false, false, false, false, false, false, false, false, false, false, false, false, false, false, false, false, false, false, false, false, false, false, false, false] rfl rfl (any_of HT_.out (by kernel_rfl)) (fun _ _ _ h => h) (Or.inl ⟨by rfl, ?_⟩) ?_ ?_
               rotate_left
               ·intro w'
                go_simp
                with_reducible rfl
               rotate_left
               ·simp only [Act.put, List.setIfInBounds_toArray, List.set_cons_zero, List.set_cons_succ, i64_w, i32_w]
                rfl
               refine pure_ (i := 1) (N := some 39) (v := ?_) (a' := ?_) #[true, true, false, false, false, false, false, false, false, false, false, false, false, false, false, false, false, false, false, false, false, false, false, false, false, false, false, false, false, false, false, false, false, false, false, false, false, false, false, false, false, false, false, false, false, false, false, false, false, false, false, false, false, false, false, false, false, false, false, false, false, false, false, false, false, false] rfl rfl (any_of HT_.out (by kernel_rfl)) (fun _ _ _ h => h) (Or.inl ⟨by rfl, ?_⟩) ?_ ?_
               rotate_left
               ·intro w'
                go_simp
                with_reducible rfl
               rotate_left
               ·simp only [Act.put, List.setIfInBounds_toArray, List.set_cons_zero, List.set_cons_succ, i64_w, i32_w]
                rfl
               refine pure_ (i := 2) (N := some 40) (v := ?_) (a' := ?_) #[true, true, true, false, false, false, false, false, false, false, false, false, false, false, false, false, false, false, false, false, false, false, false, false, false, false, false, false, false, false, false, false, false, false, false, false, false, false, false, false, false, false, false, false, false, false, false, false, false, false, false, false, false, false, false, false, false, false, false, false, false, false, false, false, false, false] rfl rfl (any_of HT_.out (by kernel_rfl)) (fun _ _ _ h => h) (Or.inl ⟨by rfl, ?_⟩) ?_ ?_
               rotate_left
               ·intro w'
                go_simp
                with_reducible rfl
               rotate_left
               ·simp only [Act.put, List.setIfInBounds_toArray, List.set_cons_zero, List.set_cons_succ, i64_w, i32_w]
                rfl
               refine pure_ (i := 3) (N := some 41) (v := ?_) (a' := ?_) #[true, true, true, true, false, false, false, false, false, false, false, false, false, false, false, false, false, false, false, false, false, false, false, false, false, false, false, false, false, false, false, false, false, false, false, false, false, false, false, false, false, false, false, false, false, false, false, false, false, false, false, false, false, false, false, false, false, false, false, false, false, false, false, false, false, false] rfl rfl (any_of HT_.out (by kernel_rfl)) (fun _ _ _ h => h) (Or.inl ⟨by rfl, ?_⟩) ?_ ?_
               rotate_left
               ·intro w'
                go_simp
                with_reducible rfl
               rotate_left
               ·simp only [Act.put, List.setIfInBounds_toArray, List.set_cons_zero, List.set_cons_succ, i64_w, i32_w]
                rfl
               refine pure_ (i := 4) (N := some 42) (v := ?_) (a' := ?_) #[true, true, true, true, true, false, false, false, false, false, false, false, false, false, false, false, false, false, false, false, false, false, false, false, false, false, false, false, false, false, false, false, false, false, false, false, false, false, false, false, false, false, false, false, false, false, false, false, false, false, false, false, false, false, false, false, false, false, false, false, false, false, false, false, false, false] rfl rfl (any_of HT_.out (by kernel_rfl)) (fun _ _ _ h => h) (Or.inl ⟨by rfl, ?_⟩) ?_ ?_
               rotate_left
               ·intro w'
                go_simp
                with_reducible rfl
               rotate_left
               ·simp only [Act.put, List.setIfInBounds_toArray, List.set_cons_zero, List.set_cons_succ, i64_w, i32_w]
                rfl
               refine pure_ (i := 5) (N := some 43) (v := ?_) (a' := ?_) #[true, true, true, true, true, true, false, false, false, false, false, false, false, false, false, false, false, false, false, false, false, false, false, false, false, false, false, false, false, false, false, false, false, false, false, false, false, false, false, false, false, false, false, false, false, false, false, false, false, false, false, false, false, false, false, false, false, false, false, false, false, false, false, false, false, false] rfl rfl (any_of HT_.out (by kernel_rfl)) (fun _ _ _ h => h) (Or.inl ⟨by rfl, ?_⟩) ?_ ?_
               rotate_left
               ·intro w'
                go_simp
                with_reducible rfl
               rotate_left
               ·simp only [Act.put, List.setIfInBounds_toArray, List.set_cons_zero, List.set_cons_succ, i64_w, i32_w]
                rfl
               refine pure_ (i := 6) (N := some 44) (v := ?_) (a' := ?_) #[true, true, true, true, true, true, true, false, false, false, false, false, false, false, false, false, false, false, false, false, false, false, false, false, false, false, false, false, false, false, false, false, false, false, false, false, false, false, false, false, false, false, false, false, false, false, false, false, false, false, false, false, false, false, false, false, false, false, false, false, false, false, false, false, false, false] rfl rfl (any_of HT_.out (by kernel_rfl)) (fun _ _ _ h => h) (Or.inl ⟨by rfl, ?_⟩) ?_ ?_
               rotate_left
               ·intro w'
                go_simp
                with_reducible rfl
               rotate_left
               ·simp only [Act.put, List.setIfInBounds_toArray, List.set_cons_zero, List.set_cons_succ, i64_w, i32_w]
                rfl
               refine pure_ (i := 7) (N := some 45) (v := ?_) (a' := ?_) #[true, true, true, true, true, true, true, true, false, false, false, false, false, false, false, false, false, false, false, false, false, false, false, false, false, false, false, false, false, false, false, false, false, false, false, false, false, false, false, false, false, false, false, false, false, false, false, false, false, false, false, false, false, false, false, false, false, false, false, false, false, false, false, false, false, false] rfl rfl (any_of HT_.out (by kernel_rfl)) (fun _ _ _ h => h) (Or.inl ⟨by rfl, ?_⟩) ?_ ?_
               rotate_left
               ·intro w'
                go_simp
                with_reducible rfl
               rotate_left
               ·simp only [Act.put, List.setIfInBounds_toArray, List.set_cons_zero, List.set_cons_succ, i64_w, i32_w]
                rfl
               refine pure_ (i := 8) (N := some 46) (v := ?_) (a' := ?_) #[true, true, true, true, true, true, true, true, true, false, false, false, false, false, false, false, false, false, false, false, false, false, false, false, false, false, false, false, false, false, false, false, false, false, false, false, false, false, false, false, false, false, false, false, false, false, false, false, false, false, false, false, false, false, false, false, false, false, false, false, false, false, false, false, false, false] rfl rfl (any_of HT_.out (by kernel_rfl)) (fun _ _ _ h => h) (Or.inl ⟨by rfl, ?_⟩) ?_ ?_
               rotate_left
               ·intro w'
                go_simp
                with_reducible rfl
               rotate_left
               ·simp only [Act.put, List.setIfInBounds_toArray, List.set_cons_zero, List.set_cons_succ, i64_w, i32_w]
                rfl
               refine pure_ (i := 9) (N := some 47) (v := ?_) (a' := ?_) #[true, true, true, true, true, true, true, true, true, true, false, false, false, false, false, false, false, false, false, false, false, false, false, false, false, false, false, false, false, false, false, false, false, false, false, false, false, false, false, false, false, false, false, false, false, false, false, false, false, false, false, false, false, false, false, false, false, false, false, false, false, false, false, false, false, false] rfl rfl (any_of HT_.out (by kernel_rfl)) (fun _ _ _ h => h) (Or.inl ⟨by rfl, ?_⟩) ?_ ?_
               rotate_left
               ·intro w'
                go_simp
                with_reducible rfl
               rotate_left
               ·simp only [Act.put, List.setIfInBounds_toArray, List.set_cons_zero, List.set_cons_succ, i64_w, i32_w]
                rfl
               refine pure_ (i := 10) (N := some 48) (v := ?_) (a' := ?_) #[true, true, true, true, true, true, true, true, true, true, true, false, false, false, false, false, false, false, false, false, false, false, false, false, false, false, false, false, false, false, false, false, false, false, false, false, false, false, false, false, false, false, false, false, false, false, false, false, false, false, false, false, false, false, false, false, false, false, false, false, false, false, false, false, false, false] rfl rfl (any_of HT_.out (by kernel_rfl)) (fun _ _ _ h => h) (Or.inl ⟨by rfl, ?_⟩) ?_ ?_
               rotate_left
               ·intro w'
                go_simp
                with_reducible rfl
               rotate_left
               ·simp only [Act.put, List.setIfInBounds_toArray, List.set_cons_zero, List.set_cons_succ, i64_w, i32_w]
                rfl
               refine pure_ (i := 11) (N := some 49) (v := ?_) (a' := ?_) #[true, true, true, true, true, true, true, true, true, true, true, true, false, false, false, false, false, false, false, false, false, false, false, false, false, false, false, false, false, false, false, false, false, false, false, false, false, false, false, false, false, false, false, false, false, false, false, false, false, false, false, false, false, false, false, false, false, false, false, false, false, false, false, false, false, false] rfl rfl (any_of HT_.out (by kernel_rfl)) (fun _ _ _ h => h) (Or.inl ⟨by rfl, ?_⟩) ?_ ?_
               rotate_left
               ·intro w'
                go_simp
                with_reducible rfl
               rotate_left
               ·simp only [Act.put, List.setIfInBounds_toArray, List.set_cons_zero, List.set_cons_succ, i64_w, i32_w]
                rfl
               refine pure_ (i := 12) (N := some 50) (v := ?_) (a' := ?_) #[true, true, true, true, true, true, true, true, true, true, true, true, true, false, false, false, false, false, false, false, false, false, false, false, false, false, false, false, false, false, false, false, false, false, false, false, false, false, false, false, false, false, false, false, false, false, false, false, false, false, false, false, false, false, false, false, false, false, false, false, false, false, false, false, false, false] rfl rfl (any_of HT_.out (by kernel_rfl)) (fun _ _ _ h => h) (Or.inl ⟨by rfl, ?_⟩) ?_ ?_
               rotate_left
               ·intro w'
                go_simp
                with_reducible rfl
               rotate_left
               ·simp only [Act.put, List.setIfInBounds_toArray, List.set_cons_zero, List.set_cons_succ, i64_w, i32_w]
                rfl
               refine pure_ (i := 13) (N := some 51) (v := ?_) (a' := ?_) #[true, true, true, true, true, true, true, true, true, true, true, true, true, true, false, false, false, false, false, false, false, false, false, false, false, false, false, false, false, false, false, false, false, false, false, false, false, false, false, false, false, false, false, false, false, false, false, false, false, false, false, false, false, false, false, false, false, false, false, false, false, false, false, false, false, false] rfl rfl (any_of HT_.out (by kernel_rfl)) (fun _ _ _ h => h) (Or.inl ⟨by rfl, ?_⟩) ?_ ?_
               rotate_left
               ·intro w'
                go_simp
                with_reducible rfl
               rotate_left
               ·simp only [Act.put, List.setIfInBounds_toArray, List.set_cons_zero, List.set_cons_succ, i64_w, i32_w]
                rfl
               refine pure_ (i := 14) (N := some 52) (v := ?_) (a' := ?_) #[true, true, true, true, true, true, true, true, true, true, true, true, true, true, true, false, false, false, false, false, false, false, false, false, false, false, false, false, false, false, false, false, false, false, false, false, false, false, false, false, false, false, false, false, false, false, false, false, false, false, false, false, false, false, false, false, false, false, false, false, false, false, false, false, false, false] rfl rfl (any_of HT_.out (by kernel_rfl)) (fun _ _ _ h => h) (Or.inl ⟨by rfl, ?_⟩) ?_ ?_
               rotate_left
               ·intro w'
                go_simp
                with_reducible rfl
               rotate_left
               ·simp only [Act.put, List.setIfInBounds_toArray, List.set_cons_zero, List.set_cons_succ, i64_w, i32_w]
                rfl
               refine take_ (i := 15) (N := some 53) (v := ?_) (a' := ?_) #[true, true, true, true, true, true, true, true, true, true, true, true, true, true, true, true, false, false, false, false, false, false, false, false, false, false, false, false, false, false, false, false, false, false, false, false, false, false, false, false, false, false, false, false, false, false, false, false, false, false, false, false, false, false, false, false, false, false, false, false, false, false, false, false, false, false] rfl rfl (take_ofW HT_.out HW_.out (by kernel_rfl)) (fun _ _ _ h => h) (Or.inl ⟨by rfl, ?_⟩) hHeld ?_ ?_
               rotate_left
               ·rintro w' ⟨s0, s1, s2, s3, s4, s5, s6, s7, s8, s9, s10, s11, s12, s13, s14, s15, s16, s17, s18, s19, s20, s21, s22, s23, s24, s25, s26, s27, s28, s29⟩
                go_simp
                with_reducible rfl
               rotate_left
               ·simp only [Act.put, List.setIfInBounds_toArray, List.set_cons_zero, List.set_cons_succ, i64_w, i32_w]
                rfl
               refine take_ (i := 16) (N := some 54) (v := ?_) (a' := ?_) #[true, true, true, true, true, true, true, true, true, true, true, true, true, true, true, true, true, false, false, false, false, false, false, false, false, false, false, false, false, false, false, false, false, false, false, false, false, false, false, false, false, false, false, false, false, false, false, false, false, false, false, false, false, false, false, false, false, false, false, false, false, false, false, false, false, false] rfl rfl (take_ofW HT_.out HW_.out (by kernel_rfl)) (fun _ _ _ h => h) (Or.inl ⟨by rfl, ?_⟩) hHeld ?_ ?_
               rotate_left
               ·rintro w' ⟨s0, s1, s2, s3, s4, s5, s6, s7, s8, s9, s10, s11, s12, s13, s14, s15, s16, s17, s18, s19, s20, s21, s22, s23, s24, s25, s26, s27, s28, s29⟩
                go_simp
                with_reducible rfl
               rotate_left
               ·simp only [Act.put, List.setIfInBounds_toArray, List.set_cons_zero, List.set_cons_succ, i64_w, i32_w]
                rfl
               refine pure_ (i := 17) (N := some 55) (v := ?_) (a' := ?_) #[true, true, true, true, true, true, true, true, true, true, true, true, true, true, true, true, true, true, false, false, false, false, false, false, false, false, false, false, false, false, false, false, false, false, false, false, false, false, false, false, false, false, false, false, false, false, false, false, false, false, false, false, false, false, false, false, false, false, false, false, false, false, false, false, false, false] rfl rfl (any_of HT_.out (by kernel_rfl)) (fun _ _ _ h => h) (Or.inl ⟨by rfl, ?_⟩) ?_ ?_
               rotate_left
               ·intro w'
                go_simp
                with_reducible rfl
               rotate_left
               ·simp only [Act.put, List.setIfInBounds_toArray, List.set_cons_zero, List.set_cons_succ, i64_w, i32_w]
                rfl
               refine pure_ (i := 18) (N := some 56) (v := ?_) (a' := ?_) #[true, true, true, true, true, true, true, true, true, true, true, true, true, true, true, true, true, true, true, false, false, false, false, false, false, false, false, false, false, false, false, false, false, false, false, false, false, false, false, false, false, false, false, false, false, false, false, false, false, false, false, false, false, false, false, false, false, false, false, false, false, false, false, false, false, false] rfl rfl (any_of HT_.out (by kernel_rfl)) (fun _ _ _ h => h) (Or.inl ⟨by rfl, ?_⟩) ?_ ?_
               rotate_left
               ·intro w'
                go_simp
                with_reducible rfl
               rotate_left
               ·simp only [Act.put, List.setIfInBounds_toArray, List.set_cons_zero, List.set_cons_succ, i64_w, i32_w]
                rfl
               refine pure_ (i := 19) (N := some 57) (v := ?_) (a' := ?_) #[true, true, true, true, true, true, true, true, true, true, true, true, true, true, true, true, true, true, true, true, false, false, false, false, false, false, false, false, false, false, false, false, false, false, false, false, false, false, false, false, false, false, false, false, false, false, false, false, false, false, false, false, false, false, false, false, false, false, false, false, false, false, false, false, false, false] rfl rfl (any_of HT_.out (by kernel_rfl)) (fun _ _ _ h => h) (Or.inl ⟨by rfl, ?_⟩) ?_ ?_
               rotate_left
               ·intro w'
                go_simp
                with_reducible rfl
               rotate_left
               ·simp only [Act.put, List.setIfInBounds_toArray, List.set_cons_zero, List.set_cons_succ, i64_w, i32_w]
                rfl
               refine take_ (i := 20) (N := some 58) (v := ?_) (a' := ?_) #[true, true, true, true, true, true, true, true, true, true, true, true, true, true, true, true, true, true, true, true, true, false, false, false, false, false, false, false, false, false, false, false, false, false, false, false, false, false, false, false, false, false, false, false, false, false, false, false, false, false, false, false, false, false, false, false, false, false, false, false, false, false, false, false, false, false] rfl rfl (take_ofW HT_.out HW_.out (by kernel_rfl)) (fun _ _ _ h => h) (Or.inl ⟨by rfl, ?_⟩) hHeld ?_ ?_
               rotate_left
               ·rintro w' ⟨s0, s1, s2, s3, s4, s5, s6, s7, s8, s9, s10, s11, s12, s13, s14, s15, s16, s17, s18, s19, s20, s21, s22, s23, s24, s25, s26, s27, s28, s29⟩
                go_simp
                with_reducible rfl
               rotate_left
               ·simp only [Act.put, List.setIfInBounds_toArray, List.set_cons_zero, List.set_cons_succ, i64_w, i32_w]
                rfl
               refine one_ (i := 21) (N := some 59) #[true, true, true, true, true, true, true, true, true, true, true, true, true, true, true, true, true, true, true, true, true, true, false, false, false, false, false, false, false, false, false, false, false, false, false, false, false, false, false, false, false, false, false, false, false, false, false, false, false, false, false, false, false, false, false, false, false, false, false, false, false, false, false, false, false, false] rfl rfl (one_of HT_.out (by kernel_rfl)) (by decide) (fun K hK => ?_)
               refine goes_ Try.func24 (by kernel_rfl) rfl #[.agg #[.int .i64 4, .int .i64 6, .int .i64 3, .int .i64 1, .int .i64 2, .int .i64 5], .int .i64 7] (by rfl) rfl rfl (by (try simp only [List.map_toArray, List.map_cons, List.map_nil]); first | done | rfl | (simp only [List.length_drop, List.length_take]; rfl)) ?_
               with_reducible refine (region_Page.calls k 4 6 3 1 2 5 7 t231 _ A10.out).mono ?_
               rintro e w66 ⟨rfl, hb⟩
               have HS24_ := (hb.cell (World.block_lt_of_cell? _ _ (hHeld.2.2.2.2.2.2.2.2.2.2.2.2.2.2.2.2.2.2.2.2.2.2.2.2.1))).trans (hHeld.2.2.2.2.2.2.2.2.2.2.2.2.2.2.2.2.2.2.2.2.2.2.2.2.1)
               have HS25_ := (hb.cell (World.block_lt_of_cell? _ _ (hHeld.2.2.2.2.2.2.2.2.2.2.2.2.2.2.2.2.2.2.2.2.2.2.2.2.2.1))).trans (hHeld.2.2.2.2.2.2.2.2.2.2.2.2.2.2.2.2.2.2.2.2.2.2.2.2.2.1)
               have HS26_ := (hb.cell (World.block_lt_of_cell? _ _ (hHeld.2.2.2.2.2.2.2.2.2.2.2.2.2.2.2.2.2.2.2.2.2.2.2.2.2.2.1))).trans (hHeld.2.2.2.2.2.2.2.2.2.2.2.2.2.2.2.2.2.2.2.2.2.2.2.2.2.2.1)
               have HS27_ := (hb.cell (World.block_lt_of_cell? _ _ (hHeld.2.2.2.2.2.2.2.2.2.2.2.2.2.2.2.2.2.2.2.2.2.2.2.2.2.2.2.1))).trans (hHeld.2.2.2.2.2.2.2.2.2.2.2.2.2.2.2.2.2.2.2.2.2.2.2.2.2.2.2.1)
               have HS28_ := (hb.cell (World.block_lt_of_cell? _ _ (hHeld.2.2.2.2.2.2.2.2.2.2.2.2.2.2.2.2.2.2.2.2.2.2.2.2.2.2.2.2.1))).trans (hHeld.2.2.2.2.2.2.2.2.2.2.2.2.2.2.2.2.2.2.2.2.2.2.2.2.2.2.2.2.1)
               have HS29_ := (hb.cell (World.block_lt_of_cell? _ _ (hHeld.2.2.2.2.2.2.2.2.2.2.2.2.2.2.2.2.2.2.2.2.2.2.2.2.2.2.2.2.2))).trans (hHeld.2.2.2.2.2.2.2.2.2.2.2.2.2.2.2.2.2.2.2.2.2.2.2.2.2.2.2.2.2)
               refine ⟨_, rfl, ?_⟩
               have n0_ := Aside0.mk (Kd.R_below (by (with_reducible repeat (first | apply Kd.R_alloc | apply Kd.R_drewN | apply Kd.R_drew)); exact HO213.out) hb)
               have n1_ := Aside0.mk (blk_below (g := w.heap.size) (by (with_reducible repeat (first | refine blk_drewN ?_ _ | refine blk_drew ?_ | refine blk_alloc ?_ _)); exact BK187.out) hb)
               have n2_ := Aside0.mk (blk_below (g := w1.heap.size) (by (with_reducible repeat (first | refine blk_drewN ?_ _ | refine blk_drew ?_ | refine blk_alloc ?_ _)); exact BK201.out) hb)
               have n3_ := Aside0.mk (blk_below (g := (w1.heap.size + 1)) (by (with_reducible repeat (first | refine blk_drewN ?_ _ | refine blk_drew ?_ | refine blk_alloc ?_ _)); exact BK202.out) hb)
               have n4_ := Aside0.mk (blk_below (g := w2.heap.size) (by (with_reducible repeat (first | refine blk_drewN ?_ _ | refine blk_drew ?_ | refine blk_alloc ?_ _)); exact BK210.out) hb)
               have n5_ := Aside0.mk (blk_below (g := w3.heap.size) (by (with_reducible repeat (first | refine blk_drewN ?_ _ | refine blk_drew ?_ | refine blk_alloc ?_ _)); exact BK215.out) hb)
               have n6_ := Aside0.mk (blk_below (g := w4.heap.size) (by (with_reducible repeat (first | refine blk_drewN ?_ _ | refine blk_drew ?_ | refine blk_alloc ?_ _)); exact BK229.out) hb)
               have n7_ := Aside0.mk (blk_below (g := (w4.heap.size + 1)) (by (with_reducible repeat (first | refine blk_drewN ?_ _ | refine blk_drew ?_ | refine blk_alloc ?_ _)); exact BK230.out) hb)
               have n8_ := Aside0.mk (below_step (by repeat (first | (with_reducible first | exact HB.out | apply below_alloc | apply pw_below_drewN | apply below_drew1 | refine below_set ?_ GE187.out | refine below_set ?_ GE201.out | refine below_set ?_ GE202.out | refine below_set ?_ GE210.out | refine below_set ?_ GE215.out | refine below_set ?_ GE229.out | refine below_set ?_ GE230.out) | exact HB.out)) hb)
               clear HO213
               clear BK187
               clear BK201
               clear BK202
               clear BK210
               clear BK215
               clear BK229
               clear BK230
               clear HB
               have HO213 := n0_
               have BK187 := n1_
               have BK201 := n2_
               have BK202 := n3_
               have BK210 := n4_
               have BK215 := n5_
               have BK229 := n6_
               have BK230 := n7_
               have HB := n8_
               clear n0_ n1_ n2_ n3_ n4_ n5_ n6_ n7_ n8_
               (try clear hb)
               (try clear hb2)
               (try clear hk)
               (try clear hi)
               refine hK.out _ _ ⟨(blk_cell BK210.out 0).trans rfl, (blk_cell BK210.out 1).trans rfl, (blk_cell BK210.out 2).trans rfl, (blk_cell BK210.out 3).trans rfl, (blk_cell BK210.out 4).trans rfl, (blk_cell BK210.out 5).trans rfl, (blk_cell BK187.out 0).trans rfl, (blk_cell BK187.out 1).trans rfl, (blk_cell BK187.out 2).trans rfl, (blk_cell BK187.out 3).trans rfl, (blk_cell BK187.out 4).trans rfl, (blk_cell BK187.out 5).trans rfl, (blk_cell BK202.out 0).trans rfl, (blk_cell BK202.out 1).trans rfl, (blk_cell BK202.out 2).trans rfl, (blk_cell BK202.out 3).trans rfl, (blk_cell BK202.out 4).trans rfl, (blk_cell BK202.out 5).trans rfl, (blk_cell BK230.out 0).trans rfl, (blk_cell BK230.out 1).trans rfl, (blk_cell BK230.out 2).trans rfl, (blk_cell BK230.out 3).trans rfl, (blk_cell BK230.out 4).trans rfl, (blk_cell BK230.out 5).trans rfl, HS24_, HS25_, HS26_, HS27_, HS28_, HS29_⟩ (fun hHeld => ?_)
               clear hK K
               refine norm_ (a' := ?_) ?_ ?_
               rotate_left
               ·show Act.put _ (some 59) _ = _
                simp only [Act.put, List.setIfInBounds_toArray, List.set_cons_zero, List.set_cons_succ, i64_w, i32_w]
                rfl
               refine pure_ (i := 22) (N := some 60) (v := ?_) (a' := ?_) #[true, true, true, true, true, true, true, true, true, true, true, true, true, true, true, true, true, true, true, true, true, true, true, false, false, false, false, false, false, false, false, false, false, false, false, false, false, false, false, false, false, false, false, false, false, false, false, false, false, false, false, false, false, false, false, false, false, false, false, false, false, false, false, false, false, false] rfl rfl (any_of HT_.out (by kernel_rfl)) (fun _ _ _ h => h) (Or.inl ⟨by rfl, ?_⟩) ?_ ?_
               rotate_left
               ·intro w'
                go_simp
                with_reducible rfl
               rotate_left
               ·simp only [Act.put, List.setIfInBounds_toArray, List.set_cons_zero, List.set_cons_succ, i64_w, i32_w]
                rfl
               refine pure_ (i := 23) (N := some 61) (v := ?_) (a' := ?_) #[true, true, true, true, true, true, true, true, true, true, true, true, true, true, true, true, true, true, true, true, true, true, true, true, false, false, false, false, false, false, false, false, false, false, false, false, false, false, false, false, false, false, false, false, false, false, false, false, false, false, false, false, false, false, false, false, false, false, false, false, false, false, false, false, false, false] rfl rfl (any_of HT_.out (by kernel_rfl)) (fun _ _ _ h => h) (Or.inl ⟨by rfl, ?_⟩) ?_ ?_
               rotate_left
               ·intro w'
                go_simp
                with_reducible rfl
               rotate_left
               ·simp only [Act.put, List.setIfInBounds_toArray, List.set_cons_zero, List.set_cons_succ, i64_w, i32_w]
                rfl
               refine pure_ (i := 24) (N := some 62) (v := ?_) (a' := ?_) #[true, true, true, true, true, true, true, true, true, true, true, true, true, true, true, true, true, true, true, true, true, true, true, true, true, false, false, false, false, false, false, false, false, false, false, false, false, false, false, false, false, false, false, false, false, false, false, false, false, false, false, false, false, false, false, false, false, false, false, false, false, false, false, false, false, false] rfl rfl (any_of HT_.out (by kernel_rfl)) (fun _ _ _ h => h) (Or.inl ⟨by rfl, ?_⟩) ?_ ?_
               rotate_left
               ·intro w'
                go_simp
                with_reducible rfl
               rotate_left
               ·simp only [Act.put, List.setIfInBounds_toArray, List.set_cons_zero, List.set_cons_succ, i64_w, i32_w]
                rfl
               refine take_ (i := 25) (N := some 63) (v := ?_) (a' := ?_) #[true, true, true, true, true, true, true, true, true, true, true, true, true, true, true, true, true, true, true, true, true, true, true, true, true, true, false, false, false, false, false, false, false, false, false, false, false, false, false, false, false, false, false, false, false, false, false, false, false, false, false, false, false, false, false, false, false, false, false, false, false, false, false, false, false, false] rfl rfl (take_ofW HT_.out HW_.out (by kernel_rfl)) (fun _ _ _ h => h) (Or.inl ⟨by rfl, ?_⟩) hHeld ?_ ?_
               rotate_left
               ·rintro w' ⟨s0, s1, s2, s3, s4, s5, s6, s7, s8, s9, s10, s11, s12, s13, s14, s15, s16, s17, s18, s19, s20, s21, s22, s23, s24, s25, s26, s27, s28, s29⟩
                go_simp
                with_reducible rfl
               rotate_left
               ·simp only [Act.put, List.setIfInBounds_toArray, List.set_cons_zero, List.set_cons_succ, i64_w, i32_w]
                rfl
               refine one_ (i := 26) (N := some 64) #[true, true, true, true, true, true, true, true, true, true, true, true, true, true, true, true, true, true, true, true, true, true, true, true, true, true, true, false, false, false, false, false, false, false, false, false, false, false, false, false, false, false, false, false, false, false, false, false, false, false, false, false, false, false, false, false, false, false, false, false, false, false, false, false, false, false] rfl rfl (one_of HT_.out (by kernel_rfl)) (by decide) (fun K hK => ?_)
               refine goes_ Try.func27 (by kernel_rfl) rfl #[.agg #[.int .i64 4, .int .i64 6, .int .i64 3, .int .i64 1, .int .i64 2, .int .i64 5]] (by rfl) rfl rfl (by (try simp only [List.map_toArray, List.map_cons, List.map_nil]); first | done | rfl | (simp only [List.length_drop, List.length_take]; rfl)) ?_
               with_reducible refine (region_End.calls k 4 6 3 1 2 5 t232 _ A12.out).mono ?_
               rintro e w67 ⟨rfl, hb⟩
               have HS24_ := (hb.cell (World.block_lt_of_cell? _ _ (hHeld.2.2.2.2.2.2.2.2.2.2.2.2.2.2.2.2.2.2.2.2.2.2.2.2.1))).trans (hHeld.2.2.2.2.2.2.2.2.2.2.2.2.2.2.2.2.2.2.2.2.2.2.2.2.1)
               have HS25_ := (hb.cell (World.block_lt_of_cell? _ _ (hHeld.2.2.2.2.2.2.2.2.2.2.2.2.2.2.2.2.2.2.2.2.2.2.2.2.2.1))).trans (hHeld.2.2.2.2.2.2.2.2.2.2.2.2.2.2.2.2.2.2.2.2.2.2.2.2.2.1)
               have HS26_ := (hb.cell (World.block_lt_of_cell? _ _ (hHeld.2.2.2.2.2.2.2.2.2.2.2.2.2.2.2.2.2.2.2.2.2.2.2.2.2.2.1))).trans (hHeld.2.2.2.2.2.2.2.2.2.2.2.2.2.2.2.2.2.2.2.2.2.2.2.2.2.2.1)
               have HS27_ := (hb.cell (World.block_lt_of_cell? _ _ (hHeld.2.2.2.2.2.2.2.2.2.2.2.2.2.2.2.2.2.2.2.2.2.2.2.2.2.2.2.1))).trans (hHeld.2.2.2.2.2.2.2.2.2.2.2.2.2.2.2.2.2.2.2.2.2.2.2.2.2.2.2.1)
               have HS28_ := (hb.cell (World.block_lt_of_cell? _ _ (hHeld.2.2.2.2.2.2.2.2.2.2.2.2.2.2.2.2.2.2.2.2.2.2.2.2.2.2.2.2.1))).trans (hHeld.2.2.2.2.2.2.2.2.2.2.2.2.2.2.2.2.2.2.2.2.2.2.2.2.2.2.2.2.1)
               have HS29_ := (hb.cell (World.block_lt_of_cell? _ _ (hHeld.2.2.2.2.2.2.2.2.2.2.2.2.2.2.2.2.2.2.2.2.2.2.2.2.2.2.2.2.2))).trans (hHeld.2.2.2.2.2.2.2.2.2.2.2.2.2.2.2.2.2.2.2.2.2.2.2.2.2.2.2.2.2)
               refine ⟨_, rfl, ?_⟩
               have n0_ := Aside0.mk (Kd.R_below (by (with_reducible repeat (first | apply Kd.R_alloc | apply Kd.R_drewN | apply Kd.R_drew)); exact HO213.out) hb)
               have n1_ := Aside0.mk (blk_below (g := w.heap.size) (by (with_reducible repeat (first | refine blk_drewN ?_ _ | refine blk_drew ?_ | refine blk_alloc ?_ _)); exact BK187.out) hb)
               have n2_ := Aside0.mk (blk_below (g := w1.heap.size) (by (with_reducible repeat (first | refine blk_drewN ?_ _ | refine blk_drew ?_ | refine blk_alloc ?_ _)); exact BK201.out) hb)
               have n3_ := Aside0.mk (blk_below (g := (w1.heap.size + 1)) (by (with_reducible repeat (first | refine blk_drewN ?_ _ | refine blk_drew ?_ | refine blk_alloc ?_ _)); exact BK202.out) hb)
               have n4_ := Aside0.mk (blk_below (g := w2.heap.size) (by (with_reducible repeat (first | refine blk_drewN ?_ _ | refine blk_drew ?_ | refine blk_alloc ?_ _)); exact BK210.out) hb)
               have n5_ := Aside0.mk (blk_below (g := w3.heap.size) (by (with_reducible repeat (first | refine blk_drewN ?_ _ | refine blk_drew ?_ | refine blk_alloc ?_ _)); exact BK215.out) hb)
               have n6_ := Aside0.mk (blk_below (g := w4.heap.size) (by (with_reducible repeat (first | refine blk_drewN ?_ _ | refine blk_drew ?_ | refine blk_alloc ?_ _)); exact BK229.out) hb)
               have n7_ := Aside0.mk (blk_below (g := (w4.heap.size + 1)) (by (with_reducible repeat (first | refine blk_drewN ?_ _ | refine blk_drew ?_ | refine blk_alloc ?_ _)); exact BK230.out) hb)
               have n8_ := Aside0.mk (below_step (by repeat (first | (with_reducible first | exact HB.out | apply below_alloc | apply pw_below_drewN | apply below_drew1 | refine below_set ?_ GE187.out | refine below_set ?_ GE201.out | refine below_set ?_ GE202.out | refine below_set ?_ GE210.out | refine below_set ?_ GE215.out | refine below_set ?_ GE229.out | refine below_set ?_ GE230.out) | exact HB.out)) hb)
               clear HO213
               clear BK187
               clear BK201
               clear BK202
               clear BK210
               clear BK215
               clear BK229
               clear BK230
               clear HB
               have HO213 := n0_
               have BK187 := n1_
               have BK201 := n2_
               have BK202 := n3_
               have BK210 := n4_
               have BK215 := n5_
               have BK229 := n6_
               have BK230 := n7_
               have HB := n8_
               clear n0_ n1_ n2_ n3_ n4_ n5_ n6_ n7_ n8_
               (try clear hb)
               (try clear hb2)
               (try clear hk)
               (try clear hi)
               refine hK.out _ _ ⟨(blk_cell BK210.out 0).trans rfl, (blk_cell BK210.out 1).trans rfl, (blk_cell BK210.out 2).trans rfl, (blk_cell BK210.out 3).trans rfl, (blk_cell BK210.out 4).trans rfl, (blk_cell BK210.out 5).trans rfl, (blk_cell BK187.out 0).trans rfl, (blk_cell BK187.out 1).trans rfl, (blk_cell BK187.out 2).trans rfl, (blk_cell BK187.out 3).trans rfl, (blk_cell BK187.out 4).trans rfl, (blk_cell BK187.out 5).trans rfl, (blk_cell BK202.out 0).trans rfl, (blk_cell BK202.out 1).trans rfl, (blk_cell BK202.out 2).trans rfl, (blk_cell BK202.out 3).trans rfl, (blk_cell BK202.out 4).trans rfl, (blk_cell BK202.out 5).trans rfl, (blk_cell BK230.out 0).trans rfl, (blk_cell BK230.out 1).trans rfl, (blk_cell BK230.out 2).trans rfl, (blk_cell BK230.out 3).trans rfl, (blk_cell BK230.out 4).trans rfl, (blk_cell BK230.out 5).trans rfl, HS24_, HS25_, HS26_, HS27_, HS28_, HS29_⟩ (fun hHeld => ?_)
               clear hK K
               refine norm_ (a' := ?_) ?_ ?_
               rotate_left
               ·show Act.put _ (some 64) _ = _
                simp only [Act.put, List.setIfInBounds_toArray, List.set_cons_zero, List.set_cons_succ, i64_w, i32_w]
                rfl
               refine pure_ (i := 27) (N := some 65) (v := ?_) (a' := ?_) #[true, true, true, true, true, true, true, true, true, true, true, true, true, true, true, true, true, true, true, true, true, true, true, true, true, true, true, true, false, false, false, false, false, false, false, false, false, false, false, false, false, false, false, false, false, false, false, false, false, false, false, false, false, false, false, false, false, false, false, false, false, false, false, false, false, false] rfl rfl (any_of HT_.out (by kernel_rfl)) (fun _ _ _ h => h) (Or.inl ⟨by rfl, ?_⟩) ?_ ?_
               rotate_left
               ·intro w'
                go_simp
                with_reducible rfl
               rotate_left
               ·simp only [Act.put, List.setIfInBounds_toArray, List.set_cons_zero, List.set_cons_succ, i64_w, i32_w]
                rfl
               refine pure_ (i := 28) (N := some 66) (v := ?_) (a' := ?_) #[true, true, true, true, true, true, true, true, true, true, true, true, true, true, true, true, true, true, true, true, true, true, true, true, true, true, true, true, true, false, false, false, false, false, false, false, false, false, false, false, false, false, false, false, false, false, false, false, false, false, false, false, false, false, false, false, false, false, false, false, false, false, false, false, false, false] rfl rfl (any_of HT_.out (by kernel_rfl)) (fun _ _ _ h => h) (Or.inl ⟨by rfl, ?_⟩) ?_ ?_
               rotate_left
               ·intro w'
                go_simp
                with_reducible rfl
               rotate_left
               ·simp only [Act.put, List.setIfInBounds_toArray, List.set_cons_zero, List.set_cons_succ, i64_w, i32_w]
                rfl
               refine pure_ (i := 29) (N := some 67) (v := ?_) (a' := ?_) #[true, true, true, true, true, true, true, true, true, true, true, true, true, true, true, true, true, true, true, true, true, true, true, true, true, true, true, true, true, true, false, false, false, false, false, false, false, false, false, false, false, false, false, false, false, false, false, false, false, false, false, false, false, false, false, false, false, false, false, false, false, false, false, false, false, false] rfl rfl (any_of HT_.out (by kernel_rfl)) (fun _ _ _ h => h) (Or.inl ⟨by rfl, ?_⟩) ?_ ?_
               rotate_left
               ·intro w'
                go_simp
                with_reducible rfl
               rotate_left
               ·simp only [Act.put, List.setIfInBounds_toArray, List.set_cons_zero, List.set_cons_succ, i64_w, i32_w]
                rfl
               refine take_ (i := 30) (N := some 68) (v := ?_) (a' := ?_) #[true, true, true, true, true, true, true, true, true, true, true, true, true, true, true, true, true, true, true, true, true, true, true, true, true, true, true, true, true, true, true, false, false, false, false, false, false, false, false, false, false, false, false, false, false, false, false, false, false, false, false, false, false, false, false, false, false, false, false, false, false, false, false, false, false, false] rfl rfl (take_ofW HT_.out HW_.out (by kernel_rfl)) (fun _ _ _ h => h) (Or.inl ⟨by rfl, ?_⟩) hHeld ?_ ?_
               rotate_left
               ·rintro w' ⟨s0, s1, s2, s3, s4, s5, s6, s7, s8, s9, s10, s11, s12, s13, s14, s15, s16, s17, s18, s19, s20, s21, s22, s23, s24, s25, s26, s27, s28, s29⟩
                go_simp
                with_reducible rfl
               rotate_left
               ·simp only [Act.put, List.setIfInBounds_toArray, List.set_cons_zero, List.set_cons_succ, i64_w, i32_w]
                rfl
               refine one_ (i := 31) (N := some 69) #[true, true, true, true, true, true, true, true, true, true, true, true, true, true, true, true, true, true, true, true, true, true, true, true, true, true, true, true, true, true, true, true, false, false, false, false, false, false, false, false, false, false, false, false, false, false, false, false, false, false, false, false, false, false, false, false, false, false, false, false, false, false, false, false, false, false] rfl rfl (one_of HT_.out (by kernel_rfl)) (by decide) (fun K hK => ?_)
               refine goes_ Try.func25 (by kernel_rfl) rfl #[.agg #[.int .i64 4, .int .i64 6, .int .i64 3, .int .i64 1, .int .i64 2, .int .i64 5], .bool true] (by rfl) rfl rfl (by (try simp only [List.map_toArray, List.map_cons, List.map_nil]); first | done | rfl | (simp only [List.length_drop, List.length_take]; rfl)) ?_
               with_reducible refine (region_Permits.calls k 4 6 3 1 2 5 true true _ A14.out).mono ?_
               rintro e w68 ⟨rfl, hb⟩
               have HS24_ := (hb.cell (World.block_lt_of_cell? _ _ (hHeld.2.2.2.2.2.2.2.2.2.2.2.2.2.2.2.2.2.2.2.2.2.2.2.2.1))).trans (hHeld.2.2.2.2.2.2.2.2.2.2.2.2.2.2.2.2.2.2.2.2.2.2.2.2.1)
               have HS25_ := (hb.cell (World.block_lt_of_cell? _ _ (hHeld.2.2.2.2.2.2.2.2.2.2.2.2.2.2.2.2.2.2.2.2.2.2.2.2.2.1))).trans (hHeld.2.2.2.2.2.2.2.2.2.2.2.2.2.2.2.2.2.2.2.2.2.2.2.2.2.1)
               have HS26_ := (hb.cell (World.block_lt_of_cell? _ _ (hHeld.2.2.2.2.2.2.2.2.2.2.2.2.2.2.2.2.2.2.2.2.2.2.2.2.2.2.1))).trans (hHeld.2.2.2.2.2.2.2.2.2.2.2.2.2.2.2.2.2.2.2.2.2.2.2.2.2.2.1)
               have HS27_ := (hb.cell (World.block_lt_of_cell? _ _ (hHeld.2.2.2.2.2.2.2.2.2.2.2.2.2.2.2.2.2.2.2.2.2.2.2.2.2.2.2.1))).trans (hHeld.2.2.2.2.2.2.2.2.2.2.2.2.2.2.2.2.2.2.2.2.2.2.2.2.2.2.2.1)
               have HS28_ := (hb.cell (World.block_lt_of_cell? _ _ (hHeld.2.2.2.2.2.2.2.2.2.2.2.2.2.2.2.2.2.2.2.2.2.2.2.2.2.2.2.2.1))).trans (hHeld.2.2.2.2.2.2.2.2.2.2.2.2.2.2.2.2.2.2.2.2.2.2.2.2.2.2.2.2.1)
               have HS29_ := (hb.cell (World.block_lt_of_cell? _ _ (hHeld.2.2.2.2.2.2.2.2.2.2.2.2.2.2.2.2.2.2.2.2.2.2.2.2.2.2.2.2.2))).trans (hHeld.2.2.2.2.2.2.2.2.2.2.2.2.2.2.2.2.2.2.2.2.2.2.2.2.2.2.2.2.2)
               refine ⟨_, rfl, ?_⟩
               have n0_ := Aside0.mk (Kd.R_below (by (with_reducible repeat (first | apply Kd.R_alloc | apply Kd.R_drewN | apply Kd.R_drew)); exact HO213.out) hb)
               have n1_ := Aside0.mk (blk_below (g := w.heap.size) (by (with_reducible repeat (first | refine blk_drewN ?_ _ | refine blk_drew ?_ | refine blk_alloc ?_ _)); exact BK187.out) hb)
               have n2_ := Aside0.mk (blk_below (g := w1.heap.size) (by (with_reducible repeat (first | refine blk_drewN ?_ _ | refine blk_drew ?_ | refine blk_alloc ?_ _)); exact BK201.out) hb)
               have n3_ := Aside0.mk (blk_below (g := (w1.heap.size + 1)) (by (with_reducible repeat (first | refine blk_drewN ?_ _ | refine blk_drew ?_ | refine blk_alloc ?_ _)); exact BK202.out) hb)
               have n4_ := Aside0.mk (blk_below (g := w2.heap.size) (by (with_reducible repeat (first | refine blk_drewN ?_ _ | refine blk_drew ?_ | refine blk_alloc ?_ _)); exact BK210.out) hb)
               have n5_ := Aside0.mk (blk_below (g := w3.heap.size) (by (with_reducible repeat (first | refine blk_drewN ?_ _ | refine blk_drew ?_ | refine blk_alloc ?_ _)); exact BK215.out) hb)
               have n6_ := Aside0.mk (blk_below (g := w4.heap.size) (by (with_reducible repeat (first | refine blk_drewN ?_ _ | refine blk_drew ?_ | refine blk_alloc ?_ _)); exact BK229.out) hb)
               have n7_ := Aside0.mk (blk_below (g := (w4.heap.size + 1)) (by (with_reducible repeat (first | refine blk_drewN ?_ _ | refine blk_drew ?_ | refine blk_alloc ?_ _)); exact BK230.out) hb)
               have n8_ := Aside0.mk (below_step (by repeat (first | (with_reducible first | exact HB.out | apply below_alloc | apply pw_below_drewN | apply below_drew1 | refine below_set ?_ GE187.out | refine below_set ?_ GE201.out | refine below_set ?_ GE202.out | refine below_set ?_ GE210.out | refine below_set ?_ GE215.out | refine below_set ?_ GE229.out | refine below_set ?_ GE230.out) | exact HB.out)) hb)
               clear HO213
               clear BK187
               clear BK201
               clear BK202
               clear BK210
               clear BK215
               clear BK229
               clear BK230
               clear HB
               have HO213 := n0_
               have BK187 := n1_
               have BK201 := n2_
               have BK202 := n3_
               have BK210 := n4_
               have BK215 := n5_
               have BK229 := n6_
               have BK230 := n7_
               have HB := n8_
               clear n0_ n1_ n2_ n3_ n4_ n5_ n6_ n7_ n8_
               (try clear hb)
               (try clear hb2)
               (try clear hk)
               (try clear hi)
               obtain ⟨Ao69, co69, eo69⟩ := Kd.R_slice HO213.out
               (first | subst eo69 | (injection eo69 with f1_ f2_ f3_; have f4_ := f1_.symm; have f5_ := f3_.symm; clear f1_ f2_ f3_; subst f4_; subst f5_))
               refine hK.out _ _ ⟨(blk_cell BK210.out 0).trans rfl, (blk_cell BK210.out 1).trans rfl, (blk_cell BK210.out 2).trans rfl, (blk_cell BK210.out 3).trans rfl, (blk_cell BK210.out 4).trans rfl, (blk_cell BK210.out 5).trans rfl, (blk_cell BK187.out 0).trans rfl, (blk_cell BK187.out 1).trans rfl, (blk_cell BK187.out 2).trans rfl, (blk_cell BK187.out 3).trans rfl, (blk_cell BK187.out 4).trans rfl, (blk_cell BK187.out 5).trans rfl, (blk_cell BK202.out 0).trans rfl, (blk_cell BK202.out 1).trans rfl, (blk_cell BK202.out 2).trans rfl, (blk_cell BK202.out 3).trans rfl, (blk_cell BK202.out 4).trans rfl, (blk_cell BK202.out 5).trans rfl, (blk_cell BK230.out 0).trans rfl, (blk_cell BK230.out 1).trans rfl, (blk_cell BK230.out 2).trans rfl, (blk_cell BK230.out 3).trans rfl, (blk_cell BK230.out 4).trans rfl, (blk_cell BK230.out 5).trans rfl, HS24_, HS25_, HS26_, HS27_, HS28_, HS29_⟩ (fun hHeld => ?_)
               clear hK K
               refine norm_ (a' := ?_) ?_ ?_
               rotate_left
               ·show Act.put _ (some 69) _ = _
                simp only [Act.put, List.setIfInBounds_toArray, List.set_cons_zero, List.set_cons_succ, i64_w, i32_w]
                rfl
               refine pure_ (i := 32) (N := some 70) (v := ?_) (a' := ?_) #[true, true, true, true, true, true, true, true, true, true, true, true, true, true, true, true, true, true, true, true, true, true, true, true, true, true, true, true, true, true, true, true, true, false, false, false, false, false, false, false, false, false, false, false, false, false, false, false, false, false, false, false, false, false, false, false, false, false, false, false, false, false, false, false, false, false] rfl rfl (any_of HT_.out (by kernel_rfl)) (fun _ _ _ h => h) (Or.inl ⟨by rfl, ?_⟩) ?_ ?_
               rotate_left
               ·intro w'
                go_simp
                with_reducible rfl
               rotate_left
               ·simp only [Act.put, List.setIfInBounds_toArray, List.set_cons_zero, List.set_cons_succ, i64_w, i32_w]
                rfl
               refine pure_ (i := 33) (N := some 71) (v := ?_) (a' := ?_) #[true, true, true, true, true, true, true, true, true, true, true, true, true, true, true, true, true, true, true, true, true, true, true, true, true, true, true, true, true, true, true, true, true, true, false, false, false, false, false, false, false, false, false, false, false, false, false, false, false, false, false, false, false, false, false, false, false, false, false, false, false, false, false, false, false, false] rfl rfl (any_of HT_.out (by kernel_rfl)) (fun _ _ _ h => h) (Or.inl ⟨by rfl, ?_⟩) ?_ ?_
               rotate_left
               ·intro w'
                go_simp
                with_reducible rfl
               rotate_left
               ·simp only [Act.put, List.setIfInBounds_toArray, List.set_cons_zero, List.set_cons_succ, i64_w, i32_w]
                rfl
               refine pure_ (i := 34) (N := some 72) (v := ?_) (a' := ?_) #[true, true, true, true, true, true, true, true, true, true, true, true, true, true, true, true, true, true, true, true, true, true, true, true, true, true, true, true, true, true, true, true, true, true, true, false, false, false, false, false, false, false, false, false, false, false, false, false, false, false, false, false, false, false, false, false, false, false, false, false, false, false, false, false, false, false] rfl rfl (any_of HT_.out (by kernel_rfl)) (fun _ _ _ h => h) (Or.inl ⟨by rfl, ?_⟩) ?_ ?_
               rotate_left
               ·intro w'
                go_simp
                with_reducible rfl
               rotate_left
               ·simp only [Act.put, List.setIfInBounds_toArray, List.set_cons_zero, List.set_cons_succ, i64_w, i32_w]
                rfl
               refine pure_ (i := 35) (N := some 73) (v := ?_) (a' := ?_) #[true, true, true, true, true, true, true, true, true, true, true, true, true, true, true, true, true, true, true, true, true, true, true, true, true, true, true, true, true, true, true, true, true, true, true, true, false, false, false, false, false, false, false, false, false, false, false, false, false, false, false, false, false, false, false, false, false, false, false, false, false, false, false, false, false, false] rfl rfl (any_of HT_.out (by kernel_rfl)) (fun _ _ _ h => h) (Or.inl ⟨by rfl, ?_⟩) ?_ ?_
               rotate_left
               ·intro w'
                go_simp
                with_reducible rfl
               rotate_left
               ·simp only [Act.put, List.setIfInBounds_toArray, List.set_cons_zero, List.set_cons_succ, i64_w, i32_w]
                rfl
               refine pure_ (i := 36) (N := some 74) (v := ?_) (a' := ?_) #[true, true, true, true, true, true, true, true, true, true, true, true, true, true, true, true, true, true, true, true, true, true, true, true, true, true, true, true, true, true, true, true, true, true, true, true, true, false, false, false, false, false, false, false, false, false, false, false, false, false, false, false, false, false, false, false, false, false, false, false, false, false, false, false, false, false] rfl rfl (any_of HT_.out (by kernel_rfl)) (fun _ _ _ h => h) (Or.inl ⟨by rfl, ?_⟩) ?_ ?_
               rotate_left
               ·intro w'
                go_simp
                with_reducible rfl
               rotate_left
               ·simp only [Act.put, List.setIfInBounds_toArray, List.set_cons_zero, List.set_cons_succ, i64_w, i32_w]
                rfl
               refine pure_ (i := 37) (N := some 75) (v := ?_) (a' := ?_) #[true, true, true, true, true, true, true, true, true, true, true, true, true, true, true, true, true, true, true, true, true, true, true, true, true, true, true, true, true, true, true, true, true, true, true, true, true, true, false, false, false, false, false, false, false, false, false, false, false, false, false, false, false, false, false, false, false, false, false, false, false, false, false, false, false, false] rfl rfl (any_of HT_.out (by kernel_rfl)) (fun _ _ _ h => h) (Or.inl ⟨by rfl, ?_⟩) ?_ ?_
               rotate_left
               ·intro w'
                go_simp
                with_reducible rfl
               rotate_left
               ·simp only [Act.put, List.setIfInBounds_toArray, List.set_cons_zero, List.set_cons_succ, i64_w, i32_w]
                rfl
               refine pure_ (i := 38) (N := some 76) (v := ?_) (a' := ?_) #[true, true, true, true, true, true, true, true, true, true, true, true, true, true, true, true, true, true, true, true, true, true, true, true, true, true, true, true, true, true, true, true, true, true, true, true, true, true, true, false, false, false, false, false, false, false, false, false, false, false, false, false, false, false, false, false, false, false, false, false, false, false, false, false, false, false] rfl rfl (any_of HT_.out (by kernel_rfl)) (fun _ _ _ h => h) (Or.inl ⟨by rfl, ?_⟩) ?_ ?_
               rotate_left
               ·intro w'
                go_simp
                with_reducible rfl
               rotate_left
               ·simp only [Act.put, List.setIfInBounds_toArray, List.set_cons_zero, List.set_cons_succ, i64_w, i32_w]
                rfl
               refine pure_ (i := 39) (N := some 77) (v := ?_) (a' := ?_) #[true, true, true, true, true, true, true, true, true, true, true, true, true, true, true, true, true, true, true, true, true, true, true, true, true, true, true, true, true, true, true, true, true, true, true, true, true, true, true, true, false, false, false, false, false, false, false, false, false, false, false, false, false, false, false, false, false, false, false, false, false, false, false, false, false, false] rfl rfl (any_of HT_.out (by kernel_rfl)) (fun _ _ _ h => h) (Or.inl ⟨by rfl, ?_⟩) ?_ ?_
               rotate_left
               ·intro w'
                go_simp
                with_reducible rfl
               rotate_left
               ·simp only [Act.put, List.setIfInBounds_toArray, List.set_cons_zero, List.set_cons_succ, i64_w, i32_w]
                rfl
               refine pure_ (i := 40) (N := some 78) (v := ?_) (a' := ?_) #[true, true, true, true, true, true, true, true, true, true, true, true, true, true, true, true, true, true, true, true, true, true, true, true, true, true, true, true, true, true, true, true, true, true, true, true, true, true, true, true, true, false, false, false, false, false, false, false, false, false, false, false, false, false, false, false, false, false, false, false, false, false, false, false, false, false] rfl rfl (any_of HT_.out (by kernel_rfl)) (fun _ _ _ h => h) (Or.inl ⟨by rfl, ?_⟩) ?_ ?_
               rotate_left
               ·intro w'
                go_simp
                with_reducible rfl
               rotate_left
               ·simp only [Act.put, List.setIfInBounds_toArray, List.set_cons_zero, List.set_cons_succ, i64_w, i32_w]
                rfl
               refine take_ (i := 41) (N := some 79) (v := ?_) (a' := ?_) #[true, true, true, true, true, true, true, true, true, true, true, true, true, true, true, true, true, true, true, true, true, true, true, true, true, true, true, true, true, true, true, true, true, true, true, true, true, true, true, true, true, true, false, false, false, false, false, false, false, false, false, false, false, false, false, false, false, false, false, false, false, false, false, false, false, false] rfl rfl (take_ofW HT_.out HW_.out (by kernel_rfl)) (fun _ _ _ h => h) (Or.inl ⟨by rfl, ?_⟩) hHeld ?_ ?_
               rotate_left
               ·rintro w' ⟨s0, s1, s2, s3, s4, s5, s6, s7, s8, s9, s10, s11, s12, s13, s14, s15, s16, s17, s18, s19, s20, s21, s22, s23, s24, s25, s26, s27, s28, s29⟩
                go_simp
                with_reducible rfl
               rotate_left
               ·simp only [Act.put, List.setIfInBounds_toArray, List.set_cons_zero, List.set_cons_succ, i64_w, i32_w]
                rfl
               refine take_ (i := 42) (N := some 80) (v := ?_) (a' := ?_) #[true, true, true, true, true, true, true, true, true, true, true, true, true, true, true, true, true, true, true, true, true, true, true, true, true, true, true, true, true, true, true, true, true, true, true, true, true, true, true, true, true, true, true, false, false, false, false, false, false, false, false, false, false, false, false, false, false, false, false, false, false, false, false, false, false, false] rfl rfl (take_ofW HT_.out HW_.out (by kernel_rfl)) (fun _ _ _ h => h) (Or.inl ⟨by rfl, ?_⟩) hHeld ?_ ?_
               rotate_left
               ·rintro w' ⟨s0, s1, s2, s3, s4, s5, s6, s7, s8, s9, s10, s11, s12, s13, s14, s15, s16, s17, s18, s19, s20, s21, s22, s23, s24, s25, s26, s27, s28, s29⟩
                go_simp
                with_reducible rfl
               rotate_left
               ·simp only [Act.put, List.setIfInBounds_toArray, List.set_cons_zero, List.set_cons_succ, i64_w, i32_w]
                rfl
               refine pure_ (i := 43) (N := some 81) (v := ?_) (a' := ?_) #[true, true, true, true, true, true, true, true, true, true, true, true, true, true, true, true, true, true, true, true, true, true, true, true, true, true, true, true, true, true, true, true, true, true, true, true, true, true, true, true, true, true, true, true, false, false, false, false, false, false, false, false, false, false, false, false, false, false, false, false, false, false, false, false, false, false] rfl rfl (any_of HT_.out (by kernel_rfl)) (fun _ _ _ h => h) (Or.inl ⟨by rfl, ?_⟩) ?_ ?_
               rotate_left
               ·intro w'
                go_simp
                with_reducible rfl
               rotate_left
               ·simp only [Act.put, List.setIfInBounds_toArray, List.set_cons_zero, List.set_cons_succ, i64_w, i32_w]
                rfl
               refine pure_ (i := 44) (N := some 82) (v := ?_) (a' := ?_) #[true, true, true, true, true, true, true, true, true, true, true, true, true, true, true, true, true, true, true, true, true, true, true, true, true, true, true, true, true, true, true, true, true, true, true, true, true, true, true, true, true, true, true, true, true, false, false, false, false, false, false, false, false, false, false, false, false, false, false, false, false, false, false, false, false, false] rfl rfl (any_of HT_.out (by kernel_rfl)) (fun _ _ _ h => h) (Or.inl ⟨by rfl, ?_⟩) ?_ ?_
               rotate_left
               ·intro w'
                go_simp
                with_reducible rfl
               rotate_left
               ·simp only [Act.put, List.setIfInBounds_toArray, List.set_cons_zero, List.set_cons_succ, i64_w, i32_w]
                rfl
               refine pure_ (i := 45) (N := some 83) (v := ?_) (a' := ?_) #[true, true, true, true, true, true, true, true, true, true, true, true, true, true, true, true, true, true, true, true, true, true, true, true, true, true, true, true, true, true, true, true, true, true, true, true, true, true, true, true, true, true, true, true, true, true, false, false, false, false, false, false, false, false, false, false, false, false, false, false, false, false, false, false, false, false] rfl rfl (any_of HT_.out (by kernel_rfl)) (fun _ _ _ h => h) (Or.inl ⟨by rfl, ?_⟩) ?_ ?_
               rotate_left
               ·intro w'
                go_simp
                with_reducible rfl
               rotate_left
               ·simp only [Act.put, List.setIfInBounds_toArray, List.set_cons_zero, List.set_cons_succ, i64_w, i32_w]
                rfl
               refine pure_ (i := 47) (N := some 85) (v := ?_) (a' := ?_) #[true, true, true, true, true, true, true, true, true, true, true, true, true, true, true, true, true, true, true, true, true, true, true, true, true, true, true, true, true, true, true, true, true, true, true, true, true, true, true, true, true, true, true, true, true, true, false, true, false, false, false, false, false, false, false, false, false, false, false, false, false, false, false, false, false, false] rfl rfl (any_of HT_.out (by kernel_rfl)) (fun _ _ _ h => h) (Or.inl ⟨by rfl, ?_⟩) ?_ ?_
               rotate_left
               ·intro w'
                go_simp
                with_reducible rfl
               rotate_left
               ·simp only [Act.put, List.setIfInBounds_toArray, List.set_cons_zero, List.set_cons_succ, i64_w, i32_w]
                rfl
               refine take_ (i := 46) (N := some 84) (v := ?_) (a' := ?_) #[true, true, true, true, true, true, true, true, true, true, true, true, true, true, true, true, true, true, true, true, true, true, true, true, true, true, true, true, true, true, true, true, true, true, true, true, true, true, true, true, true, true, true, true, true, true, true, true, false, false, false, false, false, false, false, false, false, false, false, false, false, false, false, false, false, false] rfl rfl (take_ofW HT_.out HW_.out (by kernel_rfl)) (fun _ _ _ h => h) (Or.inl ⟨by rfl, ?_⟩) hHeld ?_ ?_
               rotate_left
               ·rintro w' ⟨s0, s1, s2, s3, s4, s5, s6, s7, s8, s9, s10, s11, s12, s13, s14, s15, s16, s17, s18, s19, s20, s21, s22, s23, s24, s25, s26, s27, s28, s29⟩
                go_simp
                with_reducible rfl
               rotate_left
               ·simp only [Act.put, List.setIfInBounds_toArray, List.set_cons_zero, List.set_cons_succ, i64_w, i32_w]
                rfl
               refine pure_ (i := 48) (N := some 86) (v := ?_) (a' := ?_) #[true, true, true, true, true, true, true, true, true, true, true, true, true, true, true, true, true, true, true, true, true, true, true, true, true, true, true, true, true, true, true, true, true, true, true, true, true, true, true, true, true, true, true, true, true, true, true, true, true, false, false, false, false, false, false, false, false, false, false, false, false, false, false, false, false, false] rfl rfl (any_of HT_.out (by kernel_rfl)) (fun _ _ _ h => h) (Or.inl ⟨by rfl, ?_⟩) ?_ ?_
               rotate_left
               ·intro w'
                go_simp
                with_reducible rfl
               rotate_left
               ·simp only [Act.put, List.setIfInBounds_toArray, List.set_cons_zero, List.set_cons_succ, i64_w, i32_w]
                rfl
               refine pure_ (i := 49) (N := some 87) (v := ?_) (a' := ?_) #[true, true, true, true, true, true, true, true, true, true, true, true, true, true, true, true, true, true, true, true, true, true, true, true, true, true, true, true, true, true, true, true, true, true, true, true, true, true, true, true, true, true, true, true, true, true, true, true, true, true, false, false, false, false, false, false, false, false, false, false, false, false, false, false, false, false] rfl rfl (any_of HT_.out (by kernel_rfl)) (fun _ _ _ h => h) (Or.inl ⟨by rfl, ?_⟩) ?_ ?_
               rotate_left
               ·intro w'
                go_simp
                with_reducible rfl
               rotate_left
               ·simp only [Act.put, List.setIfInBounds_toArray, List.set_cons_zero, List.set_cons_succ, i64_w, i32_w]
                rfl
               refine pure_ (i := 50) (N := some 88) (v := ?_) (a' := ?_) #[true, true, true, true, true, true, true, true, true, true, true, true, true, true, true, true, true, true, true, true, true, true, true, true, true, true, true, true, true, true, true, true, true, true, true, true, true, true, true, true, true, true, true, true, true, true, true, true, true, true, true, false, false, false, false, false, false, false, false, false, false, false, false, false, false, false] rfl rfl (any_of HT_.out (by kernel_rfl)) (fun _ _ _ h => h) (Or.inl ⟨by rfl, ?_⟩) ?_ ?_
               rotate_left
               ·intro w'
                go_simp
                with_reducible rfl
               rotate_left
               ·simp only [Act.put, List.setIfInBounds_toArray, List.set_cons_zero, List.set_cons_succ, i64_w, i32_w]
                rfl
               refine pure_ (i := 52) (N := some 90) (v := ?_) (a' := ?_) #[true, true, true, true, true, true, true, true, true, true, true, true, true, true, true, true, true, true, true, true, true, true, true, true, true, true, true, true, true, true, true, true, true, true, true, true, true, true, true, true, true, true, true, true, true, true, true, true, true, true, true, false, true, false, false, false, false, false, false, false, false, false, false, false, false, false] rfl rfl (any_of HT_.out (by kernel_rfl)) (fun _ _ _ h => h) (Or.inl ⟨by rfl, ?_⟩) ?_ ?_
               rotate_left
               ·intro w'
                go_simp
                with_reducible rfl
               rotate_left
               ·simp only [Act.put, List.setIfInBounds_toArray, List.set_cons_zero, List.set_cons_succ, i64_w, i32_w]
                rfl
               refine take_ (i := 51) (N := some 89) (v := ?_) (a' := ?_) #[true, true, true, true, true, true, true, true, true, true, true, true, true, true, true, true, true, true, true, true, true, true, true, true, true, true, true, true, true, true, true, true, true, true, true, true, true, true, true, true, true, true, true, true, true, true, true, true, true, true, true, true, true, false, false, false, false, false, false, false, false, false, false, false, false, false] rfl rfl (take_ofW HT_.out HW_.out (by kernel_rfl)) (fun _ _ _ h => h) (Or.inl ⟨by rfl, ?_⟩) hHeld ?_ ?_
               rotate_left
               ·rintro w' ⟨s0, s1, s2, s3, s4, s5, s6, s7, s8, s9, s10, s11, s12, s13, s14, s15, s16, s17, s18, s19, s20, s21, s22, s23, s24, s25, s26, s27, s28, s29⟩
                go_simp
                with_reducible rfl
               rotate_left
               ·simp only [Act.put, List.setIfInBounds_toArray, List.set_cons_zero, List.set_cons_succ, i64_w, i32_w]
                rfl
               refine pure_ (i := 53) (N := some 91) (v := ?_) (a' := ?_) #[true, true, true, true, true, true, true, true, true, true, true, true, true, true, true, true, true, true, true, true, true, true, true, true, true, true, true, true, true, true, true, true, true, true, true, true, true, true, true, true, true, true, true, true, true, true, true, true, true, true, true, true, true, true, false, false, false, false, false, false, false, false, false, false, false, false] rfl rfl (any_of HT_.out (by kernel_rfl)) (fun _ _ _ h => h) (Or.inl ⟨by rfl, ?_⟩) ?_ ?_
               rotate_left
               ·intro w'
                go_simp
                with_reducible rfl
               rotate_left
               ·simp only [Act.put, List.setIfInBounds_toArray, List.set_cons_zero, List.set_cons_succ, i64_w, i32_w]
                rfl
               refine pure_ (i := 54) (N := some 92) (v := ?_) (a' := ?_) #[true, true, true, true, true, true, true, true, true, true, true, true, true, true, true, true, true, true, true, true, true, true, true, true, true, true, true, true, true, true, true, true, true, true, true, true, true, true, true, true, true, true, true, true, true, true, true, true, true, true, true, true, true, true, true, false, false, false, false, false, false, false, false, false, false, false] rfl rfl (any_of HT_.out (by kernel_rfl)) (fun _ _ _ h => h) (Or.inl ⟨by rfl, ?_⟩) ?_ ?_
               rotate_left
               ·intro w'
                go_simp
                with_reducible rfl
               rotate_left
               ·simp only [Act.put, List.setIfInBounds_toArray, List.set_cons_zero, List.set_cons_succ, i64_w, i32_w]
                rfl
               refine pure_ (i := 55) (N := some 93) (v := ?_) (a' := ?_) #[true, true, true, true, true, true, true, true, true, true, true, true, true, true, true, true, true, true, true, true, true, true, true, true, true, true, true, true, true, true, true, true, true, true, true, true, true, true, true, true, true, true, true, true, true, true, true, true, true, true, true, true, true, true, true, true, false, false, false, false, false, false, false, false, false, false] rfl rfl (any_of HT_.out (by kernel_rfl)) (fun _ _ _ h => h) (Or.inl ⟨by rfl, ?_⟩) ?_ ?_
               rotate_left
               ·intro w'
                go_simp
                with_reducible rfl
               rotate_left
               ·simp only [Act.put, List.setIfInBounds_toArray, List.set_cons_zero, List.set_cons_succ, i64_w, i32_w]
                rfl
               refine pure_ (i := 56) (N := some 94) (v := ?_) (a' := ?_) #[true, true, true, true, true, true, true, true, true, true, true, true, true, true, true, true, true, true, true, true, true, true, true, true, true, true, true, true, true, true, true, true, true, true, true, true, true, true, true, true, true, true, true, true, true, true, true, true, true, true, true, true, true, true, true, true, true, false, false, false, false, false, false, false, false, false] rfl rfl (any_of HT_.out (by kernel_rfl)) (fun _ _ _ h => h) (Or.inl ⟨by rfl, ?_⟩) ?_ ?_
               rotate_left
               ·intro w'
                go_simp
                with_reducible rfl
               rotate_left
               ·simp only [Act.put, List.setIfInBounds_toArray, List.set_cons_zero, List.set_cons_succ, i64_w, i32_w]
                rfl
               refine one_ (i := 57) (N := some 95) #[true, true, true, true, true, true, true, true, true, true, true, true, true, true, true, true, true, true, true, true, true, true, true, true, true, true, true, true, true, true, true, true, true, true, true, true, true, true, true, true, true, true, true, true, true, true, true, true, true, true, true, true, true, true, true, true, true, true, false, false, false, false, false, false, false, false] rfl rfl (one_of HT_.out (by kernel_rfl)) (by decide) (fun K hK => ?_)
               refine goes_ Try.func11 (by kernel_rfl) rfl #[.agg #[.int .i64 0, .int .i64 1, .int .i64 2, .int .i64 0, .int .i64 (-1), .int .i64 0]] (by rfl) rfl rfl (by (try simp only [List.map_toArray, List.map_cons, List.map_nil]); first | done | rfl | (simp only [List.length_drop, List.length_take]; rfl)) ?_
               with_reducible refine (region_Check.calls k 0 1 2 0 (-1) 0 t235 _ A21.out).mono ?_
               rintro e w70 ⟨rfl, hb⟩
               have HS24_ := (hb.cell (World.block_lt_of_cell? _ _ (hHeld.2.2.2.2.2.2.2.2.2.2.2.2.2.2.2.2.2.2.2.2.2.2.2.2.1))).trans (hHeld.2.2.2.2.2.2.2.2.2.2.2.2.2.2.2.2.2.2.2.2.2.2.2.2.1)
               have HS25_ := (hb.cell (World.block_lt_of_cell? _ _ (hHeld.2.2.2.2.2.2.2.2.2.2.2.2.2.2.2.2.2.2.2.2.2.2.2.2.2.1))).trans (hHeld.2.2.2.2.2.2.2.2.2.2.2.2.2.2.2.2.2.2.2.2.2.2.2.2.2.1)
               have HS26_ := (hb.cell (World.block_lt_of_cell? _ _ (hHeld.2.2.2.2.2.2.2.2.2.2.2.2.2.2.2.2.2.2.2.2.2.2.2.2.2.2.1))).trans (hHeld.2.2.2.2.2.2.2.2.2.2.2.2.2.2.2.2.2.2.2.2.2.2.2.2.2.2.1)
               have HS27_ := (hb.cell (World.block_lt_of_cell? _ _ (hHeld.2.2.2.2.2.2.2.2.2.2.2.2.2.2.2.2.2.2.2.2.2.2.2.2.2.2.2.1))).trans (hHeld.2.2.2.2.2.2.2.2.2.2.2.2.2.2.2.2.2.2.2.2.2.2.2.2.2.2.2.1)
               have HS28_ := (hb.cell (World.block_lt_of_cell? _ _ (hHeld.2.2.2.2.2.2.2.2.2.2.2.2.2.2.2.2.2.2.2.2.2.2.2.2.2.2.2.2.1))).trans (hHeld.2.2.2.2.2.2.2.2.2.2.2.2.2.2.2.2.2.2.2.2.2.2.2.2.2.2.2.2.1)
               have HS29_ := (hb.cell (World.block_lt_of_cell? _ _ (hHeld.2.2.2.2.2.2.2.2.2.2.2.2.2.2.2.2.2.2.2.2.2.2.2.2.2.2.2.2.2))).trans (hHeld.2.2.2.2.2.2.2.2.2.2.2.2.2.2.2.2.2.2.2.2.2.2.2.2.2.2.2.2.2)
               refine ⟨_, rfl, ?_⟩
               have n0_ := Aside0.mk (Kd.R_below (by (with_reducible repeat (first | apply Kd.R_alloc | apply Kd.R_drewN | apply Kd.R_drew)); exact HO213.out) hb)
               have n1_ := Aside0.mk (blk_below (g := w.heap.size) (by (with_reducible repeat (first | refine blk_drewN ?_ _ | refine blk_drew ?_ | refine blk_alloc ?_ _)); exact BK187.out) hb)
               have n2_ := Aside0.mk (blk_below (g := w1.heap.size) (by (with_reducible repeat (first | refine blk_drewN ?_ _ | refine blk_drew ?_ | refine blk_alloc ?_ _)); exact BK201.out) hb)
               have n3_ := Aside0.mk (blk_below (g := (w1.heap.size + 1)) (by (with_reducible repeat (first | refine blk_drewN ?_ _ | refine blk_drew ?_ | refine blk_alloc ?_ _)); exact BK202.out) hb)
               have n4_ := Aside0.mk (blk_below (g := w2.heap.size) (by (with_reducible repeat (first | refine blk_drewN ?_ _ | refine blk_drew ?_ | refine blk_alloc ?_ _)); exact BK210.out) hb)
               have n5_ := Aside0.mk (blk_below (g := w3.heap.size) (by (with_reducible repeat (first | refine blk_drewN ?_ _ | refine blk_drew ?_ | refine blk_alloc ?_ _)); exact BK215.out) hb)
               have n6_ := Aside0.mk (blk_below (g := w4.heap.size) (by (with_reducible repeat (first | refine blk_drewN ?_ _ | refine blk_drew ?_ | refine blk_alloc ?_ _)); exact BK229.out) hb)
               have n7_ := Aside0.mk (blk_below (g := (w4.heap.size + 1)) (by (with_reducible repeat (first | refine blk_drewN ?_ _ | refine blk_drew ?_ | refine blk_alloc ?_ _)); exact BK230.out) hb)
               have n8_ := Aside0.mk (below_step (by repeat (first | (with_reducible first | exact HB.out | apply below_alloc | apply pw_below_drewN | apply below_drew1 | refine below_set ?_ GE187.out | refine below_set ?_ GE201.out | refine below_set ?_ GE202.out | refine below_set ?_ GE210.out | refine below_set ?_ GE215.out | refine below_set ?_ GE229.out | refine below_set ?_ GE230.out) | exact HB.out)) hb)
               clear HO213
               clear BK187
               clear BK201
               clear BK202
               clear BK210
               clear BK215
               clear BK229
               clear BK230
               clear HB
               have HO213 := n0_
               have BK187 := n1_
               have BK201 := n2_
               have BK202 := n3_
               have BK210 := n4_
               have BK215 := n5_
               have BK229 := n6_
               have BK230 := n7_
               have HB := n8_
               clear n0_ n1_ n2_ n3_ n4_ n5_ n6_ n7_ n8_
               (try clear hb)
               (try clear hb2)
               (try clear hk)
               (try clear hi)
               refine hK.out _ _ ⟨(blk_cell BK210.out 0).trans rfl, (blk_cell BK210.out 1).trans rfl, (blk_cell BK210.out 2).trans rfl, (blk_cell BK210.out 3).trans rfl, (blk_cell BK210.out 4).trans rfl, (blk_cell BK210.out 5).trans rfl, (blk_cell BK187.out 0).trans rfl, (blk_cell BK187.out 1).trans rfl, (blk_cell BK187.out 2).trans rfl, (blk_cell BK187.out 3).trans rfl, (blk_cell BK187.out 4).trans rfl, (blk_cell BK187.out 5).trans rfl, (blk_cell BK202.out 0).trans rfl, (blk_cell BK202.out 1).trans rfl, (blk_cell BK202.out 2).trans rfl, (blk_cell BK202.out 3).trans rfl, (blk_cell BK202.out 4).trans rfl, (blk_cell BK202.out 5).trans rfl, (blk_cell BK230.out 0).trans rfl, (blk_cell BK230.out 1).trans rfl, (blk_cell BK230.out 2).trans rfl, (blk_cell BK230.out 3).trans rfl, (blk_cell BK230.out 4).trans rfl, (blk_cell BK230.out 5).trans rfl, HS24_, HS25_, HS26_, HS27_, HS28_, HS29_⟩ (fun hHeld => ?_)
               clear hK K
               refine norm_ (a' := ?_) ?_ ?_
               rotate_left
               ·show Act.put _ (some 95) _ = _
                simp only [Act.put, List.setIfInBounds_toArray, List.set_cons_zero, List.set_cons_succ, i64_w, i32_w]
                rfl
               refine pure_ (i := 58) (N := some 96) (v := ?_) (a' := ?_) #[true, true, true, true, true, true, true, true, true, true, true, true, true, true, true, true, true, true, true, true, true, true, true, true, true, true, true, true, true, true, true, true, true, true, true, true, true, true, true, true, true, true, true, true, true, true, true, true, true, true, true, true, true, true, true, true, true, true, true, false, false, false, false, false, false, false] rfl rfl (any_of HT_.out (by kernel_rfl)) (fun _ _ _ h => h) (Or.inl ⟨by rfl, ?_⟩) ?_ ?_
               rotate_left
               ·intro w'
                go_simp
                with_reducible rfl
               rotate_left
               ·simp only [Act.put, List.setIfInBounds_toArray, List.set_cons_zero, List.set_cons_succ, i64_w, i32_w]
                rfl
               refine pure_ (i := 59) (N := some 97) (v := ?_) (a' := ?_) #[true, true, true, true, true, true, true, true, true, true, true, true, true, true, true, true, true, true, true, true, true, true, true, true, true, true, true, true, true, true, true, true, true, true, true, true, true, true, true, true, true, true, true, true, true, true, true, true, true, true, true, true, true, true, true, true, true, true, true, true, false, false, false, false, false, false] rfl rfl (any_of HT_.out (by kernel_rfl)) (fun _ _ _ h => h) (Or.inl ⟨by rfl, ?_⟩) ?_ ?_
               rotate_left
               ·intro w'
                go_simp
                with_reducible rfl
               rotate_left
               ·simp only [Act.put, List.setIfInBounds_toArray, List.set_cons_zero, List.set_cons_succ, i64_w, i32_w]
                rfl
               refine pure_ (i := 60) (N := some 98) (v := ?_) (a' := ?_) #[true, true, true, true, true, true, true, true, true, true, true, true, true, true, true, true, true, true, true, true, true, true, true, true, true, true, true, true, true, true, true, true, true, true, true, true, true, true, true, true, true, true, true, true, true, true, true, true, true, true, true, true, true, true, true, true, true, true, true, true, true, false, false, false, false, false] rfl rfl (any_of HT_.out (by kernel_rfl)) (fun _ _ _ h => h) (Or.inl ⟨by rfl, ?_⟩) ?_ ?_
               rotate_left
               ·intro w'
                go_simp
                with_reducible rfl
               rotate_left
               ·simp only [Act.put, List.setIfInBounds_toArray, List.set_cons_zero, List.set_cons_succ, i64_w, i32_w]
                rfl
               refine pure_ (i := 61) (N := some 99) (v := ?_) (a' := ?_) #[true, true, true, true, true, true, true, true, true, true, true, true, true, true, true, true, true, true, true, true, true, true, true, true, true, true, true, true, true, true, true, true, true, true, true, true, true, true, true, true, true, true, true, true, true, true, true, true, true, true, true, true, true, true, true, true, true, true, true, true, true, true, false, false, false, false] rfl rfl (any_of HT_.out (by kernel_rfl)) (fun _ _ _ h => h) (Or.inl ⟨by rfl, ?_⟩) ?_ ?_
               rotate_left
               ·intro w'
                go_simp
                with_reducible rfl
               rotate_left
               ·simp only [Act.put, List.setIfInBounds_toArray, List.set_cons_zero, List.set_cons_succ, i64_w, i32_w]
                rfl
               refine one_ (i := 62) (N := some 100) #[true, true, true, true, true, true, true, true, true, true, true, true, true, true, true, true, true, true, true, true, true, true, true, true, true, true, true, true, true, true, true, true, true, true, true, true, true, true, true, true, true, true, true, true, true, true, true, true, true, true, true, true, true, true, true, true, true, true, true, true, true, true, true, false, false, false] rfl rfl (one_of HT_.out (by kernel_rfl)) (by decide) (fun K hK => ?_)
               refine goes_ Try.func11 (by kernel_rfl) rfl #[.agg #[.int .i64 500, .int .i64 13, .int .i64 1, .int .i64 0, .int .i64 (-1), .int .i64 0]] (by rfl) rfl rfl (by (try simp only [List.map_toArray, List.map_cons, List.map_nil]); first | done | rfl | (simp only [List.length_drop, List.length_take]; rfl)) ?_
               with_reducible refine (region_Check.calls k 500 13 1 0 (-1) 0 t236 _ A23.out).mono ?_
               rintro e w71 ⟨rfl, hb⟩
               have HS24_ := (hb.cell (World.block_lt_of_cell? _ _ (hHeld.2.2.2.2.2.2.2.2.2.2.2.2.2.2.2.2.2.2.2.2.2.2.2.2.1))).trans (hHeld.2.2.2.2.2.2.2.2.2.2.2.2.2.2.2.2.2.2.2.2.2.2.2.2.1)
               have HS25_ := (hb.cell (World.block_lt_of_cell? _ _ (hHeld.2.2.2.2.2.2.2.2.2.2.2.2.2.2.2.2.2.2.2.2.2.2.2.2.2.1))).trans (hHeld.2.2.2.2.2.2.2.2.2.2.2.2.2.2.2.2.2.2.2.2.2.2.2.2.2.1)
               have HS26_ := (hb.cell (World.block_lt_of_cell? _ _ (hHeld.2.2.2.2.2.2.2.2.2.2.2.2.2.2.2.2.2.2.2.2.2.2.2.2.2.2.1))).trans (hHeld.2.2.2.2.2.2.2.2.2.2.2.2.2.2.2.2.2.2.2.2.2.2.2.2.2.2.1)
               have HS27_ := (hb.cell (World.block_lt_of_cell? _ _ (hHeld.2.2.2.2.2.2.2.2.2.2.2.2.2.2.2.2.2.2.2.2.2.2.2.2.2.2.2.1))).trans (hHeld.2.2.2.2.2.2.2.2.2.2.2.2.2.2.2.2.2.2.2.2.2.2.2.2.2.2.2.1)
               have HS28_ := (hb.cell (World.block_lt_of_cell? _ _ (hHeld.2.2.2.2.2.2.2.2.2.2.2.2.2.2.2.2.2.2.2.2.2.2.2.2.2.2.2.2.1))).trans (hHeld.2.2.2.2.2.2.2.2.2.2.2.2.2.2.2.2.2.2.2.2.2.2.2.2.2.2.2.2.1)
               have HS29_ := (hb.cell (World.block_lt_of_cell? _ _ (hHeld.2.2.2.2.2.2.2.2.2.2.2.2.2.2.2.2.2.2.2.2.2.2.2.2.2.2.2.2.2))).trans (hHeld.2.2.2.2.2.2.2.2.2.2.2.2.2.2.2.2.2.2.2.2.2.2.2.2.2.2.2.2.2)
               refine ⟨_, rfl, ?_⟩
               have n0_ := Aside0.mk (Kd.R_below (by (with_reducible repeat (first | apply Kd.R_alloc | apply Kd.R_drewN | apply Kd.R_drew)); exact HO213.out) hb)
               have n1_ := Aside0.mk (blk_below (g := w.heap.size) (by (with_reducible repeat (first | refine blk_drewN ?_ _ | refine blk_drew ?_ | refine blk_alloc ?_ _)); exact BK187.out) hb)
               have n2_ := Aside0.mk (blk_below (g := w1.heap.size) (by (with_reducible repeat (first | refine blk_drewN ?_ _ | refine blk_drew ?_ | refine blk_alloc ?_ _)); exact BK201.out) hb)
               have n3_ := Aside0.mk (blk_below (g := (w1.heap.size + 1)) (by (with_reducible repeat (first | refine blk_drewN ?_ _ | refine blk_drew ?_ | refine blk_alloc ?_ _)); exact BK202.out) hb)
               have n4_ := Aside0.mk (blk_below (g := w2.heap.size) (by (with_reducible repeat (first | refine blk_drewN ?_ _ | refine blk_drew ?_ | refine blk_alloc ?_ _)); exact BK210.out) hb)
               have n5_ := Aside0.mk (blk_below (g := w3.heap.size) (by (with_reducible repeat (first | refine blk_drewN ?_ _ | refine blk_drew ?_ | refine blk_alloc ?_ _)); exact BK215.out) hb)
               have n6_ := Aside0.mk (blk_below (g := w4.heap.size) (by (with_reducible repeat (first | refine blk_drewN ?_ _ | refine blk_drew ?_ | refine blk_alloc ?_ _)); exact BK229.out) hb)
               have n7_ := Aside0.mk (blk_below (g := (w4.heap.size + 1)) (by (with_reducible repeat (first | refine blk_drewN ?_ _ | refine blk_drew ?_ | refine blk_alloc ?_ _)); exact BK230.out) hb)
               have n8_ := Aside0.mk (below_step (by repeat (first | (with_reducible first | exact HB.out | apply below_alloc | apply pw_below_drewN | apply below_drew1 | refine below_set ?_ GE187.out | refine below_set ?_ GE201.out | refine below_set ?_ GE202.out | refine below_set ?_ GE210.out | refine below_set ?_ GE215.out | refine below_set ?_ GE229.out | refine below_set ?_ GE230.out) | exact HB.out)) hb)
               clear HO213
               clear BK187
               clear BK201
               clear BK202
               clear BK210
               clear BK215
               clear BK229
               clear BK230
               clear HB
               have HO213 := n0_
               have BK187 := n1_
               have BK201 := n2_
               have BK202 := n3_
               have BK210 := n4_
               have BK215 := n5_
               have BK229 := n6_
               have BK230 := n7_
               have HB := n8_
               clear n0_ n1_ n2_ n3_ n4_ n5_ n6_ n7_ n8_
               (try clear hb)
               (try clear hb2)
               (try clear hk)
               (try clear hi)
               refine hK.out _ _ ⟨(blk_cell BK210.out 0).trans rfl, (blk_cell BK210.out 1).trans rfl, (blk_cell BK210.out 2).trans rfl, (blk_cell BK210.out 3).trans rfl, (blk_cell BK210.out 4).trans rfl, (blk_cell BK210.out 5).trans rfl, (blk_cell BK187.out 0).trans rfl, (blk_cell BK187.out 1).trans rfl, (blk_cell BK187.out 2).trans rfl, (blk_cell BK187.out 3).trans rfl, (blk_cell BK187.out 4).trans rfl, (blk_cell BK187.out 5).trans rfl, (blk_cell BK202.out 0).trans rfl, (blk_cell BK202.out 1).trans rfl, (blk_cell BK202.out 2).trans rfl, (blk_cell BK202.out 3).trans rfl, (blk_cell BK202.out 4).trans rfl, (blk_cell BK202.out 5).trans rfl, (blk_cell BK230.out 0).trans rfl, (blk_cell BK230.out 1).trans rfl, (blk_cell BK230.out 2).trans rfl, (blk_cell BK230.out 3).trans rfl, (blk_cell BK230.out 4).trans rfl, (blk_cell BK230.out 5).trans rfl, HS24_, HS25_, HS26_, HS27_, HS28_, HS29_⟩ (fun hHeld => ?_)
               clear hK K
               refine norm_ (a' := ?_) ?_ ?_
               rotate_left
               ·show Act.put _ (some 100) _ = _
                simp only [Act.put, List.setIfInBounds_toArray, List.set_cons_zero, List.set_cons_succ, i64_w, i32_w]
                rfl
               refine pure_ (i := 63) (N := some 101) (v := ?_) (a' := ?_) #[true, true, true, true, true, true, true, true, true, true, true, true, true, true, true, true, true, true, true, true, true, true, true, true, true, true, true, true, true, true, true, true, true, true, true, true, true, true, true, true, true, true, true, true, true, true, true, true, true, true, true, true, true, true, true, true, true, true, true, true, true, true, true, true, false, false] rfl rfl (any_of HT_.out (by kernel_rfl)) (fun _ _ _ h => h) (Or.inl ⟨by rfl, ?_⟩) ?_ ?_
               rotate_left
               ·intro w'
                go_simp
                with_reducible rfl
               rotate_left
               ·simp only [Act.put, List.setIfInBounds_toArray, List.set_cons_zero, List.set_cons_succ, i64_w, i32_w]
                rfl
               refine pure_ (i := 64) (N := some 102) (v := ?_) (a' := ?_) #[true, true, true, true, true, true, true, true, true, true, true, true, true, true, true, true, true, true, true, true, true, true, true, true, true, true, true, true, true, true, true, true, true, true, true, true, true, true, true, true, true, true, true, true, true, true, true, true, true, true, true, true, true, true, true, true, true, true, true, true, true, true, true, true, true, false] rfl rfl (any_of HT_.out (by kernel_rfl)) (fun _ _ _ h => h) (Or.inl ⟨by rfl, ?_⟩) ?_ ?_
               rotate_left
               ·intro w'
                go_simp
                with_reducible rfl
               rotate_left
               ·simp only [Act.put, List.setIfInBounds_toArray, List.set_cons_zero, List.set_cons_succ, i64_w, i32_w]
                rfl
               refine pure_ (i := 65) (N := some 0) (v := ?_) (a' := ?_) #[true, true, true, true, true, true, true, true, true, true, true, true, true, true, true, true, true, true, true, true, true, true, true, true, true, true, true, true, true, true, true, true, true, true, true, true, true, true, true, true, true, true, true, true, true, true, true, true, true, true, true, true, true, true, true, true, true, true, true, true, true, true, true, true, true, true] rfl rfl (any_of HT_.out (by kernel_rfl)) (fun _ _ _ h => h) (Or.inl ⟨by rfl, ?_⟩) ?_ ?_
               rotate_left
               ·intro w'
                go_simp
                with_reducible rfl
               rotate_left
               ·simp only [Act.put, List.setIfInBounds_toArray, List.set_cons_zero, List.set_cons_succ, i64_w, i32_w]
                rfl
               refine done_ (done_of HT_.out (by kernel_rfl)) ?_
               try go_wp2
               go_ret
               exact ⟨by first | rfl | (simp [errW_none, errW_some] <;> rfl) | (simp [*, errW_none, errW_some] <;> rfl), by repeat (first | (with_reducible first | exact HB.out | apply below_alloc | apply pw_below_drewN | apply below_drew1 | refine below_set ?_ GE187.out | refine below_set ?_ GE201.out | refine below_set ?_ GE202.out | refine below_set ?_ GE210.out | refine below_set ?_ GE215.out | refine below_set ?_ GE229.out | refine below_set ?_ GE230.out) | exact HB.out)⟩
              ·rw [if_neg c22] at H
               exact absurd H (by simp)
             ·rw [if_neg c20] at H
              exact absurd H (by simp)
            ·rw [if_neg c19] at H
             exact absurd H (by simp)
           ·rw [if_neg c18] at H
            exact absurd H (by simp)
          ·rw [if_neg c17] at H
           exact absurd H (by simp)
         ·rw [if_neg c16] at H
          exact absurd H (by simp)
        ·replace c15 := Bool.eq_false_iff.mpr c15
         subst c15
         have H1 : (some false) = some true := by rw [if_neg (show ¬ (false = true) by decide)] at H; exact H
         exact absurd H1 (by simp)
       ·rw [if_neg c13] at H
        exact absurd H (by simp)
      ·rw [if_neg c11] at H
       exact absurd H (by simp)
     ·rw [if_neg c9] at H
      exact absurd H (by simp)
    ·rw [if_neg c8] at H
     exact absurd H (by simp)
   ·rw [if_neg c7] at H
    exact absurd H (by simp)
  ·rw [if_neg c6] at H
   exact absurd H (by simp)
 ·rw [if_neg c5] at H
  exact absurd H (by simp)

theorem awake_12 : estoverslaw22_awake.f 12 = some true := by kernel_rfl

theorem awake_any (w : World) : Calls Try.prog 13 #[] w fun e w' => e = .returned (.bool true) ∧ Below w.heap.size w w' := awake_calls 12 w awake_12

end Go.Proofs.Ytajephbmbdnjpaa.Hand
