/- What is proved: the walk of InodeNotices: for every uint8, uint16 and pair of uint8 the call returns true and leaves all that was there as it was. No condition beside the numbers' own range. -/
import Derived.Test.YtnkopggkapdceaaPlainB
import Derived.RegionTactic
import Derived.BigRegion
import Derived.Outline
import Derived.Lib.Hide
import Derived.Laws.BitsLemmas
namespace Go.Proofs.Ytnkopggkapdceaa.Note
open Go.RowKit Go.Proofs.Ytnkopggkapdceaa.Ino Go.Proofs.YtnkopggkapdceaaW.PrintWords Go.Proofs.YtnkopggkapdceaaW.PrintLast Go.Proofs.YtnkopggkapdceaaW.PrintMore Go.Proofs.Ytnkopggkapdceaa.Plain Go.Proofs.Ytnkopggkapdceaa.Hand
attribute [local go_sem] max2_int min2_int max_two min_two max_three min_three max_four min_four
set_option linter.unusedVariables false

theorem xor_byte (x y : Int) (hx0 : 0 ≤ x) (hx1 : x ≤ 255) (hy0 : 1 ≤ y) (hy1 : y ≤ 255) : 0 ≤ bits .xor .u8 x y ∧ bits .xor .u8 x y ≤ 255 ∧ bits .xor .u8 x y ≠ x := by
  obtain ⟨a, rfl⟩ := Int.eq_ofNat_of_zero_le hx0
  obtain ⟨b, rfl⟩ := Int.eq_ofNat_of_zero_le (show 0 ≤ y by omega)
  have ha : a < 256 := by omega
  have hb : b < 256 := by omega
  have e : bits .xor .u8 (a : Int) (b : Int) = ((a ^^^ b : Nat) : Int) := by
    have hlt : a ^^^ b < 2 ^ 8 := Nat.xor_lt_two_pow (n := 8) ha hb
    have ha' : a % 2 ^ IntKind.bits .u8 = a := Nat.mod_eq_of_lt ha
    have hb' : b % 2 ^ IntKind.bits .u8 = b := Nat.mod_eq_of_lt hb
    simp only [bits, BitVec.ofInt_natCast, BitVec.toNat_xor, BitVec.toNat_ofNat, ha', hb']
    rw [IntKind.wrap_u8]
    have : (2 : Nat) ^ 8 = 256 := rfl
    omega
  have hlt : a ^^^ b < 2 ^ 8 := Nat.xor_lt_two_pow (n := 8) ha hb
  have h28 : (2 : Nat) ^ 8 = 256 := rfl
  rw [e]
  refine ⟨by omega, by omega, fun h => ?_⟩
  have h2 : a ^^^ b = a := by omega
  have h3 : a ^^^ (a ^^^ b) = a ^^^ a := by rw [h2]
  rw [← Nat.xor_assoc, Nat.xor_self, Nat.zero_xor] at h3
  omega

/-- What the changed block decodes to. -/
theorem noted (n m j x : Int) (hn0 : 0 ≤ n) (hn1 : n ≤ 16) (hm0 : 0 ≤ m) (hm1 : m < 2 ^ n.toNat) (hj0 : 0 ≤ j) (hj1 : j < 32) (hx0 : 0 ≤ x) (hx1 : x ≤ 255) (hx : x ≠ rdOf 0 (encL n m) j) :
    ∃ r1 r2 r3 : Int, inode_Decode.f ((encL n m).set j.toNat x) = some (r1, r2, r3) ∧ (r3 = 22 ∨ (r3 = 0 ∧ r1 ≠ n) ∨ (r3 = 0 ∧ r1 = n ∧ r2 ≠ m)) := by
  have hb := encL_bytes hn0 hn1 hm0 hm1
  have hb2 : Bytes ((encL n m).set j.toNat x) := by
    intro y hy
    rcases List.mem_or_eq_of_mem_set hy with h | h
    · exact hb y h
    · omega
  have hl : (encL n m).length = 32 := rfl
  refine ⟨(decf ((encL n m).set j.toNat x)).1, (decf ((encL n m).set j.toNat x)).2.1, (decf ((encL n m).set j.toNat x)).2.2, decode_f _ hb2, ?_⟩
  generalize hL : (encL n m).set j.toNat x = L at *
  have hlen : L.length = 32 := by rw [← hL, List.length_set, hl]
  unfold decf
  rw [if_pos hlen]
  by_cases h1 : (encf (rd L 4) (rd L 5 + 256 * rd L 6)).2 = 0
  · rw [if_pos h1]
    by_cases h2 : (encf (rd L 4) (rd L 5 + 256 * rd L 6)).1 = L
    · rw [if_pos h2]
      by_cases h3 : rd L 4 = n
      · by_cases h4 : rd L 5 + 256 * rd L 6 = m
        · exfalso
          have e := (encf_ok h1).1
          rw [h2, h3, h4] at e
          have hjl : j.toNat < (encL n m).length := by omega
          have e2 : ((encL n m).set j.toNat x)[j.toNat]? = (encL n m)[j.toNat]? := by rw [hL, e]
          rw [List.getElem?_set_self hjl, List.getElem?_eq_getElem hjl] at e2
          apply hx
          unfold rdOf
          rw [List.getD_eq_getElem?_getD, List.getElem?_eq_getElem hjl]
          exact Option.some.inj e2
        · exact .inr (.inr ⟨rfl, h3, h4⟩)
      · exact .inr (.inl ⟨rfl, h3⟩)
    · rw [if_neg h2]
      exact .inl rfl
  · rw [if_neg h1]
    exact .inl rfl

set_option maxHeartbeats 1000000 in
set_option maxRecDepth 100000 in
theorem notes (a b c0 c1 : Int) (w : World) (ha0 : 0 ≤ a) (ha1 : a ≤ 255) (hb0 : 0 ≤ b) (hb1 : b ≤ 65535) (hc0 : 0 ≤ c0) (hc1 : c0 ≤ 255) (hd0 : 0 ≤ c1) (hd1 : c1 ≤ 255) :
    Calls Try.prog 7 #[.int .u8 a, .int .u16 b, .agg #[.int .u8 c0, .int .u8 c1]] w fun e w' => e = .returned (.bool true) ∧ Below w.heap.size w w' := by
  have hn0 : 0 ≤ a % 17 := by omega
  have hn1 : a % 17 ≤ 16 := by omega
  have hp := pow_le hn0 hn1
  have hw : wrap64 (2 ^ (a % 17).toNat) = 2 ^ (a % 17).toNat := w64 (by omega) (by omega)
  have hz : ¬ wrap64 (2 ^ (a % 17).toNat) = 0 := by
    rw [hw]
    omega
  have hm0 : 0 ≤ b % wrap64 (2 ^ (a % 17).toNat) := by
    rw [hw]
    exact Int.emod_nonneg _ (by omega)
  have hm1 : b % wrap64 (2 ^ (a % 17).toNat) < 2 ^ (a % 17).toNat := by
    rw [hw]
    exact Int.emod_lt_of_pos _ (by omega)
  have HM1 := Lib.hid hm1
  clear hw hp hm1
  go_enter Try.func7, Try.ntmps7
  go_wp2_with fail
  refine (estoverslaw27_awake.calls 200 true _ (awake_all 200 (by decide))).mono ?_
  rintro e w1 ⟨rfl, hb1⟩
  have hbox : (w.alloc (.cells #[.int .u8 c0, .int .u8 c1] 39)).heap[w.heap.size]? = some (.cells #[.int .u8 c0, .int .u8 c1] 39 (0, 0)) := by
    show (w.heap.push _)[w.heap.size]? = _
    simp
  have B1 := Aside0.mk (blk_below hbox hb1)
  have L1 := Aside0.mk (below_step (below_alloc (Below.refl w.heap.size w) _) hb1)
  clear hbox hb1
  go_wp2_with fail
  clear hz
  generalize a % 17 = n at *
  generalize b % wrap64 (2 ^ n.toNat) = m at *
  refine (inode_Encode.calls n m (encL n m) 0 _ (by
    show some (encf n m) = some (encL n m, 0)
    unfold encf
    have := HM1.out
    rw [if_neg (by omega), if_neg (by omega)])).mono ?_
  rintro e w2 ⟨v0, rfl, hR, hb2⟩
  obtain ⟨g, cap, hv', hg1, hg2, cells, hcells⟩ := Kd.R_form hR (show 0 < (encL n m).length from Nat.succ_pos 31)
  have hv : v0 = .slice (some ⟨g, 0, none⟩) 32 cap := hv'
  clear hv'
  subst hv
  have B2 := Aside0.mk (blk_below B1.out hb2)
  have L2 := Aside0.mk (below_step L1.out hb2)
  have R2 := Aside0.mk hR
  clear B1 L1 hb2 hR hg1 hg2 hcells cells
  have hlt := blk_lt B2.out
  go_wp2_with (at_builtin; refine Kd.R_append_row (Value.int .u8) 0 (h1 := fun _ => rfl) (w0 := w) w.heap.size rfl _ _ 23 5 (.int .u8 0) 1 rfl Try.underlying23 info5 rfl (by decide) (.slice (some ⟨w2.heap.size, 0, none⟩) 0 0) [] (encL n m) (some ⟨g, 0, none⟩) 32 cap (fun _ => True) rfl rfl (fun _ _ => trivial) ?ho ?hr ?hb ?hs (by decide) ?_; (case ho => exact ⟨fun _ _ => trivial, [], World.ownsRow_lit (base := w.heap.size) (e := 5) (size := 1) w2 #[] 0 (by omega) (by decide) rfl, Reps.none _ _⟩); (case hr => exact Kd.C_alloc (Kd.R_reads' R2.out).2.2 _); (case hb => exact below_alloc L2.out _); (case hs => exact Nat.le_of_lt (by simp; omega)); intro v1 w3 hR3 hb3 hg3 _)
  obtain ⟨go, co, hv1', hgo1, hgo2, cells, hcells⟩ := Kd.R_form hR3 (show 0 < ([] ++ encL n m).length from Nat.succ_pos 31)
  have hv1 : v1 = .slice (some ⟨go, 0, none⟩) 32 co := hv1'
  clear hv1'
  subst hv1
  have hR3 : Kd.R (Kd.int .u8) 5 w3 w.heap.size (fun _ => True) (.slice (some ⟨go, 0, none⟩) 32 co) (encL n m) := hR3
  have B3 : w3.heap[w.heap.size]? = some (.cells #[.int .u8 c0, .int .u8 c1] 39 (0, 0)) := blk_grown (blk_alloc B2.out _) hg3 (by
    intro e
    have e : w.heap.size = w2.heap.size := Option.some.inj e
    omega)
  have hj0 : 0 ≤ c0 % 32 := by omega
  have hj1 : c0 % 32 < 32 := by omega
  obtain ⟨hx, hf⟩ := Kd.R_celln 0 hR3 (c0 % 32) hj0 hj1
  have hP := Kd.R_putg hR3 (c0 % 32)
  have hq0 := (blk_cell B3 0).trans rfl
  have hq1 := (blk_cell B3 1).trans rfl
  have hq0 : w3.cell? ⟨w.heap.size, 0, none⟩ = some (.int .u8 c0) := hq0
  have hq1 : w3.cell? ⟨w.heap.size, 1, none⟩ = some (.int .u8 c1) := hq1
  generalize hold : rdOf 0 (encL n m) (c0 % 32) = old at *
  have HP := Lib.hid hP
  have HO := Lib.hid hold
  have HR := Aside0.mk hR3
  have HB := Aside0.mk hb3
  have HGO := Aside0.mk hgo1
  clear hP hold hR3 hb3 B3 hg3 hgo1 hgo2 hcells cells R2 B2 L2 hlt
  go_region
  have hold := HO.out
  have hyb := encL_bytes hn0 hn1 hm0 HM1.out
  have hob : 0 ≤ old ∧ old ≤ 255 := by
    rw [← hold]
    exact rd_byte hyb (c0 % 32)
  have hmx : 1 ≤ (if 1 < c1 then c1 else 1) ∧ (if 1 < c1 then c1 else 1) ≤ 255 := by split <;> omega
  have hxb := xor_byte old _ hob.1 hob.2 hmx.1 hmx.2
  generalize hxx : bits BinOp.xor IntKind.u8 old (if 1 < c1 then c1 else 1) = x at *
  obtain ⟨r1, r2, r3, hdec, hcase⟩ := noted n m (c0 % 32) x hn0 hn1 hm0 HM1.out hj0 hj1 hxb.1 hxb.2.1 (by rw [hold]; exact hxb.2.2)
  have hR4 := Kd.R_drew (HP.out x).1
  have hB4 : Below w.heap.size w (w3.setCell ⟨go, (c0 % 32).toNat, none⟩ (.int .u8 x)).drew := below_drew1 (below_set HB.out HGO.out)
  have hlen : ((encL n m).set (c0 % 32).toNat x).length = 32 := by rw [List.length_set]; rfl
  have hD := Kd.R_reads' hR4
  have hcall := inode_Decode.calls (some ⟨go, 0, none⟩) co ((encL n m).set (c0 % 32).toNat x) r1 r2 r3 _ hD.2.2 (by rw [hlen]; exact hD.2.1) hdec
  rw [hlen] at hcall
  have HC := Lib.hid hcall
  have HB4 := Aside0.mk hB4
  clear hold hyb hob hmx hxb hdec hR4 hB4 hlen hD hcall HP HO HR HB HGO HM1 hx hf hq0 hq1 hxx
  generalize (w3.setCell ⟨go, (c0 % 32).toNat, none⟩ (.int .u8 x)).drew = w4 at *
  rcases hcase with rfl | ⟨rfl, hne⟩ | ⟨rfl, rfl, hne⟩
  · go_wp2_with (go_at_call 15; (with_reducible refine HC.out.mono ?_); rintro e w5 ⟨rfl, hb5⟩; have L5 := Aside0.mk (below_step HB4.out hb5); clear hb5)
    all_goals (go_ret; exact ⟨rfl, L5.out⟩)
  · have hne1 : (r1 != n) = true := bne_iff_ne.2 hne
    have hne2 : (r1 == n) = false := beq_eq_false_iff_ne.2 hne
    go_wp2_with (go_at_call 15; (with_reducible refine HC.out.mono ?_); rintro e w5 ⟨rfl, hb5⟩; have L5 := Aside0.mk (below_step HB4.out hb5); clear hb5)
    all_goals (go_ret; exact ⟨rfl, L5.out⟩)
  · have hne1 : (r2 != m) = true := bne_iff_ne.2 hne
    have hne2 : (r2 == m) = false := beq_eq_false_iff_ne.2 hne
    go_wp2_with (go_at_call 15; (with_reducible refine HC.out.mono ?_); rintro e w5 ⟨rfl, hb5⟩; have L5 := Aside0.mk (below_step HB4.out hb5); clear hb5)
    all_goals (go_ret; exact ⟨rfl, L5.out⟩)

end Go.Proofs.Ytnkopggkapdceaa.Note
