/- What is proved: a call of Crash returns a device of one block, which is the old block or one of the contents that wait. Conditions: the device passes Check and is copied by clone, all contents meet P. -/
import Derived.Test.YtpfbajjpommjmaaCrsa
import Derived.Test.YtpfbajjpommjmaaTopx7
import Derived.Test.YtpfbajjpommjmaaTopx9
namespace Go.Proofs.Ytpfbajjpommjmaa.Hand
open Go.RowKit Go.Proofs.YtpfbajjpommjmaaW.PrintWords Go.Proofs.YtpfbajjpommjmaaW.PrintLast Go.Proofs.YtpfbajjpommjmaaW.PrintMore Go.Proofs.Ytpfbajjpommjmaa.Top
set_option linter.unusedVariables false
set_option linter.unusedSimpArgs false

structure CI (w wr : World) (g2 gr gn : Nat) (D5 PK R5 : Array Value) (P : List Int → Prop) (i : Nat) : Prop where
  b3 : wr.heap[w.heap.size]? = some (.cells D5 33 (0, 0))
  bp : wr.heap[w.heap.size + 1]? = some (.cells PK 23 (0, 0))
  b4 : wr.heap[w.heap.size + 1 + 1]? = some (.cells #[.int .i64 0, .int .i64 0, .slice none 0 0, .slice none 0 0, .slice none 0 0] 33 (0, 0))
  br : wr.heap[gr]? = some (.cells R5 33 (0, 0))
  bn : wr.heap[gn]? = some (.cells #[.int .i64 (i : Int)] 3 (0, 0))
  L : Below w.heap.size w wr
  r : ∃ cs2 A c z, wr.heap[g2]? = some (.cells cs2 25 (0, 0)) ∧ cs2[0]? = some (.slice A z.length c) ∧ z.length ≤ c ∧ F5 wr A z ∧ P z

theorem CI.alloc {w wr : World} {g2 gr gn : Nat} {D5 PK R5 : Array Value} {P : List Int → Prop} {i : Nat} (h : CI w wr g2 gr gn D5 PK R5 P i) (o : Obj) : CI w (wr.alloc o) g2 gr gn D5 PK R5 P i := by
  obtain ⟨b3, bp, b4, br, bn, L, cs2, A, c, z, h2, hc, hl, hf, hp⟩ := h
  exact ⟨blk_alloc b3 o, blk_alloc bp o, blk_alloc b4 o, blk_alloc br o, blk_alloc bn o, below_alloc L o, cs2, A, c, z, blk_alloc h2 o, hc, hl, F5_keeps hf (keeps_alloc wr o), hp⟩

theorem CI.keep {w wr w' : World} {g2 gr gn : Nat} {D5 PK R5 : Array Value} {P : List Int → Prop} {i : Nat} {x y : List Int} (h : CI w wr g2 gr gn D5 PK R5 P i) (k : KeepPost w wr i gn g2 x y w') (hx : P x) (hy : P y) : CI w w' g2 gr gn D5 PK R5 P (i + 1) := by
  obtain ⟨b3, bp, b4, br, bn, L, cs2, A, c, z, h2, hc, hl, hf, hp⟩ := h
  obtain ⟨kn, ⟨cs2', A', c', z', g2', gc', gl', gf', gz'⟩, ks, kL⟩ := k
  refine ⟨(ks _ (blk_lt b3) (blk_ne b3 bn (by decide)) (blk_ne b3 h2 (by decide))).trans b3, (ks _ (blk_lt bp) (blk_ne bp bn (by decide)) (blk_ne bp h2 (by decide))).trans bp, (ks _ (blk_lt b4) (blk_ne b4 bn (by decide)) (blk_ne b4 h2 (by decide))).trans b4, (ks _ (blk_lt br) (blk_ne br bn (by decide)) (blk_ne br h2 (by decide))).trans br, ?_, kL, cs2', A', c', z', g2', gc', gl', gf', ?_⟩
  · rw [kn]
    rfl
  · rcases gz' with rfl | rfl
    · exact hx
    · exact hy

theorem crash_keep {w wr : World} {g2 gr gn np cp cap2 : Nat} {Ap : Option Addr} {r0 r1 r3 r4 : Value} {D5 : Array Value} {P : List Int → Prop} {i : Nat} (A5 : Option Addr) (c5 : Nat) (y : List Int)
    (h : CI w wr g2 gr gn D5 #[.slice Ap np cp] #[r0, r1, .slice (some ⟨g2, 0, none⟩) 1 cap2, r3, r4] P i) (hi : i ≤ 1000) (hpk : ∀ j : Nat, j < np → ∃ ad b, Ap = some ad ∧ w.cell? (ad.add j) = some (.bool b)) (hy : (Kd.int .u8).C w A5 y.length y) (ly : y.length ≤ c5) (hy3 : y.length ≤ 100) (hP : P y) (hgn : w.heap.size ≤ gn) (hg2 : w.heap.size ≤ g2) :
    Calls Try.prog 21 #[.int .i64 0, .slice A5 y.length c5, .pointer (some ⟨gn, 0, none⟩), .pointer (some ⟨w.heap.size + 1, 0, none⟩), .pointer (some ⟨gr, 0, none⟩)] wr fun e w' => e = .returned (.tuple #[]) ∧ CI w w' g2 gr gn D5 #[.slice Ap np cp] #[r0, r1, .slice (some ⟨g2, 0, none⟩) 1 cap2, r3, r4] P (i + 1) := by
  have h' := h
  obtain ⟨b3, bp, b4, br, bn, L, cs2, A, c, z, h2, hc, hl, hf, hp⟩ := h
  refine (keep_calls i np cp gn _ gr g2 cap2 Ap r0 r1 r3 r4 cs2 A A5 c c5 z y w wr bn bp br h2 hc hl hf L hgn hg2 (fun j hj => ?_) hi (Kd.C_below hy L) ly hy3).mono (fun e w' hh => ⟨hh.1, CI.keep h' hh.2 hp hP⟩)
  obtain ⟨ad, b, e, hcell⟩ := hpk j hj
  exact ⟨ad, b, e, (L.cell (World.block_lt_of_cell? w _ hcell)).trans hcell⟩

theorem far2 {w : World} {g a : Nat} {o : Option Obj} (h : w.heap[g]? = o) (hg : g ≠ a) (i j : Nat) (b0 b1 : Value) : ((w.setCell ⟨a, i, none⟩ b0).setCell ⟨a, j, none⟩ b1).heap[g]? = o := blk_farO (p := ⟨a, j, none⟩) (blk_farO (p := ⟨a, i, none⟩) h hg b0) hg b1

theorem getD_mem {α : Type} (l : List α) (z : α) (i : Nat) (h : i < l.length) : l.getD i z ∈ l := by
  rw [List.getD_eq_getElem?_getD, List.getElem?_eq_getElem h]
  exact List.getElem_mem h

set_option maxHeartbeats 4000000 in
set_option maxRecDepth 100000 in
theorem crash_calls (k : Nat) (d n : Int) (A2 A3 A4 Ap : Option Addr) (c2 c3 c4 np cp : Nat) (bl : List (List Int)) (x : List Int) (ca : List S60) (qu : List S43) (P : List Int → Prop) (w : World)
    (h2 : Kd.C (Kd.slice 5 (Kd.int .u8)) w A2 bl.length bl) (l2 : bl.length ≤ c2) (h3 : Kd.C k60 w A3 ca.length ca) (l3 : ca.length ≤ c3) (h4 : Kd.C k43 w A4 qu.length qu) (l4 : qu.length ≤ c4)
    (hpk : ∀ j : Nat, j < np → ∃ ad b, Ap = some ad ∧ w.cell? (ad.add j) = some (.bool b))
    (hk : device_Check.f k d n bl ca qu = some 0) (hcl : device_clone.f k d n bl ca qu = some (d, n, [x], ca, qu)) (hP : P x) (hca : ∀ p ∈ ca, p.f0 = 0 ∧ p.f1.length ≤ 100 ∧ P p.f1) (hqu : ∀ p ∈ qu, p.f1 = 2 → p.f2 = 0 ∧ p.f3.length ≤ 100 ∧ P p.f3) (hcl1 : ca.length ≤ 400) (hql1 : qu.length ≤ 400) :
    Calls Try.prog 9 #[.agg #[.int .i64 d, .int .i64 n, .slice A2 bl.length c2, .slice A3 ca.length c3, .slice A4 qu.length c4], .slice Ap np cp] w fun e w' => ∃ A2 c2, e = .returned (.tuple #[.agg #[.int .i64 d, .int .i64 n, .slice A2 1 c2, .slice none 0 0, .slice none 0 0], .int .i64 0]) ∧ 1 ≤ c2 ∧ ∃ z, P z ∧ FT (Kd.slice 5 (Kd.int .u8)) w' A2 1 [z] ∧ Below w.heap.size w w' := by
  have hu33 := Try.underlying33
  have hu60 := Try.underlying60
  have hu43 := Try.underlying43
  have HPK := Aside0.mk hpk
  clear hpk
  go_enter Try.func9, Try.ntmps9
  go_wp2_with (first
    | (go_at_call 13; (with_reducible refine (device_Check.calls k d n A2 c2 bl A3 c3 ca A4 c4 qu 0 _ ?s1 l2 ?s3 l3 ?s5 l4 hk).mono ?_); (case s1 => exact Kd.C_alloc (Kd.C_alloc (Kd.C_alloc h2 _) _) _); (case s3 => exact Kd.C_alloc (Kd.C_alloc (Kd.C_alloc h3 _) _) _); (case s5 => exact Kd.C_alloc (Kd.C_alloc (Kd.C_alloc h4 _) _) _); rintro e w1 ⟨rfl, hb⟩; have F3 := Aside0.mk (blk_below (three w _ _ _).1 hb); have FP := Aside0.mk (blk_below (three w _ _ _).2.1 hb); have F4 := Aside0.mk (blk_below (three w _ _ _).2.2 hb); have L1 := Aside0.mk (below_step (below_alloc (below_alloc (below_alloc (Below.refl w.heap.size w) _) _) _) hb); clear hb; obtain ⟨p0, p1, p2, p3, p4, q0, q1, q2, q3, q4⟩ := box5 F3.out)
    | (go_at_call 14; (with_reducible refine (device_clone.calls k d n A2 c2 bl A3 c3 ca A4 c4 qu d n [x] ca qu _ (Kd.C_below h2 L1.out) l2 (Kd.C_below h3 L1.out) l3 (Kd.C_below h4 L1.out) l4 hcl).mono ?_); rintro e w2 ⟨v2, v3, v4, rfl, hS2, hS3, hS4, hb⟩; have G3 := Aside0.mk (blk_below F3.out hb); have GP := Aside0.mk (blk_below FP.out hb); have G4 := Aside0.mk (blk_below F4.out hb); have L2 := Aside0.mk (below_step L1.out hb); obtain ⟨g2, cap2, cs2, Ad, cd, rfl, hn2, hb2, hh2, hd2, hl2, hf2⟩ := blocks_open hS2; have b2le := Aside0.mk (Nat.le_trans L1.out.size hb2); obtain ⟨A3', c3', e3⟩ := Kd.S_slice hS3; subst e3; obtain ⟨A4', c4', e4⟩ := Kd.S_slice hS4; subst e4; clear hS2 hS3 hS4 hb hb2 p0 p1 p2 p3 p4 q0 q1 q2 q3 q4; obtain ⟨p0, p1, p2, p3, p4, q0, q1, q2, q3, q4⟩ := box5 G3.out; have la := blk_lt G4.out; have lb := blk_lt G3.out))
  have I0 : CI w ((w2.alloc (.cells #[.int .i64 d, .int .i64 n, .slice (some ⟨g2, 0, none⟩) 1 cap2, .slice A3' ca.length c3', .slice A4' qu.length c4'] 33)).alloc (.cells #[.int .i64 0] 3)) g2 w2.heap.size (w2.heap.size + 1) #[.int .i64 d, .int .i64 n, .slice A2 bl.length c2, .slice A3 ca.length c3, .slice A4 qu.length c4] #[.slice Ap np cp] #[.int .i64 d, .int .i64 n, .slice (some ⟨g2, 0, none⟩) 1 cap2, .slice A3' ca.length c3', .slice A4' qu.length c4'] P 0 :=
    ⟨blk_alloc (blk_alloc G3.out _) _, blk_alloc (blk_alloc GP.out _) _, blk_alloc (blk_alloc G4.out _) _, (two w2 _ _).1, (two w2 _ _).2, below_alloc (below_alloc L2.out _) _, cs2, Ad, cd, x, blk_alloc (blk_alloc hh2 _) _, hd2, hl2, F5_keeps hf2 (keeps_trans (keeps_alloc w2 _) (keeps_alloc _ _)), hP⟩
  obtain ⟨Y, hY⟩ : ∃ Y, Y = (w2.alloc (.cells #[.int .i64 d, .int .i64 n, .slice (some ⟨g2, 0, none⟩) 1 cap2, .slice A3' ca.length c3', .slice A4' qu.length c4'] 33)).alloc (.cells #[.int .i64 0] 3) := ⟨_, rfl⟩
  rw [← hY] at I0 ⊢
  clear hY G3 GP G4 L2 hd2 hl2 hf2 hh2 p0 p1 p2 p3 p4 q0 q1 q2 q3 q4 F3 FP F4 L1
  have gle : w.heap.size ≤ w2.heap.size := by omega
  obtain ⟨gr, hgr⟩ : ∃ g, g = w2.heap.size := ⟨_, rfl⟩
  rw [← hgr] at I0 gle ⊢
  obtain ⟨gn, hgn⟩ : ∃ g, g = gr + 1 := ⟨_, rfl⟩
  rw [← hgn] at I0 ⊢
  have gne : w.heap.size ≤ gn := by omega
  have glt : w.heap.size + 1 + 1 < gr := by omega
  have GLT := Aside0.mk glt
  clear hgr hgn la lb glt
  have I1 := Aside0.mk I0
  clear I0
  have HCA := Aside0.mk hca
  have HQU := Aside0.mk hqu
  clear hca hqu
  go_loopg [26] ca.length (fun kq v wr => ∃ i : Nat, v = .int .i64 (i : Int) ∧ i + kq = ca.length ∧ Aside0 (CI w wr g2 gr gn #[.int .i64 d, .int .i64 n, .slice A2 bl.length c2, .slice A3 ca.length c3, .slice A4 qu.length c4] #[.slice Ap np cp] #[.int .i64 d, .int .i64 n, .slice (some ⟨g2, 0, none⟩) 1 cap2, .slice A3' ca.length c3', .slice A4' qu.length c4'] P i))
  case atStart => exact ⟨0, rfl, by omega, I1⟩
  case round =>
    obtain ⟨i, rfl, hik, I⟩ := hrel
    cases gk with
    | zero =>
      have c0 : ¬ (i : Int) < (ca.length : Int) := by omega
      have hic : i = ca.length := by omega
      clear hik
      obtain ⟨p0, p1, p2, p3, p4, q0, q1, q2, q3, q4⟩ := box5 I.out.b3
      go_wp2
      clear p0 p1 p2 p3 p4 q0 q1 q2 q3 q4 c0
      go_loopg [40] qu.length (fun kq v wr => ∃ j m : Nat, v = .int .i64 (j : Int) ∧ j + kq = qu.length ∧ m ≤ ca.length + j ∧ Aside0 (CI w wr g2 gr gn #[.int .i64 d, .int .i64 n, .slice A2 bl.length c2, .slice A3 ca.length c3, .slice A4 qu.length c4] #[.slice Ap np cp] #[.int .i64 d, .int .i64 n, .slice (some ⟨g2, 0, none⟩) 1 cap2, .slice A3' ca.length c3', .slice A4' qu.length c4'] P m))
      case atStart => exact ⟨0, i, rfl, by omega, by omega, I⟩
      case round =>
        clear I
        obtain ⟨j, m, rfl, hjk, hm, I⟩ := hrel
        cases gk with
        | zero =>
          have c0 : ¬ (j : Int) < (qu.length : Int) := by omega
          clear hjk
          obtain ⟨p0, p1, p2, p3, p4, q0, q1, q2, q3, q4⟩ := box5 I.out.br
          obtain ⟨b60, b61, b62, b63, b64, e60, e61, e62, e63, e64⟩ := box5 I.out.b4
          have ne1 : gr ≠ w.heap.size + 1 + 1 := by have := GLT.out; omega
          have ne2 : w.heap.size + 1 + 1 ≠ gr := by have := GLT.out; omega
          go_wp2
          obtain ⟨b3, bp, b4, br, bn, L, cs2, A, c, z, h2', hc, hl, hf, hp⟩ := I.out
          have P4 := put5 (far2 b4 ne2 3 4 (.slice none 0 0) (.slice none 0 0)) (.int .i64 d) (.int .i64 n) (.slice (some ⟨g2, 0, none⟩) 1 cap2) (.slice none 0 0) (.slice none 0 0)
          have PB := far5 (far2 h2' (blk_ne h2' br (by decide)) 3 4 (.slice none 0 0) (.slice none 0 0)) (blk_ne h2' b4 (by decide)) (.int .i64 d) (.int .i64 n) (.slice (some ⟨g2, 0, none⟩) 1 cap2) (.slice none 0 0) (.slice none 0 0)
          have KK : Keeps5 wr (((((((wr.setCell ⟨gr, 3, none⟩ (.slice none 0 0)).setCell ⟨gr, 4, none⟩ (.slice none 0 0)).setCell ⟨w.heap.size + 1 + 1, 0, none⟩ (.int .i64 d)).setCell ⟨w.heap.size + 1 + 1, 1, none⟩ (.int .i64 n)).setCell ⟨w.heap.size + 1 + 1, 2, none⟩ (.slice (some ⟨g2, 0, none⟩) 1 cap2)).setCell ⟨w.heap.size + 1 + 1, 3, none⟩ (.slice none 0 0)).setCell ⟨w.heap.size + 1 + 1, 4, none⟩ (.slice none 0 0)) := fun k hk => by
            have f0 : wr.heap[k]? = wr.heap[k]? := rfl
            exact far5 (far2 f0 (T5_ne hk br (by decide)) 3 4 (.slice none 0 0) (.slice none 0 0)) (T5_ne hk b4 (by decide)) (.int .i64 d) (.int .i64 n) (.slice (some ⟨g2, 0, none⟩) 1 cap2) (.slice none 0 0) (.slice none 0 0)
          refine bodyPost_ret (fn := Try.f9) (results_ct rfl _ _ (w.heap.size + 1 + 1) 33 _ (0, 0) _ rfl P4 hu33 rfl (by kernel_rfl)) rfl ?_
          refine ⟨some ⟨g2, 0, none⟩, cap2, by simp, hn2, z, hp, blocks_F PB hc hl (F5_keeps hf KK), ?_⟩
          have gr0 : w.heap.size ≤ gr := gle
          repeat refine below_set ?_ (by omega)
          exact L
        | succ kr =>
          have c0 : (j : Int) < (qu.length : Int) := by omega
          have hz : (0 : Int) ≤ (j : Int) := by omega
          have h0 : m ≤ 1000 := by omega
          have HM2 := Aside0.mk (show m + 1 ≤ ca.length + (j + 1) by omega)
          have HM3 := Aside0.mk (show m ≤ ca.length + (j + 1) by omega)
          have HJ2 := Aside0.mk (show j + 1 + kr = qu.length by omega)
          obtain ⟨ad, A1, c1, e3, hx0, hx1, hx2, hx3, hl1, hi1⟩ := at_T43 h4 (j : Int) hz c0
          have hmem : rd_T43 qu (j : Int) ∈ qu := getD_mem qu z43 _ (by rw [Int.toNat_natCast]; omega)
          have hq := HQU.out _ hmem
          cases e3
          generalize rd_T43 qu (j : Int) = q at hx0 hx1 hx2 hx3 hl1 hi1 hq
          clear hmem
          replace hx0 := (I.out.L.cell (World.block_lt_of_cell? w _ hx0)).trans hx0
          replace hx1 := (I.out.L.cell (World.block_lt_of_cell? w _ hx1)).trans hx1
          replace hx2 := (I.out.L.cell (World.block_lt_of_cell? w _ hx2)).trans hx2
          replace hx3 := (I.out.L.cell (World.block_lt_of_cell? w _ hx3)).trans hx3
          rw [Int.toNat_natCast] at hx0 hx1 hx2 hx3
          have HI := Aside0.mk hi1
          have HL := Aside0.mk hl1
          clear hi1 hl1 hjk hm
          by_cases hkd : q.f1 = 2
          · obtain ⟨m0, m1, m2⟩ := hq hkd
            have M1 := Aside0.mk m1
            clear hq m1
            go_wp2_with (go_at_call 21; (with_reducible refine (crash_keep A1 c1 q.f3 (I.out.alloc _) h0 HPK.out HI.out HL.out M1.out m2 gne b2le.out).mono ?_); rintro e w3 ⟨rfl, hK⟩; have J := Aside0.mk hK; clear hK)
            go_roundg kr
            case measure => exact Nat.lt_succ_self kr
            case rel => exact ⟨j + 1, m + 1, congrArg _ (Int.natCast_succ j).symm, HJ2.out, HM2.out, J⟩
          · clear hq
            go_wp2
            go_roundg kr
            case measure => exact Nat.lt_succ_self kr
            case rel => exact ⟨j + 1, m, congrArg _ (Int.natCast_succ j).symm, HJ2.out, HM3.out, ⟨I.out.alloc _⟩⟩
    | succ kr =>
      have c0 : (i : Int) < (ca.length : Int) := by omega
      have hz : (0 : Int) ≤ (i : Int) := by omega
      have h0 : i ≤ 1000 := by omega
      obtain ⟨ad, A1, c1, e3, hx0, hx1, hl1, hi1⟩ := at_T60 h3 (i : Int) hz c0
      have hmem : rd_T60 ca (i : Int) ∈ ca := getD_mem ca z60 _ (by rw [Int.toNat_natCast]; omega)
      obtain ⟨m0, m1, m2⟩ := HCA.out _ hmem
      cases e3
      rw [m0] at hx0
      generalize (rd_T60 ca (i : Int)).f1 = y at hx1 hl1 hi1 m1 m2
      replace hx0 := (I.out.L.cell (World.block_lt_of_cell? w _ hx0)).trans hx0
      replace hx1 := (I.out.L.cell (World.block_lt_of_cell? w _ hx1)).trans hx1
      rw [Int.toNat_natCast] at hx0 hx1
      have HI := Aside0.mk hi1
      have HL := Aside0.mk hl1
      have M1 := Aside0.mk m1
      have HIK := Aside0.mk (show i + 1 + kr = ca.length from by rw [Nat.add_assoc, Nat.add_comm 1 kr]; exact hik)
      clear hi1 hl1 hmem m0 m1 hik
      go_wp2_with (go_at_call 21; (with_reducible refine (crash_keep A1 c1 y (I.out.alloc _) h0 HPK.out HI.out HL.out M1.out m2 gne b2le.out).mono ?_); rintro e w3 ⟨rfl, hK⟩; have J := Aside0.mk hK; clear hK)
      go_roundg kr
      case measure => exact Nat.lt_succ_self kr
      case rel => exact ⟨i + 1, congrArg _ (Int.natCast_succ i).symm, HIK.out, J⟩
end Go.Proofs.Ytpfbajjpommjmaa.Hand
