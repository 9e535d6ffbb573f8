/- What is proved: New, Submit, Complete, Crash, Durable and Decode on a device that is as the law makes them, every content of which meets P. Conditions: as DevOk says. -/
import Derived.Test.YtpfbajjpommjmaaPlain
import Derived.Test.YtpfbajjpommjmaaSubf
import Derived.Test.YtpfbajjpommjmaaCmpe
import Derived.Test.YtpfbajjpommjmaaCrsb
namespace Go.Proofs.Ytpfbajjpommjmaa.Hand
open Go.RowKit Go.Proofs.YtpfbajjpommjmaaW.PrintWords Go.Proofs.YtpfbajjpommjmaaW.PrintLast Go.Proofs.YtpfbajjpommjmaaW.PrintMore Go.Proofs.Ytpfbajjpommjmaa.Top
set_option linter.unusedVariables false
set_option linter.unusedSimpArgs false

structure DevOk (w : World) (P : List Int → Prop) (n : Int) (x : List Int) (ca : List S60) (qu : List S43) (A2 A3 A4 : Option Addr) (c2 c3 c4 : Nat) : Prop where
  f2 : FT (Kd.slice 5 (Kd.int .u8)) w A2 1 [x]
  l2 : 1 ≤ c2
  f3 : FT k60 w A3 ca.length ca
  l3 : ca.length ≤ c3
  f4 : FT k43 w A4 qu.length qu
  l4 : qu.length ≤ c4
  n0 : 0 ≤ n
  n1 : n ≤ 900
  hx : x.length = 32
  px : P x
  hc : GC ca
  pc : ∀ p ∈ ca, P p.f1
  hq : GQ n qu
  pq : ∀ p ∈ qu, p.f1 = 2 → P p.f3
  ql : qu.length ≤ 4

theorem DevOk.keeps {w w' : World} {P : List Int → Prop} {n : Int} {x : List Int} {ca : List S60} {qu : List S43} {A2 A3 A4 : Option Addr} {c2 c3 c4 : Nat} (h : DevOk w P n x ca qu A2 A3 A4 c2 c3 c4) (k : KeepsT w w') : DevOk w' P n x ca qu A2 A3 A4 c2 c3 c4 :=
  { h with f2 := FT_keeps h.f2 k, f3 := FT_keeps h.f3 k, f4 := FT_keeps h.f4 k }
theorem DevOk.mono {w : World} {P Q : List Int → Prop} {n : Int} {x : List Int} {ca : List S60} {qu : List S43} {A2 A3 A4 : Option Addr} {c2 c3 c4 : Nat} (h : DevOk w P n x ca qu A2 A3 A4 c2 c3 c4) (hp : ∀ z, P z → Q z) : DevOk w Q n x ca qu A2 A3 A4 c2 c3 c4 :=
  { h with px := hp _ h.px, pc := fun p hm => hp _ (h.pc p hm), pq := fun p hm hk => hp _ (h.pq p hm hk) }

/-- What an operation returns: an error, or a device as the law makes them. -/
def Res (w' : World) (P : List Int → Prop) (N code dd nn : Int) (B2 B3 B4 : Option Addr) (m2 m3 m4 e2 e3 e4 : Nat) : Prop :=
  code ≠ 0 ∨ (dd = 4 ∧ m2 = 1 ∧ ∃ x ca qu, m3 = ca.length ∧ m4 = qu.length ∧ nn ≤ N ∧ DevOk w' P nn x ca qu B2 B3 B4 e2 e3 e4)

section
variable {w : World} {P : List Int → Prop} {n : Int} {x : List Int} {ca : List S60} {qu : List S43} {A2 A3 A4 : Option Addr} {c2 c3 c4 : Nat}

theorem DevOk.check (h : DevOk w P n x ca qu A2 A3 A4 c2 c3 c4) : device_Check.f 200 4 n [x] ca qu = some 0 :=
  check_f 200 4 n x ca qu (by decide) (by decide) (by decide) h.n0 (by have := h.n1; omega) h.hx h.hc h.hq (by have := h.ql; omega)
theorem DevOk.clone (h : DevOk w P n x ca qu A2 A3 A4 c2 c3 c4) : device_clone.f 200 4 n [x] ca qu = some (4, n, [x], ca, qu) :=
  clone_f 200 4 n x ca qu (by decide) h.hx h.hc h.hq (by have := h.ql; omega)

theorem new_w (A : Option Addr) (c : Nat) (w : World) (hC : Kd.C (Kd.slice 5 (Kd.int .u8)) w A 1 [x]) (hc : 1 ≤ c) (hx : x.length = 32) (px : P x) (d : Int) (hd : 1 ≤ d) (hd2 : d ≤ 16) :
    Calls Try.prog 6 #[.int .i64 d, .slice A 1 c] w fun e w' => ∃ B2 B3 B4 e2 e3 e4, e = .returned (.tuple #[.agg #[.int .i64 d, .int .i64 0, .slice B2 1 e2, .slice B3 0 e3, .slice B4 0 e4], .int .i64 0]) ∧ DevOk w' P 0 x [] [] B2 B3 B4 e2 e3 e4 ∧ Below w.heap.size w w' := by
  refine (device_New.calls 200 d A c [x] d 0 [x] [] [] 0 w hC hc (new_f 200 d x (by decide) hd hd2 hx)).mono ?_
  rintro e w' ⟨v2, v3, v4, rfl, h2, h3, h4, hb⟩
  obtain ⟨B2, e2, q2⟩ := Kd.S_slice h2
  subst q2
  obtain ⟨B3, e3, q3⟩ := Kd.S_slice h3
  subst q3
  obtain ⟨B4, e4, q4⟩ := Kd.S_slice h4
  subst q4
  exact ⟨B2, B3, B4, e2, e3, e4, rfl, ⟨S_FT h2 t25, (Kd.S_reads' h2).2.1, S_FT h3 t60, (Kd.S_reads' h3).2.1, S_FT h4 t43, (Kd.S_reads' h4).2.1, by decide, by decide, hx, px, Or.inl rfl, fun p hp => (by cases hp), gq_nil 0, fun p hp => (by cases hp), by decide⟩, hb⟩

theorem submit_w (h : DevOk w P n x ca qu A2 A3 A4 c2 c3 c4) (hn : n ≤ 800) (kind : Int) (A : Option Addr) (c : Nat) (y : List Int) (hy : (Kd.int .u8).C w A y.length y) (ly : y.length ≤ c) (hk : (kind = 2 ∧ y.length = 32 ∧ P y) ∨ (kind = 3 ∧ y = [])) :
    Calls Try.prog 7 #[.agg #[.int .i64 4, .int .i64 n, .slice A2 1 c2, .slice A3 ca.length c3, .slice A4 qu.length c4], .int .i64 kind, .int .i64 0, .slice A y.length c] w fun e w' => ∃ dd nn B2 B3 B4 m2 m3 m4 e2 e3 e4 id code, e = .returned (.tuple #[.agg #[.int .i64 dd, .int .i64 nn, .slice B2 m2 e2, .slice B3 m3 e3, .slice B4 m4 e4], .int .i64 id, .int .i64 code]) ∧ Res w' P (n + 1) code dd nn B2 B3 B4 m2 m3 m4 e2 e3 e4 ∧ Below w.heap.size w w' := by
  have hrq : Rq ⟨n, kind, 0, y⟩ := by
    rcases hk with ⟨h1, h2, _⟩ | ⟨h1, h2⟩
    · exact Or.inl ⟨h1, rfl, h2⟩
    · exact Or.inr ⟨h1, rfl, h2⟩
  have hrf : device_request.f 200 4 n [x] ca qu n kind 0 y = some 0 := request_f 200 4 n n x ca qu ⟨n, kind, 0, y⟩ hrq (by decide)
  have hy3 : y.length ≤ 100 := by
    rcases hk with ⟨_, h2, _⟩ | ⟨_, h2⟩
    · omega
    · rw [h2]
      decide
  have n0 := h.n0
  have ql := h.ql
  by_cases hf : qu.length = 4
  · refine (submit_full 200 4 n kind A A2 A3 A4 c c2 c3 c4 y [x] ca qu w (FT_C h.f2) h.l2 (FT_C h.f3) h.l3 (FT_C h.f4) h.l4 hy ly h.check hrf h.clone (by omega) hy3 (by omega)).mono ?_
    rintro e w' ⟨rfl, hb⟩
    exact ⟨0, 0, none, none, none, 0, 0, 0, 0, 0, 0, 0, 8, rfl, Or.inl (by decide), hb⟩
  · have hok : ∀ p : S43, Rq p → p.f0 = n → (p.f1 = 2 → P p.f3) → ∀ w' B2 B3 B4 e2 e3 e4, (([x] : List (List Int)).length ≤ e2 ∧ ca.length ≤ e3 ∧ (qu ++ [p]).length ≤ e4 ∧ FT (Kd.slice 5 (Kd.int .u8)) w' B2 ([x] : List (List Int)).length [x] ∧ FT k60 w' B3 ca.length ca ∧ FT k43 w' B4 (qu ++ [p]).length (qu ++ [p])) → DevOk w' P (n + 1) x ca (qu ++ [p]) B2 B3 B4 e2 e3 e4 := by
      intro p hp hp0 hpP w' B2 B3 B4 e2 e3 e4 ⟨a1, a2, a3, a4, a5, a6⟩
      refine ⟨a4, a1, a5, a2, a6, a3, by omega, by omega, h.hx, h.px, h.hc, h.pc, gq_snoc h.hq hp hp0 n0, ?_, by rw [List.length_append, List.length_singleton]; omega⟩
      intro q hq hq1
      rcases List.mem_append.1 hq with h1 | h1
      · exact h.pq q h1 hq1
      · obtain rfl := List.mem_singleton.1 h1
        exact hpP hq1
    rcases hk with ⟨h1, h2, h3⟩ | ⟨h1, h2⟩
    · refine (submit_data 200 4 n kind A A2 A3 A4 c c2 c3 c4 y [x] ca qu w (FT_C h.f2) h.l2 (FT_C h.f3) h.l3 (FT_C h.f4) h.l4 hy ly h.check hrf h.clone (by omega) hy3 (by omega) (by omega) (w64 (by omega) (by omega)) (by omega) (qu ++ [⟨n, kind, 0, y⟩]) rfl).mono ?_
      rintro e w' ⟨B2, B3, B4, e2, e3, e4, rfl, a1, a2, a3, a4, a5, a6, hb⟩
      exact ⟨4, n + 1, B2, B3, B4, 1, ca.length, (qu ++ [(⟨n, kind, 0, y⟩ : S43)]).length, e2, e3, e4, n, 0, rfl, Or.inr ⟨rfl, rfl, x, ca, _, rfl, rfl, by omega, hok _ hrq rfl (fun _ => h3) w' B2 B3 B4 e2 e3 e4 ⟨a1, a2, a3, a4, a5, a6⟩⟩, hb⟩
    · refine (submit_flush 200 4 n kind A A2 A3 A4 c c2 c3 c4 y [x] ca qu w (FT_C h.f2) h.l2 (FT_C h.f3) h.l3 (FT_C h.f4) h.l4 hy ly h.check hrf h.clone (by omega) hy3 (by omega) (by rw [h2]; rfl) (w64 (by omega) (by omega)) (by omega) (qu ++ [⟨n, kind, 0, []⟩]) rfl).mono ?_
      rintro e w' ⟨B2, B3, B4, e2, e3, e4, rfl, a1, a2, a3, a4, a5, a6, hb⟩
      exact ⟨4, n + 1, B2, B3, B4, 1, ca.length, (qu ++ [(⟨n, kind, 0, []⟩ : S43)]).length, e2, e3, e4, n, 0, rfl, Or.inr ⟨rfl, rfl, x, ca, _, rfl, rfl, by omega, hok ⟨n, kind, 0, []⟩ (Or.inr ⟨h1, rfl, rfl⟩) rfl (fun e2 => absurd (h1.symm.trans e2) (by decide)) w' B2 B3 B4 e2 e3 e4 ⟨a1, a2, a3, a4, a5, a6⟩⟩, hb⟩

theorem complete_w (h : DevOk w P n x ca qu A2 A3 A4 c2 c3 c4) (b : Bool) (p : Int) (hp : p = (qu.length : Int) - 1) :
    Calls Try.prog 8 #[.agg #[.int .i64 4, .int .i64 n, .slice A2 1 c2, .slice A3 ca.length c3, .slice A4 qu.length c4], .int .i64 p, .bool b] w fun e w' => ∃ dd nn B2 B3 B4 m2 m3 m4 e2 e3 e4 i1 i2 i3 A5 m5 e5 code, e = .returned (.tuple #[.agg #[.int .i64 dd, .int .i64 nn, .slice B2 m2 e2, .slice B3 m3 e3, .slice B4 m4 e4], .agg #[.int .i64 i1, .int .i64 i2, .int .i64 i3, .slice A5 m5 e5], .int .i64 code]) ∧ Res w' P n code dd nn B2 B3 B4 m2 m3 m4 e2 e3 e4 ∧ Below w.heap.size w w' := by
  rcases List.eq_nil_or_concat qu with hq0 | ⟨l, q, hq0⟩
  · have e : p = -1 := by rw [hp, hq0]; rfl
    rw [e]
    refine (complete_none 200 4 n A2 A3 A4 c2 c3 c4 [x] ca qu b w (FT_C h.f2) h.l2 (FT_C h.f3) h.l3 (FT_C h.f4) h.l4 h.check).mono ?_
    rintro e w' ⟨rfl, hb⟩
    exact ⟨0, 0, none, none, none, 0, 0, 0, 0, 0, 0, 0, 0, 0, none, 0, 0, 2, rfl, Or.inl (by decide), hb⟩
  · rw [List.concat_eq_append] at hq0
    have hl : qu.length = l.length + 1 := by rw [hq0, List.length_append, List.length_singleton]
    have e : p = (l.length : Int) := by omega
    have ql := h.ql
    rw [e]
    have hGQ := h.hq
    have hpq := h.pq
    have hcl := h.clone
    have hmem : q ∈ qu := by rw [hq0]; simp
    rw [hq0] at hGQ
    have hRq := gq_last hGQ
    have hi := gq_init hGQ
    have hlq : ∀ r ∈ l, r.f1 = 2 → P r.f3 := fun r hr => hpq r (by rw [hq0]; exact List.mem_append_left _ hr)
    cases b with
    | false =>
      refine (complete_fail 200 4 n A2 A3 A4 c2 c3 c4 [x] x ca qu l q w (FT_C h.f2) h.l2 (FT_C h.f3) h.l3 (FT_C h.f4) h.l4 h.check (by rw [hcl, hq0]) hl (by omega)).mono ?_
      rintro e w' ⟨B2, B3, B4, e2, e3, e4, A5, e5, rfl, a1, a2, a3, a4, a5, a6, hb⟩
      exact ⟨4, n, B2, B3, B4, 1, ca.length, l.length, e2, e3, e4, q.f0, q.f1, q.f2, A5, q.f3.length, e5, 0, rfl, Or.inr ⟨rfl, rfl, x, ca, l, rfl, rfl, Int.le_refl _, ⟨a4, a1, a5, a2, a6, a3, h.n0, h.n1, h.hx, h.px, h.hc, h.pc, hi, hlq, by omega⟩⟩, hb⟩
    | true =>
      rcases hRq with ⟨k1, k2, k3⟩ | ⟨k1, k2, k3⟩
      · have hc := h.hc
        rcases hc with hc | ⟨y, hc, hy⟩
        · refine (complete_write0 200 4 n A2 A3 A4 c2 c3 c4 [x] x ca qu l q w (FT_C h.f2) h.l2 (FT_C h.f3) h.l3 (FT_C h.f4) h.l4 h.check (by rw [hcl, hq0, hc]) hl (by omega) k1 k2 (by omega)).mono ?_
          rintro e w' ⟨B2, B3, B4, e2, e3, e4, A5, e5, rfl, a1, a2, a3, a4, a5, a6, hb⟩
          exact ⟨4, n, B2, B3, B4, 1, 1, l.length, e2, e3, e4, q.f0, q.f1, q.f2, A5, q.f3.length, e5, 0, rfl, Or.inr ⟨rfl, rfl, x, [⟨0, q.f3⟩], l, rfl, rfl, Int.le_refl _, ⟨a4, a1, a5, a2, a6, a3, h.n0, h.n1, h.hx, h.px, Or.inr ⟨q.f3, rfl, k3⟩, fun r hr => by obtain rfl := List.mem_singleton.1 hr; exact hpq q hmem k1, hi, hlq, by omega⟩⟩, hb⟩
        · refine (complete_write1 200 4 n A2 A3 A4 c2 c3 c4 [x] x y ca qu l q w (FT_C h.f2) h.l2 (FT_C h.f3) h.l3 (FT_C h.f4) h.l4 h.check (by rw [hcl, hq0, hc]) hl (by omega) k1 k2 (by omega)).mono ?_
          rintro e w' ⟨B2, B3, B4, e2, e3, e4, A5, e5, rfl, a1, a2, a3, a4, a5, a6, hb⟩
          exact ⟨4, n, B2, B3, B4, 1, 1, l.length, e2, e3, e4, q.f0, q.f1, q.f2, A5, q.f3.length, e5, 0, rfl, Or.inr ⟨rfl, rfl, x, [⟨0, q.f3⟩], l, rfl, rfl, Int.le_refl _, ⟨a4, a1, a5, a2, a6, a3, h.n0, h.n1, h.hx, h.px, Or.inr ⟨q.f3, rfl, k3⟩, fun r hr => by obtain rfl := List.mem_singleton.1 hr; exact hpq q hmem k1, hi, hlq, by omega⟩⟩, hb⟩
      · have hc := h.hc
        rcases hc with hc | ⟨y, hc, hy⟩
        · refine (complete_flush0 200 4 n A2 A3 A4 c2 c3 c4 [x] x ca qu l q w (FT_C h.f2) h.l2 (FT_C h.f3) h.l3 (FT_C h.f4) h.l4 h.check (by rw [hcl, hq0, hc]) hl (by omega) k1).mono ?_
          rintro e w' ⟨B2, B4, e2, e4, A5, e5, rfl, a1, a3, a4, a6, hb⟩
          exact ⟨4, n, B2, none, B4, 1, 0, l.length, e2, 0, e4, q.f0, q.f1, q.f2, A5, q.f3.length, e5, 0, rfl, Or.inr ⟨rfl, rfl, x, [], l, rfl, rfl, Int.le_refl _, ⟨a4, a1, FT_nil k60 w', Nat.le_refl _, a6, a3, h.n0, h.n1, h.hx, h.px, Or.inl rfl, fun r hr => (by cases hr), hi, hlq, by omega⟩⟩, hb⟩
        · refine (complete_flush1 200 4 n A2 A3 A4 c2 c3 c4 [x] x y ca qu l q w (FT_C h.f2) h.l2 (FT_C h.f3) h.l3 (FT_C h.f4) h.l4 h.check (by rw [hcl, hq0, hc]) hl (by omega) k1).mono ?_
          rintro e w' ⟨B2, B4, e2, e4, A5, e5, rfl, a1, a3, a4, a6, hb⟩
          exact ⟨4, n, B2, none, B4, 1, 0, l.length, e2, 0, e4, q.f0, q.f1, q.f2, A5, q.f3.length, e5, 0, rfl, Or.inr ⟨rfl, rfl, y, [], l, rfl, rfl, Int.le_refl _, ⟨a4, a1, FT_nil k60 w', Nat.le_refl _, a6, a3, h.n0, h.n1, hy, h.pc ⟨0, y⟩ (by rw [hc]; simp), Or.inl rfl, fun r hr => (by cases hr), hi, hlq, by omega⟩⟩, hb⟩

theorem crash_w (h : DevOk w P n x ca qu A2 A3 A4 c2 c3 c4) (hP : ∀ z, P z → z.length = 32) (Ap : Option Addr) (np cp : Nat) (hpk : ∀ j : Nat, j < np → ∃ ad b, Ap = some ad ∧ w.cell? (ad.add j) = some (.bool b)) :
    Calls Try.prog 9 #[.agg #[.int .i64 4, .int .i64 n, .slice A2 1 c2, .slice A3 ca.length c3, .slice A4 qu.length c4], .slice Ap np cp] w fun e w' => ∃ B2 e2, e = .returned (.tuple #[.agg #[.int .i64 4, .int .i64 n, .slice B2 1 e2, .slice none 0 0, .slice none 0 0], .int .i64 0]) ∧ ∃ z, DevOk w' P n z [] [] B2 none none e2 0 0 ∧ Below w.heap.size w w' := by
  refine (crash_calls 200 4 n A2 A3 A4 Ap c2 c3 c4 np cp [x] x ca qu P w (FT_C h.f2) h.l2 (FT_C h.f3) h.l3 (FT_C h.f4) h.l4 hpk h.check h.clone h.px ?_ ?_ ?_ (by have := h.ql; omega)).mono ?_
  · intro p hp
    rcases h.hc with hc | ⟨y, hc, hy⟩
    · rw [hc] at hp
      cases hp
    · have := h.pc p hp
      rw [hc] at hp
      obtain rfl := List.mem_singleton.1 hp
      exact ⟨rfl, by show y.length ≤ 100; omega, this⟩
  · intro p hp hk
    have h3 := h.pq p hp hk
    obtain ⟨i, hi, e⟩ := List.getElem_of_mem hp
    have hr := (h.hq.rq i hi).1
    rw [List.getD_eq_getElem?_getD, List.getElem?_eq_getElem hi, Option.getD_some, e] at hr
    rcases hr with ⟨_, k2, k3⟩ | ⟨k1, _, _⟩
    · exact ⟨k2, by omega, h3⟩
    · rw [hk] at k1
      exact absurd k1 (by decide)
  · rcases h.hc with hc | ⟨y, hc, hy⟩
    · rw [hc]
      exact Nat.zero_le _
    · rw [hc]
      show 1 ≤ 400
      decide
  · rintro e w' ⟨B2, e2, rfl, a1, z, hz, a4, hb⟩
    exact ⟨B2, e2, rfl, z, ⟨a4, a1, FT_nil k60 w', Nat.le_refl _, FT_nil k43 w', Nat.le_refl _, h.n0, h.n1, hP z hz, hz, Or.inl rfl, fun p hp => (by cases hp), gq_nil n, fun p hp => (by cases hp), by decide⟩, hb⟩

theorem durable_w (d n : Int) (A2 A3 A4 : Option Addr) (c2 c3 c4 : Nat) (x : List Int) (w : World) (h2 : Kd.C (Kd.slice 5 (Kd.int .u8)) w A2 1 [x]) (l2 : 1 ≤ c2) (h3 : Kd.C k60 w A3 0 []) (h4 : Kd.C k43 w A4 0 []) (hd : 1 ≤ d) (hd2 : d ≤ 16) (hn0 : 0 ≤ n) (hn : n ≤ 1000) (hx : x.length = 32) :
    Calls Try.prog 11 #[.agg #[.int .i64 d, .int .i64 n, .slice A2 1 c2, .slice A3 0 c3, .slice A4 0 c4], .int .i64 0] w fun e w' => ∃ A c, e = .returned (.slice A x.length c) ∧ x.length ≤ c ∧ (Kd.int .u8).C w' A x.length x ∧ Below w.heap.size w w' := by
  refine (device_Durable.calls 200 d n A2 c2 [x] A3 c3 [] A4 c4 [] 0 x w h2 l2 h3 (Nat.zero_le _) h4 (Nat.zero_le _) (durable_f 200 d n x (by decide) hd hd2 hn0 hn hx)).mono ?_
  rintro e w' ⟨v, rfl, hR, hb⟩
  obtain ⟨A, c, rfl⟩ := Kd.R_slice hR
  exact ⟨A, c, rfl, (Kd.R_reads' hR).2.1, (Kd.R_reads' hR).2.2, hb⟩
end
end Go.Proofs.Ytpfbajjpommjmaa.Hand
