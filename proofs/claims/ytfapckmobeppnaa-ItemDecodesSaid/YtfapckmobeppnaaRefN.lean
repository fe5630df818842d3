/- telemeterref03.RightLog and Nothing by hand: they tell what the program's tell. -/
import Derived.Test.YtfapckmobeppnaaRefA
namespace Go.Proofs.Ytfapckmobeppnaa.Px
open Go.RowKit Go.Proofs.YtfapckmobeppnaaW.PrintWords Go.Proofs.YtfapckmobeppnaaW.PrintLast Go.Proofs.YtfapckmobeppnaaW.PrintMore
set_option linter.unusedVariables false
set_option linter.unusedSimpArgs false

set_option maxHeartbeats 2000000 in
set_option maxRecDepth 100000 in
theorem RfN.log_calls (k : ByteArray) (wt t : Int) (b : ByteArray) (w : World) (hk : k.size ≤ 9000000000000000) : Calls Try.prog 28 #[.agg #[.string k, .int .u64 wt, .int .i64 t, .string b]] w fun e w' => e = .returned (.bool (Itm.rightLog k wt t b)) ∧ Below w.heap.size w w' := by
 have hR : Itm.rightLog k wt t b = (Itm.nameB k && (decide (wt > 0) && (decide (wt ≤ 4294967296) && (Itm.timeB t && decide ((b.size : Int) ≤ 200))))) := rfl
 generalize Itm.rightLog k wt t b = R at hR ⊢
 replace hR := Aside0.mk hR
 have cN := Aside0.mk (fun w => RfA.name_calls k w hk)
 have HB := Aside0.mk (below_alloc (Below.refl w.heap.size w) (.cells #[.string k, .int .u64 wt, .int .i64 t, .string b] 29 (0, 0)))
 have hb := Aside0.mk (blk_new w (.cells #[.string k, .int .u64 wt, .int .i64 t, .string b] 29 (0, 0)))
 go_enter Try.func28, Try.ntmps28
 go_upto_region 1 with (fail)
 generalize w.alloc (.cells #[.string k, .int .u64 wt, .int .i64 t, .string b] 29 (0, 0)) = w5 at *
 have z0 : w5.cell? ⟨w.heap.size, 0, none⟩ = some (.string k) := blk_cell hb.out 0
 have z1 : w5.cell? ⟨w.heap.size, 1, none⟩ = some (.int .u64 wt) := blk_cell hb.out 1
 have z2 : w5.cell? ⟨w.heap.size, 2, none⟩ = some (.int .i64 t) := blk_cell hb.out 2
 have z3 : w5.cell? ⟨w.heap.size, 3, none⟩ = some (.string b) := blk_cell hb.out 3
 go_wp2_with (fail)
 refine (cN.out _).mono ?_
 rintro e w' ⟨rfl, ⟨n1, rfl⟩⟩
 cases q1 : Itm.nameB k with
 | false =>
  have hR2 : R = false := by rw [hR.out]; simp [q1]
  subst hR2
  clear hR
  go_wp2_with (fail)
  go_ret
  exact ⟨rfl, by repeat (first | exact HB.out | apply pw_below_drewN | apply below_drew1)⟩
 | true =>
  by_cases q2 : wt ≥ 1
  ·have q20 : decide (1 ≤ wt) = true := decide_eq_true q2
   have q21 : decide (0 < wt) = true := decide_eq_true (by omega)
   by_cases q3 : wt ≤ 4294967296
   ·have q30 : decide (wt ≤ 4294967296) = true := decide_eq_true q3
    clear q2 q3
    go_wp2_with (fail)
    refine (RfA.time_calls t _).mono ?_
    rintro e w' ⟨rfl, ⟨n2, rfl⟩⟩
    cases q4 : Itm.timeB t with
    | false =>
     have hR2 : R = false := by rw [hR.out]; simp [q1, q21, q30, q4]
     subst hR2
     clear hR
     go_wp2_with (fail)
     go_ret
     exact ⟨rfl, by repeat (first | exact HB.out | apply pw_below_drewN | apply below_drew1)⟩
    | true =>
     cases q5 : decide ((b.size : Int) ≤ 200) with
     | false =>
      have q6 : decide (b.size ≤ 200) = false := decide_eq_false (by have := of_decide_eq_false q5; omega)
      have hR2 : R = false := by rw [hR.out, q5]; simp
      subst hR2
      clear hR
      go_wp2_with (fail)
      go_ret
      exact ⟨rfl, by repeat (first | exact HB.out | apply pw_below_drewN | apply below_drew1)⟩
     | true =>
      have q6 : decide (b.size ≤ 200) = true := decide_eq_true (by have := of_decide_eq_true q5; omega)
      have hR2 : R = true := by rw [hR.out, q5, q1, q30, q4, show decide (wt > 0) = true from q21]; rfl
      subst hR2
      clear hR
      go_wp2_with (fail)
      go_ret
      exact ⟨rfl, by repeat (first | exact HB.out | apply pw_below_drewN | apply below_drew1)⟩
   ·have q30 : decide (wt ≤ 4294967296) = false := decide_eq_false q3
    have hR2 : R = false := by rw [hR.out, q30]; simp
    subst hR2
    clear hR q2 q3
    go_wp2_with (fail)
    go_ret
    exact ⟨rfl, by repeat (first | exact HB.out | apply pw_below_drewN | apply below_drew1)⟩
  ·have q20 : decide (1 ≤ wt) = false := decide_eq_false (by omega)
   have q21 : decide (wt > 0) = false := decide_eq_false (by omega)
   have hR2 : R = false := by rw [hR.out, q21]; simp
   subst hR2
   clear hR q2
   go_wp2_with (fail)
   go_ret
   exact ⟨rfl, by repeat (first | exact HB.out | apply pw_below_drewN | apply below_drew1)⟩
theorem RfN.nothing_eq (hi lo id par : Int) (nm : ByteArray) (st en : Int) (bad : Bool) (l : List S36) (rv : Int) (r : Bool) (h1 : 0 ≤ hi ∧ hi < 18446744073709551616) (h2 : 0 ≤ lo ∧ lo < 18446744073709551616) (h3 : 0 ≤ id ∧ id < 18446744073709551616) (h4 : 0 ≤ par ∧ par < 18446744073709551616) (h5 : 0 ≤ rv ∧ rv < 18446744073709551616)
  (hE : item_empty.f hi lo id par nm st en bad l rv = some r) : r = ((hi == 0) && ((lo == 0) && ((id == 0) && ((par == 0) && ((nm.toList == ([] : List UInt8)) && ((st == 0) && ((en == 0) && (!bad && (((l.length : Int) == 0) && (rv == 0)))))))))) := by
 cases r with
 | true =>
  obtain ⟨rfl, rfl, rfl, rfl, rfl, rfl, rfl, rfl, rfl, rfl⟩ := ItX.empty_inv h1 h2 h3 h4 h5 hE
  rw [(RfA.nil_iff ⟨#[]⟩).mpr rfl]
  rfl
 | false =>
  symm
  rw [Bool.eq_false_iff]
  intro h
  simp only [Bool.and_eq_true, beq_iff_eq, Bool.not_eq_true'] at h
  obtain ⟨rfl, rfl, rfl, rfl, a5, rfl, rfl, rfl, a9, rfl⟩ := h
  unfold item_empty.f at hE
  rw [if_pos (by decide +kernel), if_pos a5, if_pos rfl, if_pos rfl, if_neg (by decide), a9] at hE
  simp at hE
set_option maxHeartbeats 4000000 in
set_option maxRecDepth 100000 in
theorem RfN.nothing_calls (hi lo id par : Int) (nm : ByteArray) (st en : Int) (bad : Bool) (A : Option Addr) (c : Nat) (l : List S36) (rv : Int) (r : Bool) (w : World) (h1 : 0 ≤ hi ∧ hi < 18446744073709551616) (h2 : 0 ≤ lo ∧ lo < 18446744073709551616) (h3 : 0 ≤ id ∧ id < 18446744073709551616) (h4 : 0 ≤ par ∧ par < 18446744073709551616) (h5 : 0 ≤ rv ∧ rv < 18446744073709551616)
  (hE : item_empty.f hi lo id par nm st en bad l rv = some r) : Calls Try.prog 30 #[.agg #[.int .u64 hi, .int .u64 lo, .int .u64 id, .int .u64 par, .string nm, .int .i64 st, .int .i64 en, .bool bad, .slice A l.length c, .int .u64 rv]] w fun e w' => e = .returned (.bool r) ∧ Below w.heap.size w w' := by
 have hR := Aside0.mk (RfN.nothing_eq hi lo id par nm st en bad l rv r h1 h2 h3 h4 h5 hE)
 clear hE h1 h2 h3 h4 h5
 have HB := Aside0.mk (below_alloc (Below.refl w.heap.size w) (.cells #[.int .u64 hi, .int .u64 lo, .int .u64 id, .int .u64 par, .string nm, .int .i64 st, .int .i64 en, .bool bad, .slice A l.length c, .int .u64 rv] 26 (0, 0)))
 have hb := Aside0.mk (blk_new w (.cells #[.int .u64 hi, .int .u64 lo, .int .u64 id, .int .u64 par, .string nm, .int .i64 st, .int .i64 en, .bool bad, .slice A l.length c, .int .u64 rv] 26 (0, 0)))
 go_enter Try.func30, Try.ntmps30
 go_upto_region 1 with (fail)
 generalize w.alloc (.cells #[.int .u64 hi, .int .u64 lo, .int .u64 id, .int .u64 par, .string nm, .int .i64 st, .int .i64 en, .bool bad, .slice A l.length c, .int .u64 rv] 26 (0, 0)) = w5 at *
 have z0 : w5.cell? ⟨w.heap.size, 0, none⟩ = some (.int .u64 hi) := blk_cell hb.out 0
 have z1 : w5.cell? ⟨w.heap.size, 1, none⟩ = some (.int .u64 lo) := blk_cell hb.out 1
 have z2 : w5.cell? ⟨w.heap.size, 2, none⟩ = some (.int .u64 id) := blk_cell hb.out 2
 have z3 : w5.cell? ⟨w.heap.size, 3, none⟩ = some (.int .u64 par) := blk_cell hb.out 3
 have z4 : w5.cell? ⟨w.heap.size, 4, none⟩ = some (.string nm) := blk_cell hb.out 4
 have z5 : w5.cell? ⟨w.heap.size, 5, none⟩ = some (.int .i64 st) := blk_cell hb.out 5
 have z6 : w5.cell? ⟨w.heap.size, 6, none⟩ = some (.int .i64 en) := blk_cell hb.out 6
 have z7 : w5.cell? ⟨w.heap.size, 7, none⟩ = some (.bool bad) := blk_cell hb.out 7
 have z8 : w5.cell? ⟨w.heap.size, 8, none⟩ = some (.slice A l.length c) := blk_cell hb.out 8
 have z9 : w5.cell? ⟨w.heap.size, 9, none⟩ = some (.int .u64 rv) := blk_cell hb.out 9
 cases p0 : (hi == 0) with
 | false =>
  have hR2 : r = false := by rw [hR.out, p0]; simp
  subst hR2
  clear hR
  go_wp2_with (fail)
  go_ret
  exact ⟨rfl, by repeat (first | exact HB.out | apply pw_below_drewN | apply below_drew1)⟩
 | true =>
  cases p1 : (lo == 0) with
  | false =>
   have hR2 : r = false := by rw [hR.out, p1]; simp
   subst hR2
   clear hR
   go_wp2_with (fail)
   go_ret
   exact ⟨rfl, by repeat (first | exact HB.out | apply pw_below_drewN | apply below_drew1)⟩
  | true =>
   cases p2 : (id == 0) with
   | false =>
    have hR2 : r = false := by rw [hR.out, p2]; simp
    subst hR2
    clear hR
    go_wp2_with (fail)
    go_ret
    exact ⟨rfl, by repeat (first | exact HB.out | apply pw_below_drewN | apply below_drew1)⟩
   | true =>
    cases p3 : (par == 0) with
    | false =>
     have hR2 : r = false := by rw [hR.out, p3]; simp
     subst hR2
     clear hR
     go_wp2_with (fail)
     go_ret
     exact ⟨rfl, by repeat (first | exact HB.out | apply pw_below_drewN | apply below_drew1)⟩
    | true =>
     cases p4 : (nm.toList == ([] : List UInt8)) with
     | false =>
      have hR2 : r = false := by rw [hR.out, p4]; simp
      subst hR2
      clear hR
      go_wp2_with (fail)
      go_ret
      exact ⟨rfl, by repeat (first | exact HB.out | apply pw_below_drewN | apply below_drew1)⟩
     | true =>
      cases p5 : (st == 0) with
      | false =>
       have hR2 : r = false := by rw [hR.out, p5]; simp
       subst hR2
       clear hR
       go_wp2_with (fail)
       go_ret
       exact ⟨rfl, by repeat (first | exact HB.out | apply pw_below_drewN | apply below_drew1)⟩
      | true =>
       cases p6 : (en == 0) with
       | false =>
        have hR2 : r = false := by rw [hR.out, p6]; simp
        subst hR2
        clear hR
        go_wp2_with (fail)
        go_ret
        exact ⟨rfl, by repeat (first | exact HB.out | apply pw_below_drewN | apply below_drew1)⟩
       | true =>
        cases p7 : (bad) with
        | true =>
         have hR2 : r = false := by rw [hR.out, p7]; simp
         subst hR2
         clear hR
         go_wp2_with (fail)
         go_ret
         exact ⟨rfl, by repeat (first | exact HB.out | apply pw_below_drewN | apply below_drew1)⟩
        | false =>
         cases p8 : ((l.length : Int) == 0) with
         | false =>
          have p8' : (l.length == 0) = false := beq_eq_false_iff_ne.mpr (by have := beq_eq_false_iff_ne.mp p8; omega)
          have hR2 : r = false := by rw [hR.out, p8]; simp
          subst hR2
          clear hR
          go_wp2_with (fail)
          go_ret
          exact ⟨rfl, by repeat (first | exact HB.out | apply pw_below_drewN | apply below_drew1)⟩
         | true =>
          have p8' : (l.length == 0) = true := beq_iff_eq.mpr (by have := beq_iff_eq.mp p8; omega)
          cases p9 : (rv == 0) with
          | false =>
           have hR2 : r = false := by rw [hR.out, p9]; simp
           subst hR2
           clear hR
           go_wp2_with (fail)
           go_ret
           exact ⟨rfl, by repeat (first | exact HB.out | apply pw_below_drewN | apply below_drew1)⟩
          | true =>
           have hR2 : r = true := by rw [hR.out, p0, p1, p2, p3, p4, p5, p6, p7, p8, p9]; rfl
           subst hR2
           clear hR
           go_wp2_with (fail)
           go_ret
           exact ⟨rfl, by repeat (first | exact HB.out | apply pw_below_drewN | apply below_drew1)⟩
end Go.Proofs.Ytfapckmobeppnaa.Px
