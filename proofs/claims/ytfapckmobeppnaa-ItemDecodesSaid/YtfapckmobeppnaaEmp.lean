/- item.empty by hand: is a span nothing? -/
import Derived.Test.YtfapckmobeppnaaItmN
namespace Go.Proofs.Ytfapckmobeppnaa.Px
open Go.RowKit Go.Proofs.YtfapckmobeppnaaW.PrintWords Go.Proofs.YtfapckmobeppnaaW.PrintLast Go.Proofs.YtfapckmobeppnaaW.PrintMore
set_option linter.unusedVariables false
set_option linter.unusedSimpArgs false

def item_empty.f (a0_0 : Int) (a0_1 : Int) (a0_2 : Int) (a0_3 : Int) (a0_4 : ByteArray) (a0_5 : Int) (a0_6 : Int) (a0_7 : Bool) (l0_8 : List (S36)) (a0_9 : Int) : Option (Bool) := if (Go.bits .or .u64 (Go.bits .or .u64 (Go.bits .or .u64 (Go.bits .or .u64 a0_0 a0_1) a0_2) a0_3) a0_9) = 0 then (if a0_4.toList = ([] : List UInt8) then (if a0_5 = 0 then (if a0_6 = 0 then (if a0_7 = true then (some false) else (some ((l0_8.length : Int) == 0))) else (some false)) else (some false)) else (some false)) else (some false)
theorem Emp.eq (hi lo id par : Int) (nm : ByteArray) (st en : Int) (bad : Bool) (l : List S36) (rv : Int) (r : Bool) (h : item_empty.f hi lo id par nm st en bad l rv = some r) : r = ((Go.bits .or .u64 (Go.bits .or .u64 (Go.bits .or .u64 (Go.bits .or .u64 hi lo) id) par) rv == 0) && (nm.toList.isEmpty && ((st == 0) && ((en == 0) && (!bad && ((l.length : Int) == 0)))))) := by
 unfold item_empty.f at h
 generalize Go.bits .or .u64 (Go.bits .or .u64 (Go.bits .or .u64 (Go.bits .or .u64 hi lo) id) par) rv = o at *
 cases bad <;> by_cases c1 : o = 0 <;> by_cases c2 : nm.toList = [] <;> by_cases c3 : st = 0 <;> by_cases c4 : en = 0 <;> simp_all
set_option maxHeartbeats 4000000 in
set_option maxRecDepth 100000 in
theorem item_empty.calls (hi lo id par : Int) (nm : ByteArray) (st en : Int) (bad : Bool) (A : Option Addr) (c : Nat) (l : List S36) (rv : Int) (r : Bool) (w : World) (_hr : Kd.C k36 w A l.length l) (_hc : l.length ≤ c) (h : item_empty.f hi lo id par nm st en bad l rv = some r) : Calls Try.prog 36 #[.agg #[.int .u64 hi, .int .u64 lo, .int .u64 id, .int .u64 par, .string nm, .int .i64 st, .int .i64 en, .bool bad, .slice A l.length c, .int .u64 rv]] w fun e w' => e = .returned (.bool r) ∧ Below w.heap.size w w' := by
 have hR := Aside0.mk (Emp.eq hi lo id par nm st en bad l rv r h)
 clear h _hr _hc
 have HB := Aside0.mk (below_alloc (Below.refl w.heap.size w) (.cells #[.int .u64 hi, .int .u64 lo, .int .u64 id, .int .u64 par, .string nm, .int .i64 st, .int .i64 en, .bool bad, .slice A l.length c, .int .u64 rv] 26 (0, 0)))
 have hb := Aside0.mk (blk_new w (.cells #[.int .u64 hi, .int .u64 lo, .int .u64 id, .int .u64 par, .string nm, .int .i64 st, .int .i64 en, .bool bad, .slice A l.length c, .int .u64 rv] 26 (0, 0)))
 go_enter Try.func36, Try.ntmps36
 go_upto_region 1 with (fail)
 generalize w.alloc (.cells #[.int .u64 hi, .int .u64 lo, .int .u64 id, .int .u64 par, .string nm, .int .i64 st, .int .i64 en, .bool bad, .slice A l.length c, .int .u64 rv] 26 (0, 0)) = w5 at *
 have z0 : w5.cell? ⟨w.heap.size, 0, none⟩ = some (.int .u64 hi) := blk_cell hb.out 0
 have z1 : w5.cell? ⟨w.heap.size, 1, none⟩ = some (.int .u64 lo) := blk_cell hb.out 1
 have z2 : w5.cell? ⟨w.heap.size, 2, none⟩ = some (.int .u64 id) := blk_cell hb.out 2
 have z3 : w5.cell? ⟨w.heap.size, 3, none⟩ = some (.int .u64 par) := blk_cell hb.out 3
 have z4 : w5.cell? ⟨w.heap.size, 4, none⟩ = some (.string nm) := blk_cell hb.out 4
 have z5 : w5.cell? ⟨w.heap.size, 5, none⟩ = some (.int .i64 st) := blk_cell hb.out 5
 have z6 : w5.cell? ⟨w.heap.size, 6, none⟩ = some (.int .i64 en) := blk_cell hb.out 6
 have z7 : w5.cell? ⟨w.heap.size, 7, none⟩ = some (.bool bad) := blk_cell hb.out 7
 have z8 : w5.cell? ⟨w.heap.size, 8, none⟩ = some (.slice A l.length c) := blk_cell hb.out 8
 have z9 : w5.cell? ⟨w.heap.size, 9, none⟩ = some (.int .u64 rv) := blk_cell hb.out 9
 cases p0 : (Go.bits .or .u64 (Go.bits .or .u64 (Go.bits .or .u64 (Go.bits .or .u64 hi lo) id) par) rv == 0) with
 | false =>
  have hR2 : r = false := by rw [hR.out, p0]; simp
  subst hR2
  clear hR
  go_wp2_with (fail)
  go_ret
  exact ⟨rfl, by repeat (first | exact HB.out | apply pw_below_drewN | apply below_drew1)⟩
 | true =>
  cases p4 : (nm.toList.isEmpty) with
  | false =>
   have hR2 : r = false := by rw [hR.out, p4]; simp
   subst hR2
   clear hR
   go_wp2_with (fail)
   go_ret
   exact ⟨rfl, by repeat (first | exact HB.out | apply pw_below_drewN | apply below_drew1)⟩
  | true =>
   cases p5 : (st == 0) with
   | false =>
    have hR2 : r = false := by rw [hR.out, p5]; simp
    subst hR2
    clear hR
    go_wp2_with (fail)
    go_ret
    exact ⟨rfl, by repeat (first | exact HB.out | apply pw_below_drewN | apply below_drew1)⟩
   | true =>
    cases p6 : (en == 0) with
    | false =>
     have hR2 : r = false := by rw [hR.out, p6]; simp
     subst hR2
     clear hR
     go_wp2_with (fail)
     go_ret
     exact ⟨rfl, by repeat (first | exact HB.out | apply pw_below_drewN | apply below_drew1)⟩
    | true =>
     cases p7 : (bad) with
     | true =>
      have hR2 : r = false := by rw [hR.out, p7]; simp
      subst hR2
      clear hR
      go_wp2_with (fail)
      go_ret
      exact ⟨rfl, by repeat (first | exact HB.out | apply pw_below_drewN | apply below_drew1)⟩
     | false =>
      cases p8 : ((l.length : Int) == 0) with
      | false =>
       have p8' : (l.length == 0) = false := beq_eq_false_iff_ne.mpr (by have := beq_eq_false_iff_ne.mp p8; omega)
       have hR2 : r = false := by rw [hR.out, p8]; simp
       subst hR2
       clear hR
       go_wp2_with (fail)
       go_ret
       exact ⟨rfl, by repeat (first | exact HB.out | apply pw_below_drewN | apply below_drew1)⟩
      | true =>
       have p8' : (l.length == 0) = true := beq_iff_eq.mpr (by have := beq_iff_eq.mp p8; omega)
       have hR2 : r = true := by rw [hR.out, p0, p4, p5, p6, p7, p8]; rfl
       subst hR2
       clear hR
       go_wp2_with (fail)
       go_ret
       exact ⟨rfl, by repeat (first | exact HB.out | apply pw_below_drewN | apply below_drew1)⟩
end Go.Proofs.Ytfapckmobeppnaa.Px
