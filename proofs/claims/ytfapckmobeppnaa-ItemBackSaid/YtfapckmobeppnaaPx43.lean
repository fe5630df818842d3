-- Laid by a program of this session (wip/xprint.py: the kit's print.py, with functions given by hand). Lean checks it.
import Derived.Test.YtfapckmobeppnaaPx0
import Derived.Test.YtfapckmobeppnaaPx1
namespace Go.Proofs.Ytfapckmobeppnaa.Px
open Go.RowKit Go.Proofs.YtfapckmobeppnaaW.PrintWords Go.Proofs.YtfapckmobeppnaaW.PrintLast Go.Proofs.YtfapckmobeppnaaW.PrintMore
attribute [local go_sem] max2_int min2_int max_two min_two max_three min_three max_four min_four   -- for this text's walks alone
set_option linter.unusedVariables false
set_option linter.unusedSimpArgs false

attribute [local go_sem high] eqA36
/-! ### telemeterref03_SameSpan: function 42 -/
def telemeterref03_SameSpan.l0 : Nat → Int → Int → Int → Int → Int → ByteArray → Int → Int → Bool → List (S36) → Int → Int → Int → Int → Int → ByteArray → Int → Int → Bool → List (S36) → Int → Option (Bool)
 | 0, _, _, _, _, _, _, _, _, _, _, _, _, _, _, _, _, _, _, _, _, _ => none
 | k + 1, x5, x414000, x414001, x414002, x414003, x414004, x414005, x414006, x414007, x414008, x414009, x415000, x415001, x415002, x415003, x415004, x415005, x415006, x415007, x415008, x415009 => if x5 < (x414008.length : Int) then (if 0 ≤ x5 then (if x5 < (x415008.length : Int) then (if (!((((rd_T36 x414008 x5).f0).toList) == (((rd_T36 x415008 x5).f0).toList)) || (!((((rd_T36 x414008 x5).f1).toList) == (((rd_T36 x415008 x5).f1).toList)))) = true then (some false) else (telemeterref03_SameSpan.l0 k (wrap64 (x5 + 1)) x414000 x414001 x414002 x414003 x414004 x414005 x414006 x414007 x414008 x414009 x415000 x415001 x415002 x415003 x415004 x415005 x415006 x415007 x415008 x415009)) else (none)) else (none)) else (if x414000 = x415000 then (if x414001 = x415001 then (if x414002 = x415002 then (if x414003 = x415003 then (if x414004.toList = x415004.toList then (if x414005 = x415005 then (if x414006 = x415006 then (if (x414007 == x415007) = true then (some (x414009 == x415009)) else (some false)) else (some false)) else (some false)) else (some false)) else (some false)) else (some false)) else (some false)) else (some false))
def telemeterref03_SameSpan.f (k : Nat) (a0_0 : Int) (a0_1 : Int) (a0_2 : Int) (a0_3 : Int) (a0_4 : ByteArray) (a0_5 : Int) (a0_6 : Int) (a0_7 : Bool) (l0_8 : List (S36)) (a0_9 : Int) (a1_0 : Int) (a1_1 : Int) (a1_2 : Int) (a1_3 : Int) (a1_4 : ByteArray) (a1_5 : Int) (a1_6 : Int) (a1_7 : Bool) (l1_8 : List (S36)) (a1_9 : Int) : Option (Bool) := if (l0_8.length : Int) = (l1_8.length : Int) then (telemeterref03_SameSpan.l0 k 0 a0_0 a0_1 a0_2 a0_3 a0_4 a0_5 a0_6 a0_7 l0_8 a0_9 a1_0 a1_1 a1_2 a1_3 a1_4 a1_5 a1_6 a1_7 l1_8 a1_9) else (some false)
theorem telemeterref03_SameSpan.mono_l : ∀ k, (∀ y0 y1 y2 y3 y4 y5 y6 y7 y8 y9 y10 y11 y12 y13 y14 y15 y16 y17 y18 y19 y20, LeO (telemeterref03_SameSpan.l0 k y0 y1 y2 y3 y4 y5 y6 y7 y8 y9 y10 y11 y12 y13 y14 y15 y16 y17 y18 y19 y20) (telemeterref03_SameSpan.l0 (k + 1) y0 y1 y2 y3 y4 y5 y6 y7 y8 y9 y10 y11 y12 y13 y14 y15 y16 y17 y18 y19 y20))
 | 0 => fun _ _ _ _ _ _ _ _ _ _ _ _ _ _ _ _ _ _ _ _ _ r h => by simp [telemeterref03_SameSpan.l0] at h
 | k + 1 => by
  have ih0 := telemeterref03_SameSpan.mono_l k
  ·intro y0 y1 y2 y3 y4 y5 y6 y7 y8 y9 y10 y11 y12 y13 y14 y15 y16 y17 y18 y19 y20
   unfold telemeterref03_SameSpan.l0
   repeat' first
   | (with_reducible exact ih0 _ _ _ _ _ _ _ _ _ _ _ _ _ _ _ _ _ _ _ _ _)
   | (with_reducible exact LeO.refl _)
   | (with_reducible exact LeO.none _)
   | (with_reducible refine LeO.ite ?_ ?_)
   | (with_reducible refine LeO.bind ?_ (fun _ => ?_))
   | exact ih0 _ _ _ _ _ _ _ _ _ _ _ _ _ _ _ _ _ _ _ _ _
   | exact LeO.none _
   | refine LeO.ite ?_ ?_
   | refine LeO.bind ?_ (fun _ => ?_)
theorem telemeterref03_SameSpan.mono : ∀ a0 a1 a2 a3 a4 a5 a6 a7 a8 a9 a10 a11 a12 a13 a14 a15 a16 a17 a18 a19 k, LeO (telemeterref03_SameSpan.f k a0 a1 a2 a3 a4 a5 a6 a7 a8 a9 a10 a11 a12 a13 a14 a15 a16 a17 a18 a19) (telemeterref03_SameSpan.f (k + 1) a0 a1 a2 a3 a4 a5 a6 a7 a8 a9 a10 a11 a12 a13 a14 a15 a16 a17 a18 a19) := by
 intro a0 a1 a2 a3 a4 a5 a6 a7 a8 a9 a10 a11 a12 a13 a14 a15 a16 a17 a18 a19 k
 have ih0 := telemeterref03_SameSpan.mono_l k
 unfold telemeterref03_SameSpan.f
 repeat' first
   | (with_reducible exact ih0 _ _ _ _ _ _ _ _ _ _ _ _ _ _ _ _ _ _ _ _ _)
   | (with_reducible exact LeO.refl _)
   | (with_reducible exact LeO.none _)
   | (with_reducible refine LeO.ite ?_ ?_)
   | (with_reducible refine LeO.bind ?_ (fun _ => ?_))
   | exact ih0 _ _ _ _ _ _ _ _ _ _ _ _ _ _ _ _ _ _ _ _ _
   | exact LeO.none _
   | refine LeO.ite ?_ ?_
   | refine LeO.bind ?_ (fun _ => ?_)
set_option maxHeartbeats 8000000 in
set_option maxRecDepth 100000 in
theorem telemeterref03_SameSpan.calls (k : Nat) (a0_0 : Int) (a0_1 : Int) (a0_2 : Int) (a0_3 : Int) (a0_4 : ByteArray) (a0_5 : Int) (a0_6 : Int) (a0_7 : Bool) (A0_8 : Option Addr) (c0_8 : Nat) (l0_8 : List (S36)) (a0_9 : Int) (a1_0 : Int) (a1_1 : Int) (a1_2 : Int) (a1_3 : Int) (a1_4 : ByteArray) (a1_5 : Int) (a1_6 : Int) (a1_7 : Bool) (A1_8 : Option Addr) (c1_8 : Nat) (l1_8 : List (S36)) (a1_9 : Int) (r : Bool) (w : World) (hr0_8 : Kd.C k36 w A0_8 l0_8.length l0_8) (hc0_8 : l0_8.length ≤ c0_8) (hr1_8 : Kd.C k36 w A1_8 l1_8.length l1_8) (hc1_8 : l1_8.length ≤ c1_8) (h : telemeterref03_SameSpan.f k a0_0 a0_1 a0_2 a0_3 a0_4 a0_5 a0_6 a0_7 l0_8 a0_9 a1_0 a1_1 a1_2 a1_3 a1_4 a1_5 a1_6 a1_7 l1_8 a1_9 = some r) :
  Calls Try.prog 42 #[.agg #[.int .u64 a0_0, .int .u64 a0_1, .int .u64 a0_2, .int .u64 a0_3, .string a0_4, .int .i64 a0_5, .int .i64 a0_6, .bool a0_7, .slice A0_8 l0_8.length c0_8, .int .u64 a0_9], .agg #[.int .u64 a1_0, .int .u64 a1_1, .int .u64 a1_2, .int .u64 a1_3, .string a1_4, .int .i64 a1_5, .int .i64 a1_6, .bool a1_7, .slice A1_8 l1_8.length c1_8, .int .u64 a1_9]] w fun e w' => e = .returned (.bool r) ∧ Below w.heap.size w w' := by
 have hu26 := Try.underlying26
 have hu36 := Try.underlying36
 have HR0_8 := Aside0.mk hr0_8
 have HC0_8 := Aside0.mk hc0_8
 clear hr0_8 hc0_8
 have HR1_8 := Aside0.mk hr1_8
 have HC1_8 := Aside0.mk hc1_8
 clear hr1_8 hc1_8
 have HB := Aside0.mk (Below.refl w.heap.size w)
 have H : (if (l0_8.length : Int) = (l1_8.length : Int) then (telemeterref03_SameSpan.l0 k 0 a0_0 a0_1 a0_2 a0_3 a0_4 a0_5 a0_6 a0_7 l0_8 a0_9 a1_0 a1_1 a1_2 a1_3 a1_4 a1_5 a1_6 a1_7 l1_8 a1_9) else (some false)) = some r := h
 clear h
 by_cases c3 : (l0_8.length : Int) = (l1_8.length : Int)
 ·rw [if_pos c3] at H
  have c3b0 : ((l0_8.length : Int) == (l1_8.length : Int)) = true := beq_iff_eq.mpr c3
  have c3b1 : ((l0_8.length : Int) != (l1_8.length : Int)) = false := bne_eq_false_iff_eq.mpr c3
  have c3b2 : (l0_8.length == l1_8.length) = true := by first | simpa using c3 | (simp at c3 ⊢; omega)
  clear c3
  have H' := Aside0.mk H
  clear H
  go_enter Try.func42, Try.ntmps42
  go_wp2_with (first | ((with_reducible refine gate_dst (N := 2) rfl ?_); refine box_event ?hg (N := 2) ?hd (cs := #[.int .u64 a0_0, .int .u64 a0_1, .int .u64 a0_2, .int .u64 a0_3, .string a0_4, .int .i64 a0_5, .int .i64 a0_6, .bool a0_7, .slice A0_8 l0_8.length c0_8, .int .u64 a0_9]) (t := 26) ?hr ?_; (case hd => rfl); (case hg => rfl); (case hr => first | (go_simp; done) | (go_simp; rfl)); intro gb413 hg w4 hbox hb; have n0_ := Aside0.mk (below_step (by repeat (first | (with_reducible first | exact HB.out | apply below_alloc | apply pw_below_drewN | apply below_drew1) | exact HB.out)) hb); have n1_ := Aside0.mk (hbox); have n2_ := Aside0.mk ((by rw [hg]; exact (below_size (by repeat (first | (with_reducible first | exact HB.out | apply below_alloc | apply pw_below_drewN | apply below_drew1) | exact HB.out))) : w.heap.size ≤ gb413)); have n3_ := Aside0.mk ((by rw [hg]; exact (below_size (by repeat (first | (with_reducible first | exact HB.out | apply below_alloc | apply pw_below_drewN | apply below_drew1) | exact HB.out))) : w.heap.size ≤ gb413)); clear HB; have HB := n0_; have BK413 := n1_; have GW413 := n2_; have GE413 := n3_; clear n0_ n1_ n2_ n3_; clear hb hbox hg) | ((with_reducible refine gate_dst (N := 3) rfl ?_); refine box_event ?hg (N := 3) ?hd (cs := #[.int .u64 a1_0, .int .u64 a1_1, .int .u64 a1_2, .int .u64 a1_3, .string a1_4, .int .i64 a1_5, .int .i64 a1_6, .bool a1_7, .slice A1_8 l1_8.length c1_8, .int .u64 a1_9]) (t := 26) ?hr ?_; (case hd => rfl); (case hg => rfl); (case hr => first | (go_simp; done) | (go_simp; rfl)); intro gb414 hg w5 hbox hb; have n0_ := Aside0.mk (blk_below (g := gb413) (o := .cells #[.int .u64 a0_0, .int .u64 a0_1, .int .u64 a0_2, .int .u64 a0_3, .string a0_4, .int .i64 a0_5, .int .i64 a0_6, .bool a0_7, .slice A0_8 l0_8.length c0_8, .int .u64 a0_9] 26 (0, 0)) (by (with_reducible repeat (first | refine blk_drewN ?_ _ | refine blk_drew ?_ | refine blk_alloc ?_ _)); exact BK413.out) hb); have n1_ := Aside0.mk (below_step (by repeat (first | (with_reducible first | exact HB.out | apply below_alloc | apply pw_below_drewN | apply below_drew1 | refine below_set ?_ GE413.out) | exact HB.out)) hb); have n2_ := Aside0.mk (hbox); have n3_ := Aside0.mk ((by rw [hg]; exact (below_size (by repeat (first | (with_reducible first | exact HB.out | apply below_alloc | apply pw_below_drewN | apply below_drew1 | refine below_set ?_ GE413.out) | exact HB.out))) : w.heap.size ≤ gb414)); have n4_ := Aside0.mk ((by rw [hg]; exact (below_size (by repeat (first | (with_reducible first | exact HB.out | apply below_alloc | apply pw_below_drewN | apply below_drew1 | refine below_set ?_ GE413.out) | exact HB.out))) : w.heap.size ≤ gb414)); have n5_ := Aside0.mk ((by rw [hg]; exact Nat.ne_of_lt (blk_lt (g := gb413) (o := .cells #[.int .u64 a0_0, .int .u64 a0_1, .int .u64 a0_2, .int .u64 a0_3, .string a0_4, .int .i64 a0_5, .int .i64 a0_6, .bool a0_7, .slice A0_8 l0_8.length c0_8, .int .u64 a0_9] 26 (0, 0)) (by (with_reducible repeat (first | refine blk_drewN ?_ _ | refine blk_drew ?_ | refine blk_alloc ?_ _)); exact BK413.out)) : gb413 ≠ gb414)); have n6_ := Aside0.mk ((by rw [hg]; exact Nat.ne_of_gt (blk_lt (g := gb413) (o := .cells #[.int .u64 a0_0, .int .u64 a0_1, .int .u64 a0_2, .int .u64 a0_3, .string a0_4, .int .i64 a0_5, .int .i64 a0_6, .bool a0_7, .slice A0_8 l0_8.length c0_8, .int .u64 a0_9] 26 (0, 0)) (by (with_reducible repeat (first | refine blk_drewN ?_ _ | refine blk_drew ?_ | refine blk_alloc ?_ _)); exact BK413.out)) : gb414 ≠ gb413)); clear BK413; clear HB; have BK413 := n0_; have HB := n1_; have BK414 := n2_; have GW414 := n3_; have GE414 := n4_; have NB413_414 := n5_; have NB414_413 := n6_; clear n0_ n1_ n2_ n3_ n4_ n5_ n6_; clear hb hbox hg; have hnb6 := NB413_414.out; have hnc6 := NB414_413.out; have hcz7_0 : w5.cell? ⟨gb413, 0, none⟩ = some (.int .u64 a0_0) := (blk_cell BK413.out 0).trans rfl; have hcz7_1 : w5.cell? ⟨gb413, 1, none⟩ = some (.int .u64 a0_1) := (blk_cell BK413.out 1).trans rfl; have hcz7_2 : w5.cell? ⟨gb413, 2, none⟩ = some (.int .u64 a0_2) := (blk_cell BK413.out 2).trans rfl; have hcz7_3 : w5.cell? ⟨gb413, 3, none⟩ = some (.int .u64 a0_3) := (blk_cell BK413.out 3).trans rfl; have hcz7_4 : w5.cell? ⟨gb413, 4, none⟩ = some (.string a0_4) := (blk_cell BK413.out 4).trans rfl; have hcz7_5 : w5.cell? ⟨gb413, 5, none⟩ = some (.int .i64 a0_5) := (blk_cell BK413.out 5).trans rfl; have hcz7_6 : w5.cell? ⟨gb413, 6, none⟩ = some (.int .i64 a0_6) := (blk_cell BK413.out 6).trans rfl; have hcz7_7 : w5.cell? ⟨gb413, 7, none⟩ = some (.bool a0_7) := (blk_cell BK413.out 7).trans rfl; have hcz7_8 : w5.cell? ⟨gb413, 8, none⟩ = some (.slice A0_8 l0_8.length c0_8) := (blk_cell BK413.out 8).trans rfl; have hcz7_9 : w5.cell? ⟨gb413, 9, none⟩ = some (.int .u64 a0_9) := (blk_cell BK413.out 9).trans rfl; have hfz7_0 := blk_frozen BK413.out 0; have hfz7_1 := blk_frozen BK413.out 1; have hfz7_2 := blk_frozen BK413.out 2; have hfz7_3 := blk_frozen BK413.out 3; have hfz7_4 := blk_frozen BK413.out 4; have hfz7_5 := blk_frozen BK413.out 5; have hfz7_6 := blk_frozen BK413.out 6; have hfz7_7 := blk_frozen BK413.out 7; have hfz7_8 := blk_frozen BK413.out 8; have hfz7_9 := blk_frozen BK413.out 9; have hcz8_0 : w5.cell? ⟨gb414, 0, none⟩ = some (.int .u64 a1_0) := (blk_cell BK414.out 0).trans rfl; have hcz8_1 : w5.cell? ⟨gb414, 1, none⟩ = some (.int .u64 a1_1) := (blk_cell BK414.out 1).trans rfl; have hcz8_2 : w5.cell? ⟨gb414, 2, none⟩ = some (.int .u64 a1_2) := (blk_cell BK414.out 2).trans rfl; have hcz8_3 : w5.cell? ⟨gb414, 3, none⟩ = some (.int .u64 a1_3) := (blk_cell BK414.out 3).trans rfl; have hcz8_4 : w5.cell? ⟨gb414, 4, none⟩ = some (.string a1_4) := (blk_cell BK414.out 4).trans rfl; have hcz8_5 : w5.cell? ⟨gb414, 5, none⟩ = some (.int .i64 a1_5) := (blk_cell BK414.out 5).trans rfl; have hcz8_6 : w5.cell? ⟨gb414, 6, none⟩ = some (.int .i64 a1_6) := (blk_cell BK414.out 6).trans rfl; have hcz8_7 : w5.cell? ⟨gb414, 7, none⟩ = some (.bool a1_7) := (blk_cell BK414.out 7).trans rfl; have hcz8_8 : w5.cell? ⟨gb414, 8, none⟩ = some (.slice A1_8 l1_8.length c1_8) := (blk_cell BK414.out 8).trans rfl; have hcz8_9 : w5.cell? ⟨gb414, 9, none⟩ = some (.int .u64 a1_9) := (blk_cell BK414.out 9).trans rfl; have hfz8_0 := blk_frozen BK414.out 0; have hfz8_1 := blk_frozen BK414.out 1; have hfz8_2 := blk_frozen BK414.out 2; have hfz8_3 := blk_frozen BK414.out 3; have hfz8_4 := blk_frozen BK414.out 4; have hfz8_5 := blk_frozen BK414.out 5; have hfz8_6 := blk_frozen BK414.out 6; have hfz8_7 := blk_frozen BK414.out 7; have hfz8_8 := blk_frozen BK414.out 8; have hfz8_9 := blk_frozen BK414.out 9))
  repeat (go_quiet (first | ((with_reducible refine gate_dst (N := 2) rfl ?_); refine box_event ?hg (N := 2) ?hd (cs := #[.int .u64 a0_0, .int .u64 a0_1, .int .u64 a0_2, .int .u64 a0_3, .string a0_4, .int .i64 a0_5, .int .i64 a0_6, .bool a0_7, .slice A0_8 l0_8.length c0_8, .int .u64 a0_9]) (t := 26) ?hr ?_; (case hd => rfl); (case hg => rfl); (case hr => first | (go_simp; done) | (go_simp; rfl)); intro gb413 hg w4 hbox hb; have n0_ := Aside0.mk (below_step (by repeat (first | (with_reducible first | exact HB.out | apply below_alloc | apply pw_below_drewN | apply below_drew1) | exact HB.out)) hb); have n1_ := Aside0.mk (hbox); have n2_ := Aside0.mk ((by rw [hg]; exact (below_size (by repeat (first | (with_reducible first | exact HB.out | apply below_alloc | apply pw_below_drewN | apply below_drew1) | exact HB.out))) : w.heap.size ≤ gb413)); have n3_ := Aside0.mk ((by rw [hg]; exact (below_size (by repeat (first | (with_reducible first | exact HB.out | apply below_alloc | apply pw_below_drewN | apply below_drew1) | exact HB.out))) : w.heap.size ≤ gb413)); clear HB; have HB := n0_; have BK413 := n1_; have GW413 := n2_; have GE413 := n3_; clear n0_ n1_ n2_ n3_; clear hb hbox hg) | ((with_reducible refine gate_dst (N := 3) rfl ?_); refine box_event ?hg (N := 3) ?hd (cs := #[.int .u64 a1_0, .int .u64 a1_1, .int .u64 a1_2, .int .u64 a1_3, .string a1_4, .int .i64 a1_5, .int .i64 a1_6, .bool a1_7, .slice A1_8 l1_8.length c1_8, .int .u64 a1_9]) (t := 26) ?hr ?_; (case hd => rfl); (case hg => rfl); (case hr => first | (go_simp; done) | (go_simp; rfl)); intro gb414 hg w5 hbox hb; have n0_ := Aside0.mk (blk_below (g := gb413) (o := .cells #[.int .u64 a0_0, .int .u64 a0_1, .int .u64 a0_2, .int .u64 a0_3, .string a0_4, .int .i64 a0_5, .int .i64 a0_6, .bool a0_7, .slice A0_8 l0_8.length c0_8, .int .u64 a0_9] 26 (0, 0)) (by (with_reducible repeat (first | refine blk_drewN ?_ _ | refine blk_drew ?_ | refine blk_alloc ?_ _)); exact BK413.out) hb); have n1_ := Aside0.mk (below_step (by repeat (first | (with_reducible first | exact HB.out | apply below_alloc | apply pw_below_drewN | apply below_drew1 | refine below_set ?_ GE413.out) | exact HB.out)) hb); have n2_ := Aside0.mk (hbox); have n3_ := Aside0.mk ((by rw [hg]; exact (below_size (by repeat (first | (with_reducible first | exact HB.out | apply below_alloc | apply pw_below_drewN | apply below_drew1 | refine below_set ?_ GE413.out) | exact HB.out))) : w.heap.size ≤ gb414)); have n4_ := Aside0.mk ((by rw [hg]; exact (below_size (by repeat (first | (with_reducible first | exact HB.out | apply below_alloc | apply pw_below_drewN | apply below_drew1 | refine below_set ?_ GE413.out) | exact HB.out))) : w.heap.size ≤ gb414)); have n5_ := Aside0.mk ((by rw [hg]; exact Nat.ne_of_lt (blk_lt (g := gb413) (o := .cells #[.int .u64 a0_0, .int .u64 a0_1, .int .u64 a0_2, .int .u64 a0_3, .string a0_4, .int .i64 a0_5, .int .i64 a0_6, .bool a0_7, .slice A0_8 l0_8.length c0_8, .int .u64 a0_9] 26 (0, 0)) (by (with_reducible repeat (first | refine blk_drewN ?_ _ | refine blk_drew ?_ | refine blk_alloc ?_ _)); exact BK413.out)) : gb413 ≠ gb414)); have n6_ := Aside0.mk ((by rw [hg]; exact Nat.ne_of_gt (blk_lt (g := gb413) (o := .cells #[.int .u64 a0_0, .int .u64 a0_1, .int .u64 a0_2, .int .u64 a0_3, .string a0_4, .int .i64 a0_5, .int .i64 a0_6, .bool a0_7, .slice A0_8 l0_8.length c0_8, .int .u64 a0_9] 26 (0, 0)) (by (with_reducible repeat (first | refine blk_drewN ?_ _ | refine blk_drew ?_ | refine blk_alloc ?_ _)); exact BK413.out)) : gb414 ≠ gb413)); clear BK413; clear HB; have BK413 := n0_; have HB := n1_; have BK414 := n2_; have GW414 := n3_; have GE414 := n4_; have NB413_414 := n5_; have NB414_413 := n6_; clear n0_ n1_ n2_ n3_ n4_ n5_ n6_; clear hb hbox hg; have hnb6 := NB413_414.out; have hnc6 := NB414_413.out; have hcz7_0 : w5.cell? ⟨gb413, 0, none⟩ = some (.int .u64 a0_0) := (blk_cell BK413.out 0).trans rfl; have hcz7_1 : w5.cell? ⟨gb413, 1, none⟩ = some (.int .u64 a0_1) := (blk_cell BK413.out 1).trans rfl; have hcz7_2 : w5.cell? ⟨gb413, 2, none⟩ = some (.int .u64 a0_2) := (blk_cell BK413.out 2).trans rfl; have hcz7_3 : w5.cell? ⟨gb413, 3, none⟩ = some (.int .u64 a0_3) := (blk_cell BK413.out 3).trans rfl; have hcz7_4 : w5.cell? ⟨gb413, 4, none⟩ = some (.string a0_4) := (blk_cell BK413.out 4).trans rfl; have hcz7_5 : w5.cell? ⟨gb413, 5, none⟩ = some (.int .i64 a0_5) := (blk_cell BK413.out 5).trans rfl; have hcz7_6 : w5.cell? ⟨gb413, 6, none⟩ = some (.int .i64 a0_6) := (blk_cell BK413.out 6).trans rfl; have hcz7_7 : w5.cell? ⟨gb413, 7, none⟩ = some (.bool a0_7) := (blk_cell BK413.out 7).trans rfl; have hcz7_8 : w5.cell? ⟨gb413, 8, none⟩ = some (.slice A0_8 l0_8.length c0_8) := (blk_cell BK413.out 8).trans rfl; have hcz7_9 : w5.cell? ⟨gb413, 9, none⟩ = some (.int .u64 a0_9) := (blk_cell BK413.out 9).trans rfl; have hfz7_0 := blk_frozen BK413.out 0; have hfz7_1 := blk_frozen BK413.out 1; have hfz7_2 := blk_frozen BK413.out 2; have hfz7_3 := blk_frozen BK413.out 3; have hfz7_4 := blk_frozen BK413.out 4; have hfz7_5 := blk_frozen BK413.out 5; have hfz7_6 := blk_frozen BK413.out 6; have hfz7_7 := blk_frozen BK413.out 7; have hfz7_8 := blk_frozen BK413.out 8; have hfz7_9 := blk_frozen BK413.out 9; have hcz8_0 : w5.cell? ⟨gb414, 0, none⟩ = some (.int .u64 a1_0) := (blk_cell BK414.out 0).trans rfl; have hcz8_1 : w5.cell? ⟨gb414, 1, none⟩ = some (.int .u64 a1_1) := (blk_cell BK414.out 1).trans rfl; have hcz8_2 : w5.cell? ⟨gb414, 2, none⟩ = some (.int .u64 a1_2) := (blk_cell BK414.out 2).trans rfl; have hcz8_3 : w5.cell? ⟨gb414, 3, none⟩ = some (.int .u64 a1_3) := (blk_cell BK414.out 3).trans rfl; have hcz8_4 : w5.cell? ⟨gb414, 4, none⟩ = some (.string a1_4) := (blk_cell BK414.out 4).trans rfl; have hcz8_5 : w5.cell? ⟨gb414, 5, none⟩ = some (.int .i64 a1_5) := (blk_cell BK414.out 5).trans rfl; have hcz8_6 : w5.cell? ⟨gb414, 6, none⟩ = some (.int .i64 a1_6) := (blk_cell BK414.out 6).trans rfl; have hcz8_7 : w5.cell? ⟨gb414, 7, none⟩ = some (.bool a1_7) := (blk_cell BK414.out 7).trans rfl; have hcz8_8 : w5.cell? ⟨gb414, 8, none⟩ = some (.slice A1_8 l1_8.length c1_8) := (blk_cell BK414.out 8).trans rfl; have hcz8_9 : w5.cell? ⟨gb414, 9, none⟩ = some (.int .u64 a1_9) := (blk_cell BK414.out 9).trans rfl; have hfz8_0 := blk_frozen BK414.out 0; have hfz8_1 := blk_frozen BK414.out 1; have hfz8_2 := blk_frozen BK414.out 2; have hfz8_3 := blk_frozen BK414.out 3; have hfz8_4 := blk_frozen BK414.out 4; have hfz8_5 := blk_frozen BK414.out 5; have hfz8_6 := blk_frozen BK414.out 6; have hfz8_7 := blk_frozen BK414.out 7; have hfz8_8 := blk_frozen BK414.out 8; have hfz8_9 := blk_frozen BK414.out 9)); try go_wp2_with (first | ((with_reducible refine gate_dst (N := 2) rfl ?_); refine box_event ?hg (N := 2) ?hd (cs := #[.int .u64 a0_0, .int .u64 a0_1, .int .u64 a0_2, .int .u64 a0_3, .string a0_4, .int .i64 a0_5, .int .i64 a0_6, .bool a0_7, .slice A0_8 l0_8.length c0_8, .int .u64 a0_9]) (t := 26) ?hr ?_; (case hd => rfl); (case hg => rfl); (case hr => first | (go_simp; done) | (go_simp; rfl)); intro gb413 hg w4 hbox hb; have n0_ := Aside0.mk (below_step (by repeat (first | (with_reducible first | exact HB.out | apply below_alloc | apply pw_below_drewN | apply below_drew1) | exact HB.out)) hb); have n1_ := Aside0.mk (hbox); have n2_ := Aside0.mk ((by rw [hg]; exact (below_size (by repeat (first | (with_reducible first | exact HB.out | apply below_alloc | apply pw_below_drewN | apply below_drew1) | exact HB.out))) : w.heap.size ≤ gb413)); have n3_ := Aside0.mk ((by rw [hg]; exact (below_size (by repeat (first | (with_reducible first | exact HB.out | apply below_alloc | apply pw_below_drewN | apply below_drew1) | exact HB.out))) : w.heap.size ≤ gb413)); clear HB; have HB := n0_; have BK413 := n1_; have GW413 := n2_; have GE413 := n3_; clear n0_ n1_ n2_ n3_; clear hb hbox hg) | ((with_reducible refine gate_dst (N := 3) rfl ?_); refine box_event ?hg (N := 3) ?hd (cs := #[.int .u64 a1_0, .int .u64 a1_1, .int .u64 a1_2, .int .u64 a1_3, .string a1_4, .int .i64 a1_5, .int .i64 a1_6, .bool a1_7, .slice A1_8 l1_8.length c1_8, .int .u64 a1_9]) (t := 26) ?hr ?_; (case hd => rfl); (case hg => rfl); (case hr => first | (go_simp; done) | (go_simp; rfl)); intro gb414 hg w5 hbox hb; have n0_ := Aside0.mk (blk_below (g := gb413) (o := .cells #[.int .u64 a0_0, .int .u64 a0_1, .int .u64 a0_2, .int .u64 a0_3, .string a0_4, .int .i64 a0_5, .int .i64 a0_6, .bool a0_7, .slice A0_8 l0_8.length c0_8, .int .u64 a0_9] 26 (0, 0)) (by (with_reducible repeat (first | refine blk_drewN ?_ _ | refine blk_drew ?_ | refine blk_alloc ?_ _)); exact BK413.out) hb); have n1_ := Aside0.mk (below_step (by repeat (first | (with_reducible first | exact HB.out | apply below_alloc | apply pw_below_drewN | apply below_drew1 | refine below_set ?_ GE413.out) | exact HB.out)) hb); have n2_ := Aside0.mk (hbox); have n3_ := Aside0.mk ((by rw [hg]; exact (below_size (by repeat (first | (with_reducible first | exact HB.out | apply below_alloc | apply pw_below_drewN | apply below_drew1 | refine below_set ?_ GE413.out) | exact HB.out))) : w.heap.size ≤ gb414)); have n4_ := Aside0.mk ((by rw [hg]; exact (below_size (by repeat (first | (with_reducible first | exact HB.out | apply below_alloc | apply pw_below_drewN | apply below_drew1 | refine below_set ?_ GE413.out) | exact HB.out))) : w.heap.size ≤ gb414)); have n5_ := Aside0.mk ((by rw [hg]; exact Nat.ne_of_lt (blk_lt (g := gb413) (o := .cells #[.int .u64 a0_0, .int .u64 a0_1, .int .u64 a0_2, .int .u64 a0_3, .string a0_4, .int .i64 a0_5, .int .i64 a0_6, .bool a0_7, .slice A0_8 l0_8.length c0_8, .int .u64 a0_9] 26 (0, 0)) (by (with_reducible repeat (first | refine blk_drewN ?_ _ | refine blk_drew ?_ | refine blk_alloc ?_ _)); exact BK413.out)) : gb413 ≠ gb414)); have n6_ := Aside0.mk ((by rw [hg]; exact Nat.ne_of_gt (blk_lt (g := gb413) (o := .cells #[.int .u64 a0_0, .int .u64 a0_1, .int .u64 a0_2, .int .u64 a0_3, .string a0_4, .int .i64 a0_5, .int .i64 a0_6, .bool a0_7, .slice A0_8 l0_8.length c0_8, .int .u64 a0_9] 26 (0, 0)) (by (with_reducible repeat (first | refine blk_drewN ?_ _ | refine blk_drew ?_ | refine blk_alloc ?_ _)); exact BK413.out)) : gb414 ≠ gb413)); clear BK413; clear HB; have BK413 := n0_; have HB := n1_; have BK414 := n2_; have GW414 := n3_; have GE414 := n4_; have NB413_414 := n5_; have NB414_413 := n6_; clear n0_ n1_ n2_ n3_ n4_ n5_ n6_; clear hb hbox hg; have hnb6 := NB413_414.out; have hnc6 := NB414_413.out; have hcz7_0 : w5.cell? ⟨gb413, 0, none⟩ = some (.int .u64 a0_0) := (blk_cell BK413.out 0).trans rfl; have hcz7_1 : w5.cell? ⟨gb413, 1, none⟩ = some (.int .u64 a0_1) := (blk_cell BK413.out 1).trans rfl; have hcz7_2 : w5.cell? ⟨gb413, 2, none⟩ = some (.int .u64 a0_2) := (blk_cell BK413.out 2).trans rfl; have hcz7_3 : w5.cell? ⟨gb413, 3, none⟩ = some (.int .u64 a0_3) := (blk_cell BK413.out 3).trans rfl; have hcz7_4 : w5.cell? ⟨gb413, 4, none⟩ = some (.string a0_4) := (blk_cell BK413.out 4).trans rfl; have hcz7_5 : w5.cell? ⟨gb413, 5, none⟩ = some (.int .i64 a0_5) := (blk_cell BK413.out 5).trans rfl; have hcz7_6 : w5.cell? ⟨gb413, 6, none⟩ = some (.int .i64 a0_6) := (blk_cell BK413.out 6).trans rfl; have hcz7_7 : w5.cell? ⟨gb413, 7, none⟩ = some (.bool a0_7) := (blk_cell BK413.out 7).trans rfl; have hcz7_8 : w5.cell? ⟨gb413, 8, none⟩ = some (.slice A0_8 l0_8.length c0_8) := (blk_cell BK413.out 8).trans rfl; have hcz7_9 : w5.cell? ⟨gb413, 9, none⟩ = some (.int .u64 a0_9) := (blk_cell BK413.out 9).trans rfl; have hfz7_0 := blk_frozen BK413.out 0; have hfz7_1 := blk_frozen BK413.out 1; have hfz7_2 := blk_frozen BK413.out 2; have hfz7_3 := blk_frozen BK413.out 3; have hfz7_4 := blk_frozen BK413.out 4; have hfz7_5 := blk_frozen BK413.out 5; have hfz7_6 := blk_frozen BK413.out 6; have hfz7_7 := blk_frozen BK413.out 7; have hfz7_8 := blk_frozen BK413.out 8; have hfz7_9 := blk_frozen BK413.out 9; have hcz8_0 : w5.cell? ⟨gb414, 0, none⟩ = some (.int .u64 a1_0) := (blk_cell BK414.out 0).trans rfl; have hcz8_1 : w5.cell? ⟨gb414, 1, none⟩ = some (.int .u64 a1_1) := (blk_cell BK414.out 1).trans rfl; have hcz8_2 : w5.cell? ⟨gb414, 2, none⟩ = some (.int .u64 a1_2) := (blk_cell BK414.out 2).trans rfl; have hcz8_3 : w5.cell? ⟨gb414, 3, none⟩ = some (.int .u64 a1_3) := (blk_cell BK414.out 3).trans rfl; have hcz8_4 : w5.cell? ⟨gb414, 4, none⟩ = some (.string a1_4) := (blk_cell BK414.out 4).trans rfl; have hcz8_5 : w5.cell? ⟨gb414, 5, none⟩ = some (.int .i64 a1_5) := (blk_cell BK414.out 5).trans rfl; have hcz8_6 : w5.cell? ⟨gb414, 6, none⟩ = some (.int .i64 a1_6) := (blk_cell BK414.out 6).trans rfl; have hcz8_7 : w5.cell? ⟨gb414, 7, none⟩ = some (.bool a1_7) := (blk_cell BK414.out 7).trans rfl; have hcz8_8 : w5.cell? ⟨gb414, 8, none⟩ = some (.slice A1_8 l1_8.length c1_8) := (blk_cell BK414.out 8).trans rfl; have hcz8_9 : w5.cell? ⟨gb414, 9, none⟩ = some (.int .u64 a1_9) := (blk_cell BK414.out 9).trans rfl; have hfz8_0 := blk_frozen BK414.out 0; have hfz8_1 := blk_frozen BK414.out 1; have hfz8_2 := blk_frozen BK414.out 2; have hfz8_3 := blk_frozen BK414.out 3; have hfz8_4 := blk_frozen BK414.out 4; have hfz8_5 := blk_frozen BK414.out 5; have hfz8_6 := blk_frozen BK414.out 6; have hfz8_7 := blk_frozen BK414.out 7; have hfz8_8 := blk_frozen BK414.out 8; have hfz8_9 := blk_frozen BK414.out 9)))
  go_loopg [5] k (fun kq v5 w' => ∃ (x5_1 : Int), v5 = .int .i64 x5_1 ∧ Aside0 (telemeterref03_SameSpan.l0 kq x5_1 a0_0 a0_1 a0_2 a0_3 a0_4 a0_5 a0_6 a0_7 l0_8 a0_9 a1_0 a1_1 a1_2 a1_3 a1_4 a1_5 a1_6 a1_7 l1_8 a1_9 = some r) ∧ Aside0 (kq ≤ k) ∧ Aside0 (w'.heap[gb413]? = some (.cells #[.int .u64 a0_0, .int .u64 a0_1, .int .u64 a0_2, .int .u64 a0_3, .string a0_4, .int .i64 a0_5, .int .i64 a0_6, .bool a0_7, (.slice A0_8 l0_8.length c0_8), .int .u64 a0_9] 26 (0, 0))) ∧ Aside0 (w'.heap[gb414]? = some (.cells #[.int .u64 a1_0, .int .u64 a1_1, .int .u64 a1_2, .int .u64 a1_3, .string a1_4, .int .i64 a1_5, .int .i64 a1_6, .bool a1_7, (.slice A1_8 l1_8.length c1_8), .int .u64 a1_9] 26 (0, 0))) ∧ Aside0 (Below w.heap.size w w'))
  case atStart => exact ⟨(0), (by first | rfl | (simp; done) | (simp [*]; done)), H', ⟨Nat.le_refl _⟩, ⟨by (with_reducible repeat (first | refine blk_drewN ?_ _ | refine blk_drew ?_ | refine blk_alloc ?_ _)); exact BK413.out⟩, ⟨by (with_reducible repeat (first | refine blk_drewN ?_ _ | refine blk_drew ?_ | refine blk_alloc ?_ _)); exact BK414.out⟩, ⟨by repeat (first | (with_reducible first | exact HB.out | apply below_alloc | apply pw_below_drewN | apply below_drew1 | refine below_set ?_ GE413.out | refine below_set ?_ GE414.out) | exact HB.out)⟩⟩
  case round =>
   clear H'
   try clear c1
   try clear p2
   try clear c3
   try clear c3b0
   try clear c3b1
   try clear c3b2
   try clear c4
   try clear c6
   try clear hcz7_0
   try clear hcz7_1
   try clear hcz7_2
   try clear hcz7_3
   try clear hcz7_4
   try clear hcz7_5
   try clear hcz7_6
   try clear hcz7_7
   try clear hcz7_8
   try clear hcz7_9
   try clear hcz8_0
   try clear hcz8_1
   try clear hcz8_2
   try clear hcz8_3
   try clear hcz8_4
   try clear hcz8_5
   try clear hcz8_6
   try clear hcz8_7
   try clear hcz8_8
   try clear hcz8_9
   try clear hfz7_0
   try clear hfz7_1
   try clear hfz7_2
   try clear hfz7_3
   try clear hfz7_4
   try clear hfz7_5
   try clear hfz7_6
   try clear hfz7_7
   try clear hfz7_8
   try clear hfz7_9
   try clear hfz8_0
   try clear hfz8_1
   try clear hfz8_2
   try clear hfz8_3
   try clear hfz8_4
   try clear hfz8_5
   try clear hfz8_6
   try clear hfz8_7
   try clear hfz8_8
   try clear hfz8_9
   obtain ⟨x5_1, rfl, HA, HK1, BK413, BK414, HB⟩ := hrel
   cases gk with
   | zero => exact absurd HA.out (by simp [telemeterref03_SameSpan.l0])
   | succ k1 =>
    have H := HA.out
    clear HA
    simp only [telemeterref03_SameSpan.l0] at H
    by_cases c9 : x5_1 < (l0_8.length : Int)
    ·rw [if_pos c9] at H
     have c9b0 : decide (x5_1 < (l0_8.length : Int)) = true := decide_eq_true c9
     clear c9
     by_cases c10 : 0 ≤ x5_1
     ·rw [if_pos c10] at H
      have c10b0 : decide (0 ≤ x5_1) = true := decide_eq_true c10
      clear c10
      by_cases c11 : x5_1 < (l1_8.length : Int)
      ·rw [if_pos c11] at H
       have c11b0 : decide (x5_1 < (l1_8.length : Int)) = true := decide_eq_true c11
       clear c11
       by_cases c12 : (!((((rd_T36 l0_8 x5_1).f0).toList) == (((rd_T36 l1_8 x5_1).f0).toList)) || (!((((rd_T36 l0_8 x5_1).f1).toList) == (((rd_T36 l1_8 x5_1).f1).toList)))) = true
       ·rw [if_pos c12] at H
        have c12b0 : (!((((rd_T36 l0_8 x5_1).f0).toList) == (((rd_T36 l1_8 x5_1).f0).toList)) || (!((((rd_T36 l0_8 x5_1).f1).toList) == (((rd_T36 l1_8 x5_1).f1).toList)))) = true := c12
        clear c12
        obtain rfl := Option.some.inj H
        have hnb13 := NB413_414.out
        have hnc13 := NB414_413.out
        have hcz14_0 : wr.cell? ⟨gb413, 0, none⟩ = some (.int .u64 a0_0) := (blk_cell BK413.out 0).trans rfl
        have hcz14_1 : wr.cell? ⟨gb413, 1, none⟩ = some (.int .u64 a0_1) := (blk_cell BK413.out 1).trans rfl
        have hcz14_2 : wr.cell? ⟨gb413, 2, none⟩ = some (.int .u64 a0_2) := (blk_cell BK413.out 2).trans rfl
        have hcz14_3 : wr.cell? ⟨gb413, 3, none⟩ = some (.int .u64 a0_3) := (blk_cell BK413.out 3).trans rfl
        have hcz14_4 : wr.cell? ⟨gb413, 4, none⟩ = some (.string a0_4) := (blk_cell BK413.out 4).trans rfl
        have hcz14_5 : wr.cell? ⟨gb413, 5, none⟩ = some (.int .i64 a0_5) := (blk_cell BK413.out 5).trans rfl
        have hcz14_6 : wr.cell? ⟨gb413, 6, none⟩ = some (.int .i64 a0_6) := (blk_cell BK413.out 6).trans rfl
        have hcz14_7 : wr.cell? ⟨gb413, 7, none⟩ = some (.bool a0_7) := (blk_cell BK413.out 7).trans rfl
        have hcz14_8 : wr.cell? ⟨gb413, 8, none⟩ = some (.slice A0_8 l0_8.length c0_8) := (blk_cell BK413.out 8).trans rfl
        have hcz14_9 : wr.cell? ⟨gb413, 9, none⟩ = some (.int .u64 a0_9) := (blk_cell BK413.out 9).trans rfl
        have hfz14_0 := blk_frozen BK413.out 0
        have hfz14_1 := blk_frozen BK413.out 1
        have hfz14_2 := blk_frozen BK413.out 2
        have hfz14_3 := blk_frozen BK413.out 3
        have hfz14_4 := blk_frozen BK413.out 4
        have hfz14_5 := blk_frozen BK413.out 5
        have hfz14_6 := blk_frozen BK413.out 6
        have hfz14_7 := blk_frozen BK413.out 7
        have hfz14_8 := blk_frozen BK413.out 8
        have hfz14_9 := blk_frozen BK413.out 9
        have p415 : 0 ≤ (x5_1 : Int) := of_decide_eq_true (by first | (with_reducible assumption) | assumption)
        have q415 : x5_1 < (l0_8.length : Int) := of_decide_eq_true (by first | (with_reducible assumption) | assumption)
        obtain ⟨ad415, e415, hx415_0, hx415_1⟩ := at_T36 HR0_8.out x5_1 p415 q415
        cases e415
        replace hx415_0 := (HB.out.cell (World.block_lt_of_cell? w _ hx415_0)).trans hx415_0
        replace hx415_1 := (HB.out.cell (World.block_lt_of_cell? w _ hx415_1)).trans hx415_1
        replace p415 := eq_true p415
        replace q415 := eq_true q415
        have hcz15_0 : wr.cell? ⟨gb414, 0, none⟩ = some (.int .u64 a1_0) := (blk_cell BK414.out 0).trans rfl
        have hcz15_1 : wr.cell? ⟨gb414, 1, none⟩ = some (.int .u64 a1_1) := (blk_cell BK414.out 1).trans rfl
        have hcz15_2 : wr.cell? ⟨gb414, 2, none⟩ = some (.int .u64 a1_2) := (blk_cell BK414.out 2).trans rfl
        have hcz15_3 : wr.cell? ⟨gb414, 3, none⟩ = some (.int .u64 a1_3) := (blk_cell BK414.out 3).trans rfl
        have hcz15_4 : wr.cell? ⟨gb414, 4, none⟩ = some (.string a1_4) := (blk_cell BK414.out 4).trans rfl
        have hcz15_5 : wr.cell? ⟨gb414, 5, none⟩ = some (.int .i64 a1_5) := (blk_cell BK414.out 5).trans rfl
        have hcz15_6 : wr.cell? ⟨gb414, 6, none⟩ = some (.int .i64 a1_6) := (blk_cell BK414.out 6).trans rfl
        have hcz15_7 : wr.cell? ⟨gb414, 7, none⟩ = some (.bool a1_7) := (blk_cell BK414.out 7).trans rfl
        have hcz15_8 : wr.cell? ⟨gb414, 8, none⟩ = some (.slice A1_8 l1_8.length c1_8) := (blk_cell BK414.out 8).trans rfl
        have hcz15_9 : wr.cell? ⟨gb414, 9, none⟩ = some (.int .u64 a1_9) := (blk_cell BK414.out 9).trans rfl
        have hfz15_0 := blk_frozen BK414.out 0
        have hfz15_1 := blk_frozen BK414.out 1
        have hfz15_2 := blk_frozen BK414.out 2
        have hfz15_3 := blk_frozen BK414.out 3
        have hfz15_4 := blk_frozen BK414.out 4
        have hfz15_5 := blk_frozen BK414.out 5
        have hfz15_6 := blk_frozen BK414.out 6
        have hfz15_7 := blk_frozen BK414.out 7
        have hfz15_8 := blk_frozen BK414.out 8
        have hfz15_9 := blk_frozen BK414.out 9
        have p416 : 0 ≤ (x5_1 : Int) := of_decide_eq_true (by first | (with_reducible assumption) | assumption)
        have q416 : x5_1 < (l1_8.length : Int) := of_decide_eq_true (by first | (with_reducible assumption) | assumption)
        obtain ⟨ad416, e416, hx416_0, hx416_1⟩ := at_T36 HR1_8.out x5_1 p416 q416
        cases e416
        replace hx416_0 := (HB.out.cell (World.block_lt_of_cell? w _ hx416_0)).trans hx416_0
        replace hx416_1 := (HB.out.cell (World.block_lt_of_cell? w _ hx416_1)).trans hx416_1
        replace p416 := eq_true p416
        replace q416 := eq_true q416
        go_wp2
        repeat (go_quiet (fail); try go_wp2)
        go_ret
        exact ⟨by first | rfl | (simp [errW_none, errW_some] <;> rfl) | (simp [*, errW_none, errW_some] <;> rfl), by repeat (first | (with_reducible first | exact HB.out | apply below_alloc | apply pw_below_drewN | apply below_drew1 | refine below_set ?_ GE413.out | refine below_set ?_ GE414.out) | exact HB.out)⟩
       ·rw [if_neg c12] at H
        have c12b0 : (!((((rd_T36 l0_8 x5_1).f0).toList) == (((rd_T36 l1_8 x5_1).f0).toList)) || (!((((rd_T36 l0_8 x5_1).f1).toList) == (((rd_T36 l1_8 x5_1).f1).toList)))) = false := by simpa using c12
        clear c12
        have H' := Aside0.mk H
        clear H
        have hnb16 := NB413_414.out
        have hnc16 := NB414_413.out
        have hcz17_0 : wr.cell? ⟨gb413, 0, none⟩ = some (.int .u64 a0_0) := (blk_cell BK413.out 0).trans rfl
        have hcz17_1 : wr.cell? ⟨gb413, 1, none⟩ = some (.int .u64 a0_1) := (blk_cell BK413.out 1).trans rfl
        have hcz17_2 : wr.cell? ⟨gb413, 2, none⟩ = some (.int .u64 a0_2) := (blk_cell BK413.out 2).trans rfl
        have hcz17_3 : wr.cell? ⟨gb413, 3, none⟩ = some (.int .u64 a0_3) := (blk_cell BK413.out 3).trans rfl
        have hcz17_4 : wr.cell? ⟨gb413, 4, none⟩ = some (.string a0_4) := (blk_cell BK413.out 4).trans rfl
        have hcz17_5 : wr.cell? ⟨gb413, 5, none⟩ = some (.int .i64 a0_5) := (blk_cell BK413.out 5).trans rfl
        have hcz17_6 : wr.cell? ⟨gb413, 6, none⟩ = some (.int .i64 a0_6) := (blk_cell BK413.out 6).trans rfl
        have hcz17_7 : wr.cell? ⟨gb413, 7, none⟩ = some (.bool a0_7) := (blk_cell BK413.out 7).trans rfl
        have hcz17_8 : wr.cell? ⟨gb413, 8, none⟩ = some (.slice A0_8 l0_8.length c0_8) := (blk_cell BK413.out 8).trans rfl
        have hcz17_9 : wr.cell? ⟨gb413, 9, none⟩ = some (.int .u64 a0_9) := (blk_cell BK413.out 9).trans rfl
        have hfz17_0 := blk_frozen BK413.out 0
        have hfz17_1 := blk_frozen BK413.out 1
        have hfz17_2 := blk_frozen BK413.out 2
        have hfz17_3 := blk_frozen BK413.out 3
        have hfz17_4 := blk_frozen BK413.out 4
        have hfz17_5 := blk_frozen BK413.out 5
        have hfz17_6 := blk_frozen BK413.out 6
        have hfz17_7 := blk_frozen BK413.out 7
        have hfz17_8 := blk_frozen BK413.out 8
        have hfz17_9 := blk_frozen BK413.out 9
        have p415 : 0 ≤ (x5_1 : Int) := of_decide_eq_true (by first | (with_reducible assumption) | assumption)
        have q415 : x5_1 < (l0_8.length : Int) := of_decide_eq_true (by first | (with_reducible assumption) | assumption)
        obtain ⟨ad415, e415, hx415_0, hx415_1⟩ := at_T36 HR0_8.out x5_1 p415 q415
        cases e415
        replace hx415_0 := (HB.out.cell (World.block_lt_of_cell? w _ hx415_0)).trans hx415_0
        replace hx415_1 := (HB.out.cell (World.block_lt_of_cell? w _ hx415_1)).trans hx415_1
        replace p415 := eq_true p415
        replace q415 := eq_true q415
        have hcz18_0 : wr.cell? ⟨gb414, 0, none⟩ = some (.int .u64 a1_0) := (blk_cell BK414.out 0).trans rfl
        have hcz18_1 : wr.cell? ⟨gb414, 1, none⟩ = some (.int .u64 a1_1) := (blk_cell BK414.out 1).trans rfl
        have hcz18_2 : wr.cell? ⟨gb414, 2, none⟩ = some (.int .u64 a1_2) := (blk_cell BK414.out 2).trans rfl
        have hcz18_3 : wr.cell? ⟨gb414, 3, none⟩ = some (.int .u64 a1_3) := (blk_cell BK414.out 3).trans rfl
        have hcz18_4 : wr.cell? ⟨gb414, 4, none⟩ = some (.string a1_4) := (blk_cell BK414.out 4).trans rfl
        have hcz18_5 : wr.cell? ⟨gb414, 5, none⟩ = some (.int .i64 a1_5) := (blk_cell BK414.out 5).trans rfl
        have hcz18_6 : wr.cell? ⟨gb414, 6, none⟩ = some (.int .i64 a1_6) := (blk_cell BK414.out 6).trans rfl
        have hcz18_7 : wr.cell? ⟨gb414, 7, none⟩ = some (.bool a1_7) := (blk_cell BK414.out 7).trans rfl
        have hcz18_8 : wr.cell? ⟨gb414, 8, none⟩ = some (.slice A1_8 l1_8.length c1_8) := (blk_cell BK414.out 8).trans rfl
        have hcz18_9 : wr.cell? ⟨gb414, 9, none⟩ = some (.int .u64 a1_9) := (blk_cell BK414.out 9).trans rfl
        have hfz18_0 := blk_frozen BK414.out 0
        have hfz18_1 := blk_frozen BK414.out 1
        have hfz18_2 := blk_frozen BK414.out 2
        have hfz18_3 := blk_frozen BK414.out 3
        have hfz18_4 := blk_frozen BK414.out 4
        have hfz18_5 := blk_frozen BK414.out 5
        have hfz18_6 := blk_frozen BK414.out 6
        have hfz18_7 := blk_frozen BK414.out 7
        have hfz18_8 := blk_frozen BK414.out 8
        have hfz18_9 := blk_frozen BK414.out 9
        have p416 : 0 ≤ (x5_1 : Int) := of_decide_eq_true (by first | (with_reducible assumption) | assumption)
        have q416 : x5_1 < (l1_8.length : Int) := of_decide_eq_true (by first | (with_reducible assumption) | assumption)
        obtain ⟨ad416, e416, hx416_0, hx416_1⟩ := at_T36 HR1_8.out x5_1 p416 q416
        cases e416
        replace hx416_0 := (HB.out.cell (World.block_lt_of_cell? w _ hx416_0)).trans hx416_0
        replace hx416_1 := (HB.out.cell (World.block_lt_of_cell? w _ hx416_1)).trans hx416_1
        replace p416 := eq_true p416
        replace q416 := eq_true q416
        go_wp2
        repeat (go_quiet (fail); try go_wp2)
        go_roundg k1
        case measure => have := HK1.out; omega
        case rel => exact ⟨(wrap64 (x5_1 + 1)), (by first | rfl | (simp; done) | (simp [*]; done)), H', ⟨by have := HK1.out; omega⟩, ⟨by (with_reducible repeat (first | refine blk_drewN ?_ _ | refine blk_drew ?_ | refine blk_alloc ?_ _)); exact BK413.out⟩, ⟨by (with_reducible repeat (first | refine blk_drewN ?_ _ | refine blk_drew ?_ | refine blk_alloc ?_ _)); exact BK414.out⟩, ⟨by repeat (first | (with_reducible first | exact HB.out | apply below_alloc | apply pw_below_drewN | apply below_drew1 | refine below_set ?_ GE413.out | refine below_set ?_ GE414.out) | exact HB.out)⟩⟩
      ·rw [if_neg c11] at H
       exact absurd H (by simp)
     ·rw [if_neg c10] at H
      exact absurd H (by simp)
    ·rw [if_neg c9] at H
     have c9b0 : decide (x5_1 < (l0_8.length : Int)) = false := decide_eq_false c9
     clear c9
     by_cases c19 : a0_0 = a1_0
     ·rw [if_pos c19] at H
      have c19b0 : (a0_0 == a1_0) = true := beq_iff_eq.mpr c19
      have c19b1 : (a0_0 != a1_0) = false := bne_eq_false_iff_eq.mpr c19
      clear c19
      by_cases c20 : a0_1 = a1_1
      ·rw [if_pos c20] at H
       have c20b0 : (a0_1 == a1_1) = true := beq_iff_eq.mpr c20
       have c20b1 : (a0_1 != a1_1) = false := bne_eq_false_iff_eq.mpr c20
       clear c20
       by_cases c21 : a0_2 = a1_2
       ·rw [if_pos c21] at H
        have c21b0 : (a0_2 == a1_2) = true := beq_iff_eq.mpr c21
        have c21b1 : (a0_2 != a1_2) = false := bne_eq_false_iff_eq.mpr c21
        clear c21
        by_cases c22 : a0_3 = a1_3
        ·rw [if_pos c22] at H
         have c22b0 : (a0_3 == a1_3) = true := beq_iff_eq.mpr c22
         have c22b1 : (a0_3 != a1_3) = false := bne_eq_false_iff_eq.mpr c22
         clear c22
         by_cases c23 : a0_4.toList = a1_4.toList
         ·rw [if_pos c23] at H
          have c23b0 : (a0_4.toList == a1_4.toList) = true := beq_iff_eq.mpr c23
          have c23b1 : (a0_4.toList != a1_4.toList) = false := bne_eq_false_iff_eq.mpr c23
          clear c23
          by_cases c24 : a0_5 = a1_5
          ·rw [if_pos c24] at H
           have c24b0 : (a0_5 == a1_5) = true := beq_iff_eq.mpr c24
           have c24b1 : (a0_5 != a1_5) = false := bne_eq_false_iff_eq.mpr c24
           clear c24
           by_cases c25 : a0_6 = a1_6
           ·rw [if_pos c25] at H
            have c25b0 : (a0_6 == a1_6) = true := beq_iff_eq.mpr c25
            have c25b1 : (a0_6 != a1_6) = false := bne_eq_false_iff_eq.mpr c25
            clear c25
            by_cases c26 : (a0_7 == a1_7) = true
            ·rw [if_pos c26] at H
             have c26b0 : (a0_7 == a1_7) = true := c26
             (try (have c26b1 : decide (a0_7 = a1_7) = true := by simpa using c26))
             (try (have c26b2 : (a0_7 == a1_7) = true := by simpa using c26))
             clear c26
             obtain rfl := Option.some.inj H
             have hnb27 := NB413_414.out
             have hnc27 := NB414_413.out
             have hcz28_0 : wr.cell? ⟨gb413, 0, none⟩ = some (.int .u64 a0_0) := (blk_cell BK413.out 0).trans rfl
             have hcz28_1 : wr.cell? ⟨gb413, 1, none⟩ = some (.int .u64 a0_1) := (blk_cell BK413.out 1).trans rfl
             have hcz28_2 : wr.cell? ⟨gb413, 2, none⟩ = some (.int .u64 a0_2) := (blk_cell BK413.out 2).trans rfl
             have hcz28_3 : wr.cell? ⟨gb413, 3, none⟩ = some (.int .u64 a0_3) := (blk_cell BK413.out 3).trans rfl
             have hcz28_4 : wr.cell? ⟨gb413, 4, none⟩ = some (.string a0_4) := (blk_cell BK413.out 4).trans rfl
             have hcz28_5 : wr.cell? ⟨gb413, 5, none⟩ = some (.int .i64 a0_5) := (blk_cell BK413.out 5).trans rfl
             have hcz28_6 : wr.cell? ⟨gb413, 6, none⟩ = some (.int .i64 a0_6) := (blk_cell BK413.out 6).trans rfl
             have hcz28_7 : wr.cell? ⟨gb413, 7, none⟩ = some (.bool a0_7) := (blk_cell BK413.out 7).trans rfl
             have hcz28_8 : wr.cell? ⟨gb413, 8, none⟩ = some (.slice A0_8 l0_8.length c0_8) := (blk_cell BK413.out 8).trans rfl
             have hcz28_9 : wr.cell? ⟨gb413, 9, none⟩ = some (.int .u64 a0_9) := (blk_cell BK413.out 9).trans rfl
             have hfz28_0 := blk_frozen BK413.out 0
             have hfz28_1 := blk_frozen BK413.out 1
             have hfz28_2 := blk_frozen BK413.out 2
             have hfz28_3 := blk_frozen BK413.out 3
             have hfz28_4 := blk_frozen BK413.out 4
             have hfz28_5 := blk_frozen BK413.out 5
             have hfz28_6 := blk_frozen BK413.out 6
             have hfz28_7 := blk_frozen BK413.out 7
             have hfz28_8 := blk_frozen BK413.out 8
             have hfz28_9 := blk_frozen BK413.out 9
             have hcz29_0 : wr.cell? ⟨gb414, 0, none⟩ = some (.int .u64 a1_0) := (blk_cell BK414.out 0).trans rfl
             have hcz29_1 : wr.cell? ⟨gb414, 1, none⟩ = some (.int .u64 a1_1) := (blk_cell BK414.out 1).trans rfl
             have hcz29_2 : wr.cell? ⟨gb414, 2, none⟩ = some (.int .u64 a1_2) := (blk_cell BK414.out 2).trans rfl
             have hcz29_3 : wr.cell? ⟨gb414, 3, none⟩ = some (.int .u64 a1_3) := (blk_cell BK414.out 3).trans rfl
             have hcz29_4 : wr.cell? ⟨gb414, 4, none⟩ = some (.string a1_4) := (blk_cell BK414.out 4).trans rfl
             have hcz29_5 : wr.cell? ⟨gb414, 5, none⟩ = some (.int .i64 a1_5) := (blk_cell BK414.out 5).trans rfl
             have hcz29_6 : wr.cell? ⟨gb414, 6, none⟩ = some (.int .i64 a1_6) := (blk_cell BK414.out 6).trans rfl
             have hcz29_7 : wr.cell? ⟨gb414, 7, none⟩ = some (.bool a1_7) := (blk_cell BK414.out 7).trans rfl
             have hcz29_8 : wr.cell? ⟨gb414, 8, none⟩ = some (.slice A1_8 l1_8.length c1_8) := (blk_cell BK414.out 8).trans rfl
             have hcz29_9 : wr.cell? ⟨gb414, 9, none⟩ = some (.int .u64 a1_9) := (blk_cell BK414.out 9).trans rfl
             have hfz29_0 := blk_frozen BK414.out 0
             have hfz29_1 := blk_frozen BK414.out 1
             have hfz29_2 := blk_frozen BK414.out 2
             have hfz29_3 := blk_frozen BK414.out 3
             have hfz29_4 := blk_frozen BK414.out 4
             have hfz29_5 := blk_frozen BK414.out 5
             have hfz29_6 := blk_frozen BK414.out 6
             have hfz29_7 := blk_frozen BK414.out 7
             have hfz29_8 := blk_frozen BK414.out 8
             have hfz29_9 := blk_frozen BK414.out 9
             go_wp2
             go_ret
             exact ⟨by first | rfl | (simp [errW_none, errW_some] <;> rfl) | (simp [*, errW_none, errW_some] <;> rfl), by repeat (first | (with_reducible first | exact HB.out | apply below_alloc | apply pw_below_drewN | apply below_drew1 | refine below_set ?_ GE413.out | refine below_set ?_ GE414.out) | exact HB.out)⟩
            ·rw [if_neg c26] at H
             have c26b0 : (a0_7 == a1_7) = false := by simpa using c26
             (try (have c26b1 : decide (a0_7 = a1_7) = false := by simpa using c26))
             (try (have c26b2 : (a0_7 == a1_7) = false := by simpa using c26))
             (try (have c26b3 : ¬ (a0_7 = a1_7) := by simpa using c26))
             clear c26
             obtain rfl := Option.some.inj H
             have hnb30 := NB413_414.out
             have hnc30 := NB414_413.out
             have hcz31_0 : wr.cell? ⟨gb413, 0, none⟩ = some (.int .u64 a0_0) := (blk_cell BK413.out 0).trans rfl
             have hcz31_1 : wr.cell? ⟨gb413, 1, none⟩ = some (.int .u64 a0_1) := (blk_cell BK413.out 1).trans rfl
             have hcz31_2 : wr.cell? ⟨gb413, 2, none⟩ = some (.int .u64 a0_2) := (blk_cell BK413.out 2).trans rfl
             have hcz31_3 : wr.cell? ⟨gb413, 3, none⟩ = some (.int .u64 a0_3) := (blk_cell BK413.out 3).trans rfl
             have hcz31_4 : wr.cell? ⟨gb413, 4, none⟩ = some (.string a0_4) := (blk_cell BK413.out 4).trans rfl
             have hcz31_5 : wr.cell? ⟨gb413, 5, none⟩ = some (.int .i64 a0_5) := (blk_cell BK413.out 5).trans rfl
             have hcz31_6 : wr.cell? ⟨gb413, 6, none⟩ = some (.int .i64 a0_6) := (blk_cell BK413.out 6).trans rfl
             have hcz31_7 : wr.cell? ⟨gb413, 7, none⟩ = some (.bool a0_7) := (blk_cell BK413.out 7).trans rfl
             have hcz31_8 : wr.cell? ⟨gb413, 8, none⟩ = some (.slice A0_8 l0_8.length c0_8) := (blk_cell BK413.out 8).trans rfl
             have hcz31_9 : wr.cell? ⟨gb413, 9, none⟩ = some (.int .u64 a0_9) := (blk_cell BK413.out 9).trans rfl
             have hfz31_0 := blk_frozen BK413.out 0
             have hfz31_1 := blk_frozen BK413.out 1
             have hfz31_2 := blk_frozen BK413.out 2
             have hfz31_3 := blk_frozen BK413.out 3
             have hfz31_4 := blk_frozen BK413.out 4
             have hfz31_5 := blk_frozen BK413.out 5
             have hfz31_6 := blk_frozen BK413.out 6
             have hfz31_7 := blk_frozen BK413.out 7
             have hfz31_8 := blk_frozen BK413.out 8
             have hfz31_9 := blk_frozen BK413.out 9
             have hcz32_0 : wr.cell? ⟨gb414, 0, none⟩ = some (.int .u64 a1_0) := (blk_cell BK414.out 0).trans rfl
             have hcz32_1 : wr.cell? ⟨gb414, 1, none⟩ = some (.int .u64 a1_1) := (blk_cell BK414.out 1).trans rfl
             have hcz32_2 : wr.cell? ⟨gb414, 2, none⟩ = some (.int .u64 a1_2) := (blk_cell BK414.out 2).trans rfl
             have hcz32_3 : wr.cell? ⟨gb414, 3, none⟩ = some (.int .u64 a1_3) := (blk_cell BK414.out 3).trans rfl
             have hcz32_4 : wr.cell? ⟨gb414, 4, none⟩ = some (.string a1_4) := (blk_cell BK414.out 4).trans rfl
             have hcz32_5 : wr.cell? ⟨gb414, 5, none⟩ = some (.int .i64 a1_5) := (blk_cell BK414.out 5).trans rfl
             have hcz32_6 : wr.cell? ⟨gb414, 6, none⟩ = some (.int .i64 a1_6) := (blk_cell BK414.out 6).trans rfl
             have hcz32_7 : wr.cell? ⟨gb414, 7, none⟩ = some (.bool a1_7) := (blk_cell BK414.out 7).trans rfl
             have hcz32_8 : wr.cell? ⟨gb414, 8, none⟩ = some (.slice A1_8 l1_8.length c1_8) := (blk_cell BK414.out 8).trans rfl
             have hcz32_9 : wr.cell? ⟨gb414, 9, none⟩ = some (.int .u64 a1_9) := (blk_cell BK414.out 9).trans rfl
             have hfz32_0 := blk_frozen BK414.out 0
             have hfz32_1 := blk_frozen BK414.out 1
             have hfz32_2 := blk_frozen BK414.out 2
             have hfz32_3 := blk_frozen BK414.out 3
             have hfz32_4 := blk_frozen BK414.out 4
             have hfz32_5 := blk_frozen BK414.out 5
             have hfz32_6 := blk_frozen BK414.out 6
             have hfz32_7 := blk_frozen BK414.out 7
             have hfz32_8 := blk_frozen BK414.out 8
             have hfz32_9 := blk_frozen BK414.out 9
             go_wp2
             go_ret
             exact ⟨by first | rfl | (simp [errW_none, errW_some] <;> rfl) | (simp [*, errW_none, errW_some] <;> rfl), by repeat (first | (with_reducible first | exact HB.out | apply below_alloc | apply pw_below_drewN | apply below_drew1 | refine below_set ?_ GE413.out | refine below_set ?_ GE414.out) | exact HB.out)⟩
           ·rw [if_neg c25] at H
            have c25b0 : (a0_6 == a1_6) = false := beq_eq_false_iff_ne.mpr c25
            have c25b1 : (a0_6 != a1_6) = true := bne_iff_ne.mpr c25
            obtain rfl := Option.some.inj H
            have hnb33 := NB413_414.out
            have hnc33 := NB414_413.out
            have hcz34_0 : wr.cell? ⟨gb413, 0, none⟩ = some (.int .u64 a0_0) := (blk_cell BK413.out 0).trans rfl
            have hcz34_1 : wr.cell? ⟨gb413, 1, none⟩ = some (.int .u64 a0_1) := (blk_cell BK413.out 1).trans rfl
            have hcz34_2 : wr.cell? ⟨gb413, 2, none⟩ = some (.int .u64 a0_2) := (blk_cell BK413.out 2).trans rfl
            have hcz34_3 : wr.cell? ⟨gb413, 3, none⟩ = some (.int .u64 a0_3) := (blk_cell BK413.out 3).trans rfl
            have hcz34_4 : wr.cell? ⟨gb413, 4, none⟩ = some (.string a0_4) := (blk_cell BK413.out 4).trans rfl
            have hcz34_5 : wr.cell? ⟨gb413, 5, none⟩ = some (.int .i64 a0_5) := (blk_cell BK413.out 5).trans rfl
            have hcz34_6 : wr.cell? ⟨gb413, 6, none⟩ = some (.int .i64 a0_6) := (blk_cell BK413.out 6).trans rfl
            have hcz34_7 : wr.cell? ⟨gb413, 7, none⟩ = some (.bool a0_7) := (blk_cell BK413.out 7).trans rfl
            have hcz34_8 : wr.cell? ⟨gb413, 8, none⟩ = some (.slice A0_8 l0_8.length c0_8) := (blk_cell BK413.out 8).trans rfl
            have hcz34_9 : wr.cell? ⟨gb413, 9, none⟩ = some (.int .u64 a0_9) := (blk_cell BK413.out 9).trans rfl
            have hfz34_0 := blk_frozen BK413.out 0
            have hfz34_1 := blk_frozen BK413.out 1
            have hfz34_2 := blk_frozen BK413.out 2
            have hfz34_3 := blk_frozen BK413.out 3
            have hfz34_4 := blk_frozen BK413.out 4
            have hfz34_5 := blk_frozen BK413.out 5
            have hfz34_6 := blk_frozen BK413.out 6
            have hfz34_7 := blk_frozen BK413.out 7
            have hfz34_8 := blk_frozen BK413.out 8
            have hfz34_9 := blk_frozen BK413.out 9
            have hcz35_0 : wr.cell? ⟨gb414, 0, none⟩ = some (.int .u64 a1_0) := (blk_cell BK414.out 0).trans rfl
            have hcz35_1 : wr.cell? ⟨gb414, 1, none⟩ = some (.int .u64 a1_1) := (blk_cell BK414.out 1).trans rfl
            have hcz35_2 : wr.cell? ⟨gb414, 2, none⟩ = some (.int .u64 a1_2) := (blk_cell BK414.out 2).trans rfl
            have hcz35_3 : wr.cell? ⟨gb414, 3, none⟩ = some (.int .u64 a1_3) := (blk_cell BK414.out 3).trans rfl
            have hcz35_4 : wr.cell? ⟨gb414, 4, none⟩ = some (.string a1_4) := (blk_cell BK414.out 4).trans rfl
            have hcz35_5 : wr.cell? ⟨gb414, 5, none⟩ = some (.int .i64 a1_5) := (blk_cell BK414.out 5).trans rfl
            have hcz35_6 : wr.cell? ⟨gb414, 6, none⟩ = some (.int .i64 a1_6) := (blk_cell BK414.out 6).trans rfl
            have hcz35_7 : wr.cell? ⟨gb414, 7, none⟩ = some (.bool a1_7) := (blk_cell BK414.out 7).trans rfl
            have hcz35_8 : wr.cell? ⟨gb414, 8, none⟩ = some (.slice A1_8 l1_8.length c1_8) := (blk_cell BK414.out 8).trans rfl
            have hcz35_9 : wr.cell? ⟨gb414, 9, none⟩ = some (.int .u64 a1_9) := (blk_cell BK414.out 9).trans rfl
            have hfz35_0 := blk_frozen BK414.out 0
            have hfz35_1 := blk_frozen BK414.out 1
            have hfz35_2 := blk_frozen BK414.out 2
            have hfz35_3 := blk_frozen BK414.out 3
            have hfz35_4 := blk_frozen BK414.out 4
            have hfz35_5 := blk_frozen BK414.out 5
            have hfz35_6 := blk_frozen BK414.out 6
            have hfz35_7 := blk_frozen BK414.out 7
            have hfz35_8 := blk_frozen BK414.out 8
            have hfz35_9 := blk_frozen BK414.out 9
            go_wp2
            go_ret
            exact ⟨by first | rfl | (simp [errW_none, errW_some] <;> rfl) | (simp [*, errW_none, errW_some] <;> rfl), by repeat (first | (with_reducible first | exact HB.out | apply below_alloc | apply pw_below_drewN | apply below_drew1 | refine below_set ?_ GE413.out | refine below_set ?_ GE414.out) | exact HB.out)⟩
          ·rw [if_neg c24] at H
           have c24b0 : (a0_5 == a1_5) = false := beq_eq_false_iff_ne.mpr c24
           have c24b1 : (a0_5 != a1_5) = true := bne_iff_ne.mpr c24
           obtain rfl := Option.some.inj H
           have hnb36 := NB413_414.out
           have hnc36 := NB414_413.out
           have hcz37_0 : wr.cell? ⟨gb413, 0, none⟩ = some (.int .u64 a0_0) := (blk_cell BK413.out 0).trans rfl
           have hcz37_1 : wr.cell? ⟨gb413, 1, none⟩ = some (.int .u64 a0_1) := (blk_cell BK413.out 1).trans rfl
           have hcz37_2 : wr.cell? ⟨gb413, 2, none⟩ = some (.int .u64 a0_2) := (blk_cell BK413.out 2).trans rfl
           have hcz37_3 : wr.cell? ⟨gb413, 3, none⟩ = some (.int .u64 a0_3) := (blk_cell BK413.out 3).trans rfl
           have hcz37_4 : wr.cell? ⟨gb413, 4, none⟩ = some (.string a0_4) := (blk_cell BK413.out 4).trans rfl
           have hcz37_5 : wr.cell? ⟨gb413, 5, none⟩ = some (.int .i64 a0_5) := (blk_cell BK413.out 5).trans rfl
           have hcz37_6 : wr.cell? ⟨gb413, 6, none⟩ = some (.int .i64 a0_6) := (blk_cell BK413.out 6).trans rfl
           have hcz37_7 : wr.cell? ⟨gb413, 7, none⟩ = some (.bool a0_7) := (blk_cell BK413.out 7).trans rfl
           have hcz37_8 : wr.cell? ⟨gb413, 8, none⟩ = some (.slice A0_8 l0_8.length c0_8) := (blk_cell BK413.out 8).trans rfl
           have hcz37_9 : wr.cell? ⟨gb413, 9, none⟩ = some (.int .u64 a0_9) := (blk_cell BK413.out 9).trans rfl
           have hfz37_0 := blk_frozen BK413.out 0
           have hfz37_1 := blk_frozen BK413.out 1
           have hfz37_2 := blk_frozen BK413.out 2
           have hfz37_3 := blk_frozen BK413.out 3
           have hfz37_4 := blk_frozen BK413.out 4
           have hfz37_5 := blk_frozen BK413.out 5
           have hfz37_6 := blk_frozen BK413.out 6
           have hfz37_7 := blk_frozen BK413.out 7
           have hfz37_8 := blk_frozen BK413.out 8
           have hfz37_9 := blk_frozen BK413.out 9
           have hcz38_0 : wr.cell? ⟨gb414, 0, none⟩ = some (.int .u64 a1_0) := (blk_cell BK414.out 0).trans rfl
           have hcz38_1 : wr.cell? ⟨gb414, 1, none⟩ = some (.int .u64 a1_1) := (blk_cell BK414.out 1).trans rfl
           have hcz38_2 : wr.cell? ⟨gb414, 2, none⟩ = some (.int .u64 a1_2) := (blk_cell BK414.out 2).trans rfl
           have hcz38_3 : wr.cell? ⟨gb414, 3, none⟩ = some (.int .u64 a1_3) := (blk_cell BK414.out 3).trans rfl
           have hcz38_4 : wr.cell? ⟨gb414, 4, none⟩ = some (.string a1_4) := (blk_cell BK414.out 4).trans rfl
           have hcz38_5 : wr.cell? ⟨gb414, 5, none⟩ = some (.int .i64 a1_5) := (blk_cell BK414.out 5).trans rfl
           have hcz38_6 : wr.cell? ⟨gb414, 6, none⟩ = some (.int .i64 a1_6) := (blk_cell BK414.out 6).trans rfl
           have hcz38_7 : wr.cell? ⟨gb414, 7, none⟩ = some (.bool a1_7) := (blk_cell BK414.out 7).trans rfl
           have hcz38_8 : wr.cell? ⟨gb414, 8, none⟩ = some (.slice A1_8 l1_8.length c1_8) := (blk_cell BK414.out 8).trans rfl
           have hcz38_9 : wr.cell? ⟨gb414, 9, none⟩ = some (.int .u64 a1_9) := (blk_cell BK414.out 9).trans rfl
           have hfz38_0 := blk_frozen BK414.out 0
           have hfz38_1 := blk_frozen BK414.out 1
           have hfz38_2 := blk_frozen BK414.out 2
           have hfz38_3 := blk_frozen BK414.out 3
           have hfz38_4 := blk_frozen BK414.out 4
           have hfz38_5 := blk_frozen BK414.out 5
           have hfz38_6 := blk_frozen BK414.out 6
           have hfz38_7 := blk_frozen BK414.out 7
           have hfz38_8 := blk_frozen BK414.out 8
           have hfz38_9 := blk_frozen BK414.out 9
           go_wp2
           go_ret
           exact ⟨by first | rfl | (simp [errW_none, errW_some] <;> rfl) | (simp [*, errW_none, errW_some] <;> rfl), by repeat (first | (with_reducible first | exact HB.out | apply below_alloc | apply pw_below_drewN | apply below_drew1 | refine below_set ?_ GE413.out | refine below_set ?_ GE414.out) | exact HB.out)⟩
         ·rw [if_neg c23] at H
          have c23b0 : (a0_4.toList == a1_4.toList) = false := beq_eq_false_iff_ne.mpr c23
          have c23b1 : (a0_4.toList != a1_4.toList) = true := bne_iff_ne.mpr c23
          obtain rfl := Option.some.inj H
          have hnb39 := NB413_414.out
          have hnc39 := NB414_413.out
          have hcz40_0 : wr.cell? ⟨gb413, 0, none⟩ = some (.int .u64 a0_0) := (blk_cell BK413.out 0).trans rfl
          have hcz40_1 : wr.cell? ⟨gb413, 1, none⟩ = some (.int .u64 a0_1) := (blk_cell BK413.out 1).trans rfl
          have hcz40_2 : wr.cell? ⟨gb413, 2, none⟩ = some (.int .u64 a0_2) := (blk_cell BK413.out 2).trans rfl
          have hcz40_3 : wr.cell? ⟨gb413, 3, none⟩ = some (.int .u64 a0_3) := (blk_cell BK413.out 3).trans rfl
          have hcz40_4 : wr.cell? ⟨gb413, 4, none⟩ = some (.string a0_4) := (blk_cell BK413.out 4).trans rfl
          have hcz40_5 : wr.cell? ⟨gb413, 5, none⟩ = some (.int .i64 a0_5) := (blk_cell BK413.out 5).trans rfl
          have hcz40_6 : wr.cell? ⟨gb413, 6, none⟩ = some (.int .i64 a0_6) := (blk_cell BK413.out 6).trans rfl
          have hcz40_7 : wr.cell? ⟨gb413, 7, none⟩ = some (.bool a0_7) := (blk_cell BK413.out 7).trans rfl
          have hcz40_8 : wr.cell? ⟨gb413, 8, none⟩ = some (.slice A0_8 l0_8.length c0_8) := (blk_cell BK413.out 8).trans rfl
          have hcz40_9 : wr.cell? ⟨gb413, 9, none⟩ = some (.int .u64 a0_9) := (blk_cell BK413.out 9).trans rfl
          have hfz40_0 := blk_frozen BK413.out 0
          have hfz40_1 := blk_frozen BK413.out 1
          have hfz40_2 := blk_frozen BK413.out 2
          have hfz40_3 := blk_frozen BK413.out 3
          have hfz40_4 := blk_frozen BK413.out 4
          have hfz40_5 := blk_frozen BK413.out 5
          have hfz40_6 := blk_frozen BK413.out 6
          have hfz40_7 := blk_frozen BK413.out 7
          have hfz40_8 := blk_frozen BK413.out 8
          have hfz40_9 := blk_frozen BK413.out 9
          have hcz41_0 : wr.cell? ⟨gb414, 0, none⟩ = some (.int .u64 a1_0) := (blk_cell BK414.out 0).trans rfl
          have hcz41_1 : wr.cell? ⟨gb414, 1, none⟩ = some (.int .u64 a1_1) := (blk_cell BK414.out 1).trans rfl
          have hcz41_2 : wr.cell? ⟨gb414, 2, none⟩ = some (.int .u64 a1_2) := (blk_cell BK414.out 2).trans rfl
          have hcz41_3 : wr.cell? ⟨gb414, 3, none⟩ = some (.int .u64 a1_3) := (blk_cell BK414.out 3).trans rfl
          have hcz41_4 : wr.cell? ⟨gb414, 4, none⟩ = some (.string a1_4) := (blk_cell BK414.out 4).trans rfl
          have hcz41_5 : wr.cell? ⟨gb414, 5, none⟩ = some (.int .i64 a1_5) := (blk_cell BK414.out 5).trans rfl
          have hcz41_6 : wr.cell? ⟨gb414, 6, none⟩ = some (.int .i64 a1_6) := (blk_cell BK414.out 6).trans rfl
          have hcz41_7 : wr.cell? ⟨gb414, 7, none⟩ = some (.bool a1_7) := (blk_cell BK414.out 7).trans rfl
          have hcz41_8 : wr.cell? ⟨gb414, 8, none⟩ = some (.slice A1_8 l1_8.length c1_8) := (blk_cell BK414.out 8).trans rfl
          have hcz41_9 : wr.cell? ⟨gb414, 9, none⟩ = some (.int .u64 a1_9) := (blk_cell BK414.out 9).trans rfl
          have hfz41_0 := blk_frozen BK414.out 0
          have hfz41_1 := blk_frozen BK414.out 1
          have hfz41_2 := blk_frozen BK414.out 2
          have hfz41_3 := blk_frozen BK414.out 3
          have hfz41_4 := blk_frozen BK414.out 4
          have hfz41_5 := blk_frozen BK414.out 5
          have hfz41_6 := blk_frozen BK414.out 6
          have hfz41_7 := blk_frozen BK414.out 7
          have hfz41_8 := blk_frozen BK414.out 8
          have hfz41_9 := blk_frozen BK414.out 9
          go_wp2
          go_ret
          exact ⟨by first | rfl | (simp [errW_none, errW_some] <;> rfl) | (simp [*, errW_none, errW_some] <;> rfl), by repeat (first | (with_reducible first | exact HB.out | apply below_alloc | apply pw_below_drewN | apply below_drew1 | refine below_set ?_ GE413.out | refine below_set ?_ GE414.out) | exact HB.out)⟩
        ·rw [if_neg c22] at H
         have c22b0 : (a0_3 == a1_3) = false := beq_eq_false_iff_ne.mpr c22
         have c22b1 : (a0_3 != a1_3) = true := bne_iff_ne.mpr c22
         obtain rfl := Option.some.inj H
         have hnb42 := NB413_414.out
         have hnc42 := NB414_413.out
         have hcz43_0 : wr.cell? ⟨gb413, 0, none⟩ = some (.int .u64 a0_0) := (blk_cell BK413.out 0).trans rfl
         have hcz43_1 : wr.cell? ⟨gb413, 1, none⟩ = some (.int .u64 a0_1) := (blk_cell BK413.out 1).trans rfl
         have hcz43_2 : wr.cell? ⟨gb413, 2, none⟩ = some (.int .u64 a0_2) := (blk_cell BK413.out 2).trans rfl
         have hcz43_3 : wr.cell? ⟨gb413, 3, none⟩ = some (.int .u64 a0_3) := (blk_cell BK413.out 3).trans rfl
         have hcz43_4 : wr.cell? ⟨gb413, 4, none⟩ = some (.string a0_4) := (blk_cell BK413.out 4).trans rfl
         have hcz43_5 : wr.cell? ⟨gb413, 5, none⟩ = some (.int .i64 a0_5) := (blk_cell BK413.out 5).trans rfl
         have hcz43_6 : wr.cell? ⟨gb413, 6, none⟩ = some (.int .i64 a0_6) := (blk_cell BK413.out 6).trans rfl
         have hcz43_7 : wr.cell? ⟨gb413, 7, none⟩ = some (.bool a0_7) := (blk_cell BK413.out 7).trans rfl
         have hcz43_8 : wr.cell? ⟨gb413, 8, none⟩ = some (.slice A0_8 l0_8.length c0_8) := (blk_cell BK413.out 8).trans rfl
         have hcz43_9 : wr.cell? ⟨gb413, 9, none⟩ = some (.int .u64 a0_9) := (blk_cell BK413.out 9).trans rfl
         have hfz43_0 := blk_frozen BK413.out 0
         have hfz43_1 := blk_frozen BK413.out 1
         have hfz43_2 := blk_frozen BK413.out 2
         have hfz43_3 := blk_frozen BK413.out 3
         have hfz43_4 := blk_frozen BK413.out 4
         have hfz43_5 := blk_frozen BK413.out 5
         have hfz43_6 := blk_frozen BK413.out 6
         have hfz43_7 := blk_frozen BK413.out 7
         have hfz43_8 := blk_frozen BK413.out 8
         have hfz43_9 := blk_frozen BK413.out 9
         have hcz44_0 : wr.cell? ⟨gb414, 0, none⟩ = some (.int .u64 a1_0) := (blk_cell BK414.out 0).trans rfl
         have hcz44_1 : wr.cell? ⟨gb414, 1, none⟩ = some (.int .u64 a1_1) := (blk_cell BK414.out 1).trans rfl
         have hcz44_2 : wr.cell? ⟨gb414, 2, none⟩ = some (.int .u64 a1_2) := (blk_cell BK414.out 2).trans rfl
         have hcz44_3 : wr.cell? ⟨gb414, 3, none⟩ = some (.int .u64 a1_3) := (blk_cell BK414.out 3).trans rfl
         have hcz44_4 : wr.cell? ⟨gb414, 4, none⟩ = some (.string a1_4) := (blk_cell BK414.out 4).trans rfl
         have hcz44_5 : wr.cell? ⟨gb414, 5, none⟩ = some (.int .i64 a1_5) := (blk_cell BK414.out 5).trans rfl
         have hcz44_6 : wr.cell? ⟨gb414, 6, none⟩ = some (.int .i64 a1_6) := (blk_cell BK414.out 6).trans rfl
         have hcz44_7 : wr.cell? ⟨gb414, 7, none⟩ = some (.bool a1_7) := (blk_cell BK414.out 7).trans rfl
         have hcz44_8 : wr.cell? ⟨gb414, 8, none⟩ = some (.slice A1_8 l1_8.length c1_8) := (blk_cell BK414.out 8).trans rfl
         have hcz44_9 : wr.cell? ⟨gb414, 9, none⟩ = some (.int .u64 a1_9) := (blk_cell BK414.out 9).trans rfl
         have hfz44_0 := blk_frozen BK414.out 0
         have hfz44_1 := blk_frozen BK414.out 1
         have hfz44_2 := blk_frozen BK414.out 2
         have hfz44_3 := blk_frozen BK414.out 3
         have hfz44_4 := blk_frozen BK414.out 4
         have hfz44_5 := blk_frozen BK414.out 5
         have hfz44_6 := blk_frozen BK414.out 6
         have hfz44_7 := blk_frozen BK414.out 7
         have hfz44_8 := blk_frozen BK414.out 8
         have hfz44_9 := blk_frozen BK414.out 9
         go_wp2
         go_ret
         exact ⟨by first | rfl | (simp [errW_none, errW_some] <;> rfl) | (simp [*, errW_none, errW_some] <;> rfl), by repeat (first | (with_reducible first | exact HB.out | apply below_alloc | apply pw_below_drewN | apply below_drew1 | refine below_set ?_ GE413.out | refine below_set ?_ GE414.out) | exact HB.out)⟩
       ·rw [if_neg c21] at H
        have c21b0 : (a0_2 == a1_2) = false := beq_eq_false_iff_ne.mpr c21
        have c21b1 : (a0_2 != a1_2) = true := bne_iff_ne.mpr c21
        obtain rfl := Option.some.inj H
        have hnb45 := NB413_414.out
        have hnc45 := NB414_413.out
        have hcz46_0 : wr.cell? ⟨gb413, 0, none⟩ = some (.int .u64 a0_0) := (blk_cell BK413.out 0).trans rfl
        have hcz46_1 : wr.cell? ⟨gb413, 1, none⟩ = some (.int .u64 a0_1) := (blk_cell BK413.out 1).trans rfl
        have hcz46_2 : wr.cell? ⟨gb413, 2, none⟩ = some (.int .u64 a0_2) := (blk_cell BK413.out 2).trans rfl
        have hcz46_3 : wr.cell? ⟨gb413, 3, none⟩ = some (.int .u64 a0_3) := (blk_cell BK413.out 3).trans rfl
        have hcz46_4 : wr.cell? ⟨gb413, 4, none⟩ = some (.string a0_4) := (blk_cell BK413.out 4).trans rfl
        have hcz46_5 : wr.cell? ⟨gb413, 5, none⟩ = some (.int .i64 a0_5) := (blk_cell BK413.out 5).trans rfl
        have hcz46_6 : wr.cell? ⟨gb413, 6, none⟩ = some (.int .i64 a0_6) := (blk_cell BK413.out 6).trans rfl
        have hcz46_7 : wr.cell? ⟨gb413, 7, none⟩ = some (.bool a0_7) := (blk_cell BK413.out 7).trans rfl
        have hcz46_8 : wr.cell? ⟨gb413, 8, none⟩ = some (.slice A0_8 l0_8.length c0_8) := (blk_cell BK413.out 8).trans rfl
        have hcz46_9 : wr.cell? ⟨gb413, 9, none⟩ = some (.int .u64 a0_9) := (blk_cell BK413.out 9).trans rfl
        have hfz46_0 := blk_frozen BK413.out 0
        have hfz46_1 := blk_frozen BK413.out 1
        have hfz46_2 := blk_frozen BK413.out 2
        have hfz46_3 := blk_frozen BK413.out 3
        have hfz46_4 := blk_frozen BK413.out 4
        have hfz46_5 := blk_frozen BK413.out 5
        have hfz46_6 := blk_frozen BK413.out 6
        have hfz46_7 := blk_frozen BK413.out 7
        have hfz46_8 := blk_frozen BK413.out 8
        have hfz46_9 := blk_frozen BK413.out 9
        have hcz47_0 : wr.cell? ⟨gb414, 0, none⟩ = some (.int .u64 a1_0) := (blk_cell BK414.out 0).trans rfl
        have hcz47_1 : wr.cell? ⟨gb414, 1, none⟩ = some (.int .u64 a1_1) := (blk_cell BK414.out 1).trans rfl
        have hcz47_2 : wr.cell? ⟨gb414, 2, none⟩ = some (.int .u64 a1_2) := (blk_cell BK414.out 2).trans rfl
        have hcz47_3 : wr.cell? ⟨gb414, 3, none⟩ = some (.int .u64 a1_3) := (blk_cell BK414.out 3).trans rfl
        have hcz47_4 : wr.cell? ⟨gb414, 4, none⟩ = some (.string a1_4) := (blk_cell BK414.out 4).trans rfl
        have hcz47_5 : wr.cell? ⟨gb414, 5, none⟩ = some (.int .i64 a1_5) := (blk_cell BK414.out 5).trans rfl
        have hcz47_6 : wr.cell? ⟨gb414, 6, none⟩ = some (.int .i64 a1_6) := (blk_cell BK414.out 6).trans rfl
        have hcz47_7 : wr.cell? ⟨gb414, 7, none⟩ = some (.bool a1_7) := (blk_cell BK414.out 7).trans rfl
        have hcz47_8 : wr.cell? ⟨gb414, 8, none⟩ = some (.slice A1_8 l1_8.length c1_8) := (blk_cell BK414.out 8).trans rfl
        have hcz47_9 : wr.cell? ⟨gb414, 9, none⟩ = some (.int .u64 a1_9) := (blk_cell BK414.out 9).trans rfl
        have hfz47_0 := blk_frozen BK414.out 0
        have hfz47_1 := blk_frozen BK414.out 1
        have hfz47_2 := blk_frozen BK414.out 2
        have hfz47_3 := blk_frozen BK414.out 3
        have hfz47_4 := blk_frozen BK414.out 4
        have hfz47_5 := blk_frozen BK414.out 5
        have hfz47_6 := blk_frozen BK414.out 6
        have hfz47_7 := blk_frozen BK414.out 7
        have hfz47_8 := blk_frozen BK414.out 8
        have hfz47_9 := blk_frozen BK414.out 9
        go_wp2
        go_ret
        exact ⟨by first | rfl | (simp [errW_none, errW_some] <;> rfl) | (simp [*, errW_none, errW_some] <;> rfl), by repeat (first | (with_reducible first | exact HB.out | apply below_alloc | apply pw_below_drewN | apply below_drew1 | refine below_set ?_ GE413.out | refine below_set ?_ GE414.out) | exact HB.out)⟩
      ·rw [if_neg c20] at H
       have c20b0 : (a0_1 == a1_1) = false := beq_eq_false_iff_ne.mpr c20
       have c20b1 : (a0_1 != a1_1) = true := bne_iff_ne.mpr c20
       obtain rfl := Option.some.inj H
       have hnb48 := NB413_414.out
       have hnc48 := NB414_413.out
       have hcz49_0 : wr.cell? ⟨gb413, 0, none⟩ = some (.int .u64 a0_0) := (blk_cell BK413.out 0).trans rfl
       have hcz49_1 : wr.cell? ⟨gb413, 1, none⟩ = some (.int .u64 a0_1) := (blk_cell BK413.out 1).trans rfl
       have hcz49_2 : wr.cell? ⟨gb413, 2, none⟩ = some (.int .u64 a0_2) := (blk_cell BK413.out 2).trans rfl
       have hcz49_3 : wr.cell? ⟨gb413, 3, none⟩ = some (.int .u64 a0_3) := (blk_cell BK413.out 3).trans rfl
       have hcz49_4 : wr.cell? ⟨gb413, 4, none⟩ = some (.string a0_4) := (blk_cell BK413.out 4).trans rfl
       have hcz49_5 : wr.cell? ⟨gb413, 5, none⟩ = some (.int .i64 a0_5) := (blk_cell BK413.out 5).trans rfl
       have hcz49_6 : wr.cell? ⟨gb413, 6, none⟩ = some (.int .i64 a0_6) := (blk_cell BK413.out 6).trans rfl
       have hcz49_7 : wr.cell? ⟨gb413, 7, none⟩ = some (.bool a0_7) := (blk_cell BK413.out 7).trans rfl
       have hcz49_8 : wr.cell? ⟨gb413, 8, none⟩ = some (.slice A0_8 l0_8.length c0_8) := (blk_cell BK413.out 8).trans rfl
       have hcz49_9 : wr.cell? ⟨gb413, 9, none⟩ = some (.int .u64 a0_9) := (blk_cell BK413.out 9).trans rfl
       have hfz49_0 := blk_frozen BK413.out 0
       have hfz49_1 := blk_frozen BK413.out 1
       have hfz49_2 := blk_frozen BK413.out 2
       have hfz49_3 := blk_frozen BK413.out 3
       have hfz49_4 := blk_frozen BK413.out 4
       have hfz49_5 := blk_frozen BK413.out 5
       have hfz49_6 := blk_frozen BK413.out 6
       have hfz49_7 := blk_frozen BK413.out 7
       have hfz49_8 := blk_frozen BK413.out 8
       have hfz49_9 := blk_frozen BK413.out 9
       have hcz50_0 : wr.cell? ⟨gb414, 0, none⟩ = some (.int .u64 a1_0) := (blk_cell BK414.out 0).trans rfl
       have hcz50_1 : wr.cell? ⟨gb414, 1, none⟩ = some (.int .u64 a1_1) := (blk_cell BK414.out 1).trans rfl
       have hcz50_2 : wr.cell? ⟨gb414, 2, none⟩ = some (.int .u64 a1_2) := (blk_cell BK414.out 2).trans rfl
       have hcz50_3 : wr.cell? ⟨gb414, 3, none⟩ = some (.int .u64 a1_3) := (blk_cell BK414.out 3).trans rfl
       have hcz50_4 : wr.cell? ⟨gb414, 4, none⟩ = some (.string a1_4) := (blk_cell BK414.out 4).trans rfl
       have hcz50_5 : wr.cell? ⟨gb414, 5, none⟩ = some (.int .i64 a1_5) := (blk_cell BK414.out 5).trans rfl
       have hcz50_6 : wr.cell? ⟨gb414, 6, none⟩ = some (.int .i64 a1_6) := (blk_cell BK414.out 6).trans rfl
       have hcz50_7 : wr.cell? ⟨gb414, 7, none⟩ = some (.bool a1_7) := (blk_cell BK414.out 7).trans rfl
       have hcz50_8 : wr.cell? ⟨gb414, 8, none⟩ = some (.slice A1_8 l1_8.length c1_8) := (blk_cell BK414.out 8).trans rfl
       have hcz50_9 : wr.cell? ⟨gb414, 9, none⟩ = some (.int .u64 a1_9) := (blk_cell BK414.out 9).trans rfl
       have hfz50_0 := blk_frozen BK414.out 0
       have hfz50_1 := blk_frozen BK414.out 1
       have hfz50_2 := blk_frozen BK414.out 2
       have hfz50_3 := blk_frozen BK414.out 3
       have hfz50_4 := blk_frozen BK414.out 4
       have hfz50_5 := blk_frozen BK414.out 5
       have hfz50_6 := blk_frozen BK414.out 6
       have hfz50_7 := blk_frozen BK414.out 7
       have hfz50_8 := blk_frozen BK414.out 8
       have hfz50_9 := blk_frozen BK414.out 9
       go_wp2
       go_ret
       exact ⟨by first | rfl | (simp [errW_none, errW_some] <;> rfl) | (simp [*, errW_none, errW_some] <;> rfl), by repeat (first | (with_reducible first | exact HB.out | apply below_alloc | apply pw_below_drewN | apply below_drew1 | refine below_set ?_ GE413.out | refine below_set ?_ GE414.out) | exact HB.out)⟩
     ·rw [if_neg c19] at H
      have c19b0 : (a0_0 == a1_0) = false := beq_eq_false_iff_ne.mpr c19
      have c19b1 : (a0_0 != a1_0) = true := bne_iff_ne.mpr c19
      obtain rfl := Option.some.inj H
      have hnb51 := NB413_414.out
      have hnc51 := NB414_413.out
      have hcz52_0 : wr.cell? ⟨gb413, 0, none⟩ = some (.int .u64 a0_0) := (blk_cell BK413.out 0).trans rfl
      have hcz52_1 : wr.cell? ⟨gb413, 1, none⟩ = some (.int .u64 a0_1) := (blk_cell BK413.out 1).trans rfl
      have hcz52_2 : wr.cell? ⟨gb413, 2, none⟩ = some (.int .u64 a0_2) := (blk_cell BK413.out 2).trans rfl
      have hcz52_3 : wr.cell? ⟨gb413, 3, none⟩ = some (.int .u64 a0_3) := (blk_cell BK413.out 3).trans rfl
      have hcz52_4 : wr.cell? ⟨gb413, 4, none⟩ = some (.string a0_4) := (blk_cell BK413.out 4).trans rfl
      have hcz52_5 : wr.cell? ⟨gb413, 5, none⟩ = some (.int .i64 a0_5) := (blk_cell BK413.out 5).trans rfl
      have hcz52_6 : wr.cell? ⟨gb413, 6, none⟩ = some (.int .i64 a0_6) := (blk_cell BK413.out 6).trans rfl
      have hcz52_7 : wr.cell? ⟨gb413, 7, none⟩ = some (.bool a0_7) := (blk_cell BK413.out 7).trans rfl
      have hcz52_8 : wr.cell? ⟨gb413, 8, none⟩ = some (.slice A0_8 l0_8.length c0_8) := (blk_cell BK413.out 8).trans rfl
      have hcz52_9 : wr.cell? ⟨gb413, 9, none⟩ = some (.int .u64 a0_9) := (blk_cell BK413.out 9).trans rfl
      have hfz52_0 := blk_frozen BK413.out 0
      have hfz52_1 := blk_frozen BK413.out 1
      have hfz52_2 := blk_frozen BK413.out 2
      have hfz52_3 := blk_frozen BK413.out 3
      have hfz52_4 := blk_frozen BK413.out 4
      have hfz52_5 := blk_frozen BK413.out 5
      have hfz52_6 := blk_frozen BK413.out 6
      have hfz52_7 := blk_frozen BK413.out 7
      have hfz52_8 := blk_frozen BK413.out 8
      have hfz52_9 := blk_frozen BK413.out 9
      have hcz53_0 : wr.cell? ⟨gb414, 0, none⟩ = some (.int .u64 a1_0) := (blk_cell BK414.out 0).trans rfl
      have hcz53_1 : wr.cell? ⟨gb414, 1, none⟩ = some (.int .u64 a1_1) := (blk_cell BK414.out 1).trans rfl
      have hcz53_2 : wr.cell? ⟨gb414, 2, none⟩ = some (.int .u64 a1_2) := (blk_cell BK414.out 2).trans rfl
      have hcz53_3 : wr.cell? ⟨gb414, 3, none⟩ = some (.int .u64 a1_3) := (blk_cell BK414.out 3).trans rfl
      have hcz53_4 : wr.cell? ⟨gb414, 4, none⟩ = some (.string a1_4) := (blk_cell BK414.out 4).trans rfl
      have hcz53_5 : wr.cell? ⟨gb414, 5, none⟩ = some (.int .i64 a1_5) := (blk_cell BK414.out 5).trans rfl
      have hcz53_6 : wr.cell? ⟨gb414, 6, none⟩ = some (.int .i64 a1_6) := (blk_cell BK414.out 6).trans rfl
      have hcz53_7 : wr.cell? ⟨gb414, 7, none⟩ = some (.bool a1_7) := (blk_cell BK414.out 7).trans rfl
      have hcz53_8 : wr.cell? ⟨gb414, 8, none⟩ = some (.slice A1_8 l1_8.length c1_8) := (blk_cell BK414.out 8).trans rfl
      have hcz53_9 : wr.cell? ⟨gb414, 9, none⟩ = some (.int .u64 a1_9) := (blk_cell BK414.out 9).trans rfl
      have hfz53_0 := blk_frozen BK414.out 0
      have hfz53_1 := blk_frozen BK414.out 1
      have hfz53_2 := blk_frozen BK414.out 2
      have hfz53_3 := blk_frozen BK414.out 3
      have hfz53_4 := blk_frozen BK414.out 4
      have hfz53_5 := blk_frozen BK414.out 5
      have hfz53_6 := blk_frozen BK414.out 6
      have hfz53_7 := blk_frozen BK414.out 7
      have hfz53_8 := blk_frozen BK414.out 8
      have hfz53_9 := blk_frozen BK414.out 9
      go_wp2
      go_ret
      exact ⟨by first | rfl | (simp [errW_none, errW_some] <;> rfl) | (simp [*, errW_none, errW_some] <;> rfl), by repeat (first | (with_reducible first | exact HB.out | apply below_alloc | apply pw_below_drewN | apply below_drew1 | refine below_set ?_ GE413.out | refine below_set ?_ GE414.out) | exact HB.out)⟩
 ·rw [if_neg c3] at H
  have c3b0 : ((l0_8.length : Int) == (l1_8.length : Int)) = false := beq_eq_false_iff_ne.mpr c3
  have c3b1 : ((l0_8.length : Int) != (l1_8.length : Int)) = true := bne_iff_ne.mpr c3
  have c3b2 : (l0_8.length == l1_8.length) = false := by first | simpa using c3 | (simp at c3 ⊢; omega)
  obtain rfl := Option.some.inj H
  go_enter Try.func42, Try.ntmps42
  go_wp2_with (first | ((with_reducible refine gate_dst (N := 2) rfl ?_); refine box_event ?hg (N := 2) ?hd (cs := #[.int .u64 a0_0, .int .u64 a0_1, .int .u64 a0_2, .int .u64 a0_3, .string a0_4, .int .i64 a0_5, .int .i64 a0_6, .bool a0_7, .slice A0_8 l0_8.length c0_8, .int .u64 a0_9]) (t := 26) ?hr ?_; (case hd => rfl); (case hg => rfl); (case hr => first | (go_simp; done) | (go_simp; rfl)); intro gb413 hg w54 hbox hb; have n0_ := Aside0.mk (below_step (by repeat (first | (with_reducible first | exact HB.out | apply below_alloc | apply pw_below_drewN | apply below_drew1) | exact HB.out)) hb); have n1_ := Aside0.mk (hbox); have n2_ := Aside0.mk ((by rw [hg]; exact (below_size (by repeat (first | (with_reducible first | exact HB.out | apply below_alloc | apply pw_below_drewN | apply below_drew1) | exact HB.out))) : w.heap.size ≤ gb413)); have n3_ := Aside0.mk ((by rw [hg]; exact (below_size (by repeat (first | (with_reducible first | exact HB.out | apply below_alloc | apply pw_below_drewN | apply below_drew1) | exact HB.out))) : w.heap.size ≤ gb413)); clear HB; have HB := n0_; have BK413 := n1_; have GW413 := n2_; have GE413 := n3_; clear n0_ n1_ n2_ n3_; clear hb hbox hg) | ((with_reducible refine gate_dst (N := 3) rfl ?_); refine box_event ?hg (N := 3) ?hd (cs := #[.int .u64 a1_0, .int .u64 a1_1, .int .u64 a1_2, .int .u64 a1_3, .string a1_4, .int .i64 a1_5, .int .i64 a1_6, .bool a1_7, .slice A1_8 l1_8.length c1_8, .int .u64 a1_9]) (t := 26) ?hr ?_; (case hd => rfl); (case hg => rfl); (case hr => first | (go_simp; done) | (go_simp; rfl)); intro gb414 hg w55 hbox hb; have n0_ := Aside0.mk (blk_below (g := gb413) (o := .cells #[.int .u64 a0_0, .int .u64 a0_1, .int .u64 a0_2, .int .u64 a0_3, .string a0_4, .int .i64 a0_5, .int .i64 a0_6, .bool a0_7, .slice A0_8 l0_8.length c0_8, .int .u64 a0_9] 26 (0, 0)) (by (with_reducible repeat (first | refine blk_drewN ?_ _ | refine blk_drew ?_ | refine blk_alloc ?_ _)); exact BK413.out) hb); have n1_ := Aside0.mk (below_step (by repeat (first | (with_reducible first | exact HB.out | apply below_alloc | apply pw_below_drewN | apply below_drew1 | refine below_set ?_ GE413.out) | exact HB.out)) hb); have n2_ := Aside0.mk (hbox); have n3_ := Aside0.mk ((by rw [hg]; exact (below_size (by repeat (first | (with_reducible first | exact HB.out | apply below_alloc | apply pw_below_drewN | apply below_drew1 | refine below_set ?_ GE413.out) | exact HB.out))) : w.heap.size ≤ gb414)); have n4_ := Aside0.mk ((by rw [hg]; exact (below_size (by repeat (first | (with_reducible first | exact HB.out | apply below_alloc | apply pw_below_drewN | apply below_drew1 | refine below_set ?_ GE413.out) | exact HB.out))) : w.heap.size ≤ gb414)); have n5_ := Aside0.mk ((by rw [hg]; exact Nat.ne_of_lt (blk_lt (g := gb413) (o := .cells #[.int .u64 a0_0, .int .u64 a0_1, .int .u64 a0_2, .int .u64 a0_3, .string a0_4, .int .i64 a0_5, .int .i64 a0_6, .bool a0_7, .slice A0_8 l0_8.length c0_8, .int .u64 a0_9] 26 (0, 0)) (by (with_reducible repeat (first | refine blk_drewN ?_ _ | refine blk_drew ?_ | refine blk_alloc ?_ _)); exact BK413.out)) : gb413 ≠ gb414)); have n6_ := Aside0.mk ((by rw [hg]; exact Nat.ne_of_gt (blk_lt (g := gb413) (o := .cells #[.int .u64 a0_0, .int .u64 a0_1, .int .u64 a0_2, .int .u64 a0_3, .string a0_4, .int .i64 a0_5, .int .i64 a0_6, .bool a0_7, .slice A0_8 l0_8.length c0_8, .int .u64 a0_9] 26 (0, 0)) (by (with_reducible repeat (first | refine blk_drewN ?_ _ | refine blk_drew ?_ | refine blk_alloc ?_ _)); exact BK413.out)) : gb414 ≠ gb413)); clear BK413; clear HB; have BK413 := n0_; have HB := n1_; have BK414 := n2_; have GW414 := n3_; have GE414 := n4_; have NB413_414 := n5_; have NB414_413 := n6_; clear n0_ n1_ n2_ n3_ n4_ n5_ n6_; clear hb hbox hg; have hnb56 := NB413_414.out; have hnc56 := NB414_413.out; have hcz57_0 : w55.cell? ⟨gb413, 0, none⟩ = some (.int .u64 a0_0) := (blk_cell BK413.out 0).trans rfl; have hcz57_1 : w55.cell? ⟨gb413, 1, none⟩ = some (.int .u64 a0_1) := (blk_cell BK413.out 1).trans rfl; have hcz57_2 : w55.cell? ⟨gb413, 2, none⟩ = some (.int .u64 a0_2) := (blk_cell BK413.out 2).trans rfl; have hcz57_3 : w55.cell? ⟨gb413, 3, none⟩ = some (.int .u64 a0_3) := (blk_cell BK413.out 3).trans rfl; have hcz57_4 : w55.cell? ⟨gb413, 4, none⟩ = some (.string a0_4) := (blk_cell BK413.out 4).trans rfl; have hcz57_5 : w55.cell? ⟨gb413, 5, none⟩ = some (.int .i64 a0_5) := (blk_cell BK413.out 5).trans rfl; have hcz57_6 : w55.cell? ⟨gb413, 6, none⟩ = some (.int .i64 a0_6) := (blk_cell BK413.out 6).trans rfl; have hcz57_7 : w55.cell? ⟨gb413, 7, none⟩ = some (.bool a0_7) := (blk_cell BK413.out 7).trans rfl; have hcz57_8 : w55.cell? ⟨gb413, 8, none⟩ = some (.slice A0_8 l0_8.length c0_8) := (blk_cell BK413.out 8).trans rfl; have hcz57_9 : w55.cell? ⟨gb413, 9, none⟩ = some (.int .u64 a0_9) := (blk_cell BK413.out 9).trans rfl; have hfz57_0 := blk_frozen BK413.out 0; have hfz57_1 := blk_frozen BK413.out 1; have hfz57_2 := blk_frozen BK413.out 2; have hfz57_3 := blk_frozen BK413.out 3; have hfz57_4 := blk_frozen BK413.out 4; have hfz57_5 := blk_frozen BK413.out 5; have hfz57_6 := blk_frozen BK413.out 6; have hfz57_7 := blk_frozen BK413.out 7; have hfz57_8 := blk_frozen BK413.out 8; have hfz57_9 := blk_frozen BK413.out 9; have hcz58_0 : w55.cell? ⟨gb414, 0, none⟩ = some (.int .u64 a1_0) := (blk_cell BK414.out 0).trans rfl; have hcz58_1 : w55.cell? ⟨gb414, 1, none⟩ = some (.int .u64 a1_1) := (blk_cell BK414.out 1).trans rfl; have hcz58_2 : w55.cell? ⟨gb414, 2, none⟩ = some (.int .u64 a1_2) := (blk_cell BK414.out 2).trans rfl; have hcz58_3 : w55.cell? ⟨gb414, 3, none⟩ = some (.int .u64 a1_3) := (blk_cell BK414.out 3).trans rfl; have hcz58_4 : w55.cell? ⟨gb414, 4, none⟩ = some (.string a1_4) := (blk_cell BK414.out 4).trans rfl; have hcz58_5 : w55.cell? ⟨gb414, 5, none⟩ = some (.int .i64 a1_5) := (blk_cell BK414.out 5).trans rfl; have hcz58_6 : w55.cell? ⟨gb414, 6, none⟩ = some (.int .i64 a1_6) := (blk_cell BK414.out 6).trans rfl; have hcz58_7 : w55.cell? ⟨gb414, 7, none⟩ = some (.bool a1_7) := (blk_cell BK414.out 7).trans rfl; have hcz58_8 : w55.cell? ⟨gb414, 8, none⟩ = some (.slice A1_8 l1_8.length c1_8) := (blk_cell BK414.out 8).trans rfl; have hcz58_9 : w55.cell? ⟨gb414, 9, none⟩ = some (.int .u64 a1_9) := (blk_cell BK414.out 9).trans rfl; have hfz58_0 := blk_frozen BK414.out 0; have hfz58_1 := blk_frozen BK414.out 1; have hfz58_2 := blk_frozen BK414.out 2; have hfz58_3 := blk_frozen BK414.out 3; have hfz58_4 := blk_frozen BK414.out 4; have hfz58_5 := blk_frozen BK414.out 5; have hfz58_6 := blk_frozen BK414.out 6; have hfz58_7 := blk_frozen BK414.out 7; have hfz58_8 := blk_frozen BK414.out 8; have hfz58_9 := blk_frozen BK414.out 9))
  go_ret
  exact ⟨by first | rfl | (simp [errW_none, errW_some] <;> rfl) | (simp [*, errW_none, errW_some] <;> rfl), by repeat (first | (with_reducible first | exact HB.out | apply below_alloc | apply pw_below_drewN | apply below_drew1 | refine below_set ?_ GE413.out | refine below_set ?_ GE414.out) | exact HB.out)⟩

end Go.Proofs.Ytfapckmobeppnaa.Px
