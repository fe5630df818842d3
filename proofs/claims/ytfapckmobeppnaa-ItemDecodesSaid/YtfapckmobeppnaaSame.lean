/- SameSpan and Same of equal items, by hand. -/
import Derived.Test.YtfapckmobeppnaaItmG
namespace Go.Proofs.Ytfapckmobeppnaa.Px
open Go.RowKit Go.Proofs.YtfapckmobeppnaaW.PrintWords Go.Proofs.YtfapckmobeppnaaW.PrintLast Go.Proofs.YtfapckmobeppnaaW.PrintMore
set_option linter.unusedVariables false
set_option linter.unusedSimpArgs false

set_option maxHeartbeats 4000000 in
set_option maxRecDepth 100000 in
theorem RfS.span (hi lo id par : Int) (nm : ByteArray) (st en : Int) (bad : Bool) (l : List S36) (rv : Int) (A0 : Option Addr) (c0 : Nat) (A1 : Option Addr) (c1 : Nat) (w : World) (h0 : Kd.C k36 w A0 l.length l) (h1 : Kd.C k36 w A1 l.length l) : Calls Try.prog 42 #[.agg #[.int .u64 hi, .int .u64 lo, .int .u64 id, .int .u64 par, .string nm, .int .i64 st, .int .i64 en, .bool bad, .slice A0 l.length c0, .int .u64 rv], .agg #[.int .u64 hi, .int .u64 lo, .int .u64 id, .int .u64 par, .string nm, .int .i64 st, .int .i64 en, .bool bad, .slice A1 l.length c1, .int .u64 rv]] w fun e w' => e = .returned (.bool true) ∧ Below w.heap.size w w' := by
 replace h0 := Aside0.mk h0
 replace h1 := Aside0.mk h1
 have hA := Aside0.mk (blk_alloc (blk_new w (.cells #[.int .u64 hi, .int .u64 lo, .int .u64 id, .int .u64 par, .string nm, .int .i64 st, .int .i64 en, .bool bad, .slice A0 l.length c0, .int .u64 rv] 26 (0, 0))) (.cells #[.int .u64 hi, .int .u64 lo, .int .u64 id, .int .u64 par, .string nm, .int .i64 st, .int .i64 en, .bool bad, .slice A1 l.length c1, .int .u64 rv] 26 (0, 0)))
 have hB := blk_new (w.alloc (.cells #[.int .u64 hi, .int .u64 lo, .int .u64 id, .int .u64 par, .string nm, .int .i64 st, .int .i64 en, .bool bad, .slice A0 l.length c0, .int .u64 rv] 26 (0, 0))) (.cells #[.int .u64 hi, .int .u64 lo, .int .u64 id, .int .u64 par, .string nm, .int .i64 st, .int .i64 en, .bool bad, .slice A1 l.length c1, .int .u64 rv] 26 (0, 0))
 rw [show (w.alloc (.cells #[.int .u64 hi, .int .u64 lo, .int .u64 id, .int .u64 par, .string nm, .int .i64 st, .int .i64 en, .bool bad, .slice A0 l.length c0, .int .u64 rv] 26 (0, 0))).heap.size = w.heap.size + 1 from World.size_alloc _ _] at hB
 replace hB := Aside0.mk hB
 have HB := Aside0.mk (below_alloc (below_alloc (Below.refl w.heap.size w) (.cells #[.int .u64 hi, .int .u64 lo, .int .u64 id, .int .u64 par, .string nm, .int .i64 st, .int .i64 en, .bool bad, .slice A0 l.length c0, .int .u64 rv] 26 (0, 0))) (.cells #[.int .u64 hi, .int .u64 lo, .int .u64 id, .int .u64 par, .string nm, .int .i64 st, .int .i64 en, .bool bad, .slice A1 l.length c1, .int .u64 rv] 26 (0, 0)))
 have hu := Try.underlying26
 have hul := Try.underlying29
 go_enter Try.func42, Try.ntmps42
 go_upto_region 1 with (fail)
 generalize (w.alloc (.cells #[.int .u64 hi, .int .u64 lo, .int .u64 id, .int .u64 par, .string nm, .int .i64 st, .int .i64 en, .bool bad, .slice A0 l.length c0, .int .u64 rv] 26 (0, 0))).alloc (.cells #[.int .u64 hi, .int .u64 lo, .int .u64 id, .int .u64 par, .string nm, .int .i64 st, .int .i64 en, .bool bad, .slice A1 l.length c1, .int .u64 rv] 26 (0, 0)) = w1 at *
 have a8 : w1.cell? ⟨w.heap.size, 8, none⟩ = some (.slice A0 l.length c0) := blk_cell hA.out 8
 have b8 : w1.cell? ⟨w.heap.size + 1, 8, none⟩ = some (.slice A1 l.length c1) := blk_cell hB.out 8
 go_wp2_with (fail)
 go_loopg [5] l.length (fun gg s5 wr => ∃ i : Nat, s5 = .int .i64 i ∧ i ≤ l.length ∧ l.length - i ≤ gg ∧ Aside0 (wr.heap[w.heap.size]? = some (.cells #[.int .u64 hi, .int .u64 lo, .int .u64 id, .int .u64 par, .string nm, .int .i64 st, .int .i64 en, .bool bad, .slice A0 l.length c0, .int .u64 rv] 26 (0, 0))) ∧ Aside0 (wr.heap[w.heap.size + 1]? = some (.cells #[.int .u64 hi, .int .u64 lo, .int .u64 id, .int .u64 par, .string nm, .int .i64 st, .int .i64 en, .bool bad, .slice A1 l.length c1, .int .u64 rv] 26 (0, 0))) ∧ Aside0 (Below w.heap.size w wr))
 case atStart => exact ⟨0, rfl, by omega, by omega, hA, hB, HB⟩
 case round =>
  clear a8 b8 hA hB HB
  obtain ⟨i, rfl, hil, hgg, hA, hB, HB⟩ := hrel
  have a8 : wr.cell? ⟨w.heap.size, 8, none⟩ = some (.slice A0 l.length c0) := blk_cell hA.out 8
  have b8 : wr.cell? ⟨w.heap.size + 1, 8, none⟩ = some (.slice A1 l.length c1) := blk_cell hB.out 8
  by_cases hi' : i < l.length
  ·have hiz : (i : Int) < (l.length : Int) := by omega
   have hi0 : (0 : Int) ≤ (i : Int) := by omega
   obtain ⟨ad, e0, hx0, hx1⟩ := at_T36 h0.out (i : Int) hi0 hiz
   obtain ⟨ae, e1, hy0, hy1⟩ := at_T36 h1.out (i : Int) hi0 hiz
   simp only [Int.toNat_natCast] at hx0 hx1 hy0 hy1
   cases e0
   cases e1
   replace hx0 := (HB.out.cell (World.block_lt_of_cell? _ _ hx0)).trans hx0
   replace hx1 := (HB.out.cell (World.block_lt_of_cell? _ _ hx1)).trans hx1
   replace hy0 := (HB.out.cell (World.block_lt_of_cell? _ _ hy0)).trans hy0
   replace hy1 := (HB.out.cell (World.block_lt_of_cell? _ _ hy1)).trans hy1
   generalize hy : rd_T36 l (i : Int) = y at *
   clear hy
   obtain ⟨k1, v1⟩ := y
   dsimp only at hx0 hx1 hy0 hy1
   have hmx := h0.out.2.1
   have hwr : wrap64 ((i : Int) + 1) = ((i + 1 : Nat) : Int) := by rw [wrap64_id (by omega) (by omega)]; omega
   clear hmx
   have hp0 := eq_true hi0
   have hp1 := eq_true hiz
   go_wp2_with (fail)
   repeat (go_quiet (fail); try go_wp2_with (fail))
   go_roundg (l.length - (i + 1))
   case measure => omega
   case rel => exact ⟨i + 1, by go_num, by omega, by omega, ⟨by repeat (first | exact hA.out | apply blk_drewN | apply blk_drew)⟩, ⟨by repeat (first | exact hB.out | apply blk_drewN | apply blk_drew)⟩, ⟨by repeat (first | exact HB.out | apply pw_below_drewN | apply below_drew1)⟩⟩
  ·have hiz : ¬ (i : Int) < (l.length : Int) := by omega
   have hizf : decide ((i : Int) < (l.length : Int)) = false := decide_eq_false hiz
   have a_0 : wr.cell? ⟨w.heap.size, 0, none⟩ = _ := (blk_cell hA.out 0).trans rfl
   have a_1 : wr.cell? ⟨w.heap.size, 1, none⟩ = _ := (blk_cell hA.out 1).trans rfl
   have a_2 : wr.cell? ⟨w.heap.size, 2, none⟩ = _ := (blk_cell hA.out 2).trans rfl
   have a_3 : wr.cell? ⟨w.heap.size, 3, none⟩ = _ := (blk_cell hA.out 3).trans rfl
   have a_4 : wr.cell? ⟨w.heap.size, 4, none⟩ = _ := (blk_cell hA.out 4).trans rfl
   have a_5 : wr.cell? ⟨w.heap.size, 5, none⟩ = _ := (blk_cell hA.out 5).trans rfl
   have a_6 : wr.cell? ⟨w.heap.size, 6, none⟩ = _ := (blk_cell hA.out 6).trans rfl
   have a_7 : wr.cell? ⟨w.heap.size, 7, none⟩ = _ := (blk_cell hA.out 7).trans rfl
   have a_8 : wr.cell? ⟨w.heap.size, 8, none⟩ = _ := (blk_cell hA.out 8).trans rfl
   have a_9 : wr.cell? ⟨w.heap.size, 9, none⟩ = _ := (blk_cell hA.out 9).trans rfl
   have b_0 : wr.cell? ⟨w.heap.size + 1, 0, none⟩ = _ := (blk_cell hB.out 0).trans rfl
   have b_1 : wr.cell? ⟨w.heap.size + 1, 1, none⟩ = _ := (blk_cell hB.out 1).trans rfl
   have b_2 : wr.cell? ⟨w.heap.size + 1, 2, none⟩ = _ := (blk_cell hB.out 2).trans rfl
   have b_3 : wr.cell? ⟨w.heap.size + 1, 3, none⟩ = _ := (blk_cell hB.out 3).trans rfl
   have b_4 : wr.cell? ⟨w.heap.size + 1, 4, none⟩ = _ := (blk_cell hB.out 4).trans rfl
   have b_5 : wr.cell? ⟨w.heap.size + 1, 5, none⟩ = _ := (blk_cell hB.out 5).trans rfl
   have b_6 : wr.cell? ⟨w.heap.size + 1, 6, none⟩ = _ := (blk_cell hB.out 6).trans rfl
   have b_7 : wr.cell? ⟨w.heap.size + 1, 7, none⟩ = _ := (blk_cell hB.out 7).trans rfl
   have b_8 : wr.cell? ⟨w.heap.size + 1, 8, none⟩ = _ := (blk_cell hB.out 8).trans rfl
   have b_9 : wr.cell? ⟨w.heap.size + 1, 9, none⟩ = _ := (blk_cell hB.out 9).trans rfl
   clear a8 b8
   go_wp2_with (fail)
   go_ret
   exact ⟨rfl, by repeat (first | exact HB.out | apply pw_below_drewN | apply below_drew1)⟩
set_option maxHeartbeats 4000000 in
set_option maxRecDepth 100000 in
theorem RfS.same (kd : Int) (hi lo id par : Int) (nm : ByteArray) (st en : Int) (bad : Bool) (l : List S36) (rv : Int) (k : ByteArray) (wt t : Int) (b : ByteArray) (A0 : Option Addr) (c0 : Nat) (A1 : Option Addr) (c1 : Nat) (w : World) (h0 : Kd.C k36 w A0 l.length l) (h1 : Kd.C k36 w A1 l.length l) : Calls Try.prog 21 #[.agg #[.int .u8 kd, .int .u64 hi, .int .u64 lo, .int .u64 id, .int .u64 par, .string nm, .int .i64 st, .int .i64 en, .bool bad, .slice A0 l.length c0, .int .u64 rv, .string k, .int .u64 wt, .int .i64 t, .string b], .agg #[.int .u8 kd, .int .u64 hi, .int .u64 lo, .int .u64 id, .int .u64 par, .string nm, .int .i64 st, .int .i64 en, .bool bad, .slice A1 l.length c1, .int .u64 rv, .string k, .int .u64 wt, .int .i64 t, .string b]] w fun e w' => e = .returned (.bool true) ∧ Below w.heap.size w w' := by
 replace h0 := Aside0.mk h0
 replace h1 := Aside0.mk h1
 have hA := Aside0.mk (blk_alloc (blk_new w (.cells #[.int .u8 kd, .int .u64 hi, .int .u64 lo, .int .u64 id, .int .u64 par, .string nm, .int .i64 st, .int .i64 en, .bool bad, .slice A0 l.length c0, .int .u64 rv, .string k, .int .u64 wt, .int .i64 t, .string b] 38 (0, 0))) (.cells #[.int .u8 kd, .int .u64 hi, .int .u64 lo, .int .u64 id, .int .u64 par, .string nm, .int .i64 st, .int .i64 en, .bool bad, .slice A1 l.length c1, .int .u64 rv, .string k, .int .u64 wt, .int .i64 t, .string b] 38 (0, 0)))
 have hB := blk_new (w.alloc (.cells #[.int .u8 kd, .int .u64 hi, .int .u64 lo, .int .u64 id, .int .u64 par, .string nm, .int .i64 st, .int .i64 en, .bool bad, .slice A0 l.length c0, .int .u64 rv, .string k, .int .u64 wt, .int .i64 t, .string b] 38 (0, 0))) (.cells #[.int .u8 kd, .int .u64 hi, .int .u64 lo, .int .u64 id, .int .u64 par, .string nm, .int .i64 st, .int .i64 en, .bool bad, .slice A1 l.length c1, .int .u64 rv, .string k, .int .u64 wt, .int .i64 t, .string b] 38 (0, 0))
 rw [show (w.alloc (.cells #[.int .u8 kd, .int .u64 hi, .int .u64 lo, .int .u64 id, .int .u64 par, .string nm, .int .i64 st, .int .i64 en, .bool bad, .slice A0 l.length c0, .int .u64 rv, .string k, .int .u64 wt, .int .i64 t, .string b] 38 (0, 0))).heap.size = w.heap.size + 1 from World.size_alloc _ _] at hB
 replace hB := Aside0.mk hB
 have HB := Aside0.mk (below_alloc (below_alloc (Below.refl w.heap.size w) (.cells #[.int .u8 kd, .int .u64 hi, .int .u64 lo, .int .u64 id, .int .u64 par, .string nm, .int .i64 st, .int .i64 en, .bool bad, .slice A0 l.length c0, .int .u64 rv, .string k, .int .u64 wt, .int .i64 t, .string b] 38 (0, 0))) (.cells #[.int .u8 kd, .int .u64 hi, .int .u64 lo, .int .u64 id, .int .u64 par, .string nm, .int .i64 st, .int .i64 en, .bool bad, .slice A1 l.length c1, .int .u64 rv, .string k, .int .u64 wt, .int .i64 t, .string b] 38 (0, 0)))
 have hu := Try.underlying38
 have hul := Try.underlying29
 go_enter Try.func21, Try.ntmps21
 go_upto_region 1 with (fail)
 generalize (w.alloc (.cells #[.int .u8 kd, .int .u64 hi, .int .u64 lo, .int .u64 id, .int .u64 par, .string nm, .int .i64 st, .int .i64 en, .bool bad, .slice A0 l.length c0, .int .u64 rv, .string k, .int .u64 wt, .int .i64 t, .string b] 38 (0, 0))).alloc (.cells #[.int .u8 kd, .int .u64 hi, .int .u64 lo, .int .u64 id, .int .u64 par, .string nm, .int .i64 st, .int .i64 en, .bool bad, .slice A1 l.length c1, .int .u64 rv, .string k, .int .u64 wt, .int .i64 t, .string b] 38 (0, 0)) = w1 at *
 have a_0 : w1.cell? ⟨w.heap.size, 0, none⟩ = _ := (blk_cell hA.out 0).trans rfl
 have a_1 : w1.cell? ⟨w.heap.size, 1, none⟩ = _ := (blk_cell hA.out 1).trans rfl
 have a_2 : w1.cell? ⟨w.heap.size, 2, none⟩ = _ := (blk_cell hA.out 2).trans rfl
 have a_3 : w1.cell? ⟨w.heap.size, 3, none⟩ = _ := (blk_cell hA.out 3).trans rfl
 have a_4 : w1.cell? ⟨w.heap.size, 4, none⟩ = _ := (blk_cell hA.out 4).trans rfl
 have a_5 : w1.cell? ⟨w.heap.size, 5, none⟩ = _ := (blk_cell hA.out 5).trans rfl
 have a_6 : w1.cell? ⟨w.heap.size, 6, none⟩ = _ := (blk_cell hA.out 6).trans rfl
 have a_7 : w1.cell? ⟨w.heap.size, 7, none⟩ = _ := (blk_cell hA.out 7).trans rfl
 have a_8 : w1.cell? ⟨w.heap.size, 8, none⟩ = _ := (blk_cell hA.out 8).trans rfl
 have a_9 : w1.cell? ⟨w.heap.size, 9, none⟩ = _ := (blk_cell hA.out 9).trans rfl
 have a_10 : w1.cell? ⟨w.heap.size, 10, none⟩ = _ := (blk_cell hA.out 10).trans rfl
 have a_11 : w1.cell? ⟨w.heap.size, 11, none⟩ = _ := (blk_cell hA.out 11).trans rfl
 have a_12 : w1.cell? ⟨w.heap.size, 12, none⟩ = _ := (blk_cell hA.out 12).trans rfl
 have a_13 : w1.cell? ⟨w.heap.size, 13, none⟩ = _ := (blk_cell hA.out 13).trans rfl
 have a_14 : w1.cell? ⟨w.heap.size, 14, none⟩ = _ := (blk_cell hA.out 14).trans rfl
 have b_0 : w1.cell? ⟨w.heap.size + 1, 0, none⟩ = _ := (blk_cell hB.out 0).trans rfl
 have b_1 : w1.cell? ⟨w.heap.size + 1, 1, none⟩ = _ := (blk_cell hB.out 1).trans rfl
 have b_2 : w1.cell? ⟨w.heap.size + 1, 2, none⟩ = _ := (blk_cell hB.out 2).trans rfl
 have b_3 : w1.cell? ⟨w.heap.size + 1, 3, none⟩ = _ := (blk_cell hB.out 3).trans rfl
 have b_4 : w1.cell? ⟨w.heap.size + 1, 4, none⟩ = _ := (blk_cell hB.out 4).trans rfl
 have b_5 : w1.cell? ⟨w.heap.size + 1, 5, none⟩ = _ := (blk_cell hB.out 5).trans rfl
 have b_6 : w1.cell? ⟨w.heap.size + 1, 6, none⟩ = _ := (blk_cell hB.out 6).trans rfl
 have b_7 : w1.cell? ⟨w.heap.size + 1, 7, none⟩ = _ := (blk_cell hB.out 7).trans rfl
 have b_8 : w1.cell? ⟨w.heap.size + 1, 8, none⟩ = _ := (blk_cell hB.out 8).trans rfl
 have b_9 : w1.cell? ⟨w.heap.size + 1, 9, none⟩ = _ := (blk_cell hB.out 9).trans rfl
 have b_10 : w1.cell? ⟨w.heap.size + 1, 10, none⟩ = _ := (blk_cell hB.out 10).trans rfl
 have b_11 : w1.cell? ⟨w.heap.size + 1, 11, none⟩ = _ := (blk_cell hB.out 11).trans rfl
 have b_12 : w1.cell? ⟨w.heap.size + 1, 12, none⟩ = _ := (blk_cell hB.out 12).trans rfl
 have b_13 : w1.cell? ⟨w.heap.size + 1, 13, none⟩ = _ := (blk_cell hB.out 13).trans rfl
 have b_14 : w1.cell? ⟨w.heap.size + 1, 14, none⟩ = _ := (blk_cell hB.out 14).trans rfl
 go_wp2_with (fail)
 refine (RfS.span hi lo id par nm st en bad l rv A0 c0 A1 c1 _ (Kd.C_below h0.out HB.out) (Kd.C_below h1.out HB.out)).mono ?_
 rintro e w2 ⟨rfl, hb⟩
 go_wp2_with (fail)
 go_ret
 exact ⟨rfl, below_step HB.out hb⟩
end Go.Proofs.Ytfapckmobeppnaa.Px
