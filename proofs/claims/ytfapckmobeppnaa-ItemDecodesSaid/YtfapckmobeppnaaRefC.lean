/- telemeterref03.Encode by hand: it tells what the program's Encode tells. -/
import Derived.Test.YtfapckmobeppnaaRefR
import Derived.Test.YtfapckmobeppnaaRefN
import Derived.Test.YtfapckmobeppnaaRefP
import Derived.Test.YtfapckmobeppnaaPx1
namespace Go.Proofs.Ytfapckmobeppnaa.Px
open Go.RowKit Go.Proofs.YtfapckmobeppnaaW.PrintWords Go.Proofs.YtfapckmobeppnaaW.PrintLast Go.Proofs.YtfapckmobeppnaaW.PrintMore
set_option linter.unusedVariables false
set_option linter.unusedSimpArgs false
attribute [local go_sem high] eqA29

theorem RfC.cells15 {w : World} {g t : Nat} {c0 c1 c2 c3 c4 c5 c6 c7 c8 c9 c10 c11 c12 c13 c14 : Value} (h : w.heap[g]? = some (.cells #[c0, c1, c2, c3, c4, c5, c6, c7, c8, c9, c10, c11, c12, c13, c14] t (0, 0))) : w.cell? ⟨g, 0, none⟩ = some c0 ∧ w.cell? ⟨g, 1, none⟩ = some c1 ∧ w.cell? ⟨g, 2, none⟩ = some c2 ∧ w.cell? ⟨g, 3, none⟩ = some c3 ∧ w.cell? ⟨g, 4, none⟩ = some c4 ∧ w.cell? ⟨g, 5, none⟩ = some c5 ∧ w.cell? ⟨g, 6, none⟩ = some c6 ∧ w.cell? ⟨g, 7, none⟩ = some c7 ∧ w.cell? ⟨g, 8, none⟩ = some c8 ∧ w.cell? ⟨g, 9, none⟩ = some c9 ∧ w.cell? ⟨g, 10, none⟩ = some c10 ∧ w.cell? ⟨g, 11, none⟩ = some c11 ∧ w.cell? ⟨g, 12, none⟩ = some c12 ∧ w.cell? ⟨g, 13, none⟩ = some c13 ∧ w.cell? ⟨g, 14, none⟩ = some c14 := ⟨blk_cell h 0, blk_cell h 1, blk_cell h 2, blk_cell h 3, blk_cell h 4, blk_cell h 5, blk_cell h 6, blk_cell h 7, blk_cell h 8, blk_cell h 9, blk_cell h 10, blk_cell h 11, blk_cell h 12, blk_cell h 13, blk_cell h 14⟩
theorem RfC.log_joined (k : ByteArray) (wt t : Int) (bo : ByteArray) (p1 : k.size ≤ 60) (p2 : 0 < wt ∧ wt ≤ 4294967296) (p3 : 0 ≤ t ∧ t ≤ 1099511627776) (p4 : bo.size ≤ 200) : telemeterref03_joined.f 100 [([2] : List Int), (Itm.txt 1 k), (Itm.num 2 wt), (Itm.num 3 t), (Itm.txt 4 bo)] = some (2 :: Itm.logL k wt t bo) := by
 have l1 := Itm.txt_len 1 k (by omega) (by omega)
 have l2 := Itm.num_len 2 wt (by omega) (by omega)
 have l3 := Itm.num_len 3 t (by omega) (by omega)
 have l4 := Itm.txt_len 4 bo (by omega) (by omega)
 rw [RfA.joined _ (by simp only [List.length_cons, List.length_nil]; omega) (by simp only [List.flatten_cons, List.flatten_nil, List.length_append, List.length_cons, List.length_nil]; omega) 100 (by simp only [List.length_cons, List.length_nil]; omega)]
 unfold Itm.logL
 simp only [List.flatten_cons, List.flatten_nil, List.append_nil, List.append_assoc, List.cons_append, List.nil_append]

set_option maxHeartbeats 8000000 in
set_option maxRecDepth 100000 in
theorem RfC.s0 (hi lo id par : Int) (nm : ByteArray) (st en : Int) (bad : Bool) (A : Option Addr) (c : Nat) (l : List S36) (rv : Int) (k : ByteArray) (wt t : Int) (bo : ByteArray) (w : World) (hr : Kd.C k36 w A l.length l) (hc : l.length ≤ c) (h1 : 0 ≤ hi ∧ hi < 18446744073709551616) (h2 : 0 ≤ lo ∧ lo < 18446744073709551616) (h3 : 0 ≤ id ∧ id < 18446744073709551616) (h4 : 0 ≤ par ∧ par < 18446744073709551616) (h5 : 0 ≤ rv ∧ rv < 18446744073709551616) (hl : l.length ≤ 100000) (hnm : nm.size ≤ 9000000000000000) (hkk : k.size ≤ 9000000000000000) (hz : ∀ a ∈ l, a.f0.size ≤ 9000000000000000) (hs : Itm.rightSpan hi lo id nm st en l rv = false) :
  Calls Try.prog 17 #[.agg #[.int .u8 1, .int .u64 hi, .int .u64 lo, .int .u64 id, .int .u64 par, .string nm, .int .i64 st, .int .i64 en, .bool bad, .slice A l.length c, .int .u64 rv, .string k, .int .u64 wt, .int .i64 t, .string bo]] w fun e w' => e = .returned (.tuple #[.slice none 0 0, .int .i64 40]) ∧ Below w.heap.size w w' := by
 replace hr := Aside0.mk hr
 replace hz := Aside0.mk hz
 have HB := Aside0.mk (below_alloc (Below.refl w.heap.size w) (.cells #[.int .u8 1, .int .u64 hi, .int .u64 lo, .int .u64 id, .int .u64 par, .string nm, .int .i64 st, .int .i64 en, .bool bad, .slice A l.length c, .int .u64 rv, .string k, .int .u64 wt, .int .i64 t, .string bo] 38 (0, 0)))
 have hb := Aside0.mk (blk_new w (.cells #[.int .u8 1, .int .u64 hi, .int .u64 lo, .int .u64 id, .int .u64 par, .string nm, .int .i64 st, .int .i64 en, .bool bad, .slice A l.length c, .int .u64 rv, .string k, .int .u64 wt, .int .i64 t, .string bo] 38 (0, 0)))
 have hu38 := Try.underlying38
 go_enter Try.func17, Try.ntmps17
 go_upto_region 1 with (fail)
 generalize w.alloc (.cells #[.int .u8 1, .int .u64 hi, .int .u64 lo, .int .u64 id, .int .u64 par, .string nm, .int .i64 st, .int .i64 en, .bool bad, .slice A l.length c, .int .u64 rv, .string k, .int .u64 wt, .int .i64 t, .string bo] 38 (0, 0)) = w5 at *
 obtain ⟨z0, z1, z2, z3, z4, z5, z6, z7, z8, z9, z10, z11, z12, z13, z14⟩ := RfC.cells15 hb.out
 go_wp2_with (fail)
 refine (RfR.right_calls hi lo id par nm st en bad A c l rv _ (Kd.C_below hr.out HB.out) hc h1 h2 hl hnm hz.out).mono ?_
 rintro e w6 ⟨rfl, hbb⟩
 replace hb := Aside0.mk (blk_below hb.out hbb)
 replace HB := Aside0.mk (below_step HB.out hbb)
 clear hbb
 clear z0 z1 z2 z3 z4 z5 z6 z7 z8 z9 z10 z11 z12 z13 z14
 obtain ⟨z0, z1, z2, z3, z4, z5, z6, z7, z8, z9, z10, z11, z12, z13, z14⟩ := RfC.cells15 hb.out
 rw [hs]
 go_upto_region 4 with (fail)
 have hg := Aside0.mk (blk_new w6 (.cells #[.string k, .int .u64 wt, .int .i64 t, .string bo] 29 (0, 0)))
 replace HB := Aside0.mk (below_alloc HB.out (.cells #[.string k, .int .u64 wt, .int .i64 t, .string bo] 29 (0, 0)))
 replace hb := Aside0.mk (blk_alloc hb.out (.cells #[.string k, .int .u64 wt, .int .i64 t, .string bo] 29 (0, 0)))
 have hng := Aside0.mk (blk_lt hg.out)
 clear z0 z1 z2 z3 z4 z5 z6 z7 z8 z9 z10 z11 z12 z13 z14
 obtain ⟨gl, hgl⟩ : ∃ gl, gl = w6.heap.size := ⟨_, rfl⟩
 rw [← hgl] at hg ⊢
 generalize w6.alloc (.cells #[.string k, .int .u64 wt, .int .i64 t, .string bo] 29 (0, 0)) = w7 at *
 clear hgl
 obtain ⟨z0, z1, z2, z3, z4, z5, z6, z7, z8, z9, z10, z11, z12, z13, z14⟩ := RfC.cells15 hb.out
 have y0 : w7.cell? ⟨gl, 0, none⟩ = some (.string k) := blk_cell hg.out 0
 have y1 : w7.cell? ⟨gl, 1, none⟩ = some (.int .u64 wt) := blk_cell hg.out 1
 have y2 : w7.cell? ⟨gl, 2, none⟩ = some (.int .i64 t) := blk_cell hg.out 2
 have y3 : w7.cell? ⟨gl, 3, none⟩ = some (.string bo) := blk_cell hg.out 3
 go_wp2_with (fail)
 go_ret2
 exact ⟨rfl, by repeat (first | exact HB.out | apply below_alloc | apply pw_below_drewN | apply below_drew1)⟩
set_option maxHeartbeats 8000000 in
set_option maxRecDepth 100000 in
theorem RfC.s1 (hi lo id par : Int) (nm : ByteArray) (st en : Int) (bad : Bool) (A : Option Addr) (c : Nat) (l : List S36) (rv : Int) (k : ByteArray) (wt t : Int) (bo : ByteArray) (w : World) (hr : Kd.C k36 w A l.length l) (hc : l.length ≤ c) (h1 : 0 ≤ hi ∧ hi < 18446744073709551616) (h2 : 0 ≤ lo ∧ lo < 18446744073709551616) (h3 : 0 ≤ id ∧ id < 18446744073709551616) (h4 : 0 ≤ par ∧ par < 18446744073709551616) (h5 : 0 ≤ rv ∧ rv < 18446744073709551616) (hl : l.length ≤ 100000) (hnm : nm.size ≤ 9000000000000000) (hkk : k.size ≤ 9000000000000000) (hz : ∀ a ∈ l, a.f0.size ≤ 9000000000000000) (hs : Itm.rightSpan hi lo id nm st en l rv = true) (hne : ¬ (k.toList = [] ∧ wt = 0 ∧ t = 0 ∧ bo.toList = [])) :
  Calls Try.prog 17 #[.agg #[.int .u8 1, .int .u64 hi, .int .u64 lo, .int .u64 id, .int .u64 par, .string nm, .int .i64 st, .int .i64 en, .bool bad, .slice A l.length c, .int .u64 rv, .string k, .int .u64 wt, .int .i64 t, .string bo]] w fun e w' => e = .returned (.tuple #[.slice none 0 0, .int .i64 40]) ∧ Below w.heap.size w w' := by
 replace hr := Aside0.mk hr
 replace hz := Aside0.mk hz
 have HB := Aside0.mk (below_alloc (Below.refl w.heap.size w) (.cells #[.int .u8 1, .int .u64 hi, .int .u64 lo, .int .u64 id, .int .u64 par, .string nm, .int .i64 st, .int .i64 en, .bool bad, .slice A l.length c, .int .u64 rv, .string k, .int .u64 wt, .int .i64 t, .string bo] 38 (0, 0)))
 have hb := Aside0.mk (blk_new w (.cells #[.int .u8 1, .int .u64 hi, .int .u64 lo, .int .u64 id, .int .u64 par, .string nm, .int .i64 st, .int .i64 en, .bool bad, .slice A l.length c, .int .u64 rv, .string k, .int .u64 wt, .int .i64 t, .string bo] 38 (0, 0)))
 have hu38 := Try.underlying38
 go_enter Try.func17, Try.ntmps17
 go_upto_region 1 with (fail)
 generalize w.alloc (.cells #[.int .u8 1, .int .u64 hi, .int .u64 lo, .int .u64 id, .int .u64 par, .string nm, .int .i64 st, .int .i64 en, .bool bad, .slice A l.length c, .int .u64 rv, .string k, .int .u64 wt, .int .i64 t, .string bo] 38 (0, 0)) = w5 at *
 obtain ⟨z0, z1, z2, z3, z4, z5, z6, z7, z8, z9, z10, z11, z12, z13, z14⟩ := RfC.cells15 hb.out
 go_wp2_with (fail)
 refine (RfR.right_calls hi lo id par nm st en bad A c l rv _ (Kd.C_below hr.out HB.out) hc h1 h2 hl hnm hz.out).mono ?_
 rintro e w6 ⟨rfl, hbb⟩
 replace hb := Aside0.mk (blk_below hb.out hbb)
 replace HB := Aside0.mk (below_step HB.out hbb)
 clear hbb
 clear z0 z1 z2 z3 z4 z5 z6 z7 z8 z9 z10 z11 z12 z13 z14
 obtain ⟨z0, z1, z2, z3, z4, z5, z6, z7, z8, z9, z10, z11, z12, z13, z14⟩ := RfC.cells15 hb.out
 rw [hs]
 have hC : (k.toList.isEmpty && (wt == 0 && (t == 0 && bo.toList.isEmpty))) = false := by rw [Bool.eq_false_iff]; intro h; simp only [Bool.and_eq_true, beq_iff_eq, List.isEmpty_iff] at h; exact hne h
 go_upto_if 18 with (fail)
 clear hC
 replace hne := Aside0.mk hne
 go_upto_region 4 with (fail)
 have hg := Aside0.mk (blk_new w6 (.cells #[.string k, .int .u64 wt, .int .i64 t, .string bo] 29 (0, 0)))
 replace HB := Aside0.mk (below_alloc HB.out (.cells #[.string k, .int .u64 wt, .int .i64 t, .string bo] 29 (0, 0)))
 replace hb := Aside0.mk (blk_alloc hb.out (.cells #[.string k, .int .u64 wt, .int .i64 t, .string bo] 29 (0, 0)))
 have hng := Aside0.mk (blk_lt hg.out)
 clear z0 z1 z2 z3 z4 z5 z6 z7 z8 z9 z10 z11 z12 z13 z14
 obtain ⟨gl, hgl⟩ : ∃ gl, gl = w6.heap.size := ⟨_, rfl⟩
 rw [← hgl] at hg ⊢
 generalize w6.alloc (.cells #[.string k, .int .u64 wt, .int .i64 t, .string bo] 29 (0, 0)) = w7 at *
 clear hgl
 obtain ⟨z0, z1, z2, z3, z4, z5, z6, z7, z8, z9, z10, z11, z12, z13, z14⟩ := RfC.cells15 hb.out
 have y0 : w7.cell? ⟨gl, 0, none⟩ = some (.string k) := blk_cell hg.out 0
 have y1 : w7.cell? ⟨gl, 1, none⟩ = some (.int .u64 wt) := blk_cell hg.out 1
 have y2 : w7.cell? ⟨gl, 2, none⟩ = some (.int .i64 t) := blk_cell hg.out 2
 have y3 : w7.cell? ⟨gl, 3, none⟩ = some (.string bo) := blk_cell hg.out 3
 go_wp2_with (fail)
 go_ret2
 exact ⟨rfl, by repeat (first | exact HB.out | apply below_alloc | apply pw_below_drewN | apply below_drew1)⟩
set_option maxHeartbeats 8000000 in
set_option maxRecDepth 100000 in
theorem RfC.kd (kd hi lo id par : Int) (nm : ByteArray) (st en : Int) (bad : Bool) (A : Option Addr) (c : Nat) (l : List S36) (rv : Int) (k : ByteArray) (wt t : Int) (bo : ByteArray) (w : World) (hr : Kd.C k36 w A l.length l) (hc : l.length ≤ c) (h1 : 0 ≤ hi ∧ hi < 18446744073709551616) (h2 : 0 ≤ lo ∧ lo < 18446744073709551616) (h3 : 0 ≤ id ∧ id < 18446744073709551616) (h4 : 0 ≤ par ∧ par < 18446744073709551616) (h5 : 0 ≤ rv ∧ rv < 18446744073709551616) (hl : l.length ≤ 100000) (hnm : nm.size ≤ 9000000000000000) (hkk : k.size ≤ 9000000000000000) (hz : ∀ a ∈ l, a.f0.size ≤ 9000000000000000) (hk1 : kd ≠ 1) (hk2 : kd ≠ 2) :
  Calls Try.prog 17 #[.agg #[.int .u8 kd, .int .u64 hi, .int .u64 lo, .int .u64 id, .int .u64 par, .string nm, .int .i64 st, .int .i64 en, .bool bad, .slice A l.length c, .int .u64 rv, .string k, .int .u64 wt, .int .i64 t, .string bo]] w fun e w' => e = .returned (.tuple #[.slice none 0 0, .int .i64 40]) ∧ Below w.heap.size w w' := by
 replace hr := Aside0.mk hr
 replace hz := Aside0.mk hz
 have HB := Aside0.mk (below_alloc (Below.refl w.heap.size w) (.cells #[.int .u8 kd, .int .u64 hi, .int .u64 lo, .int .u64 id, .int .u64 par, .string nm, .int .i64 st, .int .i64 en, .bool bad, .slice A l.length c, .int .u64 rv, .string k, .int .u64 wt, .int .i64 t, .string bo] 38 (0, 0)))
 have hb := Aside0.mk (blk_new w (.cells #[.int .u8 kd, .int .u64 hi, .int .u64 lo, .int .u64 id, .int .u64 par, .string nm, .int .i64 st, .int .i64 en, .bool bad, .slice A l.length c, .int .u64 rv, .string k, .int .u64 wt, .int .i64 t, .string bo] 38 (0, 0)))
 have hu38 := Try.underlying38
 go_enter Try.func17, Try.ntmps17
 go_upto_region 1 with (fail)
 generalize w.alloc (.cells #[.int .u8 kd, .int .u64 hi, .int .u64 lo, .int .u64 id, .int .u64 par, .string nm, .int .i64 st, .int .i64 en, .bool bad, .slice A l.length c, .int .u64 rv, .string k, .int .u64 wt, .int .i64 t, .string bo] 38 (0, 0)) = w5 at *
 obtain ⟨z0, z1, z2, z3, z4, z5, z6, z7, z8, z9, z10, z11, z12, z13, z14⟩ := RfC.cells15 hb.out
 have q1 : (kd == 1) = false := beq_eq_false_iff_ne.mpr hk1
 have q2 : (kd == 2) = false := beq_eq_false_iff_ne.mpr hk2
 have q3 : (kd != 2) = true := bne_iff_ne.mpr hk2
 go_upto_region 4 with (fail)
 have hg := Aside0.mk (blk_new w5 (.cells #[.string k, .int .u64 wt, .int .i64 t, .string bo] 29 (0, 0)))
 replace HB := Aside0.mk (below_alloc HB.out (.cells #[.string k, .int .u64 wt, .int .i64 t, .string bo] 29 (0, 0)))
 replace hb := Aside0.mk (blk_alloc hb.out (.cells #[.string k, .int .u64 wt, .int .i64 t, .string bo] 29 (0, 0)))
 have hng := Aside0.mk (blk_lt hg.out)
 clear z0 z1 z2 z3 z4 z5 z6 z7 z8 z9 z10 z11 z12 z13 z14
 obtain ⟨gl, hgl⟩ : ∃ gl, gl = w5.heap.size := ⟨_, rfl⟩
 rw [← hgl] at hg ⊢
 generalize w5.alloc (.cells #[.string k, .int .u64 wt, .int .i64 t, .string bo] 29 (0, 0)) = w6 at *
 clear hgl
 obtain ⟨z0, z1, z2, z3, z4, z5, z6, z7, z8, z9, z10, z11, z12, z13, z14⟩ := RfC.cells15 hb.out
 have y0 : w6.cell? ⟨gl, 0, none⟩ = some (.string k) := blk_cell hg.out 0
 have y1 : w6.cell? ⟨gl, 1, none⟩ = some (.int .u64 wt) := blk_cell hg.out 1
 have y2 : w6.cell? ⟨gl, 2, none⟩ = some (.int .i64 t) := blk_cell hg.out 2
 have y3 : w6.cell? ⟨gl, 3, none⟩ = some (.string bo) := blk_cell hg.out 3
 go_wp2_with (fail)
 go_ret2
 exact ⟨rfl, by repeat (first | exact HB.out | apply below_alloc | apply pw_below_drewN | apply below_drew1)⟩
set_option maxHeartbeats 8000000 in
set_option maxRecDepth 100000 in
theorem RfC.l0 (hi lo id par : Int) (nm : ByteArray) (st en : Int) (bad : Bool) (A : Option Addr) (c : Nat) (l : List S36) (rv : Int) (k : ByteArray) (wt t : Int) (bo : ByteArray) (w : World) (hr : Kd.C k36 w A l.length l) (hc : l.length ≤ c) (h1 : 0 ≤ hi ∧ hi < 18446744073709551616) (h2 : 0 ≤ lo ∧ lo < 18446744073709551616) (h3 : 0 ≤ id ∧ id < 18446744073709551616) (h4 : 0 ≤ par ∧ par < 18446744073709551616) (h5 : 0 ≤ rv ∧ rv < 18446744073709551616) (hl : l.length ≤ 100000) (hnm : nm.size ≤ 9000000000000000) (hkk : k.size ≤ 9000000000000000) (hz : ∀ a ∈ l, a.f0.size ≤ 9000000000000000) (hs : Itm.rightLog k wt t bo = false) :
  Calls Try.prog 17 #[.agg #[.int .u8 2, .int .u64 hi, .int .u64 lo, .int .u64 id, .int .u64 par, .string nm, .int .i64 st, .int .i64 en, .bool bad, .slice A l.length c, .int .u64 rv, .string k, .int .u64 wt, .int .i64 t, .string bo]] w fun e w' => e = .returned (.tuple #[.slice none 0 0, .int .i64 40]) ∧ Below w.heap.size w w' := by
 replace hr := Aside0.mk hr
 replace hz := Aside0.mk hz
 have HB := Aside0.mk (below_alloc (Below.refl w.heap.size w) (.cells #[.int .u8 2, .int .u64 hi, .int .u64 lo, .int .u64 id, .int .u64 par, .string nm, .int .i64 st, .int .i64 en, .bool bad, .slice A l.length c, .int .u64 rv, .string k, .int .u64 wt, .int .i64 t, .string bo] 38 (0, 0)))
 have hb := Aside0.mk (blk_new w (.cells #[.int .u8 2, .int .u64 hi, .int .u64 lo, .int .u64 id, .int .u64 par, .string nm, .int .i64 st, .int .i64 en, .bool bad, .slice A l.length c, .int .u64 rv, .string k, .int .u64 wt, .int .i64 t, .string bo] 38 (0, 0)))
 have hu38 := Try.underlying38
 go_enter Try.func17, Try.ntmps17
 go_upto_region 1 with (fail)
 generalize w.alloc (.cells #[.int .u8 2, .int .u64 hi, .int .u64 lo, .int .u64 id, .int .u64 par, .string nm, .int .i64 st, .int .i64 en, .bool bad, .slice A l.length c, .int .u64 rv, .string k, .int .u64 wt, .int .i64 t, .string bo] 38 (0, 0)) = w5 at *
 obtain ⟨z0, z1, z2, z3, z4, z5, z6, z7, z8, z9, z10, z11, z12, z13, z14⟩ := RfC.cells15 hb.out
 go_upto_region 4 with (fail)
 have hg := Aside0.mk (blk_new w5 (.cells #[.string k, .int .u64 wt, .int .i64 t, .string bo] 29 (0, 0)))
 replace HB := Aside0.mk (below_alloc HB.out (.cells #[.string k, .int .u64 wt, .int .i64 t, .string bo] 29 (0, 0)))
 replace hb := Aside0.mk (blk_alloc hb.out (.cells #[.string k, .int .u64 wt, .int .i64 t, .string bo] 29 (0, 0)))
 have hng := Aside0.mk (blk_lt hg.out)
 clear z0 z1 z2 z3 z4 z5 z6 z7 z8 z9 z10 z11 z12 z13 z14
 obtain ⟨gl, hgl⟩ : ∃ gl, gl = w5.heap.size := ⟨_, rfl⟩
 rw [← hgl] at hg ⊢
 generalize w5.alloc (.cells #[.string k, .int .u64 wt, .int .i64 t, .string bo] 29 (0, 0)) = w6 at *
 clear hgl
 obtain ⟨z0, z1, z2, z3, z4, z5, z6, z7, z8, z9, z10, z11, z12, z13, z14⟩ := RfC.cells15 hb.out
 have y0 : w6.cell? ⟨gl, 0, none⟩ = some (.string k) := blk_cell hg.out 0
 have y1 : w6.cell? ⟨gl, 1, none⟩ = some (.int .u64 wt) := blk_cell hg.out 1
 have y2 : w6.cell? ⟨gl, 2, none⟩ = some (.int .i64 t) := blk_cell hg.out 2
 have y3 : w6.cell? ⟨gl, 3, none⟩ = some (.string bo) := blk_cell hg.out 3
 go_wp2_with (fail)
 refine (RfN.log_calls k wt t bo _ hkk).mono ?_
 rintro e w7 ⟨rfl, hbb⟩
 replace hb := Aside0.mk (blk_below hb.out hbb)
 replace hg := Aside0.mk (blk_below hg.out hbb)
 replace HB := Aside0.mk (below_step HB.out hbb)
 clear hbb y0 y1 y2 y3
 clear z0 z1 z2 z3 z4 z5 z6 z7 z8 z9 z10 z11 z12 z13 z14
 obtain ⟨z0, z1, z2, z3, z4, z5, z6, z7, z8, z9, z10, z11, z12, z13, z14⟩ := RfC.cells15 hb.out
 have y0 : w7.cell? ⟨gl, 0, none⟩ = some (.string k) := blk_cell hg.out 0
 have y1 : w7.cell? ⟨gl, 1, none⟩ = some (.int .u64 wt) := blk_cell hg.out 1
 have y2 : w7.cell? ⟨gl, 2, none⟩ = some (.int .i64 t) := blk_cell hg.out 2
 have y3 : w7.cell? ⟨gl, 3, none⟩ = some (.string bo) := blk_cell hg.out 3
 rw [hs]
 go_wp2_with (fail)
 go_ret2
 exact ⟨rfl, by repeat (first | exact HB.out | apply below_alloc | apply pw_below_drewN | apply below_drew1)⟩
set_option maxHeartbeats 8000000 in
set_option maxRecDepth 100000 in
theorem RfC.l1 (hi lo id par : Int) (nm : ByteArray) (st en : Int) (bad : Bool) (A : Option Addr) (c : Nat) (l : List S36) (rv : Int) (k : ByteArray) (wt t : Int) (bo : ByteArray) (w : World) (hr : Kd.C k36 w A l.length l) (hc : l.length ≤ c) (h1 : 0 ≤ hi ∧ hi < 18446744073709551616) (h2 : 0 ≤ lo ∧ lo < 18446744073709551616) (h3 : 0 ≤ id ∧ id < 18446744073709551616) (h4 : 0 ≤ par ∧ par < 18446744073709551616) (h5 : 0 ≤ rv ∧ rv < 18446744073709551616) (hl : l.length ≤ 100000) (hnm : nm.size ≤ 9000000000000000) (hkk : k.size ≤ 9000000000000000) (hz : ∀ a ∈ l, a.f0.size ≤ 9000000000000000) (hs : Itm.rightLog k wt t bo = true) (hE : item_empty.f hi lo id par nm st en bad l rv = some false) :
  Calls Try.prog 17 #[.agg #[.int .u8 2, .int .u64 hi, .int .u64 lo, .int .u64 id, .int .u64 par, .string nm, .int .i64 st, .int .i64 en, .bool bad, .slice A l.length c, .int .u64 rv, .string k, .int .u64 wt, .int .i64 t, .string bo]] w fun e w' => e = .returned (.tuple #[.slice none 0 0, .int .i64 40]) ∧ Below w.heap.size w w' := by
 replace hr := Aside0.mk hr
 replace hz := Aside0.mk hz
 have HB := Aside0.mk (below_alloc (Below.refl w.heap.size w) (.cells #[.int .u8 2, .int .u64 hi, .int .u64 lo, .int .u64 id, .int .u64 par, .string nm, .int .i64 st, .int .i64 en, .bool bad, .slice A l.length c, .int .u64 rv, .string k, .int .u64 wt, .int .i64 t, .string bo] 38 (0, 0)))
 have hb := Aside0.mk (blk_new w (.cells #[.int .u8 2, .int .u64 hi, .int .u64 lo, .int .u64 id, .int .u64 par, .string nm, .int .i64 st, .int .i64 en, .bool bad, .slice A l.length c, .int .u64 rv, .string k, .int .u64 wt, .int .i64 t, .string bo] 38 (0, 0)))
 have hu38 := Try.underlying38
 go_enter Try.func17, Try.ntmps17
 go_upto_region 1 with (fail)
 generalize w.alloc (.cells #[.int .u8 2, .int .u64 hi, .int .u64 lo, .int .u64 id, .int .u64 par, .string nm, .int .i64 st, .int .i64 en, .bool bad, .slice A l.length c, .int .u64 rv, .string k, .int .u64 wt, .int .i64 t, .string bo] 38 (0, 0)) = w5 at *
 obtain ⟨z0, z1, z2, z3, z4, z5, z6, z7, z8, z9, z10, z11, z12, z13, z14⟩ := RfC.cells15 hb.out
 go_upto_region 4 with (fail)
 have hg := Aside0.mk (blk_new w5 (.cells #[.string k, .int .u64 wt, .int .i64 t, .string bo] 29 (0, 0)))
 replace HB := Aside0.mk (below_alloc HB.out (.cells #[.string k, .int .u64 wt, .int .i64 t, .string bo] 29 (0, 0)))
 replace hb := Aside0.mk (blk_alloc hb.out (.cells #[.string k, .int .u64 wt, .int .i64 t, .string bo] 29 (0, 0)))
 have hng := Aside0.mk (blk_lt hg.out)
 clear z0 z1 z2 z3 z4 z5 z6 z7 z8 z9 z10 z11 z12 z13 z14
 obtain ⟨gl, hgl⟩ : ∃ gl, gl = w5.heap.size := ⟨_, rfl⟩
 rw [← hgl] at hg ⊢
 generalize w5.alloc (.cells #[.string k, .int .u64 wt, .int .i64 t, .string bo] 29 (0, 0)) = w6 at *
 clear hgl
 obtain ⟨z0, z1, z2, z3, z4, z5, z6, z7, z8, z9, z10, z11, z12, z13, z14⟩ := RfC.cells15 hb.out
 have y0 : w6.cell? ⟨gl, 0, none⟩ = some (.string k) := blk_cell hg.out 0
 have y1 : w6.cell? ⟨gl, 1, none⟩ = some (.int .u64 wt) := blk_cell hg.out 1
 have y2 : w6.cell? ⟨gl, 2, none⟩ = some (.int .i64 t) := blk_cell hg.out 2
 have y3 : w6.cell? ⟨gl, 3, none⟩ = some (.string bo) := blk_cell hg.out 3
 go_wp2_with (fail)
 refine (RfN.log_calls k wt t bo _ hkk).mono ?_
 rintro e w7 ⟨rfl, hbb⟩
 replace hb := Aside0.mk (blk_below hb.out hbb)
 replace hg := Aside0.mk (blk_below hg.out hbb)
 replace HB := Aside0.mk (below_step HB.out hbb)
 clear hbb y0 y1 y2 y3
 clear z0 z1 z2 z3 z4 z5 z6 z7 z8 z9 z10 z11 z12 z13 z14
 obtain ⟨z0, z1, z2, z3, z4, z5, z6, z7, z8, z9, z10, z11, z12, z13, z14⟩ := RfC.cells15 hb.out
 have y0 : w7.cell? ⟨gl, 0, none⟩ = some (.string k) := blk_cell hg.out 0
 have y1 : w7.cell? ⟨gl, 1, none⟩ = some (.int .u64 wt) := blk_cell hg.out 1
 have y2 : w7.cell? ⟨gl, 2, none⟩ = some (.int .i64 t) := blk_cell hg.out 2
 have y3 : w7.cell? ⟨gl, 3, none⟩ = some (.string bo) := blk_cell hg.out 3
 rw [hs]
 go_wp2_with (fail)
 refine (RfN.nothing_calls hi lo id par nm st en bad A c l rv false _ h1 h2 h3 h4 h5 hE).mono ?_
 rintro e w8 ⟨rfl, hbb⟩
 replace hb := Aside0.mk (blk_below hb.out hbb)
 replace hg := Aside0.mk (blk_below hg.out hbb)
 replace HB := Aside0.mk (below_step HB.out hbb)
 clear hbb y0 y1 y2 y3
 clear z0 z1 z2 z3 z4 z5 z6 z7 z8 z9 z10 z11 z12 z13 z14
 obtain ⟨z0, z1, z2, z3, z4, z5, z6, z7, z8, z9, z10, z11, z12, z13, z14⟩ := RfC.cells15 hb.out
 have y0 : w8.cell? ⟨gl, 0, none⟩ = some (.string k) := blk_cell hg.out 0
 have y1 : w8.cell? ⟨gl, 1, none⟩ = some (.int .u64 wt) := blk_cell hg.out 1
 have y2 : w8.cell? ⟨gl, 2, none⟩ = some (.int .i64 t) := blk_cell hg.out 2
 have y3 : w8.cell? ⟨gl, 3, none⟩ = some (.string bo) := blk_cell hg.out 3
 go_wp2_with (fail)
 go_ret2
 exact ⟨rfl, by repeat (first | exact HB.out | apply below_alloc | apply pw_below_drewN | apply below_drew1)⟩
set_option maxHeartbeats 8000000 in
set_option maxRecDepth 100000 in
theorem RfC.sp (hi lo id par : Int) (nm : ByteArray) (st en : Int) (bad : Bool) (A : Option Addr) (c : Nat) (l : List S36) (rv : Int) (w : World) (hr : Kd.C k36 w A l.length l) (hc : l.length ≤ c) (h1 : 0 ≤ hi ∧ hi < 18446744073709551616) (h2 : 0 ≤ lo ∧ lo < 18446744073709551616) (h3 : 0 ≤ id ∧ id < 18446744073709551616) (h4 : 0 ≤ par ∧ par < 18446744073709551616) (h5 : 0 ≤ rv ∧ rv < 18446744073709551616) (hl : l.length ≤ 100000) (hnm : nm.size ≤ 9000000000000000) (hz : ∀ a ∈ l, a.f0.size ≤ 9000000000000000) (hs : Itm.rightSpan hi lo id nm st en l rv = true) :
  Calls Try.prog 17 #[.agg #[.int .u8 1, .int .u64 hi, .int .u64 lo, .int .u64 id, .int .u64 par, .string nm, .int .i64 st, .int .i64 en, .bool bad, .slice A l.length c, .int .u64 rv, .string ⟨#[]⟩, .int .u64 0, .int .i64 0, .string ⟨#[]⟩]] w fun e w' => ∃ v : Value, e = .returned (.tuple #[v, .int .i64 0]) ∧ Kd.R (Kd.int .u8) 5 w' w.heap.size (fun _ => True) v (1 :: Itm.spanL hi lo id par nm st en bad l rv) ∧ Below w.heap.size w w' := by
 replace hr := Aside0.mk hr
 replace hz := Aside0.mk hz
 have HB := Aside0.mk (below_alloc (Below.refl w.heap.size w) (.cells #[.int .u8 1, .int .u64 hi, .int .u64 lo, .int .u64 id, .int .u64 par, .string nm, .int .i64 st, .int .i64 en, .bool bad, .slice A l.length c, .int .u64 rv, .string ⟨#[]⟩, .int .u64 0, .int .i64 0, .string ⟨#[]⟩] 38 (0, 0)))
 have hb := Aside0.mk (blk_new w (.cells #[.int .u8 1, .int .u64 hi, .int .u64 lo, .int .u64 id, .int .u64 par, .string nm, .int .i64 st, .int .i64 en, .bool bad, .slice A l.length c, .int .u64 rv, .string ⟨#[]⟩, .int .u64 0, .int .i64 0, .string ⟨#[]⟩] 38 (0, 0)))
 have hu38 := Try.underlying38
 go_enter Try.func17, Try.ntmps17
 go_upto_region 1 with (fail)
 generalize w.alloc (.cells #[.int .u8 1, .int .u64 hi, .int .u64 lo, .int .u64 id, .int .u64 par, .string nm, .int .i64 st, .int .i64 en, .bool bad, .slice A l.length c, .int .u64 rv, .string ⟨#[]⟩, .int .u64 0, .int .i64 0, .string ⟨#[]⟩] 38 (0, 0)) = w5 at *
 obtain ⟨z0, z1, z2, z3, z4, z5, z6, z7, z8, z9, z10, z11, z12, z13, z14⟩ := RfC.cells15 hb.out
 go_wp2_with (fail)
 refine (RfR.right_calls hi lo id par nm st en bad A c l rv _ (Kd.C_below hr.out HB.out) hc h1 h2 hl hnm hz.out).mono ?_
 rintro e w6 ⟨rfl, hbb⟩
 replace hb := Aside0.mk (blk_below hb.out hbb)
 replace HB := Aside0.mk (below_step HB.out hbb)
 clear hbb
 clear z0 z1 z2 z3 z4 z5 z6 z7 z8 z9 z10 z11 z12 z13 z14
 obtain ⟨z0, z1, z2, z3, z4, z5, z6, z7, z8, z9, z10, z11, z12, z13, z14⟩ := RfC.cells15 hb.out
 rw [hs]
 obtain ⟨p1, p2, p3, p4, p5⟩ := Itm.right_parts hs
 replace p5 := Aside0.mk p5
 go_wp2_with (fail)
 refine (RfP.span_calls hi lo id par nm st en bad A c l rv _ (Kd.C_below hr.out HB.out) hc h1 h2 h3 h4 h5 p1 p2 p3 p4 p5.out).mono ?_
 rintro e w7 ⟨v, rfl, ho, hbb⟩
 replace ho := Aside0.mk (Kd.R_lower ho HB.out.size)
 replace HB := Aside0.mk (below_step HB.out hbb)
 clear hbb
 clear z0 z1 z2 z3 z4 z5 z6 z7 z8 z9 z10 z11 z12 z13 z14
 go_wp2_with (fail)
 go_ret2
 exact ⟨v, rfl, ho.out, HB.out⟩
def RfC.T6 : Bool × List (List Nat × List Nat) := (true, [([], []), ([], []), ([1], [1]), ([2], [2]), ([], []), ([4], [4]), ([5, 3], [5]), ([], []), ([7], [7]), ([8], [8]), ([9, 6], [9]), ([], []), ([11], [11]), ([12, 10], [12]), ([0, 3, 6, 10, 13], [0, 3, 6, 10, 13]), ([14, 13], [14]), ([15, 15, 0, 1, 2, 3, 4, 5, 6, 7, 8, 9, 10, 11, 12, 13, 14, 15], [15]), ([16, 0, 1, 2, 3, 4, 5, 6, 7, 8, 9, 10, 11, 12, 13, 14, 15, 16], [])])
theorem RfC.T6_tab : rtab .any (opsOf Try.f17 6) = RfC.T6 := by kernel_rfl
def RfC.T6.B : List Nat := [0, 0, 2, 6, 0, 16, 62, 0, 128, 384, 1022, 0, 2048, 8190, 16383, 32767, 65535, 131071]
theorem RfC.T6_bits : waitsOk RfC.T6.2 RfC.T6.B = true := by kernel_rfl
set_option maxHeartbeats 8000000 in
set_option maxRecDepth 100000 in
theorem RfC.lo (hi lo id par : Int) (nm : ByteArray) (st en : Int) (bad : Bool) (A : Option Addr) (c : Nat) (l : List S36) (rv : Int) (k : ByteArray) (wt t : Int) (bo : ByteArray) (w : World) (hr : Kd.C k36 w A l.length l) (hc : l.length ≤ c) (h1 : 0 ≤ hi ∧ hi < 18446744073709551616) (h2 : 0 ≤ lo ∧ lo < 18446744073709551616) (h3 : 0 ≤ id ∧ id < 18446744073709551616) (h4 : 0 ≤ par ∧ par < 18446744073709551616) (h5 : 0 ≤ rv ∧ rv < 18446744073709551616) (hl : l.length ≤ 100000) (hnm : nm.size ≤ 9000000000000000) (hkk : k.size ≤ 9000000000000000) (hz : ∀ a ∈ l, a.f0.size ≤ 9000000000000000) (hs : Itm.rightLog k wt t bo = true) (hE : item_empty.f hi lo id par nm st en bad l rv = some true) :
  Calls Try.prog 17 #[.agg #[.int .u8 2, .int .u64 hi, .int .u64 lo, .int .u64 id, .int .u64 par, .string nm, .int .i64 st, .int .i64 en, .bool bad, .slice A l.length c, .int .u64 rv, .string k, .int .u64 wt, .int .i64 t, .string bo]] w fun e w' => ∃ v : Value, e = .returned (.tuple #[v, .int .i64 0]) ∧ Kd.R (Kd.int .u8) 5 w' w.heap.size (fun _ => True) v (2 :: Itm.logL k wt t bo) ∧ Below w.heap.size w w' := by
 replace hr := Aside0.mk hr
 replace hz := Aside0.mk hz
 have HB := Aside0.mk (below_alloc (Below.refl w.heap.size w) (.cells #[.int .u8 2, .int .u64 hi, .int .u64 lo, .int .u64 id, .int .u64 par, .string nm, .int .i64 st, .int .i64 en, .bool bad, .slice A l.length c, .int .u64 rv, .string k, .int .u64 wt, .int .i64 t, .string bo] 38 (0, 0)))
 have hb := Aside0.mk (blk_new w (.cells #[.int .u8 2, .int .u64 hi, .int .u64 lo, .int .u64 id, .int .u64 par, .string nm, .int .i64 st, .int .i64 en, .bool bad, .slice A l.length c, .int .u64 rv, .string k, .int .u64 wt, .int .i64 t, .string bo] 38 (0, 0)))
 have hu38 := Try.underlying38
 go_enter Try.func17, Try.ntmps17
 go_upto_region 1 with (fail)
 generalize w.alloc (.cells #[.int .u8 2, .int .u64 hi, .int .u64 lo, .int .u64 id, .int .u64 par, .string nm, .int .i64 st, .int .i64 en, .bool bad, .slice A l.length c, .int .u64 rv, .string k, .int .u64 wt, .int .i64 t, .string bo] 38 (0, 0)) = w5 at *
 obtain ⟨z0, z1, z2, z3, z4, z5, z6, z7, z8, z9, z10, z11, z12, z13, z14⟩ := RfC.cells15 hb.out
 go_upto_region 4 with (fail)
 have hg := Aside0.mk (blk_new w5 (.cells #[.string k, .int .u64 wt, .int .i64 t, .string bo] 29 (0, 0)))
 replace HB := Aside0.mk (below_alloc HB.out (.cells #[.string k, .int .u64 wt, .int .i64 t, .string bo] 29 (0, 0)))
 replace hb := Aside0.mk (blk_alloc hb.out (.cells #[.string k, .int .u64 wt, .int .i64 t, .string bo] 29 (0, 0)))
 have hng := Aside0.mk (blk_lt hg.out)
 clear z0 z1 z2 z3 z4 z5 z6 z7 z8 z9 z10 z11 z12 z13 z14
 obtain ⟨gl, hgl⟩ : ∃ gl, gl = w5.heap.size := ⟨_, rfl⟩
 rw [← hgl] at hg ⊢
 generalize w5.alloc (.cells #[.string k, .int .u64 wt, .int .i64 t, .string bo] 29 (0, 0)) = w6 at *
 clear hgl
 obtain ⟨z0, z1, z2, z3, z4, z5, z6, z7, z8, z9, z10, z11, z12, z13, z14⟩ := RfC.cells15 hb.out
 have y0 : w6.cell? ⟨gl, 0, none⟩ = some (.string k) := blk_cell hg.out 0
 have y1 : w6.cell? ⟨gl, 1, none⟩ = some (.int .u64 wt) := blk_cell hg.out 1
 have y2 : w6.cell? ⟨gl, 2, none⟩ = some (.int .i64 t) := blk_cell hg.out 2
 have y3 : w6.cell? ⟨gl, 3, none⟩ = some (.string bo) := blk_cell hg.out 3
 go_wp2_with (fail)
 refine (RfN.log_calls k wt t bo _ hkk).mono ?_
 rintro e w7 ⟨rfl, hbb⟩
 replace hb := Aside0.mk (blk_below hb.out hbb)
 replace hg := Aside0.mk (blk_below hg.out hbb)
 replace HB := Aside0.mk (below_step HB.out hbb)
 clear hbb y0 y1 y2 y3
 clear z0 z1 z2 z3 z4 z5 z6 z7 z8 z9 z10 z11 z12 z13 z14
 obtain ⟨z0, z1, z2, z3, z4, z5, z6, z7, z8, z9, z10, z11, z12, z13, z14⟩ := RfC.cells15 hb.out
 have y0 : w7.cell? ⟨gl, 0, none⟩ = some (.string k) := blk_cell hg.out 0
 have y1 : w7.cell? ⟨gl, 1, none⟩ = some (.int .u64 wt) := blk_cell hg.out 1
 have y2 : w7.cell? ⟨gl, 2, none⟩ = some (.int .i64 t) := blk_cell hg.out 2
 have y3 : w7.cell? ⟨gl, 3, none⟩ = some (.string bo) := blk_cell hg.out 3
 rw [hs]
 go_wp2_with (fail)
 refine (RfN.nothing_calls hi lo id par nm st en bad A c l rv true _ h1 h2 h3 h4 h5 hE).mono ?_
 rintro e w8 ⟨rfl, hbb⟩
 replace hb := Aside0.mk (blk_below hb.out hbb)
 replace hg := Aside0.mk (blk_below hg.out hbb)
 replace HB := Aside0.mk (below_step HB.out hbb)
 clear hbb y0 y1 y2 y3
 clear z0 z1 z2 z3 z4 z5 z6 z7 z8 z9 z10 z11 z12 z13 z14
 obtain ⟨z0, z1, z2, z3, z4, z5, z6, z7, z8, z9, z10, z11, z12, z13, z14⟩ := RfC.cells15 hb.out
 have y0 : w8.cell? ⟨gl, 0, none⟩ = some (.string k) := blk_cell hg.out 0
 have y1 : w8.cell? ⟨gl, 1, none⟩ = some (.int .u64 wt) := blk_cell hg.out 1
 have y2 : w8.cell? ⟨gl, 2, none⟩ = some (.int .i64 t) := blk_cell hg.out 2
 have y3 : w8.cell? ⟨gl, 3, none⟩ = some (.string bo) := blk_cell hg.out 3
 obtain ⟨p1, p2, p3, p4⟩ := Itm.log_parts hs
 have ws : IntKind.u64.wrap t = t := wrap_u64_id (by omega) (by omega)
 have HJ := Aside0.mk (RfC.log_joined k wt t bo p1 p2 p3 p4)
 go_upto_region 6 with (fail)
 clear y0 y1 y2 y3
 clear z0 z1 z2 z3 z4 z5 z6 z7 z8 z9 z10 z11 z12 z13 z14
 clear hb
 have hb := hg
 clear hg
 replace hb := Aside0.mk (blk_drew hb.out)
 replace HB := Aside0.mk (below_drew1 HB.out)
 refine start_ (n := 18) (S := fun w' => True) (ds := []) #[false, false, false, false, false, false, false, false, false, false, false, false, false, false, false, false, false, false] (by kernel_rfl) rfl rfl trivial (fun hHeld => ?_); refine with_tabW RfC.T6_tab RfC.T6_bits (fun HT_ HW_ => ?_)
 generalize w8.drew = w15 at hb HB hHeld ⊢
 clear hHeld
 refine pure_ (i := 1) (N := (some 39)) (v := ?_) (a' := ?_) #[false, true, false, false, false, false, false, false, false, false, false, false, false, false, false, false, false, false] rfl rfl (any_of HT_.out (by kernel_rfl)) (fun _ _ _ h => h) (Or.inl ⟨by rfl, ?_⟩) ?_ ?_
 rotate_left
 ·intro w'
  go_simp
  with_reducible rfl
 rotate_left
 ·simp only [ps_]
  rfl
 refine pure_ (i := 4) (N := (some 42)) (v := ?_) (a' := ?_) #[false, true, false, false, true, false, false, false, false, false, false, false, false, false, false, false, false, false] rfl rfl (any_of HT_.out (by kernel_rfl)) (fun _ _ _ h => h) (Or.inl ⟨by rfl, ?_⟩) ?_ ?_
 rotate_left
 ·intro w'
  go_simp
  with_reducible rfl
 rotate_left
 ·simp only [ps_]
  rfl
 refine pure_ (i := 7) (N := (some 45)) (v := ?_) (a' := ?_) #[false, true, false, false, true, false, false, true, false, false, false, false, false, false, false, false, false, false] rfl rfl (any_of HT_.out (by kernel_rfl)) (fun _ _ _ h => h) (Or.inl ⟨by rfl, ?_⟩) ?_ ?_
 rotate_left
 ·intro w'
  go_simp
  with_reducible rfl
 rotate_left
 ·simp only [ps_]
  rfl
 refine pure_ (i := 11) (N := (some 49)) (v := ?_) (a' := ?_) #[false, true, false, false, true, false, false, true, false, false, false, true, false, false, false, false, false, false] rfl rfl (any_of HT_.out (by kernel_rfl)) (fun _ _ _ h => h) (Or.inl ⟨by rfl, ?_⟩) ?_ ?_
 rotate_left
 ·intro w'
  go_simp
  with_reducible rfl
 rotate_left
 ·simp only [ps_]
  rfl
 refine inv_at [0, 2, 3, 5, 6, 8, 9, 10, 12, 13, 14, 15, 16, 17] (fun a0_ b a w' => ∃ V : Nat → Value, a = putSel a0_ b [(0, 38, V 0), (2, 40, .string k), (3, 41, V 3), (5, 43, .int .u64 wt), (6, 44, V 6), (8, 46, .int .i64 t), (9, 47, .int .u64 (IntKind.u64.wrap (t))), (10, 48, V 10), (12, 50, .string bo), (13, 51, V 13), (14, 52, V 14), (15, 53, V 15), (16, 2, V 16), (17, 3, .int .i64 0)] ∧ (w'.heap[gl]? = some (.cells #[.string k, .int .u64 wt, .int .i64 t, .string bo] 29 (0, 0))) ∧ Below w.heap.size w w' ∧ RfL.rows w w' b 14 V [(0, ([2] : List Int)), (3, (Itm.txt 1 k)), (6, (Itm.num 2 wt)), (10, (Itm.num 3 t)), (13, (Itm.txt 4 bo))] ∧ (b 14 = true → Kd.N (Kd.slice 5 (Kd.int .u8)) 22 w' w.heap.size (fun k_ => k_ ≠ gl) (V 14) ([([2] : List Int), (Itm.txt 1 k), (Itm.num 2 wt), (Itm.num 3 t), (Itm.txt 4 bo)] : List (List Int))) ∧ (b 16 = true → V 16 = V 15) ∧ (b 15 = true → Kd.R (Kd.int .u8) 5 w' w.heap.size (fun _ => True) (V 15) (2 :: Itm.logL k wt t bo))) HT_.out HW_.out (by kernel_rfl) (by kernel_rfl) ?_ ?_ ?_
 ·exact ⟨fun _ => .bool false, by simp only [putSel, Bool.false_eq_true, if_false], hb.out, HB.out, RfL.rows_none, fun h_ => absurd h_ (by decide), fun h_ => absurd h_ (by decide), fun h_ => absurd h_ (by decide)⟩
 ·clear hb HB
  refine steps_cons ?_ ?_
  ·rintro b a w' ⟨V, ha, hB, HB, hr, hN, hX, hJ⟩ hb_ hon hoff
   replace ha := Aside0.mk ha
   refine ⟨_, rfl, fun K hK => ?_⟩
   refine Kd.R_lit_step (Kd.int .u8) w'.heap.size 5 ?hg (N := 38) ?hd (xs := ([2] : List Int)) (inner := [.int .u8 2]) (ok := fun _ => True) (okp := fun _ => True) ?hr ?hp (fun _ hk => hk) trivial (Below.refl _ _) (Nat.le_refl _) (by simp) ?_; (case hd => rfl); (case hg => rfl); (case hr => first | (go_simp; done) | (go_simp; rfl)); (case hp => exact (Reps.one (show Kd.M (Kd.int .u8) _ _ _ 2 [.int .u8 2] from rfl) (Reps.none _ _)))
   intro v w2 ho0 hb _ _
   exact hK.out _ _ ⟨RfL.upd V 0 v, by rw [ha.out]; exact putSel_upk 0 hb_ rfl rfl rfl, blk_below hB hb, below_step HB hb, RfL.rows_call hr hb 0 HB.size ho0 (by simp), fun h_ => absurd ((hoff 14 (by kernel_rfl)).symm.trans h_) (by decide), fun h_ => absurd ((hoff 16 (by kernel_rfl)).symm.trans h_) (by decide), fun h_ => absurd ((hoff 15 (by kernel_rfl)).symm.trans h_) (by decide)⟩
  refine steps_cons ?_ ?_
  ·rintro b a w' ⟨V, ha, hB, HB, hr, hN, hX, hJ⟩ hb_ hon hoff
   replace ha := Aside0.mk ha
   refine ⟨_, rfl, fun K hK => ?_⟩
   have eA : a.tmps[39]? = some (.pointer (some ⟨gl, 0, none⟩)) := by rw [ha.out]; exact (putSel_off rfl).trans rfl
   have hc_ : w'.cell? ⟨gl, 0, none⟩ = some (.string k) := (blk_cell hB 0).trans rfl
   refine value_ (w1 := w') (v := .string k) (by rfl) rfl ?_ ?_
   ·go_simp
    try rfl
   exact hK.out _ _ ⟨V, by rw [ha.out]; exact putSel_upk 1 hb_ rfl rfl rfl, hB, HB, RfL.rows_load hr 2 (by simp), fun h_ => absurd ((hoff 14 (by kernel_rfl)).symm.trans h_) (by decide), fun h_ => absurd ((hoff 16 (by kernel_rfl)).symm.trans h_) (by decide), fun h_ => absurd ((hoff 15 (by kernel_rfl)).symm.trans h_) (by decide)⟩
  refine steps_cons ?_ ?_
  ·rintro b a w' ⟨V, ha, hB, HB, hr, hN, hX, hJ⟩ hb_ hon hoff
   replace ha := Aside0.mk ha
   refine ⟨_, rfl, fun K hK => ?_⟩
   have eA : a.tmps[40]? = some (.string k) := by rw [ha.out]; exact putSel_on (e := (2, 40, .string k)) 1 rfl rfl (hon 2 (by kernel_rfl)) rfl
   refine goes_ Try.func32 (by kernel_rfl) rfl #[.int .i64 1, .string k] (by rfl) rfl rfl (by first | (simp only [List.map_toArray, List.map_cons, List.map_nil, Act.eval, Array.getD_eq_getD_getElem?, Option.getD_some, eA]; done) | (simp only [List.map_toArray, List.map_cons, List.map_nil, Act.eval, Array.getD_eq_getD_getElem?, Option.getD_some, eA]; rfl)) ?_
   refine (RfL.text 1 k _ (by omega) (by omega)).mono ?_
   rintro e w2 ⟨v, rfl, ho0, hb⟩
   refine ⟨_, rfl, ?_⟩
   exact hK.out _ _ ⟨RfL.upd V 3 v, by rw [ha.out]; exact putSel_upk 2 hb_ rfl rfl rfl, blk_below hB hb, below_step HB hb, RfL.rows_call hr hb 3 HB.size ho0 (by simp), fun h_ => absurd ((hoff 14 (by kernel_rfl)).symm.trans h_) (by decide), fun h_ => absurd ((hoff 16 (by kernel_rfl)).symm.trans h_) (by decide), fun h_ => absurd ((hoff 15 (by kernel_rfl)).symm.trans h_) (by decide)⟩
  refine steps_cons ?_ ?_
  ·rintro b a w' ⟨V, ha, hB, HB, hr, hN, hX, hJ⟩ hb_ hon hoff
   replace ha := Aside0.mk ha
   refine ⟨_, rfl, fun K hK => ?_⟩
   have eA : a.tmps[42]? = some (.pointer (some ⟨gl, 1, none⟩)) := by rw [ha.out]; exact (putSel_off rfl).trans rfl
   have hc_ : w'.cell? ⟨gl, 1, none⟩ = some (.int .u64 wt) := (blk_cell hB 1).trans rfl
   refine value_ (w1 := w') (v := .int .u64 wt) (by rfl) rfl ?_ ?_
   ·go_simp
    try rfl
   exact hK.out _ _ ⟨V, by rw [ha.out]; exact putSel_upk 3 hb_ rfl rfl rfl, hB, HB, RfL.rows_load hr 5 (by simp), fun h_ => absurd ((hoff 14 (by kernel_rfl)).symm.trans h_) (by decide), fun h_ => absurd ((hoff 16 (by kernel_rfl)).symm.trans h_) (by decide), fun h_ => absurd ((hoff 15 (by kernel_rfl)).symm.trans h_) (by decide)⟩
  refine steps_cons ?_ ?_
  ·rintro b a w' ⟨V, ha, hB, HB, hr, hN, hX, hJ⟩ hb_ hon hoff
   replace ha := Aside0.mk ha
   refine ⟨_, rfl, fun K hK => ?_⟩
   have eA : a.tmps[43]? = some (.int .u64 wt) := by rw [ha.out]; exact putSel_on (e := (5, 43, .int .u64 wt)) 3 rfl rfl (hon 5 (by kernel_rfl)) rfl
   refine goes_ Try.func33 (by kernel_rfl) rfl #[.int .i64 2, .int .u64 wt] (by rfl) rfl rfl (by first | (simp only [List.map_toArray, List.map_cons, List.map_nil, Act.eval, Array.getD_eq_getD_getElem?, Option.getD_some, eA]; done) | (simp only [List.map_toArray, List.map_cons, List.map_nil, Act.eval, Array.getD_eq_getD_getElem?, Option.getD_some, eA]; rfl)) ?_
   refine (RfL.number 2 wt _ (by omega) (by omega)).mono ?_
   rintro e w2 ⟨v, rfl, ho0, hb⟩
   refine ⟨_, rfl, ?_⟩
   exact hK.out _ _ ⟨RfL.upd V 6 v, by rw [ha.out]; exact putSel_upk 4 hb_ rfl rfl rfl, blk_below hB hb, below_step HB hb, RfL.rows_call hr hb 6 HB.size ho0 (by simp), fun h_ => absurd ((hoff 14 (by kernel_rfl)).symm.trans h_) (by decide), fun h_ => absurd ((hoff 16 (by kernel_rfl)).symm.trans h_) (by decide), fun h_ => absurd ((hoff 15 (by kernel_rfl)).symm.trans h_) (by decide)⟩
  refine steps_cons ?_ ?_
  ·rintro b a w' ⟨V, ha, hB, HB, hr, hN, hX, hJ⟩ hb_ hon hoff
   replace ha := Aside0.mk ha
   refine ⟨_, rfl, fun K hK => ?_⟩
   have eA : a.tmps[45]? = some (.pointer (some ⟨gl, 2, none⟩)) := by rw [ha.out]; exact (putSel_off rfl).trans rfl
   have hc_ : w'.cell? ⟨gl, 2, none⟩ = some (.int .i64 t) := (blk_cell hB 2).trans rfl
   refine value_ (w1 := w') (v := .int .i64 t) (by rfl) rfl ?_ ?_
   ·go_simp
    try rfl
   exact hK.out _ _ ⟨V, by rw [ha.out]; exact putSel_upk 5 hb_ rfl rfl rfl, hB, HB, RfL.rows_load hr 8 (by simp), fun h_ => absurd ((hoff 14 (by kernel_rfl)).symm.trans h_) (by decide), fun h_ => absurd ((hoff 16 (by kernel_rfl)).symm.trans h_) (by decide), fun h_ => absurd ((hoff 15 (by kernel_rfl)).symm.trans h_) (by decide)⟩
  refine steps_cons ?_ ?_
  ·rintro b a w' ⟨V, ha, hB, HB, hr, hN, hX, hJ⟩ hb_ hon hoff
   replace ha := Aside0.mk ha
   refine ⟨_, rfl, fun K hK => ?_⟩
   have eA : a.tmps[46]? = some (.int .i64 t) := by rw [ha.out]; exact putSel_on (e := (8, 46, .int .i64 t)) 5 rfl rfl (hon 8 (by kernel_rfl)) rfl
   refine value_ (w1 := w') (v := .int .u64 (IntKind.u64.wrap (t))) (by rfl) rfl ?_ ?_
   ·go_simp
    try rfl
   exact hK.out _ _ ⟨V, by rw [ha.out]; exact putSel_upk 6 hb_ rfl rfl rfl, hB, HB, RfL.rows_load hr 9 (by simp), fun h_ => absurd ((hoff 14 (by kernel_rfl)).symm.trans h_) (by decide), fun h_ => absurd ((hoff 16 (by kernel_rfl)).symm.trans h_) (by decide), fun h_ => absurd ((hoff 15 (by kernel_rfl)).symm.trans h_) (by decide)⟩
  refine steps_cons ?_ ?_
  ·rintro b a w' ⟨V, ha, hB, HB, hr, hN, hX, hJ⟩ hb_ hon hoff
   replace ha := Aside0.mk ha
   refine ⟨_, rfl, fun K hK => ?_⟩
   have eA : a.tmps[47]? = some (.int .u64 (IntKind.u64.wrap (t))) := by rw [ha.out]; exact putSel_on (e := (9, 47, .int .u64 (IntKind.u64.wrap (t)))) 6 rfl rfl (hon 9 (by kernel_rfl)) rfl
   rw [ws] at eA
   refine goes_ Try.func33 (by kernel_rfl) rfl #[.int .i64 3, .int .u64 t] (by rfl) rfl rfl (by first | (simp only [List.map_toArray, List.map_cons, List.map_nil, Act.eval, Array.getD_eq_getD_getElem?, Option.getD_some, eA]; done) | (simp only [List.map_toArray, List.map_cons, List.map_nil, Act.eval, Array.getD_eq_getD_getElem?, Option.getD_some, eA]; rfl)) ?_
   refine (RfL.number 3 t _ (by omega) (by omega)).mono ?_
   rintro e w2 ⟨v, rfl, ho0, hb⟩
   refine ⟨_, rfl, ?_⟩
   exact hK.out _ _ ⟨RfL.upd V 10 v, by rw [ha.out]; exact putSel_upk 7 hb_ rfl rfl rfl, blk_below hB hb, below_step HB hb, RfL.rows_call hr hb 10 HB.size ho0 (by simp), fun h_ => absurd ((hoff 14 (by kernel_rfl)).symm.trans h_) (by decide), fun h_ => absurd ((hoff 16 (by kernel_rfl)).symm.trans h_) (by decide), fun h_ => absurd ((hoff 15 (by kernel_rfl)).symm.trans h_) (by decide)⟩
  refine steps_cons ?_ ?_
  ·rintro b a w' ⟨V, ha, hB, HB, hr, hN, hX, hJ⟩ hb_ hon hoff
   replace ha := Aside0.mk ha
   refine ⟨_, rfl, fun K hK => ?_⟩
   have eA : a.tmps[49]? = some (.pointer (some ⟨gl, 3, none⟩)) := by rw [ha.out]; exact (putSel_off rfl).trans rfl
   have hc_ : w'.cell? ⟨gl, 3, none⟩ = some (.string bo) := (blk_cell hB 3).trans rfl
   refine value_ (w1 := w') (v := .string bo) (by rfl) rfl ?_ ?_
   ·go_simp
    try rfl
   exact hK.out _ _ ⟨V, by rw [ha.out]; exact putSel_upk 8 hb_ rfl rfl rfl, hB, HB, RfL.rows_load hr 12 (by simp), fun h_ => absurd ((hoff 14 (by kernel_rfl)).symm.trans h_) (by decide), fun h_ => absurd ((hoff 16 (by kernel_rfl)).symm.trans h_) (by decide), fun h_ => absurd ((hoff 15 (by kernel_rfl)).symm.trans h_) (by decide)⟩
  refine steps_cons ?_ ?_
  ·rintro b a w' ⟨V, ha, hB, HB, hr, hN, hX, hJ⟩ hb_ hon hoff
   replace ha := Aside0.mk ha
   refine ⟨_, rfl, fun K hK => ?_⟩
   have eA : a.tmps[50]? = some (.string bo) := by rw [ha.out]; exact putSel_on (e := (12, 50, .string bo)) 8 rfl rfl (hon 12 (by kernel_rfl)) rfl
   refine goes_ Try.func32 (by kernel_rfl) rfl #[.int .i64 4, .string bo] (by rfl) rfl rfl (by first | (simp only [List.map_toArray, List.map_cons, List.map_nil, Act.eval, Array.getD_eq_getD_getElem?, Option.getD_some, eA]; done) | (simp only [List.map_toArray, List.map_cons, List.map_nil, Act.eval, Array.getD_eq_getD_getElem?, Option.getD_some, eA]; rfl)) ?_
   refine (RfL.text 4 bo _ (by omega) (by omega)).mono ?_
   rintro e w2 ⟨v, rfl, ho0, hb⟩
   refine ⟨_, rfl, ?_⟩
   exact hK.out _ _ ⟨RfL.upd V 13 v, by rw [ha.out]; exact putSel_upk 9 hb_ rfl rfl rfl, blk_below hB hb, below_step HB hb, RfL.rows_call hr hb 13 HB.size ho0 (by simp), fun h_ => absurd ((hoff 14 (by kernel_rfl)).symm.trans h_) (by decide), fun h_ => absurd ((hoff 16 (by kernel_rfl)).symm.trans h_) (by decide), fun h_ => absurd ((hoff 15 (by kernel_rfl)).symm.trans h_) (by decide)⟩
  refine steps_cons ?_ ?_
  ·rintro b a w' ⟨V, ha, hB, HB, hr, hN, hX, hJ⟩ hb_ hon hoff
   replace ha := Aside0.mk ha
   refine ⟨_, rfl, fun K hK => ?_⟩
   have h0 := hr (0, ([2] : List Int)) (by simp) (hon 0 (by kernel_rfl)) hb_
   obtain ⟨A0, c0, e0⟩ := Kd.R_slice h0
   rw [show V (0, ([2] : List Int)).1 = .slice A0 (([2] : List Int)).length c0 from e0] at h0
   have t0 : a.tmps[38]? = some (.slice A0 (([2] : List Int)).length c0) := by rw [ha.out]; exact (putSel_on (e := (0, 38, V 0)) 0 rfl rfl (hon 0 (by kernel_rfl)) rfl).trans (congrArg some e0)
   have h1 := hr (3, (Itm.txt 1 k)) (by simp) (hon 3 (by kernel_rfl)) hb_
   obtain ⟨A1, c1, e1⟩ := Kd.R_slice h1
   rw [show V (3, (Itm.txt 1 k)).1 = .slice A1 ((Itm.txt 1 k)).length c1 from e1] at h1
   have t1 : a.tmps[41]? = some (.slice A1 ((Itm.txt 1 k)).length c1) := by rw [ha.out]; exact (putSel_on (e := (3, 41, V 3)) 2 rfl rfl (hon 3 (by kernel_rfl)) rfl).trans (congrArg some e1)
   have h2 := hr (6, (Itm.num 2 wt)) (by simp) (hon 6 (by kernel_rfl)) hb_
   obtain ⟨A2, c2, e2⟩ := Kd.R_slice h2
   rw [show V (6, (Itm.num 2 wt)).1 = .slice A2 ((Itm.num 2 wt)).length c2 from e2] at h2
   have t2 : a.tmps[44]? = some (.slice A2 ((Itm.num 2 wt)).length c2) := by rw [ha.out]; exact (putSel_on (e := (6, 44, V 6)) 4 rfl rfl (hon 6 (by kernel_rfl)) rfl).trans (congrArg some e2)
   have h3 := hr (10, (Itm.num 3 t)) (by simp) (hon 10 (by kernel_rfl)) hb_
   obtain ⟨A3, c3, e3⟩ := Kd.R_slice h3
   rw [show V (10, (Itm.num 3 t)).1 = .slice A3 ((Itm.num 3 t)).length c3 from e3] at h3
   have t3 : a.tmps[48]? = some (.slice A3 ((Itm.num 3 t)).length c3) := by rw [ha.out]; exact (putSel_on (e := (10, 48, V 10)) 7 rfl rfl (hon 10 (by kernel_rfl)) rfl).trans (congrArg some e3)
   have h4 := hr (13, (Itm.txt 4 bo)) (by simp) (hon 13 (by kernel_rfl)) hb_
   obtain ⟨A4, c4, e4⟩ := Kd.R_slice h4
   rw [show V (13, (Itm.txt 4 bo)).1 = .slice A4 ((Itm.txt 4 bo)).length c4 from e4] at h4
   have t4 : a.tmps[51]? = some (.slice A4 ((Itm.txt 4 bo)).length c4) := by rw [ha.out]; exact (putSel_on (e := (13, 51, V 13)) 9 rfl rfl (hon 13 (by kernel_rfl)) rfl).trans (congrArg some e4)
   refine Kd.N_lit_step (Kd.slice 5 (Kd.int .u8)) w'.heap.size 22 ?hg (N' := 52) ?hd (xs := ([([2] : List Int), (Itm.txt 1 k), (Itm.num 2 wt), (Itm.num 3 t), (Itm.txt 4 bo)] : List (List Int))) (inner := [.slice A0 (([2] : List Int)).length c0, .slice A1 ((Itm.txt 1 k)).length c1, .slice A2 ((Itm.num 2 wt)).length c2, .slice A3 ((Itm.num 3 t)).length c3, .slice A4 ((Itm.txt 4 bo)).length c4]) (ok := (fun k_ => k_ ≠ gl)) (okp := (fun k_ => k_ ≠ gl)) ?hr ?hp (fun _ hk => hk) (Kd.freshB hB _ (Nat.le_refl _)) (Below.refl _ _) (Nat.le_refl _) (by simp) ?_; (case hd => rfl); (case hg => rfl); (case hr => first | (go_simp; done) | (go_simp; rfl)); (case hp => exact Reps.one (show Kd.FK (Kd.slice 5 (Kd.int .u8)) _ _ ([2] : List Int) [.slice A0 (([2] : List Int)).length c0] from RfL.fk h0 hB (by decide) rfl) (Reps.one (show Kd.FK (Kd.slice 5 (Kd.int .u8)) _ _ (Itm.txt 1 k) [.slice A1 ((Itm.txt 1 k)).length c1] from RfL.fk h1 hB (by decide) rfl) (Reps.one (show Kd.FK (Kd.slice 5 (Kd.int .u8)) _ _ (Itm.num 2 wt) [.slice A2 ((Itm.num 2 wt)).length c2] from RfL.fk h2 hB (by decide) rfl) (Reps.one (show Kd.FK (Kd.slice 5 (Kd.int .u8)) _ _ (Itm.num 3 t) [.slice A3 ((Itm.num 3 t)).length c3] from RfL.fk h3 hB (by decide) rfl) (Reps.one (show Kd.FK (Kd.slice 5 (Kd.int .u8)) _ _ (Itm.txt 4 bo) [.slice A4 ((Itm.txt 4 bo)).length c4] from RfL.fk h4 hB (by decide) rfl) (Reps.none _ _))))))
   intro v w2 ho0 hb _ _
   exact hK.out _ _ ⟨RfL.upd V 14 v, by rw [ha.out]; exact putSel_upk 10 hb_ rfl rfl rfl, blk_below hB hb, below_step HB hb, RfL.rows_fin (up_self b 14), fun _ => Kd.N_lower ho0 HB.size, fun h_ => absurd ((hoff 16 (by kernel_rfl)).symm.trans h_) (by decide), fun h_ => absurd ((hoff 15 (by kernel_rfl)).symm.trans h_) (by decide)⟩
  refine steps_cons ?_ ?_
  ·rintro b a w' ⟨V, ha, hB, HB, hr, hN, hX, hJ⟩ hb_ hon hoff
   replace ha := Aside0.mk ha
   refine ⟨_, rfl, fun K hK => ?_⟩
   have hn_ := hN (hon 14 (by kernel_rfl))
   obtain ⟨A9, c9, e9⟩ := Kd.N_slice hn_
   have eA : a.tmps[52]? = some (.slice A9 ([([2] : List Int), (Itm.txt 1 k), (Itm.num 2 wt), (Itm.num 3 t), (Itm.txt 4 bo)] : List (List Int)).length c9) := by rw [ha.out]; exact (putSel_on (e := (14, 52, V 14)) 10 rfl rfl (hon 14 (by kernel_rfl)) rfl).trans (congrArg some e9)
   rw [e9] at hn_
   refine goes_ Try.func31 (by kernel_rfl) rfl #[.slice A9 ([([2] : List Int), (Itm.txt 1 k), (Itm.num 2 wt), (Itm.num 3 t), (Itm.txt 4 bo)] : List (List Int)).length c9] (by rfl) rfl rfl (by first | (simp only [List.map_toArray, List.map_cons, List.map_nil, Act.eval, Array.getD_eq_getD_getElem?, Option.getD_some, eA]; done) | (simp only [List.map_toArray, List.map_cons, List.map_nil, Act.eval, Array.getD_eq_getD_getElem?, Option.getD_some, eA]; rfl)) ?_
   refine (telemeterref03_joined.calls 100 A9 c9 [([2] : List Int), (Itm.txt 1 k), (Itm.num 2 wt), (Itm.num 3 t), (Itm.txt 4 bo)] _ w' (Kd.N_reads' hn_).2.2 (Kd.N_reads' hn_).2.1 HJ.out).mono ?_
   rintro e w2 ⟨v, rfl, ho0, hb⟩
   refine ⟨_, rfl, ?_⟩
   exact hK.out _ _ ⟨RfL.upd V 15 v, by rw [ha.out]; exact putSel_upk 11 hb_ rfl rfl rfl, blk_below hB hb, below_step HB hb, RfL.rows_fin ((up_ne (by decide)).trans (hon 14 (by kernel_rfl))), fun _ => Kd.N_below (hN (hon 14 (by kernel_rfl))) hb, fun h_ => absurd ((hoff 16 (by kernel_rfl)).symm.trans h_) (by decide), fun _ => Kd.R_lower ho0 HB.size⟩
  refine steps_cons ?_ ?_
  ·rintro b a w' ⟨V, ha, hB, HB, hr, hN, hX, hJ⟩ hb_ hon hoff
   replace ha := Aside0.mk ha
   refine ⟨_, rfl, fun K hK => ?_⟩
   have eA : a.tmps[53]? = some (V 15) := by rw [ha.out]; exact putSel_on (e := (15, 53, V 15)) 11 rfl rfl (hon 15 (by kernel_rfl)) rfl
   refine value_ (w1 := w') (v := V 15) (by rfl) rfl ?_ ?_
   ·go_simp
    try rfl
   exact hK.out _ _ ⟨RfL.upd V 16 (V 15), by rw [ha.out]; exact putSel_upk 12 hb_ rfl rfl rfl, hB, HB, RfL.rows_fin ((up_ne (by decide)).trans (hon 14 (by kernel_rfl))), fun _ => hN (hon 14 (by kernel_rfl)), fun _ => rfl, fun _ => hJ (hon 15 (by kernel_rfl))⟩
  refine steps_cons ?_ ?_
  ·rintro b a w' ⟨V, ha, hB, HB, hr, hN, hX, hJ⟩ hb_ hon hoff
   replace ha := Aside0.mk ha
   refine ⟨_, rfl, fun K hK => ?_⟩
   refine value_ (w1 := w') (v := .int .i64 0) (by rfl) rfl ?_ ?_
   ·go_simp
    try rfl
   exact hK.out _ _ ⟨V, by rw [ha.out]; exact putSel_upk 13 hb_ rfl rfl rfl, hB, HB, RfL.rows_fin ((up_ne (by decide)).trans (hon 14 (by kernel_rfl))), fun _ => hN (hon 14 (by kernel_rfl)), fun _ => hX (hon 16 (by kernel_rfl)), fun _ => hJ (hon 15 (by kernel_rfl))⟩
  exact steps_nil
 rintro b a w6_ hall ⟨V, ha, hB6, HB6, _, hN6, hX6, hJ6⟩
 have hb0_ := hall 0 (by kernel_rfl)
 have hb2_ := hall 2 (by kernel_rfl)
 have hb3_ := hall 3 (by kernel_rfl)
 have hb5_ := hall 5 (by kernel_rfl)
 have hb6_ := hall 6 (by kernel_rfl)
 have hb8_ := hall 8 (by kernel_rfl)
 have hb9_ := hall 9 (by kernel_rfl)
 have hb10_ := hall 10 (by kernel_rfl)
 have hb12_ := hall 12 (by kernel_rfl)
 have hb13_ := hall 13 (by kernel_rfl)
 have hb14_ := hall 14 (by kernel_rfl)
 have hb15_ := hall 15 (by kernel_rfl)
 have hb16_ := hall 16 (by kernel_rfl)
 have hb17_ := hall 17 (by kernel_rfl)
 subst ha
 replace hX6 := hX6 hb16_
 replace hN6 := hN6 hb14_
 replace hJ6 := hJ6 hb15_
 simp only [putSel, hb0_, hb2_, hb3_, hb5_, hb6_, hb8_, hb9_, hb10_, hb12_, hb13_, hb14_, hb15_, hb16_, hb17_, if_true, Act.put, List.setIfInBounds_toArray, List.set_cons_zero, List.set_cons_succ]
 rw [hX6]
 clear hall hX6 hb0_ hb2_ hb3_ hb5_ hb6_ hb8_ hb9_ hb10_ hb12_ hb13_ hb14_ hb15_ hb16_ hb17_
 go_wp2_with (fail)
 go_ret2
 exact ⟨_, rfl, hJ6, HB6⟩
def telemeterref03_Encode.f (kd hi lo id par : Int) (nm : ByteArray) (st en : Int) (bad : Bool) (l : List S36) (rv : Int) (k : ByteArray) (wt t : Int) (bo : ByteArray) : Option (List Int × Int) := if l.length ≤ 100000 then item_Encode.f kd hi lo id par nm st en bad l rv k wt t bo else none
theorem RfC.encode_calls (kd hi lo id par : Int) (nm : ByteArray) (st en : Int) (bad : Bool) (A : Option Addr) (c : Nat) (l : List S36) (rv : Int) (k : ByteArray) (wt t : Int) (bo : ByteArray) (r1 : List Int) (r2 : Int) (w : World) (hr : Kd.C k36 w A l.length l) (hc : l.length ≤ c) (h : telemeterref03_Encode.f kd hi lo id par nm st en bad l rv k wt t bo = some (r1, r2)) :
  Calls Try.prog 17 #[.agg #[.int .u8 kd, .int .u64 hi, .int .u64 lo, .int .u64 id, .int .u64 par, .string nm, .int .i64 st, .int .i64 en, .bool bad, .slice A l.length c, .int .u64 rv, .string k, .int .u64 wt, .int .i64 t, .string bo]] w fun e w' => ∃ v0_ : Value, e = .returned (.tuple #[v0_, .int .i64 r2]) ∧ Kd.R (Kd.int .u8) 5 w' w.heap.size (fun _ => True) v0_ r1 ∧ Below w.heap.size w w' := by
 unfold telemeterref03_Encode.f at h
 split at h
 ·rename_i hl
  unfold item_Encode.f at h
  by_cases hg : Itm.enG hi lo id par nm l rv k wt = true
  ·rw [if_pos hg] at h
   unfold Itm.enG at hg
   simp only [Bool.and_eq_true, Itm.u64B_iff, Itm.bigB_iff, List.all_eq_true] at hg
   obtain ⟨h1, h2, h3, h4, h5, g6, g7, g8, g9⟩ := hg
   have hz : ∀ a ∈ l, a.f0.size ≤ 9000000000000000 := fun a ha => Nat.le_trans (g9 a ha) (by decide)
   have hnm : nm.size ≤ 9000000000000000 := Nat.le_trans g7 (by decide)
   have hkk : k.size ≤ 9000000000000000 := Nat.le_trans g8 (by decide)
   have herr : ∀ {r1 : List Int} {r2 : Int}, some (([] : List Int), (40 : Int)) = some (r1, r2) → (Calls Try.prog 17 #[.agg #[.int .u8 kd, .int .u64 hi, .int .u64 lo, .int .u64 id, .int .u64 par, .string nm, .int .i64 st, .int .i64 en, .bool bad, .slice A l.length c, .int .u64 rv, .string k, .int .u64 wt, .int .i64 t, .string bo]] w fun e w' => e = .returned (.tuple #[.slice none 0 0, .int .i64 40]) ∧ Below w.heap.size w w') → Calls Try.prog 17 #[.agg #[.int .u8 kd, .int .u64 hi, .int .u64 lo, .int .u64 id, .int .u64 par, .string nm, .int .i64 st, .int .i64 en, .bool bad, .slice A l.length c, .int .u64 rv, .string k, .int .u64 wt, .int .i64 t, .string bo]] w fun e w' => ∃ v0_ : Value, e = .returned (.tuple #[v0_, .int .i64 r2]) ∧ Kd.R (Kd.int .u8) 5 w' w.heap.size (fun _ => True) v0_ r1 ∧ Below w.heap.size w w' := by
    intro r1 r2 he hcall
    injection he with he
    injection he with he1 he2
    subst he1; subst he2
    exact hcall.mono fun e w' ⟨h1, h2⟩ => ⟨_, h1, Kd.R_nil _ _ _ _ _, h2⟩
   by_cases c1 : kd = 1
   ·rw [if_pos c1] at h
    subst c1
    cases hs : Itm.rightSpan hi lo id nm st en l rv with
    | false =>
     rw [if_neg (by rw [hs]; simp)] at h
     exact herr h (RfC.s0 hi lo id par nm st en bad A c l rv k wt t bo w hr hc h1 h2 h3 h4 h5 hl hnm hkk hz hs)
    | true =>
     by_cases hq : k.toList = [] ∧ wt = 0 ∧ t = 0 ∧ bo.toList = []
     ·rw [if_pos ⟨hs, hq⟩] at h
      obtain ⟨z1, rfl, rfl, z4⟩ := hq
      obtain rfl := Itm.size_nil z1
      obtain rfl := Itm.size_nil z4
      injection h with h
      injection h with he1 he2
      subst he1; subst he2
      exact RfC.sp hi lo id par nm st en bad A c l rv w hr hc h1 h2 h3 h4 h5 hl hnm hz hs
     ·rw [if_neg (fun hh => hq hh.2)] at h
      exact herr h (RfC.s1 hi lo id par nm st en bad A c l rv k wt t bo w hr hc h1 h2 h3 h4 h5 hl hnm hkk hz hs hq)
   ·rw [if_neg c1] at h
    by_cases c2 : kd = 2
    ·rw [if_pos c2] at h
     subst c2
     cases hs : Itm.rightLog k wt t bo with
     | false =>
      rw [if_neg (by rw [hs]; simp)] at h
      exact herr h (RfC.l0 hi lo id par nm st en bad A c l rv k wt t bo w hr hc h1 h2 h3 h4 h5 hl hnm hkk hz hs)
     | true =>
      by_cases hq : item_empty.f hi lo id par nm st en bad l rv = some true
      ·rw [if_pos ⟨hs, hq⟩] at h
       injection h with h
       injection h with he1 he2
       subst he1; subst he2
       exact RfC.lo hi lo id par nm st en bad A c l rv k wt t bo w hr hc h1 h2 h3 h4 h5 hl hnm hkk hz hs hq
      ·rw [if_neg (fun hh => hq hh.2)] at h
       exact herr h (RfC.l1 hi lo id par nm st en bad A c l rv k wt t bo w hr hc h1 h2 h3 h4 h5 hl hnm hkk hz hs (Itm.empty_some _ _ _ _ _ _ _ _ _ _ hq))
    ·rw [if_neg c2] at h
     exact herr h (RfC.kd kd hi lo id par nm st en bad A c l rv k wt t bo w hr hc h1 h2 h3 h4 h5 hl hnm hkk hz c1 c2)
  ·rw [if_neg hg] at h; cases h
 ·cases h
end Go.Proofs.Ytfapckmobeppnaa.Px
