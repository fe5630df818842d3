/- reads, by hand: the package's Decode and the document's tell the same of any bytes. -/
import Derived.Test.YtfapckmobeppnaaDec
import Derived.Test.YtfapckmobeppnaaSame
namespace Go.Proofs.Ytfapckmobeppnaa.Px
open Go.RowKit Go.Proofs.YtfapckmobeppnaaW.PrintWords Go.Proofs.YtfapckmobeppnaaW.PrintLast Go.Proofs.YtfapckmobeppnaaW.PrintMore
set_option linter.unusedVariables false
set_option linter.unusedSimpArgs false

set_option maxHeartbeats 8000000 in
set_option maxRecDepth 100000 in
theorem RfE.reads (A : Option Addr) (c : Nat) (L : List Int) (w : World) (hr : Kd.C (Kd.int .u8) w A L.length L) (hc : L.length ≤ c) (hb : bytesP L) (hl : L.length ≤ 100000) :
  Calls Try.prog 18 #[.slice A L.length c] w fun e w' => e = .returned (.bool true) ∧ Below w.heap.size w w' := by
 obtain ⟨y, e0, hd, he⟩ := ItX.dec_total L hb hl
 replace he : e0 = 0 ∨ e0 = 40 := by rcases he with ⟨h, _⟩ | ⟨h, _⟩ <;> omega
 have hs1 : wrap64 e0 = e0 := by rcases he with rfl | rfl <;> exact wrap64_id (by omega) (by omega)
 have hs2 : IntKind.i64.wrap e0 = e0 := by rcases he with rfl | rfl <;> decide
 clear he
 replace hr := Aside0.mk hr
 replace hb := Aside0.mk hb
 replace hd := Aside0.mk hd
 have hu38 := Try.underlying38
 go_enter Try.func18, Try.ntmps18
 go_wp2_with (fail)
 refine (Itm.Decode_calls A c L y e0 w hr.out hc hd.out).mono ?_
 rintro e w1 ⟨v1, rfl, hN1, hB1⟩
 obtain ⟨A1, c1, e1⟩ := Kd.R_slice hN1
 subst e1
 have HB := Aside0.mk (below_alloc hB1 (.cells #[.int .u8 y.kd, .int .u64 y.hi, .int .u64 y.lo, .int .u64 y.id, .int .u64 y.par, .string y.nm, .int .i64 y.st, .int .i64 y.en, .bool y.bad, .slice A1 y.ats.length c1, .int .u64 y.rv, .string y.k, .int .u64 y.wt, .int .i64 y.t, .string y.b] 38 (0, 0)))
 have hX := Aside0.mk (blk_new w1 (.cells #[.int .u8 y.kd, .int .u64 y.hi, .int .u64 y.lo, .int .u64 y.id, .int .u64 y.par, .string y.nm, .int .i64 y.st, .int .i64 y.en, .bool y.bad, .slice A1 y.ats.length c1, .int .u64 y.rv, .string y.k, .int .u64 y.wt, .int .i64 y.t, .string y.b] 38 (0, 0)))
 have hR1 := Aside0.mk (Kd.R_alloc hN1 (.cells #[.int .u8 y.kd, .int .u64 y.hi, .int .u64 y.lo, .int .u64 y.id, .int .u64 y.par, .string y.nm, .int .i64 y.st, .int .i64 y.en, .bool y.bad, .slice A1 y.ats.length c1, .int .u64 y.rv, .string y.k, .int .u64 y.wt, .int .i64 y.t, .string y.b] 38 (0, 0)))
 clear hB1 hN1
 go_upto_region 2 with (fail)
 obtain ⟨g1, hg1⟩ : ∃ g1, g1 = w1.heap.size := ⟨_, rfl⟩
 rw [← hg1] at hX ⊢
 generalize w1.alloc (.cells #[.int .u8 y.kd, .int .u64 y.hi, .int .u64 y.lo, .int .u64 y.id, .int .u64 y.par, .string y.nm, .int .i64 y.st, .int .i64 y.en, .bool y.bad, .slice A1 y.ats.length c1, .int .u64 y.rv, .string y.k, .int .u64 y.wt, .int .i64 y.t, .string y.b] 38 (0, 0)) = w2 at *
 clear hg1
 go_wp2_with (fail)
 refine (RfD.decode_calls A c L y e0 w2 (Kd.C_below hr.out HB.out) hc hb.out hl hd.out).mono ?_
 rintro e w3 ⟨v3, rfl, hN3, hB3⟩
 obtain ⟨A3, c3, e3⟩ := Kd.R_slice hN3
 subst e3
 replace HB := Aside0.mk (below_alloc (below_step HB.out hB3) (.cells #[.int .u8 y.kd, .int .u64 y.hi, .int .u64 y.lo, .int .u64 y.id, .int .u64 y.par, .string y.nm, .int .i64 y.st, .int .i64 y.en, .bool y.bad, .slice A3 y.ats.length c3, .int .u64 y.rv, .string y.k, .int .u64 y.wt, .int .i64 y.t, .string y.b] 38 (0, 0)))
 replace hX := Aside0.mk (blk_alloc (blk_below hX.out hB3) (.cells #[.int .u8 y.kd, .int .u64 y.hi, .int .u64 y.lo, .int .u64 y.id, .int .u64 y.par, .string y.nm, .int .i64 y.st, .int .i64 y.en, .bool y.bad, .slice A3 y.ats.length c3, .int .u64 y.rv, .string y.k, .int .u64 y.wt, .int .i64 y.t, .string y.b] 38 (0, 0)))
 replace hR1 := Aside0.mk (Kd.R_alloc (Kd.R_below hR1.out hB3) (.cells #[.int .u8 y.kd, .int .u64 y.hi, .int .u64 y.lo, .int .u64 y.id, .int .u64 y.par, .string y.nm, .int .i64 y.st, .int .i64 y.en, .bool y.bad, .slice A3 y.ats.length c3, .int .u64 y.rv, .string y.k, .int .u64 y.wt, .int .i64 y.t, .string y.b] 38 (0, 0)))
 have hY := Aside0.mk (blk_new w3 (.cells #[.int .u8 y.kd, .int .u64 y.hi, .int .u64 y.lo, .int .u64 y.id, .int .u64 y.par, .string y.nm, .int .i64 y.st, .int .i64 y.en, .bool y.bad, .slice A3 y.ats.length c3, .int .u64 y.rv, .string y.k, .int .u64 y.wt, .int .i64 y.t, .string y.b] 38 (0, 0)))
 have hR3 := Aside0.mk (Kd.R_alloc hN3 (.cells #[.int .u8 y.kd, .int .u64 y.hi, .int .u64 y.lo, .int .u64 y.id, .int .u64 y.par, .string y.nm, .int .i64 y.st, .int .i64 y.en, .bool y.bad, .slice A3 y.ats.length c3, .int .u64 y.rv, .string y.k, .int .u64 y.wt, .int .i64 y.t, .string y.b] 38 (0, 0)))
 clear hB3 hN3 hb hd hr
 go_upto_region 3 with (fail)
 obtain ⟨g3, hg3⟩ : ∃ g3, g3 = w3.heap.size := ⟨_, rfl⟩
 rw [← hg3] at hY ⊢
 generalize w3.alloc (.cells #[.int .u8 y.kd, .int .u64 y.hi, .int .u64 y.lo, .int .u64 y.id, .int .u64 y.par, .string y.nm, .int .i64 y.st, .int .i64 y.en, .bool y.bad, .slice A3 y.ats.length c3, .int .u64 y.rv, .string y.k, .int .u64 y.wt, .int .i64 y.t, .string y.b] 38 (0, 0)) = w4 at *
 clear hg3
 obtain ⟨x0_, x1_, x2_, x3_, x4_, x5_, x6_, x7_, x8_, x9_, x10_, x11_, x12_, x13_, x14_⟩ := RfC.cells15 hX.out
 obtain ⟨z0_, z1_, z2_, z3_, z4_, z5_, z6_, z7_, z8_, z9_, z10_, z11_, z12_, z13_, z14_⟩ := RfC.cells15 hY.out
 go_wp2_with (fail)
 refine (RfS.same y.kd y.hi y.lo y.id y.par y.nm y.st y.en y.bad y.ats y.rv y.k y.wt y.t y.b A1 c1 A3 c3 w4 (Kd.R_reads' hR1.out).2.2 (Kd.R_reads' hR3.out).2.2).mono ?_
 rintro e w5 ⟨rfl, hB5⟩
 go_wp2_with (fail)
 go_ret
 exact ⟨rfl, below_step HB.out hB5⟩
end Go.Proofs.Ytfapckmobeppnaa.Px
