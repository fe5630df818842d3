/- The law ItemOne's walk, by hand. -/
import Derived.Test.YtfapckmobeppnaaPx28
import Derived.Test.YtfapckmobeppnaaPx4
import Derived.Test.YtfapckmobeppnaaRefC
import Derived.Test.YtfapckmobeppnaaItmT
import Derived.Test.YtfapckmobeppnaaItmZ
namespace Go.Proofs.Ytfapckmobeppnaa.Px
open Go.RowKit Go.Proofs.YtfapckmobeppnaaW.PrintWords Go.Proofs.YtfapckmobeppnaaW.PrintLast Go.Proofs.YtfapckmobeppnaaW.PrintMore
set_option linter.unusedVariables false
set_option linter.unusedSimpArgs false


def ItW.T11 : Bool × List (List Nat × List Nat) := (true, [([], []), ([0], [0]), ([1], [1]), ([2], [2]), ([3, 2], [2, 3]), ([4, 2, 2], [2, 4]), ([2], [2]), ([6, 2], [2, 6]), ([7, 5, 2], [2, 7]), ([5, 8, 2], [2, 5, 8]), ([2, 9], [2, 9]), ([10, 8, 0, 1, 2, 3, 4, 5, 6, 7, 8, 9, 10], [10])])
theorem ItW.T11_tab : rtab .any (opsOf Try.f8 11) = ItW.T11 := by kernel_rfl
set_option maxHeartbeats 8000000 in
set_option maxRecDepth 100000 in
theorem ItW.one_calls (A0 : Option Addr) (c0 : Nat) (l0 : List Int) (A1 : Option Addr) (c1 : Nat) (l1 : List Int) (a2 a3 : Int) (w : World) (hr0 : Kd.C (Kd.int .u8) w A0 l0.length l0) (hc0 : l0.length ≤ c0) (hr1 : Kd.C (Kd.int .u8) w A1 l1.length l1) (hc1 : l1.length ≤ c1) (hb0 : bytesP l0) (hb1 : bytesP l1) (h2 : 0 ≤ a2 ∧ a2 ≤ 255) (h3 : 0 ≤ a3 ∧ a3 ≤ 255) :
  Calls Try.prog 8 #[.slice A0 l0.length c0, .slice A1 l1.length c1, .int .u8 a2, .int .u8 a3] w fun e w' => e = .returned (.bool true) ∧ Below w.heap.size w w' := by
 replace hr0 := Aside0.mk hr0
 replace hr1 := Aside0.mk hr1
 replace hb0 := Aside0.mk hb0
 replace hb1 := Aside0.mk hb1
 by_cases hbig : 300 < (l0.length : Int)
 ·have g1 : decide (300 < (l0.length : Int)) = true := decide_eq_true hbig
  have g2 : decide (300 < l0.length) = true := decide_eq_true (by omega)
  clear hbig
  go_enter Try.func8, Try.ntmps8
  go_wp2_with (fail)
  refine (Itm.known_calls' true w rfl).mono ?_
  rintro e w1 ⟨rfl, hB1⟩
  replace hB1 := Aside0.mk hB1
  go_wp2_with (fail)
  go_ret
  exact ⟨rfl, hB1.out⟩
 have g1 : decide (300 < (l0.length : Int)) = false := decide_eq_false hbig
 have g2 : decide (300 < l0.length) = false := decide_eq_false (by omega)
 obtain ⟨x, L, hI, hE, hA⟩ := ItX.item l1 hb1.out
 obtain ⟨hLb, hL2, hL5, _⟩ := ItX.enc_reach x L hE
 obtain ⟨z, g, hdz, hz⟩ := ItX.dec_total l0 hb0.out (by omega)
 obtain ⟨k, hk⟩ : ∃ k : Nat, a2 % (L.length : Int) = (k : Int) := ⟨(a2 % (L.length : Int)).toNat, by have := Int.emod_nonneg a2 (show (L.length : Int) ≠ 0 by omega); omega⟩
 have hk2 : k < L.length := by have := Int.emod_lt_of_pos a2 (show (0 : Int) < (L.length : Int) by omega); omega
 obtain ⟨M, hM⟩ : ∃ M, M = L.set k a3 := ⟨_, rfl⟩
 have hMl : M.length = L.length := by rw [hM, List.length_set]
 have hMb : bytesP M := by
  rw [hM]
  intro y hy
  rcases List.mem_or_eq_of_mem_set hy with hy | rfl
  ·exact hLb y hy
  ·exact h3
 obtain ⟨y, e0, hdy, hy⟩ := ItX.dec_total M hMb (by omega)
 have hEnc : telemeterref03_Encode.f x.kd x.hi x.lo x.id x.par x.nm x.st x.en x.bad x.ats x.rv x.k x.wt x.t x.b = some (L, 0) := by unfold telemeterref03_Encode.f; rw [if_pos (by omega)]; exact hE
 have hrem : Int.tmod a2 (L.length : Int) = (k : Int) := by rw [Int.tmod_eq_emod_of_nonneg h2.1]; exact hk
 have hne : ((L.length : Int) == 0) = false := beq_eq_false_iff_ne.mpr (by omega)
 have hI0 := Aside0.mk (hI 0)
 replace hEnc := Aside0.mk hEnc
 replace hdy := Aside0.mk hdy
 replace hdz := Aside0.mk hdz
 replace hM := Aside0.mk hM
 replace hMl := Aside0.mk hMl
 clear hI hE hLb hMb hk
 go_enter Try.func8, Try.ntmps8
 go_wp2_with (fail)
 refine (Itm.known_calls' true w rfl).mono ?_
 rintro e w1 ⟨rfl, hB1⟩
 have HB := Aside0.mk hB1
 clear hB1
 go_wp2_with (fail)
 refine (telemeterlaw03_Item.calls 1 A1 c1 l1 x.kd x.hi x.lo x.id x.par x.nm x.st x.en x.bad x.ats x.rv x.k x.wt x.t x.b w1 (Kd.C_below hr1.out HB.out) hc1 hI0.out).mono ?_
 rintro e w2 ⟨v2, rfl, hN2, hB2⟩
 obtain ⟨A2, c2, e2⟩ := Kd.R_slice hN2
 subst e2
 replace hN2 := Aside0.mk hN2
 replace HB := Aside0.mk (below_step HB.out hB2)
 clear hB2
 go_wp2_with (fail)
 refine (RfC.encode_calls x.kd x.hi x.lo x.id x.par x.nm x.st x.en x.bad A2 c2 x.ats x.rv x.k x.wt x.t x.b L 0 w2 (Kd.R_reads' hN2.out).2.2 (Kd.R_reads' hN2.out).2.1 hEnc.out).mono ?_
 rintro e w3 ⟨v3, rfl, hN3, hB3⟩
 replace hN3 := Kd.R_lower hN3 HB.out.size
 replace HB := Aside0.mk (below_step HB.out hB3)
 obtain ⟨g3, c3, e3, gb3, gl3, cl3, hg3⟩ := Kd.R_form hN3 (by omega)
 subst e3
 obtain ⟨hx3, hf3⟩ := Kd.R_celln 0 hN3 ((k : Nat) : Int) (by omega) (by omega)
 have hP := Aside0.mk (Kd.R_putg hN3 ((k : Nat) : Int) a3)
 simp only [Int.toNat_natCast] at hx3 hf3
 replace gb3 := Aside0.mk gb3
 have hp0 : (0 ≤ ((k : Nat) : Int)) = True := eq_true (by omega)
 have hp1 : (((k : Nat) : Int) < (L.length : Int)) = True := eq_true (by omega)
 clear hN2 hB3 hN3 gl3 hg3 hEnc hI0
 go_upto_region 5 with (fail)
 have hM4 := hP.out.1
 simp only [Int.toNat_natCast] at hM4
 rw [← hM.out] at hM4
 replace HB := Aside0.mk (below_set (j := k) (v := .int .u8 a3) HB.out gb3.out)
 generalize w3.setCell ⟨g3, k, none⟩ (.int .u8 a3) = w4 at *
 replace hM4 := Aside0.mk hM4
 clear hP hx3 hf3
 have cD := Aside0.mk (Itm.Decode_calls (some ⟨g3, 0, none⟩) c3 M y e0 w4 (Kd.R_reads' hM4.out).2.2 (by rw [hMl.out]; exact (Kd.R_reads' hM4.out).2.1) hdy.out)
 rw [hMl.out] at cD
 go_wp2_with (fail)
 refine cD.out.mono ?_
 clear cD
 rintro e w5 ⟨v5, rfl, hN5, hB5⟩
 obtain ⟨A5, c5, e5⟩ := Kd.R_slice hN5
 subst e5
 replace HB := Aside0.mk (below_alloc (below_step HB.out hB5) (.cells #[.int .u8 y.kd, .int .u64 y.hi, .int .u64 y.lo, .int .u64 y.id, .int .u64 y.par, .string y.nm, .int .i64 y.st, .int .i64 y.en, .bool y.bad, .slice A5 y.ats.length c5, .int .u64 y.rv, .string y.k, .int .u64 y.wt, .int .i64 y.t, .string y.b] 38 (0, 0)))
 have hM6 := Aside0.mk (Kd.R_alloc (Kd.R_below hM4.out hB5) (.cells #[.int .u8 y.kd, .int .u64 y.hi, .int .u64 y.lo, .int .u64 y.id, .int .u64 y.par, .string y.nm, .int .i64 y.st, .int .i64 y.en, .bool y.bad, .slice A5 y.ats.length c5, .int .u64 y.rv, .string y.k, .int .u64 y.wt, .int .i64 y.t, .string y.b] 38 (0, 0)))
 have hY := Aside0.mk (blk_new w5 (.cells #[.int .u8 y.kd, .int .u64 y.hi, .int .u64 y.lo, .int .u64 y.id, .int .u64 y.par, .string y.nm, .int .i64 y.st, .int .i64 y.en, .bool y.bad, .slice A5 y.ats.length c5, .int .u64 y.rv, .string y.k, .int .u64 y.wt, .int .i64 y.t, .string y.b] 38 (0, 0)))
 have hN6 := Aside0.mk (Kd.R_alloc hN5 (.cells #[.int .u8 y.kd, .int .u64 y.hi, .int .u64 y.lo, .int .u64 y.id, .int .u64 y.par, .string y.nm, .int .i64 y.st, .int .i64 y.en, .bool y.bad, .slice A5 y.ats.length c5, .int .u64 y.rv, .string y.k, .int .u64 y.wt, .int .i64 y.t, .string y.b] 38 (0, 0)))
 clear hB5 hN5 hM4
 replace hz := Aside0.mk hz
 rcases hy with ⟨rfl, hYe⟩ | ⟨rfl, hyz⟩
 ·go_upto_region 7 with (fail)
  obtain ⟨gy, hgy⟩ : ∃ gy, gy = w5.heap.size := ⟨_, rfl⟩
  rw [← hgy] at hY ⊢
  generalize w5.alloc (.cells #[.int .u8 y.kd, .int .u64 y.hi, .int .u64 y.lo, .int .u64 y.id, .int .u64 y.par, .string y.nm, .int .i64 y.st, .int .i64 y.en, .bool y.bad, .slice A5 y.ats.length c5, .int .u64 y.rv, .string y.k, .int .u64 y.wt, .int .i64 y.t, .string y.b] 38 (0, 0)) = w6 at *
  clear hgy
  have y0 : w6.cell? ⟨gy, 0, none⟩ = some (.int .u8 y.kd) := blk_cell hY.out 0
  have y1 : w6.cell? ⟨gy, 1, none⟩ = some (.int .u64 y.hi) := blk_cell hY.out 1
  have y2 : w6.cell? ⟨gy, 2, none⟩ = some (.int .u64 y.lo) := blk_cell hY.out 2
  have y3 : w6.cell? ⟨gy, 3, none⟩ = some (.int .u64 y.id) := blk_cell hY.out 3
  have y4 : w6.cell? ⟨gy, 4, none⟩ = some (.int .u64 y.par) := blk_cell hY.out 4
  have y5 : w6.cell? ⟨gy, 5, none⟩ = some (.string y.nm) := blk_cell hY.out 5
  have y6 : w6.cell? ⟨gy, 6, none⟩ = some (.int .i64 y.st) := blk_cell hY.out 6
  have y7 : w6.cell? ⟨gy, 7, none⟩ = some (.int .i64 y.en) := blk_cell hY.out 7
  have y8 : w6.cell? ⟨gy, 8, none⟩ = some (.bool y.bad) := blk_cell hY.out 8
  have y9 : w6.cell? ⟨gy, 9, none⟩ = some (.slice A5 y.ats.length c5) := blk_cell hY.out 9
  have y10 : w6.cell? ⟨gy, 10, none⟩ = some (.int .u64 y.rv) := blk_cell hY.out 10
  have y11 : w6.cell? ⟨gy, 11, none⟩ = some (.string y.k) := blk_cell hY.out 11
  have y12 : w6.cell? ⟨gy, 12, none⟩ = some (.int .u64 y.wt) := blk_cell hY.out 12
  have y13 : w6.cell? ⟨gy, 13, none⟩ = some (.int .i64 y.t) := blk_cell hY.out 13
  have y14 : w6.cell? ⟨gy, 14, none⟩ = some (.string y.b) := blk_cell hY.out 14
  go_wp2_with (fail)
  refine (Itm.Encode_calls' y.kd y.hi y.lo y.id y.par y.nm y.st y.en y.bad A5 c5 y.ats y.rv y.k y.wt y.t y.b M 0 w6 (Kd.R_reads' hN6.out).2.2 (Kd.R_reads' hN6.out).2.1 hYe).mono ?_
  rintro e w7 ⟨v7, rfl, hN7, hB7⟩
  obtain ⟨A7, c7, e7⟩ := Kd.R_slice hN7
  subst e7
  have hcv := Kd.C_string (P := Try.prog) (A := A7) (c := c7) Try.underlying22 Try.underlying5 Try.underlying9 (Kd.R_reads' hN7).2.2
  have hcw := Kd.C_string (P := Try.prog) (A := some ⟨g3, 0, none⟩) (c := c3) Try.underlying22 Try.underlying5 Try.underlying9 (Kd.R_reads' (Kd.R_below hM6.out hB7)).2.2
  rw [hMl.out] at hcv hcw
  rw [hMl.out]
  replace HB := Aside0.mk (below_step HB.out hB7)
  clear hB7 hN7 hM6 hN6 hY y0 y1 y2 y3 y4 y5 y6 y7 y8 y9 y10 y11 y12 y13 y14
  go_upto_region 10 with (fail)
  clear hcv hcw
  go_wp2_with (fail)
  refine (Itm.Decode_calls A0 c0 l0 z g _ (Kd.C_below hr0.out HB.out) hc0 hdz.out).mono ?_
  rintro e w8 ⟨v8, rfl, hN8, hB8⟩
  obtain ⟨A8, c8, e8⟩ := Kd.R_slice hN8
  subst e8
  replace HB := Aside0.mk (below_alloc (below_step HB.out hB8) (.cells #[.int .u8 z.kd, .int .u64 z.hi, .int .u64 z.lo, .int .u64 z.id, .int .u64 z.par, .string z.nm, .int .i64 z.st, .int .i64 z.en, .bool z.bad, .slice A8 z.ats.length c8, .int .u64 z.rv, .string z.k, .int .u64 z.wt, .int .i64 z.t, .string z.b] 38 (0, 0)))
  have hZ := Aside0.mk (blk_new w8 (.cells #[.int .u8 z.kd, .int .u64 z.hi, .int .u64 z.lo, .int .u64 z.id, .int .u64 z.par, .string z.nm, .int .i64 z.st, .int .i64 z.en, .bool z.bad, .slice A8 z.ats.length c8, .int .u64 z.rv, .string z.k, .int .u64 z.wt, .int .i64 z.t, .string z.b] 38 (0, 0)))
  have hN9 := Aside0.mk (Kd.R_alloc hN8 (.cells #[.int .u8 z.kd, .int .u64 z.hi, .int .u64 z.lo, .int .u64 z.id, .int .u64 z.par, .string z.nm, .int .i64 z.st, .int .i64 z.en, .bool z.bad, .slice A8 z.ats.length c8, .int .u64 z.rv, .string z.k, .int .u64 z.wt, .int .i64 z.t, .string z.b] 38 (0, 0)))
  clear hB8 hN8
  rcases hz.out with ⟨rfl, hZe⟩ | ⟨rfl, hzz⟩
  ·obtain ⟨_, ⟨s1, s2, s3, s4⟩, hx⟩ := ItO.small hZe
   replace hx := Aside0.mk hx
   replace s4 := Aside0.mk s4
   clear hZe
   go_upto_region 11 with (fail)
   obtain ⟨gz, hgz⟩ : ∃ gz, gz = w8.heap.size := ⟨_, rfl⟩
   rw [← hgz] at hZ ⊢
   generalize w8.alloc (.cells #[.int .u8 z.kd, .int .u64 z.hi, .int .u64 z.lo, .int .u64 z.id, .int .u64 z.par, .string z.nm, .int .i64 z.st, .int .i64 z.en, .bool z.bad, .slice A8 z.ats.length c8, .int .u64 z.rv, .string z.k, .int .u64 z.wt, .int .i64 z.t, .string z.b] 38 (0, 0)) = w9 at *
   clear hgz
   have hrs : (Itm.rightSpan z.hi z.lo z.id z.nm z.st z.en z.ats z.rv != Itm.rightLog z.k z.wt z.t z.b) = true := by rcases hx.out with ⟨h1, h2⟩ | ⟨h1, h2⟩ <;> rw [h1, h2] <;> rfl
   clear hx
   replace hZ := Aside0.mk (blk_drew hZ.out)
   replace HB := Aside0.mk (below_drew1 HB.out)
   replace hN9 := Aside0.mk (Kd.R_drew hN9.out)
   refine start_ (n := 12) (S := fun w' => w'.cell? ⟨gz, 0, none⟩ = some (.int .u8 z.kd) ∧ w'.cell? ⟨gz, 1, none⟩ = some (.int .u64 z.hi) ∧ w'.cell? ⟨gz, 2, none⟩ = some (.int .u64 z.lo) ∧ w'.cell? ⟨gz, 3, none⟩ = some (.int .u64 z.id) ∧ w'.cell? ⟨gz, 4, none⟩ = some (.int .u64 z.par) ∧ w'.cell? ⟨gz, 5, none⟩ = some (.string z.nm) ∧ w'.cell? ⟨gz, 6, none⟩ = some (.int .i64 z.st) ∧ w'.cell? ⟨gz, 7, none⟩ = some (.int .i64 z.en) ∧ w'.cell? ⟨gz, 8, none⟩ = some (.bool z.bad) ∧ w'.cell? ⟨gz, 9, none⟩ = some (.slice A8 z.ats.length c8) ∧ w'.cell? ⟨gz, 10, none⟩ = some (.int .u64 z.rv) ∧ w'.cell? ⟨gz, 11, none⟩ = some (.string z.k) ∧ w'.cell? ⟨gz, 12, none⟩ = some (.int .u64 z.wt) ∧ w'.cell? ⟨gz, 13, none⟩ = some (.int .i64 z.t) ∧ w'.cell? ⟨gz, 14, none⟩ = some (.string z.b)) (ds := []) #[false, false, false, false, false, false, false, false, false, false, false, false] (by kernel_rfl) rfl rfl (RfC.cells15 hZ.out) (fun hHeld => ?_)
   refine with_tab ItW.T11_tab (fun HT_ => ?_)
   generalize w9.drew = w10 at hZ HB hN9 hHeld ⊢
   refine pure_ (i := 0) (N := (some 65)) (v := ?_) (a' := ?_) #[true, false, false, false, false, false, false, false, false, false, false, false] rfl rfl (any_of HT_.out (by kernel_rfl)) (fun _ _ _ h => h) (Or.inl ⟨by rfl, ?_⟩) ?_ ?_
   rotate_left
   ·intro w'
    go_simp
    with_reducible rfl
   rotate_left
   ·simp only [ps_]
    rfl
   refine pure_ (i := 1) (N := (some 66)) (v := .bool false) (a' := ?_) #[true, true, false, false, false, false, false, false, false, false, false, false] rfl rfl (any_of HT_.out (by kernel_rfl)) (fun _ _ _ h => h) (Or.inl ⟨by rfl, ?_⟩) ?_ ?_
   ·intro w'
    go_simp
    first | done | with_reducible rfl | rfl | (exact bne_iff_ne.mp hrs) | (simp [*]; done)
   rotate_left
   ·simp only [ps_]
    rfl
   refine pure_ (i := 2) (N := (some 67)) (v := .bool false) (a' := ?_) #[true, true, true, false, false, false, false, false, false, false, false, false] rfl rfl (any_of HT_.out (by kernel_rfl)) (fun _ _ _ h => h) (Or.inl ⟨by rfl, ?_⟩) ?_ ?_
   ·intro w'
    go_simp
    first | done | with_reducible rfl | rfl | (exact bne_iff_ne.mp hrs) | (simp [*]; done)
   rotate_left
   ·simp only [ps_]
    rfl
   refine pure_ (i := 3) (N := (some 68)) (v := ?_) (a' := ?_) #[true, true, true, true, false, false, false, false, false, false, false, false] rfl rfl (any_of HT_.out (by kernel_rfl)) (fun _ _ _ h => h) (Or.inl ⟨by rfl, ?_⟩) ?_ ?_
   rotate_left
   ·intro w'
    go_simp
    with_reducible rfl
   rotate_left
   ·simp only [ps_]
    rfl
   refine take_ (i := 4) (N := (some 69)) (v := ?_) (a' := ?_) #[true, true, true, true, true, false, false, false, false, false, false, false] rfl rfl (take_of HT_.out (by kernel_rfl)) (fun _ _ _ h => h) (Or.inl ⟨by rfl, ?_⟩) hHeld ?_ ?_
   rotate_left
   ·rintro w' ⟨s0_, s1_, s2_, s3_, s4_, s5_, s6_, s7_, s8_, s9_, s10_, s11_, s12_, s13_, s14_⟩
    go_simp
    with_reducible rfl
   rotate_left
   ·simp only [ps_]
    rfl
   refine pure_ (i := 6) (N := (some 71)) (v := ?_) (a' := ?_) #[true, true, true, true, true, false, true, false, false, false, false, false] rfl rfl (any_of HT_.out (by kernel_rfl)) (fun _ _ _ h => h) (Or.inl ⟨by rfl, ?_⟩) ?_ ?_
   rotate_left
   ·intro w'
    go_simp
    with_reducible rfl
   rotate_left
   ·simp only [ps_]
    rfl
   refine take_ (i := 7) (N := (some 72)) (v := ?_) (a' := ?_) #[true, true, true, true, true, false, true, true, false, false, false, false] rfl rfl (take_of HT_.out (by kernel_rfl)) (fun _ _ _ h => h) (Or.inl ⟨by rfl, ?_⟩) hHeld ?_ ?_
   rotate_left
   ·rintro w' ⟨s0_, s1_, s2_, s3_, s4_, s5_, s6_, s7_, s8_, s9_, s10_, s11_, s12_, s13_, s14_⟩
    go_simp
    with_reducible rfl
   rotate_left
   ·simp only [ps_]
    rfl
   refine one_ (i := 5) (N := (some 70)) #[true, true, true, true, true, true, true, true, false, false, false, false] rfl rfl (one_of HT_.out (by kernel_rfl)) (by decide) (fun K hK => ?_)
   refine goes_ Try.func13 (by kernel_rfl) rfl #[.agg #[.int .u64 z.hi, .int .u64 z.lo, .int .u64 z.id, .int .u64 z.par, .string z.nm, .int .i64 z.st, .int .i64 z.en, .bool z.bad, .slice A8 z.ats.length c8, .int .u64 z.rv]] (by rfl) rfl rfl (by (try simp only [List.map_toArray, List.map_cons, List.map_nil]); first | done | rfl) ?_
   refine (Itm.RightSpan_calls z.hi z.lo z.id z.par z.nm z.st z.en z.bad A8 c8 z.ats z.rv w10 (Kd.R_reads' hN9.out).2.2 (Kd.R_reads' hN9.out).2.1 (fun a ha => Nat.le_trans (s4.out a ha) (by decide)) (by omega)).mono ?_
   rintro e w11 ⟨rfl, hB11⟩
   refine ⟨_, rfl, ?_⟩
   replace HB := Aside0.mk (below_step HB.out hB11)
   replace hZ := Aside0.mk (blk_below hZ.out hB11)
   clear hB11 hN9
   refine hK.out _ _ (RfC.cells15 hZ.out) (fun hHeld2 => ?_)
   clear hK K hHeld
   have hHeld := hHeld2
   clear hHeld2
   refine norm_ (a' := ?_) ?_ ?_
   rotate_left
   ·show Act.put _ (some 70) _ = _
    simp only [ps_]
    rfl
   refine one_ (i := 8) (N := (some 73)) #[true, true, true, true, true, true, true, true, true, false, false, false] rfl rfl (one_of HT_.out (by kernel_rfl)) (by decide) (fun K hK => ?_)
   refine goes_ Try.func14 (by kernel_rfl) rfl #[.agg #[.string z.k, .int .u64 z.wt, .int .i64 z.t, .string z.b]] (by rfl) rfl rfl (by (try simp only [List.map_toArray, List.map_cons, List.map_nil]); first | done | rfl) ?_
   refine (Itm.RightLog_calls z.k z.wt z.t z.b w11 (by omega)).mono ?_
   rintro e w12 ⟨rfl, hB12⟩
   refine ⟨_, rfl, ?_⟩
   replace HB := Aside0.mk (below_step HB.out hB12)
   replace hZ := Aside0.mk (blk_below hZ.out hB12)
   clear hB12
   refine hK.out _ _ (RfC.cells15 hZ.out) (fun hHeld2 => ?_)
   clear hK K hHeld
   have hHeld := hHeld2
   clear hHeld2
   refine norm_ (a' := ?_) ?_ ?_
   rotate_left
   ·show Act.put _ (some 73) _ = _
    simp only [ps_]
    rfl
   refine pure_ (i := 9) (N := (some 74)) (v := .bool true) (a' := ?_) #[true, true, true, true, true, true, true, true, true, true, false, false] rfl rfl (any_of HT_.out (by kernel_rfl)) (fun _ _ _ h => h) (Or.inl ⟨by rfl, ?_⟩) ?_ ?_
   ·intro w'
    go_simp
    first | done | with_reducible rfl | rfl | (exact bne_iff_ne.mp hrs) | (simp [*]; done)
   rotate_left
   ·simp only [ps_]
    rfl
   refine pure_ (i := 10) (N := (some 75)) (v := .bool true) (a' := ?_) #[true, true, true, true, true, true, true, true, true, true, true, false] rfl rfl (any_of HT_.out (by kernel_rfl)) (fun _ _ _ h => h) (Or.inl ⟨by rfl, ?_⟩) ?_ ?_
   ·intro w'
    go_simp
    first | done | with_reducible rfl | rfl | (exact bne_iff_ne.mp hrs) | (simp [*]; done)
   rotate_left
   ·simp only [ps_]
    rfl
   refine pure_ (i := 11) (N := (some 8)) (v := ?_) (a' := ?_) #[true, true, true, true, true, true, true, true, true, true, true, true] rfl rfl (any_of HT_.out (by kernel_rfl)) (fun _ _ _ h => h) (Or.inl ⟨by rfl, ?_⟩) ?_ ?_
   rotate_left
   ·intro w'
    go_simp
    with_reducible rfl
   rotate_left
   ·simp only [ps_]
    rfl
   refine done_ (done_of HT_.out (by kernel_rfl)) ?_
   clear HT_
   clear hHeld
   go_wp2_with (fail)
   go_ret
   exact ⟨rfl, HB.out⟩
  ·clear hzz hN9 hZ
   go_upto_region 11 with (fail)
   generalize w8.alloc (.cells #[.int .u8 z.kd, .int .u64 z.hi, .int .u64 z.lo, .int .u64 z.id, .int .u64 z.par, .string z.nm, .int .i64 z.st, .int .i64 z.en, .bool z.bad, .slice A8 z.ats.length c8, .int .u64 z.rv, .string z.k, .int .u64 z.wt, .int .i64 z.t, .string z.b] 38 (0, 0)) = w9 at *
   replace HB := Aside0.mk (below_drew1 HB.out)
   refine start_ (n := 12) (S := fun _ => True) (ds := []) #[false, false, false, false, false, false, false, false, false, false, false, false] (by kernel_rfl) rfl rfl trivial (fun hHeld => ?_)
   refine with_tab ItW.T11_tab (fun HT_ => ?_)
   refine pure_ (i := 0) (N := (some 65)) (v := ?_) (a' := ?_) #[true, false, false, false, false, false, false, false, false, false, false, false] rfl rfl (any_of HT_.out (by kernel_rfl)) (fun _ _ _ h => h) (Or.inl ⟨by rfl, ?_⟩) ?_ ?_
   rotate_left
   ·intro w'
    go_simp
    with_reducible rfl
   rotate_left
   ·simp only [ps_]
    rfl
   refine pure_ (i := 1) (N := (some 66)) (v := .bool true) (a' := ?_) #[true, true, false, false, false, false, false, false, false, false, false, false] rfl rfl (any_of HT_.out (by kernel_rfl)) (fun _ _ _ h => h) (Or.inl ⟨by rfl, ?_⟩) ?_ ?_
   ·intro w'
    go_simp
    first | done | with_reducible rfl | rfl | (exact bne_iff_ne.mp hrs) | (simp [*]; done)
   rotate_left
   ·simp only [ps_]
    rfl
   refine pure_ (i := 2) (N := (some 67)) (v := .bool true) (a' := ?_) #[true, true, true, false, false, false, false, false, false, false, false, false] rfl rfl (any_of HT_.out (by kernel_rfl)) (fun _ _ _ h => h) (Or.inl ⟨by rfl, ?_⟩) ?_ ?_
   ·intro w'
    go_simp
    first | done | with_reducible rfl | rfl | (exact bne_iff_ne.mp hrs) | (simp [*]; done)
   rotate_left
   ·simp only [ps_]
    rfl
   refine pure_ (i := 3) (N := (some 68)) (v := undef) (a' := ?_) #[true, true, true, true, false, false, false, false, false, false, false, false] rfl rfl (any_of HT_.out (by kernel_rfl)) (fun _ _ _ h => h) (Or.inr ⟨by rfl, rfl⟩) ?_ ?_
   rotate_left
   ·simp only [ps_]
    rfl
   refine pure_ (i := 4) (N := (some 69)) (v := undef) (a' := ?_) #[true, true, true, true, true, false, false, false, false, false, false, false] rfl rfl (any_of HT_.out (by kernel_rfl)) (fun _ _ _ h => h) (Or.inr ⟨by rfl, rfl⟩) ?_ ?_
   rotate_left
   ·simp only [ps_]
    rfl
   refine pure_ (i := 5) (N := (some 70)) (v := undef) (a' := ?_) #[true, true, true, true, true, true, false, false, false, false, false, false] rfl rfl (any_of HT_.out (by kernel_rfl)) (fun _ _ _ h => h) (Or.inr ⟨by rfl, rfl⟩) ?_ ?_
   rotate_left
   ·simp only [ps_]
    rfl
   refine pure_ (i := 6) (N := (some 71)) (v := undef) (a' := ?_) #[true, true, true, true, true, true, true, false, false, false, false, false] rfl rfl (any_of HT_.out (by kernel_rfl)) (fun _ _ _ h => h) (Or.inr ⟨by rfl, rfl⟩) ?_ ?_
   rotate_left
   ·simp only [ps_]
    rfl
   refine pure_ (i := 7) (N := (some 72)) (v := undef) (a' := ?_) #[true, true, true, true, true, true, true, true, false, false, false, false] rfl rfl (any_of HT_.out (by kernel_rfl)) (fun _ _ _ h => h) (Or.inr ⟨by rfl, rfl⟩) ?_ ?_
   rotate_left
   ·simp only [ps_]
    rfl
   refine pure_ (i := 8) (N := (some 73)) (v := undef) (a' := ?_) #[true, true, true, true, true, true, true, true, true, false, false, false] rfl rfl (any_of HT_.out (by kernel_rfl)) (fun _ _ _ h => h) (Or.inr ⟨by rfl, rfl⟩) ?_ ?_
   rotate_left
   ·simp only [ps_]
    rfl
   refine pure_ (i := 9) (N := (some 74)) (v := undef) (a' := ?_) #[true, true, true, true, true, true, true, true, true, true, false, false] rfl rfl (any_of HT_.out (by kernel_rfl)) (fun _ _ _ h => h) (Or.inr ⟨by rfl, rfl⟩) ?_ ?_
   rotate_left
   ·simp only [ps_]
    rfl
   refine pure_ (i := 10) (N := (some 75)) (v := .bool true) (a' := ?_) #[true, true, true, true, true, true, true, true, true, true, true, false] rfl rfl (any_of HT_.out (by kernel_rfl)) (fun _ _ _ h => h) (Or.inl ⟨by rfl, ?_⟩) ?_ ?_
   ·intro w'
    go_simp
    first | done | with_reducible rfl | rfl | (exact bne_iff_ne.mp hrs) | (simp [*]; done)
   rotate_left
   ·simp only [ps_]
    rfl
   refine pure_ (i := 11) (N := (some 8)) (v := ?_) (a' := ?_) #[true, true, true, true, true, true, true, true, true, true, true, true] rfl rfl (any_of HT_.out (by kernel_rfl)) (fun _ _ _ h => h) (Or.inl ⟨by rfl, ?_⟩) ?_ ?_
   rotate_left
   ·intro w'
    go_simp
    with_reducible rfl
   rotate_left
   ·simp only [ps_]
    rfl
   refine done_ (done_of HT_.out (by kernel_rfl)) ?_
   clear HT_
   go_wp2_with (fail)
   go_ret
   exact ⟨rfl, HB.out⟩
 ·clear hM6 hN6 hY hyz
  go_upto_region 10 with (fail)
  generalize w5.alloc (.cells #[.int .u8 y.kd, .int .u64 y.hi, .int .u64 y.lo, .int .u64 y.id, .int .u64 y.par, .string y.nm, .int .i64 y.st, .int .i64 y.en, .bool y.bad, .slice A5 y.ats.length c5, .int .u64 y.rv, .string y.k, .int .u64 y.wt, .int .i64 y.t, .string y.b] 38 (0, 0)) = w7 at *
  go_wp2_with (fail)
  refine (Itm.Decode_calls A0 c0 l0 z g _ (Kd.C_below hr0.out HB.out) hc0 hdz.out).mono ?_
  rintro e w8 ⟨v8, rfl, hN8, hB8⟩
  obtain ⟨A8, c8, e8⟩ := Kd.R_slice hN8
  subst e8
  replace HB := Aside0.mk (below_alloc (below_step HB.out hB8) (.cells #[.int .u8 z.kd, .int .u64 z.hi, .int .u64 z.lo, .int .u64 z.id, .int .u64 z.par, .string z.nm, .int .i64 z.st, .int .i64 z.en, .bool z.bad, .slice A8 z.ats.length c8, .int .u64 z.rv, .string z.k, .int .u64 z.wt, .int .i64 z.t, .string z.b] 38 (0, 0)))
  have hZ := Aside0.mk (blk_new w8 (.cells #[.int .u8 z.kd, .int .u64 z.hi, .int .u64 z.lo, .int .u64 z.id, .int .u64 z.par, .string z.nm, .int .i64 z.st, .int .i64 z.en, .bool z.bad, .slice A8 z.ats.length c8, .int .u64 z.rv, .string z.k, .int .u64 z.wt, .int .i64 z.t, .string z.b] 38 (0, 0)))
  have hN9 := Aside0.mk (Kd.R_alloc hN8 (.cells #[.int .u8 z.kd, .int .u64 z.hi, .int .u64 z.lo, .int .u64 z.id, .int .u64 z.par, .string z.nm, .int .i64 z.st, .int .i64 z.en, .bool z.bad, .slice A8 z.ats.length c8, .int .u64 z.rv, .string z.k, .int .u64 z.wt, .int .i64 z.t, .string z.b] 38 (0, 0)))
  clear hB8 hN8
  rcases hz.out with ⟨rfl, hZe⟩ | ⟨rfl, hzz⟩
  ·obtain ⟨_, ⟨s1, s2, s3, s4⟩, hx⟩ := ItO.small hZe
   replace hx := Aside0.mk hx
   replace s4 := Aside0.mk s4
   clear hZe
   go_upto_region 11 with (fail)
   obtain ⟨gz, hgz⟩ : ∃ gz, gz = w8.heap.size := ⟨_, rfl⟩
   rw [← hgz] at hZ ⊢
   generalize w8.alloc (.cells #[.int .u8 z.kd, .int .u64 z.hi, .int .u64 z.lo, .int .u64 z.id, .int .u64 z.par, .string z.nm, .int .i64 z.st, .int .i64 z.en, .bool z.bad, .slice A8 z.ats.length c8, .int .u64 z.rv, .string z.k, .int .u64 z.wt, .int .i64 z.t, .string z.b] 38 (0, 0)) = w9 at *
   clear hgz
   have hrs : (Itm.rightSpan z.hi z.lo z.id z.nm z.st z.en z.ats z.rv != Itm.rightLog z.k z.wt z.t z.b) = true := by rcases hx.out with ⟨h1, h2⟩ | ⟨h1, h2⟩ <;> rw [h1, h2] <;> rfl
   clear hx
   replace hZ := Aside0.mk (blk_drew hZ.out)
   replace HB := Aside0.mk (below_drew1 HB.out)
   replace hN9 := Aside0.mk (Kd.R_drew hN9.out)
   refine start_ (n := 12) (S := fun w' => w'.cell? ⟨gz, 0, none⟩ = some (.int .u8 z.kd) ∧ w'.cell? ⟨gz, 1, none⟩ = some (.int .u64 z.hi) ∧ w'.cell? ⟨gz, 2, none⟩ = some (.int .u64 z.lo) ∧ w'.cell? ⟨gz, 3, none⟩ = some (.int .u64 z.id) ∧ w'.cell? ⟨gz, 4, none⟩ = some (.int .u64 z.par) ∧ w'.cell? ⟨gz, 5, none⟩ = some (.string z.nm) ∧ w'.cell? ⟨gz, 6, none⟩ = some (.int .i64 z.st) ∧ w'.cell? ⟨gz, 7, none⟩ = some (.int .i64 z.en) ∧ w'.cell? ⟨gz, 8, none⟩ = some (.bool z.bad) ∧ w'.cell? ⟨gz, 9, none⟩ = some (.slice A8 z.ats.length c8) ∧ w'.cell? ⟨gz, 10, none⟩ = some (.int .u64 z.rv) ∧ w'.cell? ⟨gz, 11, none⟩ = some (.string z.k) ∧ w'.cell? ⟨gz, 12, none⟩ = some (.int .u64 z.wt) ∧ w'.cell? ⟨gz, 13, none⟩ = some (.int .i64 z.t) ∧ w'.cell? ⟨gz, 14, none⟩ = some (.string z.b)) (ds := []) #[false, false, false, false, false, false, false, false, false, false, false, false] (by kernel_rfl) rfl rfl (RfC.cells15 hZ.out) (fun hHeld => ?_)
   refine with_tab ItW.T11_tab (fun HT_ => ?_)
   generalize w9.drew = w10 at hZ HB hN9 hHeld ⊢
   refine pure_ (i := 0) (N := (some 65)) (v := ?_) (a' := ?_) #[true, false, false, false, false, false, false, false, false, false, false, false] rfl rfl (any_of HT_.out (by kernel_rfl)) (fun _ _ _ h => h) (Or.inl ⟨by rfl, ?_⟩) ?_ ?_
   rotate_left
   ·intro w'
    go_simp
    with_reducible rfl
   rotate_left
   ·simp only [ps_]
    rfl
   refine pure_ (i := 1) (N := (some 66)) (v := .bool false) (a' := ?_) #[true, true, false, false, false, false, false, false, false, false, false, false] rfl rfl (any_of HT_.out (by kernel_rfl)) (fun _ _ _ h => h) (Or.inl ⟨by rfl, ?_⟩) ?_ ?_
   ·intro w'
    go_simp
    first | done | with_reducible rfl | rfl | (exact bne_iff_ne.mp hrs) | (simp [*]; done)
   rotate_left
   ·simp only [ps_]
    rfl
   refine pure_ (i := 2) (N := (some 67)) (v := .bool false) (a' := ?_) #[true, true, true, false, false, false, false, false, false, false, false, false] rfl rfl (any_of HT_.out (by kernel_rfl)) (fun _ _ _ h => h) (Or.inl ⟨by rfl, ?_⟩) ?_ ?_
   ·intro w'
    go_simp
    first | done | with_reducible rfl | rfl | (exact bne_iff_ne.mp hrs) | (simp [*]; done)
   rotate_left
   ·simp only [ps_]
    rfl
   refine pure_ (i := 3) (N := (some 68)) (v := ?_) (a' := ?_) #[true, true, true, true, false, false, false, false, false, false, false, false] rfl rfl (any_of HT_.out (by kernel_rfl)) (fun _ _ _ h => h) (Or.inl ⟨by rfl, ?_⟩) ?_ ?_
   rotate_left
   ·intro w'
    go_simp
    with_reducible rfl
   rotate_left
   ·simp only [ps_]
    rfl
   refine take_ (i := 4) (N := (some 69)) (v := ?_) (a' := ?_) #[true, true, true, true, true, false, false, false, false, false, false, false] rfl rfl (take_of HT_.out (by kernel_rfl)) (fun _ _ _ h => h) (Or.inl ⟨by rfl, ?_⟩) hHeld ?_ ?_
   rotate_left
   ·rintro w' ⟨s0_, s1_, s2_, s3_, s4_, s5_, s6_, s7_, s8_, s9_, s10_, s11_, s12_, s13_, s14_⟩
    go_simp
    with_reducible rfl
   rotate_left
   ·simp only [ps_]
    rfl
   refine pure_ (i := 6) (N := (some 71)) (v := ?_) (a' := ?_) #[true, true, true, true, true, false, true, false, false, false, false, false] rfl rfl (any_of HT_.out (by kernel_rfl)) (fun _ _ _ h => h) (Or.inl ⟨by rfl, ?_⟩) ?_ ?_
   rotate_left
   ·intro w'
    go_simp
    with_reducible rfl
   rotate_left
   ·simp only [ps_]
    rfl
   refine take_ (i := 7) (N := (some 72)) (v := ?_) (a' := ?_) #[true, true, true, true, true, false, true, true, false, false, false, false] rfl rfl (take_of HT_.out (by kernel_rfl)) (fun _ _ _ h => h) (Or.inl ⟨by rfl, ?_⟩) hHeld ?_ ?_
   rotate_left
   ·rintro w' ⟨s0_, s1_, s2_, s3_, s4_, s5_, s6_, s7_, s8_, s9_, s10_, s11_, s12_, s13_, s14_⟩
    go_simp
    with_reducible rfl
   rotate_left
   ·simp only [ps_]
    rfl
   refine one_ (i := 5) (N := (some 70)) #[true, true, true, true, true, true, true, true, false, false, false, false] rfl rfl (one_of HT_.out (by kernel_rfl)) (by decide) (fun K hK => ?_)
   refine goes_ Try.func13 (by kernel_rfl) rfl #[.agg #[.int .u64 z.hi, .int .u64 z.lo, .int .u64 z.id, .int .u64 z.par, .string z.nm, .int .i64 z.st, .int .i64 z.en, .bool z.bad, .slice A8 z.ats.length c8, .int .u64 z.rv]] (by rfl) rfl rfl (by (try simp only [List.map_toArray, List.map_cons, List.map_nil]); first | done | rfl) ?_
   refine (Itm.RightSpan_calls z.hi z.lo z.id z.par z.nm z.st z.en z.bad A8 c8 z.ats z.rv w10 (Kd.R_reads' hN9.out).2.2 (Kd.R_reads' hN9.out).2.1 (fun a ha => Nat.le_trans (s4.out a ha) (by decide)) (by omega)).mono ?_
   rintro e w11 ⟨rfl, hB11⟩
   refine ⟨_, rfl, ?_⟩
   replace HB := Aside0.mk (below_step HB.out hB11)
   replace hZ := Aside0.mk (blk_below hZ.out hB11)
   clear hB11 hN9
   refine hK.out _ _ (RfC.cells15 hZ.out) (fun hHeld2 => ?_)
   clear hK K hHeld
   have hHeld := hHeld2
   clear hHeld2
   refine norm_ (a' := ?_) ?_ ?_
   rotate_left
   ·show Act.put _ (some 70) _ = _
    simp only [ps_]
    rfl
   refine one_ (i := 8) (N := (some 73)) #[true, true, true, true, true, true, true, true, true, false, false, false] rfl rfl (one_of HT_.out (by kernel_rfl)) (by decide) (fun K hK => ?_)
   refine goes_ Try.func14 (by kernel_rfl) rfl #[.agg #[.string z.k, .int .u64 z.wt, .int .i64 z.t, .string z.b]] (by rfl) rfl rfl (by (try simp only [List.map_toArray, List.map_cons, List.map_nil]); first | done | rfl) ?_
   refine (Itm.RightLog_calls z.k z.wt z.t z.b w11 (by omega)).mono ?_
   rintro e w12 ⟨rfl, hB12⟩
   refine ⟨_, rfl, ?_⟩
   replace HB := Aside0.mk (below_step HB.out hB12)
   replace hZ := Aside0.mk (blk_below hZ.out hB12)
   clear hB12
   refine hK.out _ _ (RfC.cells15 hZ.out) (fun hHeld2 => ?_)
   clear hK K hHeld
   have hHeld := hHeld2
   clear hHeld2
   refine norm_ (a' := ?_) ?_ ?_
   rotate_left
   ·show Act.put _ (some 73) _ = _
    simp only [ps_]
    rfl
   refine pure_ (i := 9) (N := (some 74)) (v := .bool true) (a' := ?_) #[true, true, true, true, true, true, true, true, true, true, false, false] rfl rfl (any_of HT_.out (by kernel_rfl)) (fun _ _ _ h => h) (Or.inl ⟨by rfl, ?_⟩) ?_ ?_
   ·intro w'
    go_simp
    first | done | with_reducible rfl | rfl | (exact bne_iff_ne.mp hrs) | (simp [*]; done)
   rotate_left
   ·simp only [ps_]
    rfl
   refine pure_ (i := 10) (N := (some 75)) (v := .bool true) (a' := ?_) #[true, true, true, true, true, true, true, true, true, true, true, false] rfl rfl (any_of HT_.out (by kernel_rfl)) (fun _ _ _ h => h) (Or.inl ⟨by rfl, ?_⟩) ?_ ?_
   ·intro w'
    go_simp
    first | done | with_reducible rfl | rfl | (exact bne_iff_ne.mp hrs) | (simp [*]; done)
   rotate_left
   ·simp only [ps_]
    rfl
   refine pure_ (i := 11) (N := (some 8)) (v := ?_) (a' := ?_) #[true, true, true, true, true, true, true, true, true, true, true, true] rfl rfl (any_of HT_.out (by kernel_rfl)) (fun _ _ _ h => h) (Or.inl ⟨by rfl, ?_⟩) ?_ ?_
   rotate_left
   ·intro w'
    go_simp
    with_reducible rfl
   rotate_left
   ·simp only [ps_]
    rfl
   refine done_ (done_of HT_.out (by kernel_rfl)) ?_
   clear HT_
   clear hHeld
   go_wp2_with (fail)
   go_ret
   exact ⟨rfl, HB.out⟩
  ·clear hzz hN9 hZ
   go_upto_region 11 with (fail)
   generalize w8.alloc (.cells #[.int .u8 z.kd, .int .u64 z.hi, .int .u64 z.lo, .int .u64 z.id, .int .u64 z.par, .string z.nm, .int .i64 z.st, .int .i64 z.en, .bool z.bad, .slice A8 z.ats.length c8, .int .u64 z.rv, .string z.k, .int .u64 z.wt, .int .i64 z.t, .string z.b] 38 (0, 0)) = w9 at *
   replace HB := Aside0.mk (below_drew1 HB.out)
   refine start_ (n := 12) (S := fun _ => True) (ds := []) #[false, false, false, false, false, false, false, false, false, false, false, false] (by kernel_rfl) rfl rfl trivial (fun hHeld => ?_)
   refine with_tab ItW.T11_tab (fun HT_ => ?_)
   refine pure_ (i := 0) (N := (some 65)) (v := ?_) (a' := ?_) #[true, false, false, false, false, false, false, false, false, false, false, false] rfl rfl (any_of HT_.out (by kernel_rfl)) (fun _ _ _ h => h) (Or.inl ⟨by rfl, ?_⟩) ?_ ?_
   rotate_left
   ·intro w'
    go_simp
    with_reducible rfl
   rotate_left
   ·simp only [ps_]
    rfl
   refine pure_ (i := 1) (N := (some 66)) (v := .bool true) (a' := ?_) #[true, true, false, false, false, false, false, false, false, false, false, false] rfl rfl (any_of HT_.out (by kernel_rfl)) (fun _ _ _ h => h) (Or.inl ⟨by rfl, ?_⟩) ?_ ?_
   ·intro w'
    go_simp
    first | done | with_reducible rfl | rfl | (exact bne_iff_ne.mp hrs) | (simp [*]; done)
   rotate_left
   ·simp only [ps_]
    rfl
   refine pure_ (i := 2) (N := (some 67)) (v := .bool true) (a' := ?_) #[true, true, true, false, false, false, false, false, false, false, false, false] rfl rfl (any_of HT_.out (by kernel_rfl)) (fun _ _ _ h => h) (Or.inl ⟨by rfl, ?_⟩) ?_ ?_
   ·intro w'
    go_simp
    first | done | with_reducible rfl | rfl | (exact bne_iff_ne.mp hrs) | (simp [*]; done)
   rotate_left
   ·simp only [ps_]
    rfl
   refine pure_ (i := 3) (N := (some 68)) (v := undef) (a' := ?_) #[true, true, true, true, false, false, false, false, false, false, false, false] rfl rfl (any_of HT_.out (by kernel_rfl)) (fun _ _ _ h => h) (Or.inr ⟨by rfl, rfl⟩) ?_ ?_
   rotate_left
   ·simp only [ps_]
    rfl
   refine pure_ (i := 4) (N := (some 69)) (v := undef) (a' := ?_) #[true, true, true, true, true, false, false, false, false, false, false, false] rfl rfl (any_of HT_.out (by kernel_rfl)) (fun _ _ _ h => h) (Or.inr ⟨by rfl, rfl⟩) ?_ ?_
   rotate_left
   ·simp only [ps_]
    rfl
   refine pure_ (i := 5) (N := (some 70)) (v := undef) (a' := ?_) #[true, true, true, true, true, true, false, false, false, false, false, false] rfl rfl (any_of HT_.out (by kernel_rfl)) (fun _ _ _ h => h) (Or.inr ⟨by rfl, rfl⟩) ?_ ?_
   rotate_left
   ·simp only [ps_]
    rfl
   refine pure_ (i := 6) (N := (some 71)) (v := undef) (a' := ?_) #[true, true, true, true, true, true, true, false, false, false, false, false] rfl rfl (any_of HT_.out (by kernel_rfl)) (fun _ _ _ h => h) (Or.inr ⟨by rfl, rfl⟩) ?_ ?_
   rotate_left
   ·simp only [ps_]
    rfl
   refine pure_ (i := 7) (N := (some 72)) (v := undef) (a' := ?_) #[true, true, true, true, true, true, true, true, false, false, false, false] rfl rfl (any_of HT_.out (by kernel_rfl)) (fun _ _ _ h => h) (Or.inr ⟨by rfl, rfl⟩) ?_ ?_
   rotate_left
   ·simp only [ps_]
    rfl
   refine pure_ (i := 8) (N := (some 73)) (v := undef) (a' := ?_) #[true, true, true, true, true, true, true, true, true, false, false, false] rfl rfl (any_of HT_.out (by kernel_rfl)) (fun _ _ _ h => h) (Or.inr ⟨by rfl, rfl⟩) ?_ ?_
   rotate_left
   ·simp only [ps_]
    rfl
   refine pure_ (i := 9) (N := (some 74)) (v := undef) (a' := ?_) #[true, true, true, true, true, true, true, true, true, true, false, false] rfl rfl (any_of HT_.out (by kernel_rfl)) (fun _ _ _ h => h) (Or.inr ⟨by rfl, rfl⟩) ?_ ?_
   rotate_left
   ·simp only [ps_]
    rfl
   refine pure_ (i := 10) (N := (some 75)) (v := .bool true) (a' := ?_) #[true, true, true, true, true, true, true, true, true, true, true, false] rfl rfl (any_of HT_.out (by kernel_rfl)) (fun _ _ _ h => h) (Or.inl ⟨by rfl, ?_⟩) ?_ ?_
   ·intro w'
    go_simp
    first | done | with_reducible rfl | rfl | (exact bne_iff_ne.mp hrs) | (simp [*]; done)
   rotate_left
   ·simp only [ps_]
    rfl
   refine pure_ (i := 11) (N := (some 8)) (v := ?_) (a' := ?_) #[true, true, true, true, true, true, true, true, true, true, true, true] rfl rfl (any_of HT_.out (by kernel_rfl)) (fun _ _ _ h => h) (Or.inl ⟨by rfl, ?_⟩) ?_ ?_
   rotate_left
   ·intro w'
    go_simp
    with_reducible rfl
   rotate_left
   ·simp only [ps_]
    rfl
   refine done_ (done_of HT_.out (by kernel_rfl)) ?_
   clear HT_
   go_wp2_with (fail)
   go_ret
   exact ⟨rfl, HB.out⟩
theorem telemeterlaw03_ItemOne.walk2 (a0 : Option Addr) (len0 cap0 : Nat) (z0 : List Int) (a1 : Option Addr) (len1 cap1 : Nat) (z1 : List Int) (a2 : Int) (a3 : Int) (w : World) (w0 : (a0 = none ∧ len0 = 0 ∧ cap0 = 0 ∧ z0 = []) ∨ ∃ x, a0 = some x ∧ len0 ≤ cap0 ∧ cap0 ≤ maxLen ∧ z0.length = cap0 ∧ (∀ i, i < z0.length → w.cell? (x.add i) = some (.int .u8 (z0.getD i 0))) ∧ ∀ n ∈ z0, (Lit.int .u8 n).wf = true) (y0 : len0 * 1 ≤ 140737488351232) (w1 : (a1 = none ∧ len1 = 0 ∧ cap1 = 0 ∧ z1 = []) ∨ ∃ x, a1 = some x ∧ len1 ≤ cap1 ∧ cap1 ≤ maxLen ∧ z1.length = cap1 ∧ (∀ i, i < z1.length → w.cell? (x.add i) = some (.int .u8 (z1.getD i 0))) ∧ ∀ n ∈ z1, (Lit.int .u8 n).wf = true) (y1 : len1 * 1 ≤ 140737488351232) (w2 : (Lit.int .u8 a2).wf = true) (w3 : (Lit.int .u8 a3).wf = true) :
  Calls Try.prog 8 #[.slice a0 len0 cap0, .slice a1 len1 cap1, .int .u8 a2, .int .u8 a3] w fun e w' => e = .returned (.bool true) ∧ Below w.heap.size w w' := by
 obtain ⟨l0, rfl, hr0, hm0, hw0, hc0⟩ := ReadsInt.ofRowC w0
 obtain ⟨l1, rfl, hr1, hm1, hw1, hc1⟩ := ReadsInt.ofRowC w1
 exact ItW.one_calls _ _ l0 _ _ l1 a2 a3 w (Kd.C_of_reads (d := (0 : Int)) (h1 := fun _ => rfl) hr0) hc0 (Kd.C_of_reads (d := (0 : Int)) (h1 := fun _ => rfl) hr1) hc1 (fun x hx => u8_wf (hw0 x hx)) (fun x hx => u8_wf (hw1 x hx)) (u8_wf w2) (u8_wf w3)

end Go.Proofs.Ytfapckmobeppnaa.Px
