/- The law ItemDecodes' walk, by hand. -/
import Derived.Test.YtfapckmobeppnaaPx28
import Derived.Test.YtfapckmobeppnaaPx4
import Derived.Test.YtfapckmobeppnaaRead
namespace Go.Proofs.Ytfapckmobeppnaa.Px
open Go.RowKit Go.Proofs.YtfapckmobeppnaaW.PrintWords Go.Proofs.YtfapckmobeppnaaW.PrintLast Go.Proofs.YtfapckmobeppnaaW.PrintMore
set_option linter.unusedVariables false
set_option linter.unusedSimpArgs false

set_option maxHeartbeats 8000000 in
set_option maxRecDepth 100000 in
theorem ItD.calls (A0 : Option Addr) (c0 : Nat) (l0 : List Int) (A1 : Option Addr) (c1 : Nat) (l1 : List Int) (a2 a3 : Int) (a4 : Bool) (w : World) (hr0 : Kd.C (Kd.int .u8) w A0 l0.length l0) (hc0 : l0.length ≤ c0) (hr1 : Kd.C (Kd.int .u8) w A1 l1.length l1) (hc1 : l1.length ≤ c1) (hb0 : bytesP l0) (hb1 : bytesP l1) (h2 : 0 ≤ a2 ∧ a2 ≤ 255) (h3 : 0 ≤ a3 ∧ a3 ≤ 255) :
  Calls Try.prog 6 #[.slice A0 l0.length c0, .slice A1 l1.length c1, .int .u8 a2, .int .u8 a3, .bool a4] w fun e w' => e = .returned (.bool true) ∧ Below w.heap.size w w' := by
 replace hr0 := Aside0.mk hr0
 replace hr1 := Aside0.mk hr1
 replace hb0 := Aside0.mk hb0
 replace hb1 := Aside0.mk hb1
 by_cases hbig : 300 < (l0.length : Int)
 ·have g1 : decide (300 < (l0.length : Int)) = true := decide_eq_true hbig
  have g2 : decide (300 < l0.length) = true := decide_eq_true (by omega)
  clear hbig
  go_enter Try.func6, Try.ntmps6
  go_wp2_with (fail)
  refine (Itm.known_calls' true w rfl).mono ?_
  rintro e w1 ⟨rfl, hB1⟩
  replace hB1 := Aside0.mk hB1
  go_wp2_with (fail)
  go_ret
  exact ⟨rfl, hB1.out⟩
 have g1 : decide (300 < (l0.length : Int)) = false := decide_eq_false hbig
 have g2 : decide (300 < l0.length) = false := decide_eq_false (by omega)
 obtain ⟨x, L, hI, hE, hA⟩ := ItX.item l1 hb1.out
 obtain ⟨hLb, hL2, hL5, _⟩ := ItX.enc_reach x L hE
 obtain ⟨k, hk⟩ : ∃ k : Nat, a2 % (L.length : Int) = (k : Int) := ⟨(a2 % (L.length : Int)).toNat, by have := Int.emod_nonneg a2 (show (L.length : Int) ≠ 0 by omega); omega⟩
 have hk2 : k < L.length := by have := Int.emod_lt_of_pos a2 (show (0 : Int) < (L.length : Int) by omega); omega
 obtain ⟨M, hM⟩ : ∃ M, M = L.set k a3 := ⟨_, rfl⟩
 have hMl : M.length = L.length := by rw [hM, List.length_set]
 have hMb : bytesP M := by
  rw [hM]
  intro y hy
  rcases List.mem_or_eq_of_mem_set hy with hy | rfl
  ·exact hLb y hy
  ·exact h3
 have hEnc : telemeterref03_Encode.f x.kd x.hi x.lo x.id x.par x.nm x.st x.en x.bad x.ats x.rv x.k x.wt x.t x.b = some (L, 0) := by unfold telemeterref03_Encode.f; rw [if_pos (by omega)]; exact hE
 have hrem : Int.tmod a2 (L.length : Int) = (k : Int) := by rw [Int.tmod_eq_emod_of_nonneg h2.1]; exact hk
 have hne : ((L.length : Int) == 0) = false := beq_eq_false_iff_ne.mpr (by omega)
 have hI0 := Aside0.mk (hI 0)
 replace hEnc := Aside0.mk hEnc
 replace hM := Aside0.mk hM
 replace hMl := Aside0.mk hMl
 replace hMb := Aside0.mk hMb
 clear hI hE hLb hk
 go_enter Try.func6, Try.ntmps6
 go_wp2_with (fail)
 refine (Itm.known_calls' true w rfl).mono ?_
 rintro e w1 ⟨rfl, hB1⟩
 have HB := Aside0.mk hB1
 clear hB1
 go_wp2_with (fail)
 refine (telemeterlaw03_Item.calls 1 A1 c1 l1 x.kd x.hi x.lo x.id x.par x.nm x.st x.en x.bad x.ats x.rv x.k x.wt x.t x.b w1 (Kd.C_below hr1.out HB.out) hc1 hI0.out).mono ?_
 rintro e w2 ⟨v2, rfl, hN2, hB2⟩
 obtain ⟨A2, c2, e2⟩ := Kd.R_slice hN2
 subst e2
 replace hN2 := Aside0.mk hN2
 replace HB := Aside0.mk (below_step HB.out hB2)
 clear hB2
 go_wp2_with (fail)
 refine (RfC.encode_calls x.kd x.hi x.lo x.id x.par x.nm x.st x.en x.bad A2 c2 x.ats x.rv x.k x.wt x.t x.b L 0 w2 (Kd.R_reads' hN2.out).2.2 (Kd.R_reads' hN2.out).2.1 hEnc.out).mono ?_
 rintro e w3 ⟨v3, rfl, hN3, hB3⟩
 replace hN3 := Kd.R_lower hN3 HB.out.size
 replace HB := Aside0.mk (below_step HB.out hB3)
 obtain ⟨g3, c3, e3, gb3, gl3, cl3, hg3⟩ := Kd.R_form hN3 (by omega)
 subst e3
 obtain ⟨hx3, hf3⟩ := Kd.R_celln 0 hN3 ((k : Nat) : Int) (by omega) (by omega)
 have hP := Aside0.mk (Kd.R_putg hN3 ((k : Nat) : Int) a3)
 simp only [Int.toNat_natCast] at hx3 hf3
 replace gb3 := Aside0.mk gb3
 have hp0 : (0 ≤ ((k : Nat) : Int)) = True := eq_true (by omega)
 have hp1 : (((k : Nat) : Int) < (L.length : Int)) = True := eq_true (by omega)
 clear hN2 hB3 hN3 gl3 hg3 hEnc hI0
 go_upto_region 6 with (fail)
 have hM4 := hP.out.1
 simp only [Int.toNat_natCast] at hM4
 rw [← hM.out] at hM4
 replace HB := Aside0.mk (below_set (j := k) (v := .int .u8 a3) HB.out gb3.out)
 generalize w3.setCell ⟨g3, k, none⟩ (.int .u8 a3) = w4 at *
 replace hM4 := Aside0.mk hM4
 clear hP hx3 hf3
 have hcc := (Kd.R_reads' hM4.out).2.1
 cases a4 with
 | false =>
  go_wp2_with (fail)
  refine (RfE.reads A0 c0 l0 w4 (Kd.C_below hr0.out HB.out) hc0 hb0.out (by omega)).mono ?_
  rintro e w5 ⟨rfl, hB5⟩
  have cR := RfE.reads (some ⟨g3, 0, none⟩) c3 M w5 (Kd.R_reads' (Kd.R_below hM4.out hB5)).2.2 (by rw [hMl.out]; exact hcc) hMb.out (by rw [hMl.out]; omega)
  rw [hMl.out] at cR
  replace cR := Aside0.mk cR
  replace HB := Aside0.mk (below_step HB.out hB5)
  clear hB5
  go_wp2_with (fail)
  refine cR.out.mono ?_
  clear cR
  rintro e w6 ⟨rfl, hB6⟩
  go_wp2_with (fail)
  go_ret
  exact ⟨rfl, below_step HB.out hB6⟩
 | true =>
  have hq1 : (((k : Nat) : Int) ≤ (c3 : Int)) = True := eq_true (by omega)
  have hq2 : k ≤ c3 := by omega
  go_wp2_with (fail)
  refine (RfE.reads A0 c0 l0 w4 (Kd.C_below hr0.out HB.out) hc0 hb0.out (by omega)).mono ?_
  rintro e w5 ⟨rfl, hB5⟩
  have htl : (M.take k).length = k := by rw [List.length_take, hMl.out]; omega
  have cR := RfE.reads (some ⟨g3, 0, none⟩) c3 (M.take k) w5 (Kd.C_take (Kd.R_reads' (Kd.R_below hM4.out hB5)).2.2 (by rw [hMl.out]; omega)) (by rw [htl]; exact hq2) (fun z hz => hMb.out z (List.mem_of_mem_take hz)) (by rw [htl]; omega)
  rw [htl] at cR
  replace cR := Aside0.mk cR
  replace htl := Aside0.mk htl
  replace HB := Aside0.mk (below_step HB.out hB5)
  clear hB5
  go_wp2_with (fail)
  refine cR.out.mono ?_
  clear cR
  rintro e w6 ⟨rfl, hB6⟩
  go_wp2_with (fail)
  go_ret
  exact ⟨rfl, below_step HB.out hB6⟩
end Go.Proofs.Ytfapckmobeppnaa.Px
