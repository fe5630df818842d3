/- The document's Decode of some bytes, by hand. -/
import Derived.Test.YtfapckmobeppnaaDecB
namespace Go.Proofs.Ytfapckmobeppnaa.Px
open Go.RowKit Go.Proofs.YtfapckmobeppnaaW.PrintWords Go.Proofs.YtfapckmobeppnaaW.PrintLast Go.Proofs.YtfapckmobeppnaaW.PrintMore
set_option linter.unusedVariables false
set_option linter.unusedSimpArgs false

set_option maxHeartbeats 40000000 in
set_option maxRecDepth 100000 in
theorem RfD.dec_cons (ad : Addr) (c : Nat) (kd : Int) (t : List Int) (w : World) (hr : Kd.C (Kd.int .u8) w (some ad) (kd :: t).length (kd :: t)) (hc : t.length + 1 ≤ c) (hb : bytesP (kd :: t)) (hl : t.length + 1 ≤ 100000) (y : Itm.It) (e : Int) (hd : Itm.dec (kd :: t) = some (y, e)) : Calls Try.prog 34 #[.slice (some ad) (t.length + 1) c] w (RfD.Post y e w) := by
 have g0 : (((t.length + 1 : Nat) : Int) == 0) = false := beq_eq_false_iff_ne.mpr (by omega)
 have g1 : ((t.length : Int) + 1 == 0) = false := beq_eq_false_iff_ne.mpr (by omega)
 have hD := RfF.dec kd t hb hl y e hd
 have hrA := Aside0.mk hr
 replace hb := Aside0.mk hb
 replace hd := Aside0.mk hd
 replace hD := Aside0.mk hD
 clear hr
 have ht0 : t.length ≤ 99999 := by omega
 have HB := Aside0.mk (below_alloc (Below.refl w.heap.size w) (.cells #[.int .u8 0, .int .u64 0, .int .u64 0, .int .u64 0, .int .u64 0, .string ⟨#[]⟩, .int .i64 0, .int .i64 0, .bool false, .slice none 0 0, .int .u64 0, .string ⟨#[]⟩, .int .u64 0, .int .i64 0, .string ⟨#[]⟩] 38 (0, 0)))
 have hZ := Aside0.mk (blk_new w (.cells #[.int .u8 0, .int .u64 0, .int .u64 0, .int .u64 0, .int .u64 0, .string ⟨#[]⟩, .int .i64 0, .int .i64 0, .bool false, .slice none 0 0, .int .u64 0, .string ⟨#[]⟩, .int .u64 0, .int .i64 0, .string ⟨#[]⟩] 38 (0, 0)))
 go_enter Try.func34, Try.ntmps34
 go_upto_region 1 with (fail)
 generalize w.alloc (.cells #[.int .u8 0, .int .u64 0, .int .u64 0, .int .u64 0, .int .u64 0, .string ⟨#[]⟩, .int .i64 0, .int .i64 0, .bool false, .slice none 0 0, .int .u64 0, .string ⟨#[]⟩, .int .u64 0, .int .i64 0, .string ⟨#[]⟩] 38 (0, 0)) = w1 at *
 go_upto_region 3 with (fail)
 have hF0 := RfF.fields_some kd t hD.out
 obtain ⟨fs, ok, hfe⟩ := hF0
 replace hfe := Aside0.mk hfe
 have hs1 : Kd.C (Kd.int .u8) w1 (if c = 1 then some ad else (some ad : Option Addr).map (·.add (1 * 1))) t.length t := by
  have := Kd.C_drop (m := 1) (c := c) (Kd.C_below hrA.out HB.out) (by rw [List.length_cons]; omega) (by rw [List.length_cons]; exact hc)
  exact this
 replace hs1 := Aside0.mk hs1
 go_cut [4, 5] (fun v4 v5 wc => RfD.Mid w t v4 v5 wc)
 case first =>
  by_cases hc1 : c = 1
  ·subst hc1
   have hs2 := hs1.out
   rw [if_pos rfl] at hs2
   obtain rfl : t = [] := List.eq_nil_of_length_eq_zero (by omega)
   have cF := telemeterref03_fields.calls (([] : List Int).length + 25) (some ad) 0 [] fs ok w1 hs2 (Nat.le_refl _) hfe.out
   simp only [List.length_nil] at cF
   replace cF := Aside0.mk cF
   clear hs2
   go_wp2_with (fail)
   refine cF.out.mono ?_
   clear cF
   rintro r w2 ⟨v2, rfl, hN2, hB2⟩
   obtain ⟨A2, c2, e2⟩ := Kd.R_slice hN2
   subst e2
   go_wp2_with (fail)
   go_meet
   case rel => exact ⟨fs, ok, A2, c2, rfl, rfl, hfe.out, (Kd.R_reads' hN2).2.2, below_step HB.out hB2, blk_below hZ.out hB2⟩
  ·have hs2 := hs1.out
   rw [if_neg hc1] at hs2
   have cF := telemeterref03_fields.calls (t.length + 25) (some (ad.add 1)) (c - 1) t fs ok w1 hs2 (by omega) hfe.out
   rw [show ad.add 1 = ⟨ad.block, ad.off + 1, none⟩ from rfl] at cF
   replace cF := Aside0.mk cF
   clear hs2
   go_wp2_with (fail)
   refine cF.out.mono ?_
   clear cF
   rintro r w2 ⟨v2, rfl, hN2, hB2⟩
   obtain ⟨A2, c2, e2⟩ := Kd.R_slice hN2
   subst e2
   go_wp2_with (fail)
   go_meet
   case rel => exact ⟨fs, ok, A2, c2, rfl, rfl, hfe.out, (Kd.R_reads' hN2).2.2, below_step HB.out hB2, blk_below hZ.out hB2⟩
 case rest =>
  clear hs1 hfe hZ HB
  obtain ⟨fs, ok, AL, cL, rfl, rfl, hfe, hL, HB, hZ⟩ := hcut
  replace hfe := Aside0.mk hfe
  replace hL := Aside0.mk hL
  replace HB := Aside0.mk HB
  replace hZ := Aside0.mk hZ
  rcases hD.out with ⟨hff, rfl, rfl⟩ | ⟨x', fs2, M, e2, hff, hfold, hfl, hxa, henc, hend⟩
  ·have hh := hfe.out.symm.trans hff
   simp only [Option.some.injEq, Prod.mk.injEq] at hh
   obtain ⟨rfl, rfl⟩ := hh
   clear hff hfe hD hd hL hrA hb
   have o0 := (blk_cell hZ.out 0).trans rfl
   have p0 := blk_frozen hZ.out 0
   have o1 := (blk_cell hZ.out 1).trans rfl
   have p1 := blk_frozen hZ.out 1
   have o2 := (blk_cell hZ.out 2).trans rfl
   have p2 := blk_frozen hZ.out 2
   have o3 := (blk_cell hZ.out 3).trans rfl
   have p3 := blk_frozen hZ.out 3
   have o4 := (blk_cell hZ.out 4).trans rfl
   have p4 := blk_frozen hZ.out 4
   have o5 := (blk_cell hZ.out 5).trans rfl
   have p5 := blk_frozen hZ.out 5
   have o6 := (blk_cell hZ.out 6).trans rfl
   have p6 := blk_frozen hZ.out 6
   have o7 := (blk_cell hZ.out 7).trans rfl
   have p7 := blk_frozen hZ.out 7
   have o8 := (blk_cell hZ.out 8).trans rfl
   have p8 := blk_frozen hZ.out 8
   have o9 := (blk_cell hZ.out 9).trans rfl
   have p9 := blk_frozen hZ.out 9
   have o10 := (blk_cell hZ.out 10).trans rfl
   have p10 := blk_frozen hZ.out 10
   have o11 := (blk_cell hZ.out 11).trans rfl
   have p11 := blk_frozen hZ.out 11
   have o12 := (blk_cell hZ.out 12).trans rfl
   have p12 := blk_frozen hZ.out 12
   have o13 := (blk_cell hZ.out 13).trans rfl
   have p13 := blk_frozen hZ.out 13
   have o14 := (blk_cell hZ.out 14).trans rfl
   have p14 := blk_frozen hZ.out 14
   go_wp2_with (fail)
   exact RfD.fin _ w wc Itm.It.z 40 (.slice none 0 0) rfl rfl rfl hZ.out HB.out (Kd.R_nil _ _ _ _ _)
  ·have hh := hfe.out.symm.trans hff
   simp only [Option.some.injEq, Prod.mk.injEq] at hh
   obtain ⟨rfl, rfl⟩ := hh
   have hx0 : wc.cell? ad = some (.int .u8 kd) := by
    obtain ⟨ad2, e0, hx⟩ := ReadsInt.at_ (Kd.reads_of_C (enc := Value.int .u8) (d := (0 : Int)) (h1 := fun _ => rfl) (Kd.C_below hrA.out HB.out)) 0 (by omega) (by rw [List.length_cons]; omega)
    cases e0
    have hx2 : wc.cell? ad = some (.int .u8 (rd (kd :: t) 0)) := by simpa [Addr.add] using hx
    exact hx2
   clear hff hfe hD hd
   replace hfold := Aside0.mk hfold
   replace henc := Aside0.mk henc
   replace hend := Aside0.mk hend
   have hX := Aside0.mk (blk_new wc (.cells #[.int .u8 kd, .int .u64 0, .int .u64 0, .int .u64 0, .int .u64 0, .string ⟨#[]⟩, .int .i64 0, .int .i64 0, .bool false, .slice none 0 0, .int .u64 0, .string ⟨#[]⟩, .int .u64 0, .int .i64 0, .string ⟨#[]⟩] 38 (0, 0)))
   have HB1 := Aside0.mk (below_alloc (Below.refl wc.heap.size wc) (.cells #[.int .u8 kd, .int .u64 0, .int .u64 0, .int .u64 0, .int .u64 0, .string ⟨#[]⟩, .int .i64 0, .int .i64 0, .bool false, .slice none 0 0, .int .u64 0, .string ⟨#[]⟩, .int .u64 0, .int .i64 0, .string ⟨#[]⟩] 38 (0, 0)))
   have hR := Aside0.mk (Kd.R_nil k36 36 (wc.alloc (.cells #[.int .u8 kd, .int .u64 0, .int .u64 0, .int .u64 0, .int .u64 0, .string ⟨#[]⟩, .int .i64 0, .int .i64 0, .bool false, .slice none 0 0, .int .u64 0, .string ⟨#[]⟩, .int .u64 0, .int .i64 0, .string ⟨#[]⟩] 38 (0, 0))) wc.heap.size (fun k => wc.heap.size < k))
   go_upto_region 7 with (fail)
   generalize wc.alloc (.cells #[.int .u8 kd, .int .u64 0, .int .u64 0, .int .u64 0, .int .u64 0, .string ⟨#[]⟩, .int .i64 0, .int .i64 0, .bool false, .slice none 0 0, .int .u64 0, .string ⟨#[]⟩, .int .u64 0, .int .i64 0, .string ⟨#[]⟩] 38 (0, 0)) = w5 at *
   go_wp2_with (fail)
   go_loopg [7] fs.length (fun gg s7 wr => ∃ (i : Nat) (x : Itm.It) (A9 : Option Addr) (c9 : Nat), s7 = .int .i64 i ∧ i ≤ fs.length ∧ fs.length - i ≤ gg ∧ Aside0 (RfF.fold (fs.drop i) x = some x') ∧ Aside0 (wr.heap[wc.heap.size]? = some (.cells (RfD.xc x A9 c9) 38 (0, 0))) ∧ Aside0 (Kd.R k36 36 wr wc.heap.size (fun k => wc.heap.size < k) (.slice A9 x.ats.length c9) x.ats) ∧ Aside0 (Below wc.heap.size wc wr))
   case atStart => exact ⟨0, { Itm.It.z with kd := kd }, none, 0, rfl, Nat.zero_le _, by omega, hfold, hX, hR, HB1⟩
   case round =>
    clear hfold hX hR HB1 hx0
    obtain ⟨i, x, A9, c9, rfl, hil, hgg, hfold, hX, hR, HB1⟩ := hrel
    by_cases hi' : i < fs.length
    ·have hiz : (i : Int) < (fs.length : Int) := by omega
     have hi0 : (0 : Int) ≤ (i : Int) := by omega
     have hwr : wrap64 ((i : Int) + 1) = ((i + 1 : Nat) : Int) := by rw [wrap64_id (by omega) (by omega)]; omega
     obtain ⟨al, e0, hx0, hx1, hx2, hx3⟩ := at_T94 hL.out (i : Int) hi0 hiz
     simp only [Int.toNat_natCast] at hx0 hx1 hx2 hx3
     cases e0
     have hst : fs.drop i = rd_T94 fs (i : Int) :: fs.drop (i + 1) := by rw [List.drop_eq_getElem_cons hi']; unfold rd_T94; rw [Int.toNat_natCast, List.getD_eq_getElem?_getD, List.getElem?_eq_getElem hi']; rfl
     have hfold2 := hfold.out
     rw [hst, RfF.fold] at hfold2
     generalize hy : rd_T94 fs (i : Int) = f at *
     clear hy hst hfold
     obtain ⟨no, tn, n, s⟩ := f
     obtain ⟨x1, hp, hfold⟩ := Option.bind_eq_some_iff.mp hfold2
     clear hfold2
     dsimp only at hx0 hx1 hx2 hx3 hp
     replace hfold := Aside0.mk hfold
     replace hp := Aside0.mk hp
     replace hx0 := (HB1.out.cell (World.block_lt_of_cell? _ _ hx0)).trans hx0
     replace hx1 := (HB1.out.cell (World.block_lt_of_cell? _ _ hx1)).trans hx1
     replace hx2 := (HB1.out.cell (World.block_lt_of_cell? _ _ hx2)).trans hx2
     replace hx3 := (HB1.out.cell (World.block_lt_of_cell? _ _ hx3)).trans hx3
     have hp0 := eq_true hi0
     have hp1 := eq_true hiz
     go_upto_block 1 with (fail)
     go_cut [8, 38] (fun v8 v38 wq => RfD.Step wc x1 wq)
     case first =>
      go_upto_block 2 with (fail)
      clear hx0 hx1 hx2 hx3
      have hF := Aside0.mk (blk_new wr (.cells #[.int .u64 no, .int .i64 tn, .int .u64 n, .string s] 94 (0, 0)))
      replace hX := Aside0.mk (blk_alloc hX.out (.cells #[.int .u64 no, .int .i64 tn, .int .u64 n, .string s] 94 (0, 0)))
      replace hR := Aside0.mk (Kd.R_alloc hR.out (.cells #[.int .u64 no, .int .i64 tn, .int .u64 n, .string s] 94 (0, 0)))
      have hlt := Aside0.mk HB1.out.size
      replace HB1 := Aside0.mk (below_alloc HB1.out (.cells #[.int .u64 no, .int .i64 tn, .int .u64 n, .string s] 94 (0, 0)))
      obtain ⟨gf, hgf⟩ : ∃ gf, gf = wr.heap.size := ⟨_, rfl⟩
      rw [← hgf] at hF hlt ⊢
      generalize wr.alloc (.cells #[.int .u64 no, .int .i64 tn, .int .u64 n, .string s] 94 (0, 0)) = w6 at *
      clear hgf
      obtain ⟨z0, z1, z2, z3, z4, z5, z6, z7, z8, z9, z10, _, _, _, _⟩ := RfC.cells15 hX.out
      have q0 : w6.cell? ⟨gf, 0, none⟩ = some (.int .u64 no) := blk_cell hF.out 0
      have q1 : w6.cell? ⟨gf, 1, none⟩ = some (.int .i64 tn) := blk_cell hF.out 1
      have q2 : w6.cell? ⟨gf, 2, none⟩ = some (.int .u64 n) := blk_cell hF.out 2
      have q3 : w6.cell? ⟨gf, 3, none⟩ = some (.string s) := blk_cell hF.out 3
      by_cases hk : x.kd = 1
      ·have hkb : (x.kd == 1) = true := beq_iff_eq.mpr hk
       obtain ⟨hsz, k1, k2, k3, k4, k5⟩ := RfD.put_same hk hp.out
       have cP := Aside0.mk (RfD.put_calls wc w6 x x1 A9 c9 no tn n s (fun k => wc.heap.size < k) hk hp.out HB1.out hR.out)
       clear hp
       have hu26 := Try.underlying26
       have hu94 := Try.underlying94
       replace k1 := Aside0.mk k1
       replace k2 := Aside0.mk k2
       replace k3 := Aside0.mk k3
       replace k4 := Aside0.mk k4
       replace k5 := Aside0.mk k5
       clear hk
       go_wp2_with (fail)
       refine cP.out.mono ?_
       clear cP
       rintro r w7 ⟨A7, c7, rfl, hR7, hK7, hB7⟩
       have hX7 : w7.heap[wc.heap.size]? = some (.cells #[.int .u8 x.kd, .int .u64 x.hi, .int .u64 x.lo, .int .u64 x.id, .int .u64 x.par, .string x.nm, .int .i64 x.st, .int .i64 x.en, .bool x.bad, .slice A9 x.ats.length c9, .int .u64 x.rv, .string x.k, .int .u64 x.wt, .int .i64 x.t, .string x.b] 38 (0, 0)) := blk_kept hX.out hK7 (Nat.lt_irrefl _)
       replace hR7 := Kd.R_mono hR7 (fun k h => h.elim id (fun h => Nat.lt_of_lt_of_le (blk_lt hX.out) h)) (ok' := fun k => wc.heap.size < k)
       clear z0 z1 z2 z3 z4 z5 z6 z7 z8 z9 z10 q0 q1 q2 q3 hF hX hR HB1 hK7
       obtain ⟨_, z1, z2, z3, z4, z5, z6, z7, z8, z9, z10, _, _, _, _⟩ := RfC.cells15 hX7
       have g1 := blk_frozen hX7 1
       have g2 := blk_frozen hX7 2
       have g3 := blk_frozen hX7 3
       have g4 := blk_frozen hX7 4
       have g5 := blk_frozen hX7 5
       have g6 := blk_frozen hX7 6
       have g7 := blk_frozen hX7 7
       have g8 := blk_frozen hX7 8
       have g9 := blk_frozen hX7 9
       have g10 := blk_frozen hX7 10
       replace hX7 := Aside0.mk hX7
       replace hR7 := Aside0.mk hR7
       replace hB7 := Aside0.mk hB7
       unfold RfD.sc
       go_wp2_with (fail)
       go_meet
       case rel =>
        refine ⟨A7, c7, ?_, Kd.R_mono (Kd.R_step (Kd.R_types hR7.out hX7.out RfD.neI) (fun k hk _ => RfD.farS w7 wc.heap.size k hk.2 (.int .u64 x1.hi) (.int .u64 x1.lo) (.int .u64 x1.id) (.int .u64 x1.par) (.string x1.nm) (.int .i64 x1.st) (.int .i64 x1.en) (.bool x1.bad) (.slice A7 x1.ats.length c7) (.int .u64 x1.rv))) (fun _ h => h.1), (below_set (j := 10) (v := (.int .u64 x1.rv)) (below_set (j := 9) (v := (.slice A7 x1.ats.length c7)) (below_set (j := 8) (v := (.bool x1.bad)) (below_set (j := 7) (v := (.int .i64 x1.en)) (below_set (j := 6) (v := (.int .i64 x1.st)) (below_set (j := 5) (v := (.string x1.nm)) (below_set (j := 4) (v := (.int .u64 x1.par)) (below_set (j := 3) (v := (.int .u64 x1.id)) (below_set (j := 2) (v := (.int .u64 x1.lo)) (below_set (j := 1) (v := (.int .u64 x1.hi)) hB7.out (Nat.le_refl _)) (Nat.le_refl _)) (Nat.le_refl _)) (Nat.le_refl _)) (Nat.le_refl _)) (Nat.le_refl _)) (Nat.le_refl _)) (Nat.le_refl _)) (Nat.le_refl _)) (Nat.le_refl _))⟩
        have hN := RfD.storeS (v1 := (.int .u64 x1.hi)) (v2 := (.int .u64 x1.lo)) (v3 := (.int .u64 x1.id)) (v4 := (.int .u64 x1.par)) (v5 := (.string x1.nm)) (v6 := (.int .i64 x1.st)) (v7 := (.int .i64 x1.en)) (v8 := (.bool x1.bad)) (v9 := (.slice A7 x1.ats.length c7)) (v10 := (.int .u64 x1.rv)) hX7.out
        have hx : RfD.xc x1 A7 c7 = #[.int .u8 x.kd, .int .u64 x1.hi, .int .u64 x1.lo, .int .u64 x1.id, .int .u64 x1.par, .string x1.nm, .int .i64 x1.st, .int .i64 x1.en, .bool x1.bad, .slice A7 x1.ats.length c7, .int .u64 x1.rv, .string x.k, .int .u64 x.wt, .int .i64 x.t, .string x.b] := by unfold RfD.xc; rw [k1.out, k2.out, k3.out, k4.out, k5.out]
        rw [hx]
        exact hN
      ·have hkb : (x.kd == 1) = false := beq_eq_false_iff_ne.mpr hk
       have hp2 := hp.out
       unfold Itm.putF at hp2
       have hsz : s.size ≤ 100000 := by
        by_cases h : s.size ≤ 100000
        ·exact h
        ·rw [if_neg h] at hp2; cases hp2
       rw [if_pos hsz, if_neg hk] at hp2
       clear hp hk hsz
       by_cases c1 : no = 1
       ·subst c1
        rw [if_pos rfl] at hp2
        injection hp2 with hp2
        subst hp2
        have y_ : w6.cell? ⟨wc.heap.size, 11, none⟩ = some (.string x.k) := blk_cell hX.out 11
        have g_ := blk_frozen hX.out 11
        go_wp2_with (fail)
        go_meet
        case rel => exact RfD.Step.set hX.out hR.out HB1.out 11 (.string s) rfl rfl
       rw [if_neg c1] at hp2
       by_cases c2 : no = 2
       ·subst c2
        rw [if_pos rfl] at hp2
        injection hp2 with hp2
        subst hp2
        have y_ : w6.cell? ⟨wc.heap.size, 12, none⟩ = some (.int .u64 x.wt) := blk_cell hX.out 12
        have g_ := blk_frozen hX.out 12
        go_wp2_with (fail)
        go_meet
        case rel => exact RfD.Step.set hX.out hR.out HB1.out 12 (.int .u64 n) rfl rfl
       rw [if_neg c2] at hp2
       by_cases c3 : no = 3
       ·subst c3
        rw [if_pos rfl] at hp2
        injection hp2 with hp2
        subst hp2
        have y_ : w6.cell? ⟨wc.heap.size, 13, none⟩ = some (.int .i64 x.t) := blk_cell hX.out 13
        have g_ := blk_frozen hX.out 13
        go_wp2_with (fail)
        go_meet
        case rel => exact RfD.Step.set hX.out hR.out HB1.out 13 (.int .i64 (wrap64 n)) rfl rfl
       rw [if_neg c3] at hp2
       by_cases c4 : no = 4
       ·subst c4
        rw [if_pos rfl] at hp2
        injection hp2 with hp2
        subst hp2
        have y_ : w6.cell? ⟨wc.heap.size, 14, none⟩ = some (.string x.b) := blk_cell hX.out 14
        have g_ := blk_frozen hX.out 14
        go_wp2_with (fail)
        go_meet
        case rel => exact RfD.Step.set hX.out hR.out HB1.out 14 (.string s) rfl rfl
       rw [if_neg c4] at hp2
       injection hp2 with hp2
       subst hp2
       have b1 : (no == 1) = false := beq_eq_false_iff_ne.mpr c1
       have b2 : (no == 2) = false := beq_eq_false_iff_ne.mpr c2
       have b3 : (no == 3) = false := beq_eq_false_iff_ne.mpr c3
       have b4 : (no == 4) = false := beq_eq_false_iff_ne.mpr c4
       clear c1 c2 c3 c4
       go_wp2_with (fail)
       go_meet
       case rel => exact ⟨A9, c9, hX.out, hR.out, HB1.out⟩
     case rest =>
      clear hx0 hx1 hx2 hx3 hX hR HB1 hp
      obtain ⟨A5, c5, hX, hR, HB1⟩ := hcut
      replace hX := Aside0.mk hX
      replace hR := Aside0.mk hR
      replace HB1 := Aside0.mk HB1
      go_wp2_with (fail)
      go_roundg (fs.length - (i + 1))
      case measure => omega
      case rel => exact ⟨i + 1, x1, A5, c5, by go_num, by omega, by omega, hfold, hX, hR, HB1⟩
    ·have hfold2 := hfold.out
     rw [List.drop_of_length_le (by omega), RfF.fold] at hfold2
     injection hfold2 with hfold2
     subst hfold2
     clear hfold
     have hiz : decide ((i : Int) < (fs.length : Int)) = false := decide_eq_false (by omega)
     have hiz2 : ¬ ((i : Int) < (fs.length : Int)) := by omega
     have hE2 : telemeterref03_Encode.f x.kd x.hi x.lo x.id x.par x.nm x.st x.en x.bad x.ats x.rv x.k x.wt x.t x.b = some (M, e2) := by unfold telemeterref03_Encode.f; rw [if_pos hxa]; exact henc.out
     replace hE2 := Aside0.mk hE2
     clear henc
     have hu38 := Try.underlying38
     obtain ⟨z0, z1, z2, z3, z4, z5, z6, z7, z8, z9, z10, z11, z12, z13, z14⟩ := RfC.cells15 hX.out
     go_wp2_with (fail)
     refine (RfC.encode_calls x.kd x.hi x.lo x.id x.par x.nm x.st x.en x.bad A9 c9 x.ats x.rv x.k x.wt x.t x.b M e2 wr (Kd.R_reads' hR.out).2.2 (Kd.R_reads' hR.out).2.1 hE2.out).mono ?_
     rintro r w6 ⟨v6, rfl, hN6, hB6⟩
     obtain ⟨A6, c6, e6⟩ := Kd.R_slice hN6
     subst e6
     clear z0 z1 z2 z3 z4 z5 z6 z7 z8 z9 z10 z11 z12 z13 z14 hE2
     replace HB1 := Aside0.mk (below_step HB1.out hB6)
     replace hX := Aside0.mk (blk_below hX.out hB6)
     replace hR := Aside0.mk (Kd.R_below hR.out hB6)
     have hle := HB.out.size
     replace HB := Aside0.mk (below_step HB.out HB1.out)
     replace hZ := Aside0.mk (blk_below hZ.out HB1.out)
     have hcv := Kd.C_string (P := Try.prog) (A := A6) (c := c6) Try.underlying22 Try.underlying5 Try.underlying9 (Kd.R_reads' hN6).2.2
     have hcw := Kd.C_string (P := Try.prog) (A := some ad) (c := c) Try.underlying22 Try.underlying5 Try.underlying9 (Kd.C_below hrA.out HB.out)
     rw [List.length_cons] at hcw
     obtain ⟨z0, z1, z2, z3, z4, z5, z6, z7, z8, z9, z10, z11, z12, z13, z14⟩ := RfC.cells15 hX.out
     have o0 := (blk_cell hZ.out 0).trans rfl
     have p0 := blk_frozen hZ.out 0
     have o1 := (blk_cell hZ.out 1).trans rfl
     have p1 := blk_frozen hZ.out 1
     have o2 := (blk_cell hZ.out 2).trans rfl
     have p2 := blk_frozen hZ.out 2
     have o3 := (blk_cell hZ.out 3).trans rfl
     have p3 := blk_frozen hZ.out 3
     have o4 := (blk_cell hZ.out 4).trans rfl
     have p4 := blk_frozen hZ.out 4
     have o5 := (blk_cell hZ.out 5).trans rfl
     have p5 := blk_frozen hZ.out 5
     have o6 := (blk_cell hZ.out 6).trans rfl
     have p6 := blk_frozen hZ.out 6
     have o7 := (blk_cell hZ.out 7).trans rfl
     have p7 := blk_frozen hZ.out 7
     have o8 := (blk_cell hZ.out 8).trans rfl
     have p8 := blk_frozen hZ.out 8
     have o9 := (blk_cell hZ.out 9).trans rfl
     have p9 := blk_frozen hZ.out 9
     have o10 := (blk_cell hZ.out 10).trans rfl
     have p10 := blk_frozen hZ.out 10
     have o11 := (blk_cell hZ.out 11).trans rfl
     have p11 := blk_frozen hZ.out 11
     have o12 := (blk_cell hZ.out 12).trans rfl
     have p12 := blk_frozen hZ.out 12
     have o13 := (blk_cell hZ.out 13).trans rfl
     have p13 := blk_frozen hZ.out 13
     have o14 := (blk_cell hZ.out 14).trans rfl
     have p14 := blk_frozen hZ.out 14
     clear hB6 hN6 hrA hL hb
     rcases hend.out with ⟨rfl, hq, rfl, rfl⟩ | ⟨rfl, hq, rfl, rfl⟩ | ⟨rfl, rfl, rfl⟩
     ·have hq1 : ((strOfNums M).toList == (strOfNums (kd :: t)).toList) = true := beq_iff_eq.mpr hq
      have hq2 : ((strOfNums M).toList != (strOfNums (kd :: t)).toList) = false := bne_eq_false_iff_eq.mpr hq
      clear hq
      go_wp2_with (fail)
      exact RfD.fin _ w w6 y 0 (.slice A9 y.ats.length c9) rfl rfl rfl hZ.out HB.out (Kd.R_mono (Kd.R_lower hR.out hle) (fun _ _ => trivial))
     ·have hq1 : ((strOfNums M).toList == (strOfNums (kd :: t)).toList) = false := beq_eq_false_iff_ne.mpr hq
      have hq2 : ((strOfNums M).toList != (strOfNums (kd :: t)).toList) = true := bne_iff_ne.mpr hq
      clear hq
      go_wp2_with (fail)
      exact RfD.fin _ w w6 Itm.It.z 40 (.slice none 0 0) rfl rfl rfl hZ.out HB.out (Kd.R_nil _ _ _ _ _)
     ·go_wp2_with (fail)
      exact RfD.fin _ w w6 Itm.It.z 40 (.slice none 0 0) rfl rfl rfl hZ.out HB.out (Kd.R_nil _ _ _ _ _)

theorem RfD.decode_calls (A : Option Addr) (c : Nat) (L : List Int) (y : Itm.It) (e : Int) (w : World) (hr : Kd.C (Kd.int .u8) w A L.length L) (hc : L.length ≤ c) (hb : bytesP L) (hl : L.length ≤ 100000) (hd : Itm.dec L = some (y, e)) :
  Calls Try.prog 34 #[.slice A L.length c] w (RfD.Post y e w) := by
 match L, hr, hc, hb, hl, hd with
 | [], hr, hc, hb, hl, hd =>
  unfold Itm.dec at hd
  rw [if_pos (show ([] : List Int).length = 0 from rfl)] at hd
  injection hd with hd
  injection hd with h1 h2
  subst h1
  subst h2
  exact RfD.dec_nil A c [] w rfl
 | kd :: t, hr, hc, hb, hl, hd =>
  obtain ⟨ad, e0, _⟩ := hr.2.2 (by rw [List.length_cons]; omega)
  subst e0
  exact RfD.dec_cons ad c kd t w hr hc hb hl y e hd
end Go.Proofs.Ytfapckmobeppnaa.Px
