/- The document's put, by hand: a field that is no attribute; and any field. -/
import Derived.Test.YtfapckmobeppnaaPutD
namespace Go.Proofs.Ytfapckmobeppnaa.Px
open Go.RowKit Go.Proofs.YtfapckmobeppnaaW.PrintWords Go.Proofs.YtfapckmobeppnaaW.PrintLast Go.Proofs.YtfapckmobeppnaaW.PrintMore
set_option linter.unusedVariables false
set_option linter.unusedSimpArgs false

set_option maxHeartbeats 40000000 in
set_option maxRecDepth 100000 in
theorem RfD.put_plain (w1 w : World) (x x' : Itm.It) (A9 : Option Addr) (c9 : Nat) (no tn n : Int) (s : ByteArray) (ok : Nat → Prop) (hs : s.size ≤ 100000) (HB1 : Below w1.heap.size w1 w) (hR : Kd.R k36 36 w w1.heap.size ok (.slice A9 x.ats.length c9) x.ats) (hk : x.kd = 1) (hn : no ≠ 10) (hp : Itm.putF x no n s = some x') :
  Calls Try.prog 49 #[.agg #[.int .u64 x.hi, .int .u64 x.lo, .int .u64 x.id, .int .u64 x.par, .string x.nm, .int .i64 x.st, .int .i64 x.en, .bool x.bad, .slice A9 x.ats.length c9, .int .u64 x.rv], .agg #[.int .u64 no, .int .i64 tn, .int .u64 n, .string s]] w (RfD.PPost w1 w ok x x') := by
 obtain ⟨W3, hW3⟩ : ∃ W3, W3 = ((w.alloc (.cells #[.int .u64 x.hi, .int .u64 x.lo, .int .u64 x.id, .int .u64 x.par, .string x.nm, .int .i64 x.st, .int .i64 x.en, .bool x.bad, .slice A9 x.ats.length c9, .int .u64 x.rv] 26 (0, 0))).alloc (.cells #[.int .u64 no, .int .i64 tn, .int .u64 n, .string s] 94 (0, 0))).alloc (.cells #[.int .u64 0, .int .u64 0, .int .u64 0, .int .u64 0, .string ⟨#[]⟩, .int .i64 0, .int .i64 0, .bool false, .slice none 0 0, .int .u64 0] 26 (0, 0)) := ⟨_, rfl⟩
 have q1 : (w.alloc (.cells #[.int .u64 x.hi, .int .u64 x.lo, .int .u64 x.id, .int .u64 x.par, .string x.nm, .int .i64 x.st, .int .i64 x.en, .bool x.bad, .slice A9 x.ats.length c9, .int .u64 x.rv] 26 (0, 0))).heap.size = w.heap.size + 1 := World.size_alloc _ _
 have q2 : ((w.alloc (.cells #[.int .u64 x.hi, .int .u64 x.lo, .int .u64 x.id, .int .u64 x.par, .string x.nm, .int .i64 x.st, .int .i64 x.en, .bool x.bad, .slice A9 x.ats.length c9, .int .u64 x.rv] 26 (0, 0))).alloc (.cells #[.int .u64 no, .int .i64 tn, .int .u64 n, .string s] 94 (0, 0))).heap.size = w.heap.size + 2 := by rw [World.size_alloc, q1]
 have q3 : W3.heap.size = w.heap.size + 3 := by rw [hW3, World.size_alloc, q2]
 have hF : W3.heap[w.heap.size + 1]? = some (.cells #[.int .u64 no, .int .i64 tn, .int .u64 n, .string s] 94 (0, 0)) := by rw [hW3]; have := blk_new (w.alloc (.cells #[.int .u64 x.hi, .int .u64 x.lo, .int .u64 x.id, .int .u64 x.par, .string x.nm, .int .i64 x.st, .int .i64 x.en, .bool x.bad, .slice A9 x.ats.length c9, .int .u64 x.rv] 26 (0, 0))) (.cells #[.int .u64 no, .int .i64 tn, .int .u64 n, .string s] 94 (0, 0)); rw [q1] at this; exact blk_alloc this _
 have hw : w1.heap.size ≤ w.heap.size := HB1.size
 have hP : RfD.PRel w1 w ok x A9 c9 W3 := by
  rw [hW3]
  refine ⟨blk_alloc (blk_alloc (blk_new w _) _) _, by have := blk_new ((w.alloc (.cells #[.int .u64 x.hi, .int .u64 x.lo, .int .u64 x.id, .int .u64 x.par, .string x.nm, .int .i64 x.st, .int .i64 x.en, .bool x.bad, .slice A9 x.ats.length c9, .int .u64 x.rv] 26 (0, 0))).alloc (.cells #[.int .u64 no, .int .i64 tn, .int .u64 n, .string s] 94 (0, 0))) (.cells #[.int .u64 0, .int .u64 0, .int .u64 0, .int .u64 0, .string ⟨#[]⟩, .int .i64 0, .int .i64 0, .bool false, .slice none 0 0, .int .u64 0] 26 (0, 0)); rw [q2] at this; exact this, Kd.R_mono (Kd.R_alloc (Kd.R_alloc (Kd.R_alloc hR _) _) _) (fun _ h => Or.inl h), ?_, below_alloc (below_alloc (below_alloc HB1 _) _) _⟩
  exact Kept.of_below (below_alloc (below_alloc (below_alloc (Below.refl w.heap.size w) _) _) _) ok
 clear q1 q2 HB1 hR
 replace hF := Aside0.mk hF
 replace hP := Aside0.mk hP
 go_enter Try.func49, Try.ntmps49
 go_upto_region 1 with (fail)
 rw [← hW3]
 clear hW3
 have f0 : W3.cell? ⟨w.heap.size + 1, 0, none⟩ = some (.int .u64 no) := blk_cell hF.out 0
 have f2 : W3.cell? ⟨w.heap.size + 1, 2, none⟩ = some (.int .u64 n) := blk_cell hF.out 2
 have f3 : W3.cell? ⟨w.heap.size + 1, 3, none⟩ = some (.string s) := blk_cell hF.out 3
 unfold Itm.putF at hp
 rw [if_pos hs, if_pos hk] at hp
 replace hp := Aside0.mk hp
 clear q3
 go_upto_block 0 with (fail)
 go_cut [5, 6, 7, 9, 10] (fun v5 v6 v7 v9 v10 wc => ∃ A c, RfD.PRel w1 w ok x' A c wc)
 case first =>
  replace hp := hp.out
  by_cases c1 : no = 1
  ·subst c1
   rw [if_pos rfl] at hp
   injection hp with hp
   subst hp
   have y_ : W3.cell? ⟨w.heap.size, 0, none⟩ = some (.int .u64 x.hi) := blk_cell hP.out.hS 0
   have g_ := blk_frozen hP.out.hS 0
   go_wp2_with (fail)
   go_meet
   case rel => exact ⟨A9, c9, hP.out.set hw 0 (.int .u64 n) { x with hi := n } rfl rfl⟩
  rw [if_neg c1] at hp
  by_cases c2 : no = 2
  ·subst c2
   rw [if_pos rfl] at hp
   injection hp with hp
   subst hp
   have y_ : W3.cell? ⟨w.heap.size, 1, none⟩ = some (.int .u64 x.lo) := blk_cell hP.out.hS 1
   have g_ := blk_frozen hP.out.hS 1
   go_wp2_with (fail)
   go_meet
   case rel => exact ⟨A9, c9, hP.out.set hw 1 (.int .u64 n) { x with lo := n } rfl rfl⟩
  rw [if_neg c2] at hp
  by_cases c3 : no = 3
  ·subst c3
   rw [if_pos rfl] at hp
   injection hp with hp
   subst hp
   have y_ : W3.cell? ⟨w.heap.size, 2, none⟩ = some (.int .u64 x.id) := blk_cell hP.out.hS 2
   have g_ := blk_frozen hP.out.hS 2
   go_wp2_with (fail)
   go_meet
   case rel => exact ⟨A9, c9, hP.out.set hw 2 (.int .u64 n) { x with id := n } rfl rfl⟩
  rw [if_neg c3] at hp
  by_cases c4 : no = 4
  ·subst c4
   rw [if_pos rfl] at hp
   injection hp with hp
   subst hp
   have y_ : W3.cell? ⟨w.heap.size, 3, none⟩ = some (.int .u64 x.par) := blk_cell hP.out.hS 3
   have g_ := blk_frozen hP.out.hS 3
   go_wp2_with (fail)
   go_meet
   case rel => exact ⟨A9, c9, hP.out.set hw 3 (.int .u64 n) { x with par := n } rfl rfl⟩
  rw [if_neg c4] at hp
  by_cases c5 : no = 5
  ·subst c5
   rw [if_pos rfl] at hp
   injection hp with hp
   subst hp
   have y_ : W3.cell? ⟨w.heap.size, 4, none⟩ = some (.string x.nm) := blk_cell hP.out.hS 4
   have g_ := blk_frozen hP.out.hS 4
   go_wp2_with (fail)
   go_meet
   case rel => exact ⟨A9, c9, hP.out.set hw 4 (.string s) { x with nm := s } rfl rfl⟩
  rw [if_neg c5] at hp
  by_cases c6 : no = 6
  ·subst c6
   rw [if_pos rfl] at hp
   injection hp with hp
   subst hp
   have y_ : W3.cell? ⟨w.heap.size, 5, none⟩ = some (.int .i64 x.st) := blk_cell hP.out.hS 5
   have g_ := blk_frozen hP.out.hS 5
   go_wp2_with (fail)
   go_meet
   case rel => exact ⟨A9, c9, hP.out.set hw 5 (.int .i64 (wrap64 n)) { x with st := wrap64 n } rfl rfl⟩
  rw [if_neg c6] at hp
  by_cases c7 : no = 7
  ·subst c7
   rw [if_pos rfl] at hp
   injection hp with hp
   subst hp
   have y_ : W3.cell? ⟨w.heap.size, 6, none⟩ = some (.int .i64 x.en) := blk_cell hP.out.hS 6
   have g_ := blk_frozen hP.out.hS 6
   go_wp2_with (fail)
   go_meet
   case rel => exact ⟨A9, c9, hP.out.set hw 6 (.int .i64 (wrap64 n)) { x with en := wrap64 n } rfl rfl⟩
  rw [if_neg c7] at hp
  by_cases c8 : no = 8
  ·subst c8
   rw [if_pos rfl] at hp
   injection hp with hp
   subst hp
   have y_ : W3.cell? ⟨w.heap.size, 7, none⟩ = some (.bool x.bad) := blk_cell hP.out.hS 7
   have g_ := blk_frozen hP.out.hS 7
   go_wp2_with (fail)
   go_meet
   case rel => exact ⟨A9, c9, hP.out.set hw 7 (.bool (n == 1)) { x with bad := n == 1 } rfl rfl⟩
  rw [if_neg c8] at hp
  by_cases c9 : no = 9
  ·subst c9
   rw [if_pos rfl] at hp
   injection hp with hp
   subst hp
   have y_ : W3.cell? ⟨w.heap.size, 9, none⟩ = some (.int .u64 x.rv) := blk_cell hP.out.hS 9
   have g_ := blk_frozen hP.out.hS 9
   go_wp2_with (fail)
   go_meet
   case rel => exact ⟨A9, c9, hP.out.set hw 9 (.int .u64 n) { x with rv := n } rfl rfl⟩
  rw [if_neg c9] at hp
  rw [if_neg hn] at hp
  injection hp with hp
  subst hp
  have b10 : (no == 10) = false := beq_eq_false_iff_ne.mpr hn
  have b1 : (no == 1) = false := beq_eq_false_iff_ne.mpr c1
  have b2 : (no == 2) = false := beq_eq_false_iff_ne.mpr c2
  have b3 : (no == 3) = false := beq_eq_false_iff_ne.mpr c3
  have b4 : (no == 4) = false := beq_eq_false_iff_ne.mpr c4
  have b5 : (no == 5) = false := beq_eq_false_iff_ne.mpr c5
  have b6 : (no == 6) = false := beq_eq_false_iff_ne.mpr c6
  have b7 : (no == 7) = false := beq_eq_false_iff_ne.mpr c7
  have b8 : (no == 8) = false := beq_eq_false_iff_ne.mpr c8
  have b9 : (no == 9) = false := beq_eq_false_iff_ne.mpr c9
  clear c1 c2 c3 c4 c5 c6 c7 c8 c9 hn
  go_wp2_with (fail)
  go_meet
  case rel => exact ⟨A9, c9, hP.out⟩
 case rest =>
  obtain ⟨A5, c5, hQ⟩ := hcut
  clear hp hP hF f0 f2 f3
  have hS_ : wc.heap[w.heap.size]? = some (.cells #[.int .u64 x'.hi, .int .u64 x'.lo, .int .u64 x'.id, .int .u64 x'.par, .string x'.nm, .int .i64 x'.st, .int .i64 x'.en, .bool x'.bad, .slice A5 x'.ats.length c5, .int .u64 x'.rv] 26 (0, 0)) := hQ.hS
  have hZ_ : wc.heap[w.heap.size + 1 + 1]? = some (.cells #[.int .u64 0, .int .u64 0, .int .u64 0, .int .u64 0, .string ⟨#[]⟩, .int .i64 0, .int .i64 0, .bool false, .slice none 0 0, .int .u64 0] 26 (0, 0)) := hQ.hZ
  have hQ_ := Aside0.mk hQ
  have hu26 := Try.underlying26
  obtain ⟨z0, z1, z2, z3, z4, z5, z6, z7, z8, z9⟩ := RfD.cells10 hS_
  obtain ⟨o0, o1, o2, o3, o4, o5, o6, o7, o8, o9⟩ := RfD.cells10 hZ_
  have p0 := blk_frozen hZ_ 0
  have p1 := blk_frozen hZ_ 1
  have p2 := blk_frozen hZ_ 2
  have p3 := blk_frozen hZ_ 3
  have p4 := blk_frozen hZ_ 4
  have p5 := blk_frozen hZ_ 5
  have p6 := blk_frozen hZ_ 6
  have p7 := blk_frozen hZ_ 7
  have p8 := blk_frozen hZ_ 8
  have p9 := blk_frozen hZ_ 9
  go_wp2_with (fail)
  clear z0 o0 p0 z1 o1 p1 z2 o2 p2 z3 o3 p3 z4 o4 p4 z5 o5 p5 z6 o6 p6 z7 o7 p7 z8 o8 p8 z9 o9 p9
  have hN_ := Spn.store10 wc (w.heap.size + 1 + 1) _ _ _ _ _ _ _ _ _ _ (.int .u64 x'.hi) (.int .u64 x'.lo) (.int .u64 x'.id) (.int .u64 x'.par) (.string x'.nm) (.int .i64 x'.st) (.int .i64 x'.en) (.bool x'.bad) (.slice A5 x'.ats.length c5) (.int .u64 x'.rv) hZ_
  have hR_ := Kd.R_mono (Kd.R_step (Kd.R_types hQ_.out.hR hQ_.out.hZ RfD.ne) (fun k hk _ => Spn.far10 wc (w.heap.size + 1 + 1) k hk.2 (.int .u64 x'.hi) (.int .u64 x'.lo) (.int .u64 x'.id) (.int .u64 x'.par) (.string x'.nm) (.int .i64 x'.st) (.int .i64 x'.en) (.bool x'.bad) (.slice A5 x'.ats.length c5) (.int .u64 x'.rv))) (fun _ h => h.1)
  have hB_ := Spn.below10 w1 wc (w.heap.size + 1 + 1) hQ_.out.hB (by omega) (.int .u64 x'.hi) (.int .u64 x'.lo) (.int .u64 x'.id) (.int .u64 x'.par) (.string x'.nm) (.int .i64 x'.st) (.int .i64 x'.en) (.bool x'.bad) (.slice A5 x'.ats.length c5) (.int .u64 x'.rv)
  have g_ : w.heap.size ≤ w.heap.size + 1 + 1 := by omega
  have hK_ := ((((((((((hQ_.out.hK.setCell (p := ⟨w.heap.size + 1 + 1, 0, none⟩) (Or.inr g_) (.int .u64 x'.hi)).setCell (p := ⟨w.heap.size + 1 + 1, 1, none⟩) (Or.inr g_) (.int .u64 x'.lo)).setCell (p := ⟨w.heap.size + 1 + 1, 2, none⟩) (Or.inr g_) (.int .u64 x'.id)).setCell (p := ⟨w.heap.size + 1 + 1, 3, none⟩) (Or.inr g_) (.int .u64 x'.par)).setCell (p := ⟨w.heap.size + 1 + 1, 4, none⟩) (Or.inr g_) (.string x'.nm)).setCell (p := ⟨w.heap.size + 1 + 1, 5, none⟩) (Or.inr g_) (.int .i64 x'.st)).setCell (p := ⟨w.heap.size + 1 + 1, 6, none⟩) (Or.inr g_) (.int .i64 x'.en)).setCell (p := ⟨w.heap.size + 1 + 1, 7, none⟩) (Or.inr g_) (.bool x'.bad)).setCell (p := ⟨w.heap.size + 1 + 1, 8, none⟩) (Or.inr g_) (.slice A5 x'.ats.length c5)).setCell (p := ⟨w.heap.size + 1 + 1, 9, none⟩) (Or.inr g_) (.int .u64 x'.rv))
  clear hS_ hZ_ hQ_
  generalize ((((((((((wc.setCell ⟨w.heap.size + 1 + 1, 0, none⟩ (.int .u64 x'.hi)).setCell ⟨w.heap.size + 1 + 1, 1, none⟩ (.int .u64 x'.lo)).setCell ⟨w.heap.size + 1 + 1, 2, none⟩ (.int .u64 x'.id)).setCell ⟨w.heap.size + 1 + 1, 3, none⟩ (.int .u64 x'.par)).setCell ⟨w.heap.size + 1 + 1, 4, none⟩ (.string x'.nm)).setCell ⟨w.heap.size + 1 + 1, 5, none⟩ (.int .i64 x'.st)).setCell ⟨w.heap.size + 1 + 1, 6, none⟩ (.int .i64 x'.en)).setCell ⟨w.heap.size + 1 + 1, 7, none⟩ (.bool x'.bad)).setCell ⟨w.heap.size + 1 + 1, 8, none⟩ (.slice A5 x'.ats.length c5)).setCell ⟨w.heap.size + 1 + 1, 9, none⟩ (.int .u64 x'.rv)) = wf_ at *
  obtain ⟨y0, y1, y2, y3, y4, y5, y6, y7, y8, y9⟩ := RfD.cells10 hN_
  have hres : Try.f49.results = #[.cell 4 26] := by kernel_rfl
  refine bodyPost_ret (v := .agg #[.int .u64 x'.hi, .int .u64 x'.lo, .int .u64 x'.id, .int .u64 x'.par, .string x'.nm, .int .i64 x'.st, .int .i64 x'.en, .bool x'.bad, .slice A5 x'.ats.length c5, .int .u64 x'.rv]) ?_ rfl ⟨A5, c5, rfl, hR_, hK_, hB_⟩
  simp only [results, hres]
  go_simp
theorem RfD.put_calls (w1 w : World) (x x' : Itm.It) (A9 : Option Addr) (c9 : Nat) (no tn n : Int) (s : ByteArray) (ok : Nat → Prop) (hk : x.kd = 1) (hp : Itm.putF x no n s = some x') (HB1 : Below w1.heap.size w1 w) (hR : Kd.R k36 36 w w1.heap.size ok (.slice A9 x.ats.length c9) x.ats) :
  Calls Try.prog 49 #[.agg #[.int .u64 x.hi, .int .u64 x.lo, .int .u64 x.id, .int .u64 x.par, .string x.nm, .int .i64 x.st, .int .i64 x.en, .bool x.bad, .slice A9 x.ats.length c9, .int .u64 x.rv], .agg #[.int .u64 no, .int .i64 tn, .int .u64 n, .string s]] w (RfD.PPost w1 w ok x x') := by
 have hs : s.size ≤ 100000 := by
  by_cases h : s.size ≤ 100000
  ·exact h
  ·unfold Itm.putF at hp; rw [if_neg h] at hp; cases hp
 by_cases hn : no = 10
 ·subst hn
  unfold Itm.putF at hp
  rw [if_pos hs, if_pos hk, if_neg (by decide), if_neg (by decide), if_neg (by decide), if_neg (by decide), if_neg (by decide), if_neg (by decide), if_neg (by decide), if_neg (by decide), if_neg (by decide), if_pos rfl] at hp
  obtain ⟨⟨k, up, ee⟩, hg, hp⟩ := Option.bind_eq_some_iff.mp hp
  dsimp only at hp
  by_cases he : ee = 0
  ·subst he
   rw [if_pos rfl] at hp
   by_cases hto : (0 ≤ up ∧ up ≤ s.size) ∧ x.ats.length ≤ 100000
   ·rw [if_pos hto] at hp
    injection hp with hp
    subst hp
    exact RfD.put_attr w1 w x A9 c9 tn n s ok hs HB1 hR k up hg hto.1 hto.2
   ·rw [if_neg hto] at hp
    cases hp
  ·rw [if_neg he] at hp
   injection hp with hp
   subst hp
   exact RfD.put_no w1 w x A9 c9 tn n s ok hs HB1 hR k up ee hg he
 ·exact RfD.put_plain w1 w x x' A9 c9 no tn n s ok hs HB1 hR hk hn hp
end Go.Proofs.Ytfapckmobeppnaa.Px
