/- item.Decode in general: no span. -/
import Derived.Test.YtfapckmobeppnaaItmP
namespace Go.Proofs.Ytfapckmobeppnaa.Px
open Go.RowKit Go.Proofs.YtfapckmobeppnaaW.PrintWords Go.Proofs.YtfapckmobeppnaaW.PrintLast Go.Proofs.YtfapckmobeppnaaW.PrintMore
set_option linter.unusedVariables false
set_option linter.unusedSimpArgs false

set_option maxHeartbeats 8000000 in
set_option maxRecDepth 100000 in
theorem Itm.Decode_oa (k : Nat) (A : Option Addr) (c : Nat) (l : List Int) (w : World) (y : Itm.It) (er : Int) (hr : Kd.C (Kd.int .u8) w A l.length l) (hc : l.length ≤ c) (hl : 0 < l.length) (hkd : rd l 0 ≠ 1)
  (her : Aside0 (er = 0)) (h : (Itm.parse k l 1 { Itm.It.z with kd := rd l 0 }).bind (Itm.fin l) = some (y, er)) :
  Calls Try.prog 20 #[.slice A l.length c] w (Itm.DPost y er w) := by
 obtain ⟨ad, e0, hx⟩ := ReadsInt.at_ (Kd.reads_of_C (enc := Value.int .u8) (d := (0 : Int)) (h1 := fun _ => rfl) hr) 0 (by omega) (by omega)
 cases e0
 have hx0 : w.cell? ad = some (.int .u8 (rd l 0)) := by simpa [Addr.add] using hx
 have hl0 : decide ((l.length : Int) = 0) = false := decide_eq_false (by omega)
 have hl1 : ((l.length : Int) == 0) = false := beq_eq_false_iff_ne.mpr (by omega)
 have hl2 : ¬ (l.length : Int) = 0 := by omega
 have hl3 : (0 : Int) < (l.length : Int) := by omega
 have hl4 : ¬ l.length = 0 := by omega
 generalize hk0 : rd l 0 = kd at *
 have hb_1 : (kd == 1) = false := beq_eq_false_iff_ne.mpr hkd
 replace hr := Aside0.mk hr
 replace h := Aside0.mk h
 clear hx
 have hI := blk_alloc (blk_new w (.cells #[.int .u8 0, .int .u64 0, .int .u64 0, .int .u64 0, .int .u64 0, .string ⟨#[]⟩, .int .i64 0, .int .i64 0, .bool false, .slice none 0 0, .int .u64 0, .string ⟨#[]⟩, .int .u64 0, .int .i64 0, .string ⟨#[]⟩] 38 (0, 0))) (.cells #[.int .u8 0, .int .u64 0, .int .u64 0, .int .u64 0, .int .u64 0, .string ⟨#[]⟩, .int .i64 0, .int .i64 0, .bool false, .slice none 0 0, .int .u64 0, .string ⟨#[]⟩, .int .u64 0, .int .i64 0, .string ⟨#[]⟩, .slice (some ad) l.length c, .int .i64 1] 79 (0, 0))
 have s1 : (w.alloc (.cells #[.int .u8 0, .int .u64 0, .int .u64 0, .int .u64 0, .int .u64 0, .string ⟨#[]⟩, .int .i64 0, .int .i64 0, .bool false, .slice none 0 0, .int .u64 0, .string ⟨#[]⟩, .int .u64 0, .int .i64 0, .string ⟨#[]⟩] 38 (0, 0))).heap.size = w.heap.size + 1 := World.size_alloc _ _
 have hR := blk_new (w.alloc (.cells #[.int .u8 0, .int .u64 0, .int .u64 0, .int .u64 0, .int .u64 0, .string ⟨#[]⟩, .int .i64 0, .int .i64 0, .bool false, .slice none 0 0, .int .u64 0, .string ⟨#[]⟩, .int .u64 0, .int .i64 0, .string ⟨#[]⟩] 38 (0, 0))) (.cells #[.int .u8 0, .int .u64 0, .int .u64 0, .int .u64 0, .int .u64 0, .string ⟨#[]⟩, .int .i64 0, .int .i64 0, .bool false, .slice none 0 0, .int .u64 0, .string ⟨#[]⟩, .int .u64 0, .int .i64 0, .string ⟨#[]⟩, .slice (some ad) l.length c, .int .i64 1] 79 (0, 0))
 rw [s1] at hR
 have hB := below_alloc (below_alloc (Below.refl w.heap.size w) (.cells #[.int .u8 0, .int .u64 0, .int .u64 0, .int .u64 0, .int .u64 0, .string ⟨#[]⟩, .int .i64 0, .int .i64 0, .bool false, .slice none 0 0, .int .u64 0, .string ⟨#[]⟩, .int .u64 0, .int .i64 0, .string ⟨#[]⟩] 38 (0, 0))) (.cells #[.int .u8 0, .int .u64 0, .int .u64 0, .int .u64 0, .int .u64 0, .string ⟨#[]⟩, .int .i64 0, .int .i64 0, .bool false, .slice none 0 0, .int .u64 0, .string ⟨#[]⟩, .int .u64 0, .int .i64 0, .string ⟨#[]⟩, .slice (some ad) l.length c, .int .i64 1] 79 (0, 0))
 have s2 : ((w.alloc (.cells #[.int .u8 0, .int .u64 0, .int .u64 0, .int .u64 0, .int .u64 0, .string ⟨#[]⟩, .int .i64 0, .int .i64 0, .bool false, .slice none 0 0, .int .u64 0, .string ⟨#[]⟩, .int .u64 0, .int .i64 0, .string ⟨#[]⟩] 38 (0, 0))).alloc (.cells #[.int .u8 0, .int .u64 0, .int .u64 0, .int .u64 0, .int .u64 0, .string ⟨#[]⟩, .int .i64 0, .int .i64 0, .bool false, .slice none 0 0, .int .u64 0, .string ⟨#[]⟩, .int .u64 0, .int .i64 0, .string ⟨#[]⟩, .slice (some ad) l.length c, .int .i64 1] 79 (0, 0))).heap.size = w.heap.size + 1 + 1 := by rw [World.size_alloc, s1]
 clear s1
 go_enter Try.func20, Try.ntmps20
 go_upto_region 4 with (fail)
 generalize ((w.alloc (.cells #[.int .u8 0, .int .u64 0, .int .u64 0, .int .u64 0, .int .u64 0, .string ⟨#[]⟩, .int .i64 0, .int .i64 0, .bool false, .slice none 0 0, .int .u64 0, .string ⟨#[]⟩, .int .u64 0, .int .i64 0, .string ⟨#[]⟩] 38 (0, 0))).alloc (.cells #[.int .u8 0, .int .u64 0, .int .u64 0, .int .u64 0, .int .u64 0, .string ⟨#[]⟩, .int .i64 0, .int .i64 0, .bool false, .slice none 0 0, .int .u64 0, .string ⟨#[]⟩, .int .u64 0, .int .i64 0, .string ⟨#[]⟩, .slice (some ad) l.length c, .int .i64 1] 79 (0, 0))) = W2 at *
 have hx2 : W2.cell? ad = some (.int .u8 kd) := (hB.cell (World.block_lt_of_cell? _ _ hx0)).trans hx0
 have r0 : W2.cell? ⟨w.heap.size + 1, 0, none⟩ = some (.int .u8 0) := blk_cell hR 0
 have rf := blk_frozen hR 0
 have hne : w.heap.size ≠ w.heap.size + 1 := by omega
 have hRd : Itm.Rd w (W2.setCell ⟨w.heap.size + 1, 0, none⟩ (.int .u8 kd)) { Itm.It.z with kd := kd } none 0 (some ad) l.length c 1 :=
  ⟨blk_put hR 0 (.int .u8 kd) rfl, blk_far hI (p := ⟨w.heap.size + 1, 0, none⟩) hne (.int .u8 kd), below_set (j := 0) (v := .int .u8 kd) hB (show w.heap.size ≤ w.heap.size + 1 by omega), by simp [s2], Kd.R_nil _ _ _ _ _⟩
 clear hI hR hB hx0 s2
 go_upto_region 5 with (fail)
 generalize (W2.setCell ⟨w.heap.size + 1, 0, none⟩ (.int .u8 kd)) = W3 at *
 clear hx2 r0 rf
 have r0 : W3.cell? ⟨w.heap.size + 1, 0, none⟩ = some (.int .u8 kd) := blk_cell hRd.hR 0
 replace hRd := Aside0.mk hRd
 go_wp2_with (fail)
 clear r0
 go_loopg [7] k (fun kq _ wr => ∃ (x : Itm.It) (q : Int) (A9 : Option Addr) (c9 : Nat), Aside0 ((Itm.parse kq l q x).bind (Itm.fin l) = some (y, er)) ∧ Aside0 (x.kd = kd) ∧ Aside0 (Itm.Rd w wr x A9 c9 (some ad) l.length c q))
 case atStart => exact ⟨_, 1, none, 0, h, ⟨rfl⟩, hRd⟩
 case round =>
  clear h hRd
  obtain ⟨x, q, A9, c9, h, hxk, hD⟩ := hrel
  have q16 : wr.cell? ⟨w.heap.size + 1, 16, none⟩ = some (.int .i64 q) := blk_cell hD.out.hR 16
  cases gk with
  | zero => exact absurd h.out (by rw [Itm.parse]; simp)
  | succ kq =>
   by_cases hq : q < (l.length : Int)
   ·have h2 := h.out
    rw [Itm.parse, if_pos hq, Option.bind_assoc] at h2
    obtain ⟨o, ho, h3⟩ := Option.bind_eq_some_iff.mp h2
    replace ho := Aside0.mk ho
    replace h3 := Aside0.mk h3
    clear h h2
    go_wp2_with (fail)
    cases o with
    | none =>
     have h4 : (Itm.It.z, (40 : Int)) = (y, er) := Option.some.inj h3.out
     simp only [Prod.mk.injEq] at h4
     obtain ⟨rfl, rfl⟩ := h4
     refine (Itm.next_fail hD.out (Kd.C_below hr.out (Below.refl _ _)) hc ho.out).mono ?_
     rintro e w4 ⟨⟨no, n, s, tx, rfl⟩, hI4, hB4⟩
     have hI5 := blk_alloc hI4 (.cells #[.int .u64 no, .int .u64 n, .string s, .bool tx] 82 (0, 0))
     have hB5 := Aside0.mk (below_alloc hB4 (.cells #[.int .u64 no, .int .u64 n, .string s, .bool tx] 82 (0, 0)))
     clear hI4 hB4 h3
     obtain ⟨w4b, hw4b⟩ : ∃ w4b, w4b = w4.alloc (.cells #[.int .u64 no, .int .u64 n, .string s, .bool tx] 82 (0, 0)) := ⟨_, rfl⟩
     rw [← hw4b] at hI5 hB5
     go_upto_region 10 with (fail)
     rw [← hw4b]
     clear hw4b
     exact absurd her.out (by decide)
    | some f =>
     obtain ⟨no, n, s, tx, q2⟩ := f
     obtain ⟨x', hp, h4⟩ := Option.bind_eq_some_iff.mp ((Option.bind_assoc _ _ _).symm.trans h3.out : ((Itm.putF x no n s).bind fun x' => (Itm.parse kq l q2 x').bind (Itm.fin l)) = some (y, er))
     replace h4 := Aside0.mk h4
     have hxk2 := Aside0.mk ((Itm.putF_kd hp).trans hxk.out)
     replace hp := Aside0.mk hp
     refine (Itm.next_some hD.out (Kd.C_below hr.out (Below.refl _ _)) hc no n s tx q2 ho.out).mono ?_
     rintro e w4 ⟨rfl, hD4⟩
     have hD5 := Aside0.mk (hD4.below (below_alloc (Below.refl _ _) (.cells #[.int .u64 no, .int .u64 n, .string s, .bool tx] 82 (0, 0))))
     clear hD q16 hD4 h3 ho
     go_wp2_with (fail)
     refine (Itm.take_log hD5.out (by rw [hxk.out]; exact hkd) no n s tx hp.out).mono ?_
     rintro e w6 ⟨⟨v6, rfl⟩, A6, c6, hD6⟩
     replace hD6 := Aside0.mk hD6
     clear hD5 hp
     go_wp2_with (fail)
     go_roundg kq
     case measure => omega
     case rel => exact ⟨x', q2, A6, c6, h4, hxk2, hD6⟩
   ·have h2 := h.out
    rw [Itm.parse, if_neg hq, Option.bind_some] at h2
    obtain ⟨⟨r1, r2⟩, he, h3⟩ := Option.bind_eq_some_iff.mp h2
    dsimp only at h3
    replace he := Aside0.mk he
    replace h3 := Aside0.mk h3
    clear h h2
    have qa0 : wr.cell? ⟨w.heap.size + 1, 0, none⟩ = some (.int .u8 x.kd) := blk_cell hD.out.hR 0
    have qa1 : wr.cell? ⟨w.heap.size + 1, 1, none⟩ = some (.int .u64 x.hi) := blk_cell hD.out.hR 1
    have qa2 : wr.cell? ⟨w.heap.size + 1, 2, none⟩ = some (.int .u64 x.lo) := blk_cell hD.out.hR 2
    have qa3 : wr.cell? ⟨w.heap.size + 1, 3, none⟩ = some (.int .u64 x.id) := blk_cell hD.out.hR 3
    have qa4 : wr.cell? ⟨w.heap.size + 1, 4, none⟩ = some (.int .u64 x.par) := blk_cell hD.out.hR 4
    have qa5 : wr.cell? ⟨w.heap.size + 1, 5, none⟩ = some (.string x.nm) := blk_cell hD.out.hR 5
    have qa6 : wr.cell? ⟨w.heap.size + 1, 6, none⟩ = some (.int .i64 x.st) := blk_cell hD.out.hR 6
    have qa7 : wr.cell? ⟨w.heap.size + 1, 7, none⟩ = some (.int .i64 x.en) := blk_cell hD.out.hR 7
    have qa8 : wr.cell? ⟨w.heap.size + 1, 8, none⟩ = some (.bool x.bad) := blk_cell hD.out.hR 8
    have qa9 : wr.cell? ⟨w.heap.size + 1, 9, none⟩ = some (.slice A9 x.ats.length c9) := blk_cell hD.out.hR 9
    have qa10 : wr.cell? ⟨w.heap.size + 1, 10, none⟩ = some (.int .u64 x.rv) := blk_cell hD.out.hR 10
    have qa11 : wr.cell? ⟨w.heap.size + 1, 11, none⟩ = some (.string x.k) := blk_cell hD.out.hR 11
    have qa12 : wr.cell? ⟨w.heap.size + 1, 12, none⟩ = some (.int .u64 x.wt) := blk_cell hD.out.hR 12
    have qa13 : wr.cell? ⟨w.heap.size + 1, 13, none⟩ = some (.int .i64 x.t) := blk_cell hD.out.hR 13
    have qa14 : wr.cell? ⟨w.heap.size + 1, 14, none⟩ = some (.string x.b) := blk_cell hD.out.hR 14
    have hqz : decide (q < (l.length : Int)) = false := decide_eq_false hq
    go_wp2_with (fail)
    obtain ⟨_, hcA, hCA⟩ := Kd.R_reads' hD.out.hA
    refine (Itm.Encode_calls' x.kd x.hi x.lo x.id x.par x.nm x.st x.en x.bad A9 c9 x.ats x.rv x.k x.wt x.t x.b r1 r2 wr hCA hcA he.out).mono ?_
    rintro e w7 ⟨v7, rfl, hN7, hB7⟩
    obtain ⟨A7, c7, rfl⟩ := Kd.R_slice hN7
    obtain ⟨_, hc7, hC7⟩ := Kd.R_reads' hN7
    have hD7 := Aside0.mk (hD.out.below hB7)
    clear hN7 hB7 hD hCA hcA q16 qa0 qa1 qa2 qa3 qa4 qa5 qa6 qa7 qa8 qa9 qa10 qa11 qa12 qa13 qa14
    by_cases hr2 : r2 = 0
    ·have h4 := h3.out
     rw [if_pos hr2] at h4
     subst hr2
     obtain ⟨be, hbe, h5⟩ := Option.bind_eq_some_iff.mp h4
     have cE := bytes_Equal.calls A7 c7 r1 (some ad) c l be w7 hC7 hc7 (Kd.C_below hr.out hD7.out.hB) hc hbe
     clear hC7 h3 h4 he
     replace h5 := Aside0.mk h5
     go_wp2_with (fail)
     refine cE.mono ?_
     clear cE
     rintro e w8 ⟨rfl, ⟨m8, hm8⟩⟩
     have hD8 := Aside0.mk (hD7.out.below (w' := w8) (by rw [hm8]; exact pw_below_drewN (Below.refl _ _) m8))
     clear hm8 hD7
     cases be with
     | true =>
      have h6 := h5.out
      rw [if_pos rfl] at h6
      injection h6 with h6
      simp only [Prod.mk.injEq] at h6
      obtain ⟨rfl, rfl⟩ := h6
      clear h5
      have qb0 : w8.cell? ⟨w.heap.size + 1, 0, none⟩ = some (.int .u8 x.kd) := blk_cell hD8.out.hR 0
      have qb1 : w8.cell? ⟨w.heap.size + 1, 1, none⟩ = some (.int .u64 x.hi) := blk_cell hD8.out.hR 1
      have qb2 : w8.cell? ⟨w.heap.size + 1, 2, none⟩ = some (.int .u64 x.lo) := blk_cell hD8.out.hR 2
      have qb3 : w8.cell? ⟨w.heap.size + 1, 3, none⟩ = some (.int .u64 x.id) := blk_cell hD8.out.hR 3
      have qb4 : w8.cell? ⟨w.heap.size + 1, 4, none⟩ = some (.int .u64 x.par) := blk_cell hD8.out.hR 4
      have qb5 : w8.cell? ⟨w.heap.size + 1, 5, none⟩ = some (.string x.nm) := blk_cell hD8.out.hR 5
      have qb6 : w8.cell? ⟨w.heap.size + 1, 6, none⟩ = some (.int .i64 x.st) := blk_cell hD8.out.hR 6
      have qb7 : w8.cell? ⟨w.heap.size + 1, 7, none⟩ = some (.int .i64 x.en) := blk_cell hD8.out.hR 7
      have qb8 : w8.cell? ⟨w.heap.size + 1, 8, none⟩ = some (.bool x.bad) := blk_cell hD8.out.hR 8
      have qb9 : w8.cell? ⟨w.heap.size + 1, 9, none⟩ = some (.slice A9 x.ats.length c9) := blk_cell hD8.out.hR 9
      have qb10 : w8.cell? ⟨w.heap.size + 1, 10, none⟩ = some (.int .u64 x.rv) := blk_cell hD8.out.hR 10
      have qb11 : w8.cell? ⟨w.heap.size + 1, 11, none⟩ = some (.string x.k) := blk_cell hD8.out.hR 11
      have qb12 : w8.cell? ⟨w.heap.size + 1, 12, none⟩ = some (.int .u64 x.wt) := blk_cell hD8.out.hR 12
      have qb13 : w8.cell? ⟨w.heap.size + 1, 13, none⟩ = some (.int .i64 x.t) := blk_cell hD8.out.hR 13
      have qb14 : w8.cell? ⟨w.heap.size + 1, 14, none⟩ = some (.string x.b) := blk_cell hD8.out.hR 14
      have d0 : w8.cell? ⟨w.heap.size, 0, none⟩ = some (.int .u8 0) := blk_cell hD8.out.hI 0
      have d1 : w8.cell? ⟨w.heap.size, 1, none⟩ = some (.int .u64 0) := blk_cell hD8.out.hI 1
      have d2 : w8.cell? ⟨w.heap.size, 2, none⟩ = some (.int .u64 0) := blk_cell hD8.out.hI 2
      have d3 : w8.cell? ⟨w.heap.size, 3, none⟩ = some (.int .u64 0) := blk_cell hD8.out.hI 3
      have d4 : w8.cell? ⟨w.heap.size, 4, none⟩ = some (.int .u64 0) := blk_cell hD8.out.hI 4
      have d5 : w8.cell? ⟨w.heap.size, 5, none⟩ = some (.string ⟨#[]⟩) := blk_cell hD8.out.hI 5
      have d6 : w8.cell? ⟨w.heap.size, 6, none⟩ = some (.int .i64 0) := blk_cell hD8.out.hI 6
      have d7 : w8.cell? ⟨w.heap.size, 7, none⟩ = some (.int .i64 0) := blk_cell hD8.out.hI 7
      have d8 : w8.cell? ⟨w.heap.size, 8, none⟩ = some (.bool false) := blk_cell hD8.out.hI 8
      have d9 : w8.cell? ⟨w.heap.size, 9, none⟩ = some (.slice none 0 0) := blk_cell hD8.out.hI 9
      have d10 : w8.cell? ⟨w.heap.size, 10, none⟩ = some (.int .u64 0) := blk_cell hD8.out.hI 10
      have d11 : w8.cell? ⟨w.heap.size, 11, none⟩ = some (.string ⟨#[]⟩) := blk_cell hD8.out.hI 11
      have d12 : w8.cell? ⟨w.heap.size, 12, none⟩ = some (.int .u64 0) := blk_cell hD8.out.hI 12
      have d13 : w8.cell? ⟨w.heap.size, 13, none⟩ = some (.int .i64 0) := blk_cell hD8.out.hI 13
      have d14 : w8.cell? ⟨w.heap.size, 14, none⟩ = some (.string ⟨#[]⟩) := blk_cell hD8.out.hI 14
      have f0 := blk_frozen hD8.out.hI 0
      have f1 := blk_frozen hD8.out.hI 1
      have f2 := blk_frozen hD8.out.hI 2
      have f3 := blk_frozen hD8.out.hI 3
      have f4 := blk_frozen hD8.out.hI 4
      have f5 := blk_frozen hD8.out.hI 5
      have f6 := blk_frozen hD8.out.hI 6
      have f7 := blk_frozen hD8.out.hI 7
      have f8 := blk_frozen hD8.out.hI 8
      have f9 := blk_frozen hD8.out.hI 9
      have f10 := blk_frozen hD8.out.hI 10
      have f11 := blk_frozen hD8.out.hI 11
      have f12 := blk_frozen hD8.out.hI 12
      have f13 := blk_frozen hD8.out.hI 13
      have f14 := blk_frozen hD8.out.hI 14
      go_wp2_with (fail)
      have hres : Try.f20.results = #[.cell 2 38, .tmp 3] := by kernel_rfl
      refine bodyPost_ret (v := .tuple #[.agg #[.int .u8 x.kd, .int .u64 x.hi, .int .u64 x.lo, .int .u64 x.id, .int .u64 x.par, .string x.nm, .int .i64 x.st, .int .i64 x.en, .bool x.bad, .slice A9 x.ats.length c9, .int .u64 x.rv, .string x.k, .int .u64 x.wt, .int .i64 x.t, .string x.b], .int .u16 0]) ?_ rfl (show Itm.DPost x 0 w _ _ from ⟨.slice A9 x.ats.length c9, rfl, ?_, ?_⟩)
      ·simp only [results, hres]
       go_simp
      ·refine Kd.R_mono (ok := fun k => w.heap.size + 2 ≤ k) ?_ (fun _ _ => trivial)
       iterate 15 (refine Itm.R_one ?_ (fun k hk => by omega))
       exact hD8.out.hA
      ·iterate 15 (refine below_set ?_ (Nat.le_refl _))
       exact hD8.out.hB
     | false =>
      have h6 := h5.out
      rw [if_neg (by decide)] at h6
      injection h6 with h6
      simp only [Prod.mk.injEq] at h6
      obtain ⟨rfl, rfl⟩ := h6
      clear h5
      exact absurd her.out (by decide)
    ·have h4 := h3.out
     rw [if_neg hr2] at h4
     injection h4 with h6
     simp only [Prod.mk.injEq] at h6
     obtain ⟨rfl, rfl⟩ := h6
     clear h3
     have hbr : (r2 != 0) = true := bne_iff_ne.mpr hr2
     exact absurd her.out (by decide)

set_option maxHeartbeats 8000000 in
set_option maxRecDepth 100000 in
theorem Itm.Decode_ob (k : Nat) (A : Option Addr) (c : Nat) (l : List Int) (w : World) (y : Itm.It) (er : Int) (hr : Kd.C (Kd.int .u8) w A l.length l) (hc : l.length ≤ c) (hl : 0 < l.length) (hkd : rd l 0 ≠ 1)
  (her : Aside0 (er ≠ 0)) (h : (Itm.parse k l 1 { Itm.It.z with kd := rd l 0 }).bind (Itm.fin l) = some (y, er)) :
  Calls Try.prog 20 #[.slice A l.length c] w (Itm.DPost y er w) := by
 obtain ⟨ad, e0, hx⟩ := ReadsInt.at_ (Kd.reads_of_C (enc := Value.int .u8) (d := (0 : Int)) (h1 := fun _ => rfl) hr) 0 (by omega) (by omega)
 cases e0
 have hx0 : w.cell? ad = some (.int .u8 (rd l 0)) := by simpa [Addr.add] using hx
 have hl0 : decide ((l.length : Int) = 0) = false := decide_eq_false (by omega)
 have hl1 : ((l.length : Int) == 0) = false := beq_eq_false_iff_ne.mpr (by omega)
 have hl2 : ¬ (l.length : Int) = 0 := by omega
 have hl3 : (0 : Int) < (l.length : Int) := by omega
 have hl4 : ¬ l.length = 0 := by omega
 generalize hk0 : rd l 0 = kd at *
 have hb_1 : (kd == 1) = false := beq_eq_false_iff_ne.mpr hkd
 replace hr := Aside0.mk hr
 replace h := Aside0.mk h
 clear hx
 have hI := blk_alloc (blk_new w (.cells #[.int .u8 0, .int .u64 0, .int .u64 0, .int .u64 0, .int .u64 0, .string ⟨#[]⟩, .int .i64 0, .int .i64 0, .bool false, .slice none 0 0, .int .u64 0, .string ⟨#[]⟩, .int .u64 0, .int .i64 0, .string ⟨#[]⟩] 38 (0, 0))) (.cells #[.int .u8 0, .int .u64 0, .int .u64 0, .int .u64 0, .int .u64 0, .string ⟨#[]⟩, .int .i64 0, .int .i64 0, .bool false, .slice none 0 0, .int .u64 0, .string ⟨#[]⟩, .int .u64 0, .int .i64 0, .string ⟨#[]⟩, .slice (some ad) l.length c, .int .i64 1] 79 (0, 0))
 have s1 : (w.alloc (.cells #[.int .u8 0, .int .u64 0, .int .u64 0, .int .u64 0, .int .u64 0, .string ⟨#[]⟩, .int .i64 0, .int .i64 0, .bool false, .slice none 0 0, .int .u64 0, .string ⟨#[]⟩, .int .u64 0, .int .i64 0, .string ⟨#[]⟩] 38 (0, 0))).heap.size = w.heap.size + 1 := World.size_alloc _ _
 have hR := blk_new (w.alloc (.cells #[.int .u8 0, .int .u64 0, .int .u64 0, .int .u64 0, .int .u64 0, .string ⟨#[]⟩, .int .i64 0, .int .i64 0, .bool false, .slice none 0 0, .int .u64 0, .string ⟨#[]⟩, .int .u64 0, .int .i64 0, .string ⟨#[]⟩] 38 (0, 0))) (.cells #[.int .u8 0, .int .u64 0, .int .u64 0, .int .u64 0, .int .u64 0, .string ⟨#[]⟩, .int .i64 0, .int .i64 0, .bool false, .slice none 0 0, .int .u64 0, .string ⟨#[]⟩, .int .u64 0, .int .i64 0, .string ⟨#[]⟩, .slice (some ad) l.length c, .int .i64 1] 79 (0, 0))
 rw [s1] at hR
 have hB := below_alloc (below_alloc (Below.refl w.heap.size w) (.cells #[.int .u8 0, .int .u64 0, .int .u64 0, .int .u64 0, .int .u64 0, .string ⟨#[]⟩, .int .i64 0, .int .i64 0, .bool false, .slice none 0 0, .int .u64 0, .string ⟨#[]⟩, .int .u64 0, .int .i64 0, .string ⟨#[]⟩] 38 (0, 0))) (.cells #[.int .u8 0, .int .u64 0, .int .u64 0, .int .u64 0, .int .u64 0, .string ⟨#[]⟩, .int .i64 0, .int .i64 0, .bool false, .slice none 0 0, .int .u64 0, .string ⟨#[]⟩, .int .u64 0, .int .i64 0, .string ⟨#[]⟩, .slice (some ad) l.length c, .int .i64 1] 79 (0, 0))
 have s2 : ((w.alloc (.cells #[.int .u8 0, .int .u64 0, .int .u64 0, .int .u64 0, .int .u64 0, .string ⟨#[]⟩, .int .i64 0, .int .i64 0, .bool false, .slice none 0 0, .int .u64 0, .string ⟨#[]⟩, .int .u64 0, .int .i64 0, .string ⟨#[]⟩] 38 (0, 0))).alloc (.cells #[.int .u8 0, .int .u64 0, .int .u64 0, .int .u64 0, .int .u64 0, .string ⟨#[]⟩, .int .i64 0, .int .i64 0, .bool false, .slice none 0 0, .int .u64 0, .string ⟨#[]⟩, .int .u64 0, .int .i64 0, .string ⟨#[]⟩, .slice (some ad) l.length c, .int .i64 1] 79 (0, 0))).heap.size = w.heap.size + 1 + 1 := by rw [World.size_alloc, s1]
 clear s1
 go_enter Try.func20, Try.ntmps20
 go_upto_region 4 with (fail)
 generalize ((w.alloc (.cells #[.int .u8 0, .int .u64 0, .int .u64 0, .int .u64 0, .int .u64 0, .string ⟨#[]⟩, .int .i64 0, .int .i64 0, .bool false, .slice none 0 0, .int .u64 0, .string ⟨#[]⟩, .int .u64 0, .int .i64 0, .string ⟨#[]⟩] 38 (0, 0))).alloc (.cells #[.int .u8 0, .int .u64 0, .int .u64 0, .int .u64 0, .int .u64 0, .string ⟨#[]⟩, .int .i64 0, .int .i64 0, .bool false, .slice none 0 0, .int .u64 0, .string ⟨#[]⟩, .int .u64 0, .int .i64 0, .string ⟨#[]⟩, .slice (some ad) l.length c, .int .i64 1] 79 (0, 0))) = W2 at *
 have hx2 : W2.cell? ad = some (.int .u8 kd) := (hB.cell (World.block_lt_of_cell? _ _ hx0)).trans hx0
 have r0 : W2.cell? ⟨w.heap.size + 1, 0, none⟩ = some (.int .u8 0) := blk_cell hR 0
 have rf := blk_frozen hR 0
 have hne : w.heap.size ≠ w.heap.size + 1 := by omega
 have hRd : Itm.Rd w (W2.setCell ⟨w.heap.size + 1, 0, none⟩ (.int .u8 kd)) { Itm.It.z with kd := kd } none 0 (some ad) l.length c 1 :=
  ⟨blk_put hR 0 (.int .u8 kd) rfl, blk_far hI (p := ⟨w.heap.size + 1, 0, none⟩) hne (.int .u8 kd), below_set (j := 0) (v := .int .u8 kd) hB (show w.heap.size ≤ w.heap.size + 1 by omega), by simp [s2], Kd.R_nil _ _ _ _ _⟩
 clear hI hR hB hx0 s2
 go_upto_region 5 with (fail)
 generalize (W2.setCell ⟨w.heap.size + 1, 0, none⟩ (.int .u8 kd)) = W3 at *
 clear hx2 r0 rf
 have r0 : W3.cell? ⟨w.heap.size + 1, 0, none⟩ = some (.int .u8 kd) := blk_cell hRd.hR 0
 replace hRd := Aside0.mk hRd
 go_wp2_with (fail)
 clear r0
 go_loopg [7] k (fun kq _ wr => ∃ (x : Itm.It) (q : Int) (A9 : Option Addr) (c9 : Nat), Aside0 ((Itm.parse kq l q x).bind (Itm.fin l) = some (y, er)) ∧ Aside0 (x.kd = kd) ∧ Aside0 (Itm.Rd w wr x A9 c9 (some ad) l.length c q))
 case atStart => exact ⟨_, 1, none, 0, h, ⟨rfl⟩, hRd⟩
 case round =>
  clear h hRd
  obtain ⟨x, q, A9, c9, h, hxk, hD⟩ := hrel
  have q16 : wr.cell? ⟨w.heap.size + 1, 16, none⟩ = some (.int .i64 q) := blk_cell hD.out.hR 16
  cases gk with
  | zero => exact absurd h.out (by rw [Itm.parse]; simp)
  | succ kq =>
   by_cases hq : q < (l.length : Int)
   ·have h2 := h.out
    rw [Itm.parse, if_pos hq, Option.bind_assoc] at h2
    obtain ⟨o, ho, h3⟩ := Option.bind_eq_some_iff.mp h2
    replace ho := Aside0.mk ho
    replace h3 := Aside0.mk h3
    clear h h2
    go_wp2_with (fail)
    cases o with
    | none =>
     have h4 : (Itm.It.z, (40 : Int)) = (y, er) := Option.some.inj h3.out
     simp only [Prod.mk.injEq] at h4
     obtain ⟨rfl, rfl⟩ := h4
     refine (Itm.next_fail hD.out (Kd.C_below hr.out (Below.refl _ _)) hc ho.out).mono ?_
     rintro e w4 ⟨⟨no, n, s, tx, rfl⟩, hI4, hB4⟩
     have hI5 := blk_alloc hI4 (.cells #[.int .u64 no, .int .u64 n, .string s, .bool tx] 82 (0, 0))
     have hB5 := Aside0.mk (below_alloc hB4 (.cells #[.int .u64 no, .int .u64 n, .string s, .bool tx] 82 (0, 0)))
     clear hI4 hB4 h3
     obtain ⟨w4b, hw4b⟩ : ∃ w4b, w4b = w4.alloc (.cells #[.int .u64 no, .int .u64 n, .string s, .bool tx] 82 (0, 0)) := ⟨_, rfl⟩
     rw [← hw4b] at hI5 hB5
     go_upto_region 10 with (fail)
     rw [← hw4b]
     clear hw4b
     have d0 : w4b.cell? ⟨w.heap.size, 0, none⟩ = some (.int .u8 0) := blk_cell hI5 0
     have d1 : w4b.cell? ⟨w.heap.size, 1, none⟩ = some (.int .u64 0) := blk_cell hI5 1
     have d2 : w4b.cell? ⟨w.heap.size, 2, none⟩ = some (.int .u64 0) := blk_cell hI5 2
     have d3 : w4b.cell? ⟨w.heap.size, 3, none⟩ = some (.int .u64 0) := blk_cell hI5 3
     have d4 : w4b.cell? ⟨w.heap.size, 4, none⟩ = some (.int .u64 0) := blk_cell hI5 4
     have d5 : w4b.cell? ⟨w.heap.size, 5, none⟩ = some (.string ⟨#[]⟩) := blk_cell hI5 5
     have d6 : w4b.cell? ⟨w.heap.size, 6, none⟩ = some (.int .i64 0) := blk_cell hI5 6
     have d7 : w4b.cell? ⟨w.heap.size, 7, none⟩ = some (.int .i64 0) := blk_cell hI5 7
     have d8 : w4b.cell? ⟨w.heap.size, 8, none⟩ = some (.bool false) := blk_cell hI5 8
     have d9 : w4b.cell? ⟨w.heap.size, 9, none⟩ = some (.slice none 0 0) := blk_cell hI5 9
     have d10 : w4b.cell? ⟨w.heap.size, 10, none⟩ = some (.int .u64 0) := blk_cell hI5 10
     have d11 : w4b.cell? ⟨w.heap.size, 11, none⟩ = some (.string ⟨#[]⟩) := blk_cell hI5 11
     have d12 : w4b.cell? ⟨w.heap.size, 12, none⟩ = some (.int .u64 0) := blk_cell hI5 12
     have d13 : w4b.cell? ⟨w.heap.size, 13, none⟩ = some (.int .i64 0) := blk_cell hI5 13
     have d14 : w4b.cell? ⟨w.heap.size, 14, none⟩ = some (.string ⟨#[]⟩) := blk_cell hI5 14
     have f0 := blk_frozen hI5 0
     have f1 := blk_frozen hI5 1
     have f2 := blk_frozen hI5 2
     have f3 := blk_frozen hI5 3
     have f4 := blk_frozen hI5 4
     have f5 := blk_frozen hI5 5
     have f6 := blk_frozen hI5 6
     have f7 := blk_frozen hI5 7
     have f8 := blk_frozen hI5 8
     have f9 := blk_frozen hI5 9
     have f10 := blk_frozen hI5 10
     have f11 := blk_frozen hI5 11
     have f12 := blk_frozen hI5 12
     have f13 := blk_frozen hI5 13
     have f14 := blk_frozen hI5 14
     clear hI5 hD q16
     go_wp2_with (fail)
     have hres : Try.f20.results = #[.cell 2 38, .tmp 3] := by kernel_rfl
     refine bodyPost_ret (v := .tuple #[.agg #[.int .u8 0, .int .u64 0, .int .u64 0, .int .u64 0, .int .u64 0, .string ⟨#[]⟩, .int .i64 0, .int .i64 0, .bool false, .slice none 0 0, .int .u64 0, .string ⟨#[]⟩, .int .u64 0, .int .i64 0, .string ⟨#[]⟩], .int .u16 40]) ?_ rfl (show Itm.DPost Itm.It.z 40 w _ _ from ⟨.slice none 0 0, rfl, Kd.R_nil _ _ _ _ _, ?_⟩)
     ·simp only [results, hres]
      go_simp
     ·iterate 15 (refine below_set ?_ (Nat.le_refl _))
      exact hB5.out
    | some f =>
     obtain ⟨no, n, s, tx, q2⟩ := f
     obtain ⟨x', hp, h4⟩ := Option.bind_eq_some_iff.mp ((Option.bind_assoc _ _ _).symm.trans h3.out : ((Itm.putF x no n s).bind fun x' => (Itm.parse kq l q2 x').bind (Itm.fin l)) = some (y, er))
     replace h4 := Aside0.mk h4
     have hxk2 := Aside0.mk ((Itm.putF_kd hp).trans hxk.out)
     replace hp := Aside0.mk hp
     refine (Itm.next_some hD.out (Kd.C_below hr.out (Below.refl _ _)) hc no n s tx q2 ho.out).mono ?_
     rintro e w4 ⟨rfl, hD4⟩
     have hD5 := Aside0.mk (hD4.below (below_alloc (Below.refl _ _) (.cells #[.int .u64 no, .int .u64 n, .string s, .bool tx] 82 (0, 0))))
     clear hD q16 hD4 h3 ho
     go_wp2_with (fail)
     refine (Itm.take_log hD5.out (by rw [hxk.out]; exact hkd) no n s tx hp.out).mono ?_
     rintro e w6 ⟨⟨v6, rfl⟩, A6, c6, hD6⟩
     replace hD6 := Aside0.mk hD6
     clear hD5 hp
     go_wp2_with (fail)
     go_roundg kq
     case measure => omega
     case rel => exact ⟨x', q2, A6, c6, h4, hxk2, hD6⟩
   ·have h2 := h.out
    rw [Itm.parse, if_neg hq, Option.bind_some] at h2
    obtain ⟨⟨r1, r2⟩, he, h3⟩ := Option.bind_eq_some_iff.mp h2
    dsimp only at h3
    replace he := Aside0.mk he
    replace h3 := Aside0.mk h3
    clear h h2
    have qa0 : wr.cell? ⟨w.heap.size + 1, 0, none⟩ = some (.int .u8 x.kd) := blk_cell hD.out.hR 0
    have qa1 : wr.cell? ⟨w.heap.size + 1, 1, none⟩ = some (.int .u64 x.hi) := blk_cell hD.out.hR 1
    have qa2 : wr.cell? ⟨w.heap.size + 1, 2, none⟩ = some (.int .u64 x.lo) := blk_cell hD.out.hR 2
    have qa3 : wr.cell? ⟨w.heap.size + 1, 3, none⟩ = some (.int .u64 x.id) := blk_cell hD.out.hR 3
    have qa4 : wr.cell? ⟨w.heap.size + 1, 4, none⟩ = some (.int .u64 x.par) := blk_cell hD.out.hR 4
    have qa5 : wr.cell? ⟨w.heap.size + 1, 5, none⟩ = some (.string x.nm) := blk_cell hD.out.hR 5
    have qa6 : wr.cell? ⟨w.heap.size + 1, 6, none⟩ = some (.int .i64 x.st) := blk_cell hD.out.hR 6
    have qa7 : wr.cell? ⟨w.heap.size + 1, 7, none⟩ = some (.int .i64 x.en) := blk_cell hD.out.hR 7
    have qa8 : wr.cell? ⟨w.heap.size + 1, 8, none⟩ = some (.bool x.bad) := blk_cell hD.out.hR 8
    have qa9 : wr.cell? ⟨w.heap.size + 1, 9, none⟩ = some (.slice A9 x.ats.length c9) := blk_cell hD.out.hR 9
    have qa10 : wr.cell? ⟨w.heap.size + 1, 10, none⟩ = some (.int .u64 x.rv) := blk_cell hD.out.hR 10
    have qa11 : wr.cell? ⟨w.heap.size + 1, 11, none⟩ = some (.string x.k) := blk_cell hD.out.hR 11
    have qa12 : wr.cell? ⟨w.heap.size + 1, 12, none⟩ = some (.int .u64 x.wt) := blk_cell hD.out.hR 12
    have qa13 : wr.cell? ⟨w.heap.size + 1, 13, none⟩ = some (.int .i64 x.t) := blk_cell hD.out.hR 13
    have qa14 : wr.cell? ⟨w.heap.size + 1, 14, none⟩ = some (.string x.b) := blk_cell hD.out.hR 14
    have hqz : decide (q < (l.length : Int)) = false := decide_eq_false hq
    go_wp2_with (fail)
    obtain ⟨_, hcA, hCA⟩ := Kd.R_reads' hD.out.hA
    refine (Itm.Encode_calls' x.kd x.hi x.lo x.id x.par x.nm x.st x.en x.bad A9 c9 x.ats x.rv x.k x.wt x.t x.b r1 r2 wr hCA hcA he.out).mono ?_
    rintro e w7 ⟨v7, rfl, hN7, hB7⟩
    obtain ⟨A7, c7, rfl⟩ := Kd.R_slice hN7
    obtain ⟨_, hc7, hC7⟩ := Kd.R_reads' hN7
    have hD7 := Aside0.mk (hD.out.below hB7)
    clear hN7 hB7 hD hCA hcA q16 qa0 qa1 qa2 qa3 qa4 qa5 qa6 qa7 qa8 qa9 qa10 qa11 qa12 qa13 qa14
    by_cases hr2 : r2 = 0
    ·have h4 := h3.out
     rw [if_pos hr2] at h4
     subst hr2
     obtain ⟨be, hbe, h5⟩ := Option.bind_eq_some_iff.mp h4
     have cE := bytes_Equal.calls A7 c7 r1 (some ad) c l be w7 hC7 hc7 (Kd.C_below hr.out hD7.out.hB) hc hbe
     clear hC7 h3 h4 he
     replace h5 := Aside0.mk h5
     go_wp2_with (fail)
     refine cE.mono ?_
     clear cE
     rintro e w8 ⟨rfl, ⟨m8, hm8⟩⟩
     have hD8 := Aside0.mk (hD7.out.below (w' := w8) (by rw [hm8]; exact pw_below_drewN (Below.refl _ _) m8))
     clear hm8 hD7
     cases be with
     | true =>
      have h6 := h5.out
      rw [if_pos rfl] at h6
      injection h6 with h6
      simp only [Prod.mk.injEq] at h6
      obtain ⟨rfl, rfl⟩ := h6
      clear h5
      exact absurd rfl her.out
     | false =>
      have h6 := h5.out
      rw [if_neg (by decide)] at h6
      injection h6 with h6
      simp only [Prod.mk.injEq] at h6
      obtain ⟨rfl, rfl⟩ := h6
      clear h5
      have d0 : w8.cell? ⟨w.heap.size, 0, none⟩ = some (.int .u8 0) := blk_cell hD8.out.hI 0
      have d1 : w8.cell? ⟨w.heap.size, 1, none⟩ = some (.int .u64 0) := blk_cell hD8.out.hI 1
      have d2 : w8.cell? ⟨w.heap.size, 2, none⟩ = some (.int .u64 0) := blk_cell hD8.out.hI 2
      have d3 : w8.cell? ⟨w.heap.size, 3, none⟩ = some (.int .u64 0) := blk_cell hD8.out.hI 3
      have d4 : w8.cell? ⟨w.heap.size, 4, none⟩ = some (.int .u64 0) := blk_cell hD8.out.hI 4
      have d5 : w8.cell? ⟨w.heap.size, 5, none⟩ = some (.string ⟨#[]⟩) := blk_cell hD8.out.hI 5
      have d6 : w8.cell? ⟨w.heap.size, 6, none⟩ = some (.int .i64 0) := blk_cell hD8.out.hI 6
      have d7 : w8.cell? ⟨w.heap.size, 7, none⟩ = some (.int .i64 0) := blk_cell hD8.out.hI 7
      have d8 : w8.cell? ⟨w.heap.size, 8, none⟩ = some (.bool false) := blk_cell hD8.out.hI 8
      have d9 : w8.cell? ⟨w.heap.size, 9, none⟩ = some (.slice none 0 0) := blk_cell hD8.out.hI 9
      have d10 : w8.cell? ⟨w.heap.size, 10, none⟩ = some (.int .u64 0) := blk_cell hD8.out.hI 10
      have d11 : w8.cell? ⟨w.heap.size, 11, none⟩ = some (.string ⟨#[]⟩) := blk_cell hD8.out.hI 11
      have d12 : w8.cell? ⟨w.heap.size, 12, none⟩ = some (.int .u64 0) := blk_cell hD8.out.hI 12
      have d13 : w8.cell? ⟨w.heap.size, 13, none⟩ = some (.int .i64 0) := blk_cell hD8.out.hI 13
      have d14 : w8.cell? ⟨w.heap.size, 14, none⟩ = some (.string ⟨#[]⟩) := blk_cell hD8.out.hI 14
      have f0 := blk_frozen hD8.out.hI 0
      have f1 := blk_frozen hD8.out.hI 1
      have f2 := blk_frozen hD8.out.hI 2
      have f3 := blk_frozen hD8.out.hI 3
      have f4 := blk_frozen hD8.out.hI 4
      have f5 := blk_frozen hD8.out.hI 5
      have f6 := blk_frozen hD8.out.hI 6
      have f7 := blk_frozen hD8.out.hI 7
      have f8 := blk_frozen hD8.out.hI 8
      have f9 := blk_frozen hD8.out.hI 9
      have f10 := blk_frozen hD8.out.hI 10
      have f11 := blk_frozen hD8.out.hI 11
      have f12 := blk_frozen hD8.out.hI 12
      have f13 := blk_frozen hD8.out.hI 13
      have f14 := blk_frozen hD8.out.hI 14
      skip
      go_wp2_with (fail)
      have hres : Try.f20.results = #[.cell 2 38, .tmp 3] := by kernel_rfl
      refine bodyPost_ret (v := .tuple #[.agg #[.int .u8 0, .int .u64 0, .int .u64 0, .int .u64 0, .int .u64 0, .string ⟨#[]⟩, .int .i64 0, .int .i64 0, .bool false, .slice none 0 0, .int .u64 0, .string ⟨#[]⟩, .int .u64 0, .int .i64 0, .string ⟨#[]⟩], .int .u16 40]) ?_ rfl (show Itm.DPost Itm.It.z 40 w _ _ from ⟨.slice none 0 0, rfl, Kd.R_nil _ _ _ _ _, ?_⟩)
      ·simp only [results, hres]
       go_simp
      ·iterate 15 (refine below_set ?_ (Nat.le_refl _))
       exact hD8.out.hB
    ·have h4 := h3.out
     rw [if_neg hr2] at h4
     injection h4 with h6
     simp only [Prod.mk.injEq] at h6
     obtain ⟨rfl, rfl⟩ := h6
     clear h3
     have hbr : (r2 != 0) = true := bne_iff_ne.mpr hr2
     have d0 : w7.cell? ⟨w.heap.size, 0, none⟩ = some (.int .u8 0) := blk_cell hD7.out.hI 0
     have d1 : w7.cell? ⟨w.heap.size, 1, none⟩ = some (.int .u64 0) := blk_cell hD7.out.hI 1
     have d2 : w7.cell? ⟨w.heap.size, 2, none⟩ = some (.int .u64 0) := blk_cell hD7.out.hI 2
     have d3 : w7.cell? ⟨w.heap.size, 3, none⟩ = some (.int .u64 0) := blk_cell hD7.out.hI 3
     have d4 : w7.cell? ⟨w.heap.size, 4, none⟩ = some (.int .u64 0) := blk_cell hD7.out.hI 4
     have d5 : w7.cell? ⟨w.heap.size, 5, none⟩ = some (.string ⟨#[]⟩) := blk_cell hD7.out.hI 5
     have d6 : w7.cell? ⟨w.heap.size, 6, none⟩ = some (.int .i64 0) := blk_cell hD7.out.hI 6
     have d7 : w7.cell? ⟨w.heap.size, 7, none⟩ = some (.int .i64 0) := blk_cell hD7.out.hI 7
     have d8 : w7.cell? ⟨w.heap.size, 8, none⟩ = some (.bool false) := blk_cell hD7.out.hI 8
     have d9 : w7.cell? ⟨w.heap.size, 9, none⟩ = some (.slice none 0 0) := blk_cell hD7.out.hI 9
     have d10 : w7.cell? ⟨w.heap.size, 10, none⟩ = some (.int .u64 0) := blk_cell hD7.out.hI 10
     have d11 : w7.cell? ⟨w.heap.size, 11, none⟩ = some (.string ⟨#[]⟩) := blk_cell hD7.out.hI 11
     have d12 : w7.cell? ⟨w.heap.size, 12, none⟩ = some (.int .u64 0) := blk_cell hD7.out.hI 12
     have d13 : w7.cell? ⟨w.heap.size, 13, none⟩ = some (.int .i64 0) := blk_cell hD7.out.hI 13
     have d14 : w7.cell? ⟨w.heap.size, 14, none⟩ = some (.string ⟨#[]⟩) := blk_cell hD7.out.hI 14
     have f0 := blk_frozen hD7.out.hI 0
     have f1 := blk_frozen hD7.out.hI 1
     have f2 := blk_frozen hD7.out.hI 2
     have f3 := blk_frozen hD7.out.hI 3
     have f4 := blk_frozen hD7.out.hI 4
     have f5 := blk_frozen hD7.out.hI 5
     have f6 := blk_frozen hD7.out.hI 6
     have f7 := blk_frozen hD7.out.hI 7
     have f8 := blk_frozen hD7.out.hI 8
     have f9 := blk_frozen hD7.out.hI 9
     have f10 := blk_frozen hD7.out.hI 10
     have f11 := blk_frozen hD7.out.hI 11
     have f12 := blk_frozen hD7.out.hI 12
     have f13 := blk_frozen hD7.out.hI 13
     have f14 := blk_frozen hD7.out.hI 14
     skip
     go_wp2_with (fail)
     have hres : Try.f20.results = #[.cell 2 38, .tmp 3] := by kernel_rfl
     refine bodyPost_ret (v := .tuple #[.agg #[.int .u8 0, .int .u64 0, .int .u64 0, .int .u64 0, .int .u64 0, .string ⟨#[]⟩, .int .i64 0, .int .i64 0, .bool false, .slice none 0 0, .int .u64 0, .string ⟨#[]⟩, .int .u64 0, .int .i64 0, .string ⟨#[]⟩], .int .u16 40]) ?_ rfl (show Itm.DPost Itm.It.z 40 w _ _ from ⟨.slice none 0 0, rfl, Kd.R_nil _ _ _ _ _, ?_⟩)
     ·simp only [results, hres]
      go_simp
     ·iterate 15 (refine below_set ?_ (Nat.le_refl _))
      exact hD7.out.hB


/-- What item.Decode tells. -/
def Itm.It.tup (x : Itm.It) : Int × Int × Int × Int × Int × ByteArray × Int × Int × Bool × List S36 × Int × ByteArray × Int × Int × ByteArray := (x.kd, x.hi, x.lo, x.id, x.par, x.nm, x.st, x.en, x.bad, x.ats, x.rv, x.k, x.wt, x.t, x.b)
def Itm.dec (l : List Int) : Option (Itm.It × Int) := if l.length = 0 then some (Itm.It.z, 40) else (Itm.parse (l.length + 1) l 1 { Itm.It.z with kd := rd l 0 }).bind (Itm.fin l)
theorem Itm.Decode_calls (A : Option Addr) (c : Nat) (l : List Int) (y : Itm.It) (er : Int) (w : World) (hr : Kd.C (Kd.int .u8) w A l.length l) (hc : l.length ≤ c) (h : Itm.dec l = some (y, er)) :
  Calls Try.prog 20 #[.slice A l.length c] w (Itm.DPost y er w) := by
 unfold Itm.dec at h
 by_cases hl : l.length = 0
 ·rw [if_pos hl] at h
  injection h with h
  simp only [Prod.mk.injEq] at h
  obtain ⟨rfl, rfl⟩ := h
  exact Itm.Decode_z A c l w hl
 ·rw [if_neg hl] at h
  by_cases hk : rd l 0 = 1
  ·by_cases he : er = 0
   ·exact Itm.Decode_sa _ A c l w y er hr hc (by omega) hk ⟨he⟩ h
   ·exact Itm.Decode_sb _ A c l w y er hr hc (by omega) hk ⟨he⟩ h
  ·by_cases he : er = 0
   ·exact Itm.Decode_oa _ A c l w y er hr hc (by omega) hk ⟨he⟩ h
   ·exact Itm.Decode_ob _ A c l w y er hr hc (by omega) hk ⟨he⟩ h
end Go.Proofs.Ytfapckmobeppnaa.Px
