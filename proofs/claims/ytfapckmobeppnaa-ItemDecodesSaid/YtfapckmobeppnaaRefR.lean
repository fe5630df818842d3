/- telemeterref03.RightSpan, RightLog and Nothing by hand: they tell what the program's tell. -/
import Derived.Test.YtfapckmobeppnaaRefA
namespace Go.Proofs.Ytfapckmobeppnaa.Px
open Go.RowKit Go.Proofs.YtfapckmobeppnaaW.PrintWords Go.Proofs.YtfapckmobeppnaaW.PrintLast Go.Proofs.YtfapckmobeppnaaW.PrintMore
set_option linter.unusedVariables false
set_option linter.unusedSimpArgs false

def RfR.T7 : Bool × List (List Nat × List Nat) := (true, [([], []), ([0], [0]), ([1], [1]), ([2], [2]), ([3, 2], [3]), ([4], [4]), ([5, 4], [4, 5]), ([6, 4], [4, 6]), ([7, 4], [4, 7]), ([4, 8], [4, 8]), ([9, 4], [9]), ([10], [10]), ([11, 10], [10, 11]), ([12, 10, 10], [10, 12]), ([13], [13]), ([14, 13], [13, 14]), ([13], [13]), ([16, 13], [13, 16]), ([13], [13]), ([18, 13], [13, 18]), ([17, 19, 13], [13, 17, 19]), ([20, 13], [13, 20]), ([21, 13], [13, 21]), ([15, 22, 13], [13, 15, 22]), ([13, 23, 10], [10, 13, 23]), ([10, 24], [10, 24])])
theorem RfR.T7_tab : rtab .any (opsOf Try.f27 7) = RfR.T7 := by kernel_rfl
set_option maxHeartbeats 4000000 in
set_option maxRecDepth 100000 in
theorem RfR.right_calls (hi lo id par : Int) (nm : ByteArray) (st en : Int) (bad : Bool) (A : Option Addr) (c : Nat) (l : List S36) (rv : Int) (w : World) (hr : Kd.C k36 w A l.length l) (hc : l.length ≤ c) (h1 : 0 ≤ hi ∧ hi < 18446744073709551616) (h2 : 0 ≤ lo ∧ lo < 18446744073709551616) (hl : l.length ≤ 100000) (hn : nm.size ≤ 9000000000000000) (hz : ∀ a ∈ l, a.f0.size ≤ 9000000000000000) :
  Calls Try.prog 27 #[.agg #[.int .u64 hi, .int .u64 lo, .int .u64 id, .int .u64 par, .string nm, .int .i64 st, .int .i64 en, .bool bad, .slice A l.length c, .int .u64 rv]] w fun e w' => e = .returned (.bool (Itm.rightSpan hi lo id nm st en l rv)) ∧ Below w.heap.size w w' := by
 have hR : Itm.rightSpan hi lo id nm st en l rv = (Itm.ordB ⟨#[]⟩ l && ((!(decide (hi = 0) && decide (lo = 0))) && (!(decide (id = 0)) && (Itm.nameB nm && (Itm.timeB st && (Itm.timeB en && (!(decide (en < st)) && (!(decide (8 < (l.length : Int))) && (!(l.any Itm.oddB) && !(decide (72057594037927936 < rv))))))))))) := RfA.right_eq hi lo id nm st en l rv h1 h2
 generalize Itm.rightSpan hi lo id nm st en l rv = R at hR ⊢
 replace hR := Aside0.mk hR
 have cN := Aside0.mk (fun w => RfA.name_calls nm w hn)
 have cM := Aside0.mk (fun (a : S36) (ha : a ∈ l) w => RfA.name_calls a.f0 w (hz a ha))
 have hmx := Kd.C_max hr
 replace hr := Aside0.mk hr
 clear hn hz
 have HB := Aside0.mk (below_alloc (Below.refl w.heap.size w) (.cells #[.int .u64 hi, .int .u64 lo, .int .u64 id, .int .u64 par, .string nm, .int .i64 st, .int .i64 en, .bool bad, .slice A l.length c, .int .u64 rv] 26 (0, 0)))
 have hb := Aside0.mk (blk_new w (.cells #[.int .u64 hi, .int .u64 lo, .int .u64 id, .int .u64 par, .string nm, .int .i64 st, .int .i64 en, .bool bad, .slice A l.length c, .int .u64 rv] 26 (0, 0)))
 go_enter Try.func27, Try.ntmps27
 go_upto_region 1 with (fail)
 generalize w.alloc (.cells #[.int .u64 hi, .int .u64 lo, .int .u64 id, .int .u64 par, .string nm, .int .i64 st, .int .i64 en, .bool bad, .slice A l.length c, .int .u64 rv] 26 (0, 0)) = w5 at *
 have z0 : w5.cell? ⟨w.heap.size, 0, none⟩ = some (.int .u64 hi) := blk_cell hb.out 0
 have z1 : w5.cell? ⟨w.heap.size, 1, none⟩ = some (.int .u64 lo) := blk_cell hb.out 1
 have z2 : w5.cell? ⟨w.heap.size, 2, none⟩ = some (.int .u64 id) := blk_cell hb.out 2
 have z4 : w5.cell? ⟨w.heap.size, 4, none⟩ = some (.string nm) := blk_cell hb.out 4
 have z5 : w5.cell? ⟨w.heap.size, 5, none⟩ = some (.int .i64 st) := blk_cell hb.out 5
 have z6 : w5.cell? ⟨w.heap.size, 6, none⟩ = some (.int .i64 en) := blk_cell hb.out 6
 have z8 : w5.cell? ⟨w.heap.size, 8, none⟩ = some (.slice A l.length c) := blk_cell hb.out 8
 have z9 : w5.cell? ⟨w.heap.size, 9, none⟩ = some (.int .u64 rv) := blk_cell hb.out 9
 by_cases p0 : hi = 0 ∧ lo = 0
 ·obtain ⟨rfl, rfl⟩ := p0
  have hR2 : R = false := by rw [hR.out]; simp []
  subst hR2
  clear hR
  go_wp2_with (fail)
  go_ret
  exact ⟨rfl, by repeat (first | exact HB.out | apply pw_below_drewN | apply below_drew1)⟩
 have q0 : (decide (hi = 0) && decide (lo = 0)) = false := by rw [Bool.eq_false_iff]; intro h; simp only [Bool.and_eq_true, decide_eq_true_eq] at h; exact p0 h
 rcases (show (hi == 0) = false ∨ ((hi == 0) = true ∧ (lo == 0) = false) from by
  by_cases e : hi = 0
  ·exact .inr ⟨beq_iff_eq.mpr e, beq_eq_false_iff_ne.mpr (fun e2 => p0 ⟨e, e2⟩)⟩
  ·exact .inl (beq_eq_false_iff_ne.mpr e)) with g0 | ⟨g0, g1⟩
 all_goals
  clear p0
  cases q1 : (id == 0) with
  | true =>
   have q1' : decide (id = 0) = true := decide_eq_true (beq_iff_eq.mp q1)
   have hR2 : R = false := by rw [hR.out]; simp [q1']
   subst hR2
   clear hR
   go_wp2_with (fail)
   go_ret
   exact ⟨rfl, by repeat (first | exact HB.out | apply pw_below_drewN | apply below_drew1)⟩
  | false =>
   have q1' : decide (id = 0) = false := decide_eq_false (beq_eq_false_iff_ne.mp q1)
   go_wp2_with (fail)
   refine (cN.out _).mono ?_
   rintro e w' ⟨rfl, ⟨n1, rfl⟩⟩
   cases q2 : Itm.nameB nm with
   | false =>
    have hR2 : R = false := by rw [hR.out]; simp [q2]
    subst hR2
    clear hR
    go_wp2_with (fail)
    go_ret
    exact ⟨rfl, by repeat (first | exact HB.out | apply pw_below_drewN | apply below_drew1)⟩
   | true =>
    go_wp2_with (fail)
    refine (RfA.time_calls st _).mono ?_
    rintro e w' ⟨rfl, ⟨n2, rfl⟩⟩
    cases q3 : Itm.timeB st with
    | false =>
     have hR2 : R = false := by rw [hR.out]; simp [q3]
     subst hR2
     clear hR
     go_wp2_with (fail)
     go_ret
     exact ⟨rfl, by repeat (first | exact HB.out | apply pw_below_drewN | apply below_drew1)⟩
    | true =>
     go_wp2_with (fail)
     refine (RfA.time_calls en _).mono ?_
     rintro e w' ⟨rfl, ⟨n3, rfl⟩⟩
     cases q4 : Itm.timeB en with
     | false =>
      have hR2 : R = false := by rw [hR.out]; simp [q4]
      subst hR2
      clear hR
      go_wp2_with (fail)
      go_ret
      exact ⟨rfl, by repeat (first | exact HB.out | apply pw_below_drewN | apply below_drew1)⟩
     | true =>
      cases q5 : decide (en < st) with
      | true =>
       have hR2 : R = false := by rw [hR.out]; simp [q5]
       subst hR2
       clear hR
       go_wp2_with (fail)
       go_ret
       exact ⟨rfl, by repeat (first | exact HB.out | apply pw_below_drewN | apply below_drew1)⟩
      | false =>
       cases q6 : decide (8 < (l.length : Int)) with
       | true =>
        have hR2 : R = false := by rw [hR.out]; simp [q6]
        subst hR2
        clear hR
        go_wp2_with (fail)
        go_ret
        exact ⟨rfl, by repeat (first | exact HB.out | apply pw_below_drewN | apply below_drew1)⟩
       | false =>
        cases q7 : decide (72057594037927936 < rv) with
        | true =>
         have hR2 : R = false := by rw [hR.out]; simp [q7]
         subst hR2
         clear hR
         go_wp2_with (fail)
         go_ret
         exact ⟨rfl, by repeat (first | exact HB.out | apply pw_below_drewN | apply below_drew1)⟩
        | false =>
         have hT := Aside0.mk (show R = (Itm.ordB (RfA.lastOf l 0) (l.drop 0) && !((l.drop 0).any Itm.oddB)) by rw [hR.out, q0, q1', q2, q3, q4, q5, q6, q7]; simp [RfA.lastOf])
         clear hR
         go_wp2_with (fail)
         go_loopg [3] l.length (fun gg s3 wr => ∃ i : Nat, s3 = .int .i64 i ∧ i ≤ l.length ∧ l.length - i ≤ gg ∧ Aside0 (R = (Itm.ordB (RfA.lastOf l i) (l.drop i) && !((l.drop i).any Itm.oddB))) ∧ Aside0 (Below w.heap.size w wr) ∧ Aside0 (wr.heap[w.heap.size]? = some (.cells #[.int .u64 hi, .int .u64 lo, .int .u64 id, .int .u64 par, .string nm, .int .i64 st, .int .i64 en, .bool bad, .slice A l.length c, .int .u64 rv] 26 (0, 0))))
         case atStart => exact ⟨0, rfl, by omega, by omega, hT, ⟨by repeat (first | exact HB.out | apply pw_below_drewN | apply below_drew1)⟩, ⟨by repeat (first | exact hb.out | apply blk_drewN | apply blk_drew)⟩⟩
         case round =>
          clear hT z0 z1 z2 z4 z5 z6 z8 z9 hb HB
          obtain ⟨i, rfl, hil, hgg, hT, HB, hb⟩ := hrel
          have z8 : wr.cell? ⟨w.heap.size, 8, none⟩ = some (.slice A l.length c) := blk_cell hb.out 8
          by_cases hi' : i < l.length
          ·have hiz : (i : Int) < (l.length : Int) := by omega
           have hi0 : (0 : Int) ≤ (i : Int) := by omega
           obtain ⟨ad, e0, hx0, hx1⟩ := at_T36 hr.out (i : Int) hi0 hiz
           have hprev := Aside0.mk (fun (h0 : 0 < i) => at_T36 hr.out ((i - 1 : Nat) : Int) (by omega) (by omega))
           simp only [Int.toNat_natCast] at hx0 hx1
           cases e0
           replace hx0 := (HB.out.cell (World.block_lt_of_cell? _ _ hx0)).trans hx0
           replace hx1 := (HB.out.cell (World.block_lt_of_cell? _ _ hx1)).trans hx1
           have hmem : rd_T36 l (i : Int) ∈ l := by unfold rd_T36; rw [Int.toNat_natCast, List.getD_eq_getElem?_getD, List.getElem?_eq_getElem hi']; exact List.getElem_mem _
           have hst : l.drop i = rd_T36 l (i : Int) :: l.drop (i + 1) := by rw [List.drop_eq_getElem_cons hi']; unfold rd_T36; rw [Int.toNat_natCast, List.getD_eq_getElem?_getD, List.getElem?_eq_getElem hi']; rfl
           have hnx : RfA.lastOf l (i + 1) = (rd_T36 l (i : Int)).f0 := by unfold RfA.lastOf; rw [if_neg (by omega), Nat.add_sub_cancel]; rfl
           have cK := Aside0.mk (fun w => cM.out _ hmem w)
           have hT2 := hT.out
           rw [hst, Itm.ordB, List.any_cons, RfA.le_eq] at hT2
           replace hT2 := Aside0.mk hT2
           replace hnx := Aside0.mk hnx
           clear hst hmem hT
           generalize hy : rd_T36 l (i : Int) = y at *
           clear hy
           obtain ⟨k1, v1⟩ := y
           dsimp only at hx0 hx1
           replace cK : Aside0 (∀ w, Calls Try.prog 44 #[.string k1] w fun e w' => e = .returned (.bool (Itm.nameB k1)) ∧ Drawn0 w w') := ⟨cK.out⟩
           have ho : Itm.oddB ⟨k1, v1⟩ = (!Itm.nameB k1 || decide ((v1.size : Int) > 60)) := rfl
           have hfin : Aside0 (Below w.heap.size w (wr.alloc (.cells #[.string ⟨#[]⟩, .string ⟨#[]⟩] 36 (0, 0)))) := ⟨below_alloc HB.out _⟩
           have hp0 := eq_true hi0
           have hp1 := eq_true hiz
           clear hfin
           cases qn : Itm.nameB k1 with
           | false =>
            have hR2 : R = false := by rw [hT2.out, ho, qn]; simp
            subst hR2
            go_wp2_with (fail)
            repeat (go_quiet ((go_at_call 44; (with_reducible refine (cK.out _).mono ?_); rintro e w' ⟨rfl, ⟨nd, rfl⟩⟩; rw [qn]; (try first | exact ⟨rfl, _, World.drewN_drewN _ _ _⟩ | exact ⟨rfl, _, Eq.trans (World.drewN_drewN _ _ _) (congrArg (World.drewN _) (Nat.add_assoc _ _ _))⟩))); try go_wp2_with (fail))
            go_ret
            exact ⟨rfl, by repeat (first | exact HB.out | apply below_alloc | apply pw_below_drewN | apply below_drew1)⟩
           | true =>
            cases q60 : decide (60 < (v1.size : Int)) with
            | true =>
             have q61 : decide (60 < v1.size) = true := decide_eq_true (by have := of_decide_eq_true q60; omega)
             have hR2 : R = false := by rw [hT2.out, ho, qn, show decide ((v1.size : Int) > 60) = true from q60]; simp
             subst hR2
             go_wp2_with (fail)
             repeat (go_quiet ((go_at_call 44; (with_reducible refine (cK.out _).mono ?_); rintro e w' ⟨rfl, ⟨nd, rfl⟩⟩; rw [qn]; (try first | exact ⟨rfl, _, World.drewN_drewN _ _ _⟩ | exact ⟨rfl, _, Eq.trans (World.drewN_drewN _ _ _) (congrArg (World.drewN _) (Nat.add_assoc _ _ _))⟩))); try go_wp2_with (fail))
             go_ret
             exact ⟨rfl, by repeat (first | exact HB.out | apply below_alloc | apply pw_below_drewN | apply below_drew1)⟩
            | false =>
             have q61 : decide (60 < v1.size) = false := decide_eq_false (by have := of_decide_eq_false q60; omega)
             have hO : Itm.oddB ⟨k1, v1⟩ = false := by rw [ho, qn, show decide ((v1.size : Int) > 60) = false from q60]; rfl
             have hT3 : R = ((!(!Op.bytesLess (RfA.lastOf l i).toList k1.toList) && Itm.ordB k1 (l.drop (i + 1))) && !((l.drop (i + 1)).any Itm.oddB)) := by rw [hT2.out, hO, Bool.false_or]
             rcases Nat.eq_zero_or_pos i with h0 | h0
             ·have hT4 := Aside0.mk (show R = (Itm.ordB (RfA.lastOf l (i + 1)) (l.drop (i + 1)) && !((l.drop (i + 1)).any Itm.oddB)) by
               rw [hT3, hnx.out, ← RfA.le_eq, show RfA.lastOf l i = ⟨#[]⟩ by unfold RfA.lastOf; rw [if_pos h0], RfA.le_nil k1 qn]; rfl)
              clear hT2 hT3 ho hO
              have hi8 : decide (0 < (i : Int)) = false := decide_eq_false (by omega)
              have hi9 : decide (0 < i) = false := decide_eq_false (by omega)
              clear h0
              go_wp2_with (fail)
              repeat (go_quiet ((go_at_call 44; (with_reducible refine (cK.out _).mono ?_); rintro e w' ⟨rfl, ⟨nd, rfl⟩⟩; rw [qn]; (try first | exact ⟨rfl, _, World.drewN_drewN _ _ _⟩ | exact ⟨rfl, _, Eq.trans (World.drewN_drewN _ _ _) (congrArg (World.drewN _) (Nat.add_assoc _ _ _))⟩))); try go_wp2_with (fail))
              go_roundg (l.length - (i + 1))
              case measure => omega
              case rel => exact ⟨i + 1, by go_num, by omega, by omega, hT4, ⟨by repeat (first | exact HB.out | apply below_alloc | apply pw_below_drewN | apply below_drew1)⟩, ⟨by repeat (first | exact hb.out | refine blk_alloc ?_ _ | apply blk_drewN | apply blk_drew)⟩⟩
             ·have hpv : 0 < i := h0
              obtain ⟨ad2, e2, hw0, hw1⟩ := hprev.out hpv
              obtain rfl : ad = ad2 := by injection e2
              have hla : RfA.lastOf l i = (rd_T36 l ((i - 1 : Nat) : Int)).f0 := by unfold RfA.lastOf; rw [if_neg (by omega)]; rfl
              have hT4 := Aside0.mk (show R = (Op.bytesLess (RfA.lastOf l i).toList k1.toList && (Itm.ordB (RfA.lastOf l (i + 1)) (l.drop (i + 1)) && !((l.drop (i + 1)).any Itm.oddB))) by rw [hT3, hnx.out, Bool.not_not, Bool.and_assoc])
              rw [hla] at hT4
              simp only [Int.toNat_natCast] at hw0
              replace hw0 := (HB.out.cell (World.block_lt_of_cell? _ _ hw0)).trans hw0
              clear hT2 hT3 ho hO hw1 hprev e2 hla
              generalize (rd_T36 l ((i - 1 : Nat) : Int)).f0 = pk at *
              have hi8 : decide (0 < (i : Int)) = true := decide_eq_true (by omega)
              have hi7 : decide (0 < i) = true := decide_eq_true h0
              have wi : wrap64 ((i : Int) - 1) = ((i - 1 : Nat) : Int) := by rw [wrap64_id (by omega) (by omega)]; omega
              have hq0 : (0 ≤ ((i - 1 : Nat) : Int)) = True := eq_true (by omega)
              have hq1 : (((i - 1 : Nat) : Int) < (l.length : Int)) = True := eq_true (by omega)
              go_wp2_with (fail)
              have hn := Aside0.mk (blk_drew (blk_new wr (.cells #[.string k1, .string v1] 36 (0, 0))))
              have HB6 := Aside0.mk (below_alloc HB.out (.cells #[.string k1, .string v1] 36 (0, 0)))
              replace HB := Aside0.mk (below_drew1 (below_alloc HB.out (.cells #[.string k1, .string v1] 36 (0, 0))))
              replace hb := Aside0.mk (blk_drew (blk_alloc hb.out (.cells #[.string k1, .string v1] 36 (0, 0))))
              replace hw0 := Aside0.mk ((World.cell?_alloc_lt _ (.cells #[.string k1, .string v1] 36 (0, 0)) _ (World.block_lt_of_cell? _ _ hw0)).trans hw0)
              clear z8 hx0 hx1
              generalize wr.alloc (.cells #[.string k1, .string v1] 36 (0, 0)) = w6 at *
              refine start_ (n := 26) (S := fun w' => w'.cell? ⟨wr.heap.size, 0, none⟩ = some (.string k1) ∧ w'.cell? ⟨wr.heap.size, 1, none⟩ = some (.string v1) ∧ w'.cell? ⟨w.heap.size, 8, none⟩ = some (.slice (some ad) l.length c) ∧ w'.cell? (ad.add ((i - 1) * 2)) = some (.string pk)) (ds := []) #[false, false, false, false, false, false, false, false, false, false, false, false, false, false, false, false, false, false, false, false, false, false, false, false, false, false] (by kernel_rfl) rfl rfl ⟨(blk_cell hn.out 0).trans rfl, (blk_cell hn.out 1).trans rfl, (blk_cell hb.out 8).trans rfl, hw0.out⟩ (fun hHeld => ?_)
              refine with_tab RfR.T7_tab (fun HT_ => ?_)
              refine pure_ (i := 0) (N := (some 66)) (v := ?_) (a' := ?_) #[true, false, false, false, false, false, false, false, false, false, false, false, false, false, false, false, false, false, false, false, false, false, false, false, false, false] rfl rfl (any_of HT_.out (by kernel_rfl)) (fun _ _ _ h => h) (Or.inl ⟨by rfl, ?_⟩) ?_ ?_
              rotate_left
              ·intro w'
               go_simp
               with_reducible rfl
              rotate_left
              ·simp only [ps_]
               rfl
              refine take_ (i := 1) (N := (some 67)) (v := ?_) (a' := ?_) #[true, true, false, false, false, false, false, false, false, false, false, false, false, false, false, false, false, false, false, false, false, false, false, false, false, false] rfl rfl (take_of HT_.out (by kernel_rfl)) (fun _ _ _ h => h) (Or.inl ⟨by rfl, ?_⟩) hHeld ?_ ?_
              rotate_left
              ·rintro w' ⟨s0, s1, s2, s3⟩
               go_simp
               with_reducible rfl
              rotate_left
              ·simp only [ps_]
               rfl
              refine one_ (i := 2) (N := (some 68)) #[true, true, true, false, false, false, false, false, false, false, false, false, false, false, false, false, false, false, false, false, false, false, false, false, false, false] rfl rfl (one_of HT_.out (by kernel_rfl)) (by decide) (fun K hK => ?_)
              refine goes_ Try.func44 (by kernel_rfl) rfl #[.string k1] (by rfl) rfl rfl (by (try simp only [List.map_toArray, List.map_cons, List.map_nil]); first | done | rfl) ?_
              refine (cK.out _).mono ?_
              rintro e w' ⟨rfl, ⟨nd, rfl⟩⟩
              rw [qn]
              refine ⟨_, rfl, ?_⟩
              refine hK.out _ _ ⟨(blk_cell hn.out 0).trans rfl, (blk_cell hn.out 1).trans rfl, (blk_cell hb.out 8).trans rfl, hw0.out⟩ (fun hHeld2 => ?_)
              clear hK K hHeld
              have hHeld := hHeld2
              clear hHeld2
              refine norm_ (a' := ?_) ?_ ?_
              rotate_left
              ·show Act.put _ (some 68) _ = _
               simp only [ps_]
               rfl
              refine pure_ (i := 3) (N := (some 69)) (v := .bool false) (a' := ?_) #[true, true, true, true, false, false, false, false, false, false, false, false, false, false, false, false, false, false, false, false, false, false, false, false, false, false] rfl rfl (any_of HT_.out (by kernel_rfl)) (fun _ _ _ h => h) (Or.inl ⟨by rfl, ?_⟩) ?_ ?_
              ·intro w'
               go_simp
               first | done | with_reducible rfl | rfl | (simp [*]; done)
              rotate_left
              ·simp only [ps_]
               rfl
              refine pure_ (i := 4) (N := (some 70)) (v := .bool false) (a' := ?_) #[true, true, true, true, true, false, false, false, false, false, false, false, false, false, false, false, false, false, false, false, false, false, false, false, false, false] rfl rfl (any_of HT_.out (by kernel_rfl)) (fun _ _ _ h => h) (Or.inl ⟨by rfl, ?_⟩) ?_ ?_
              ·intro w'
               go_simp
               first | done | with_reducible rfl | rfl | (simp [*]; done)
              rotate_left
              ·simp only [ps_]
               rfl
              refine pure_ (i := 5) (N := (some 71)) (v := ?_) (a' := ?_) #[true, true, true, true, true, true, false, false, false, false, false, false, false, false, false, false, false, false, false, false, false, false, false, false, false, false] rfl rfl (any_of HT_.out (by kernel_rfl)) (fun _ _ _ h => h) (Or.inl ⟨by rfl, ?_⟩) ?_ ?_
              rotate_left
              ·intro w'
               go_simp
               with_reducible rfl
              rotate_left
              ·simp only [ps_]
               rfl
              refine take_ (i := 6) (N := (some 72)) (v := ?_) (a' := ?_) #[true, true, true, true, true, true, true, false, false, false, false, false, false, false, false, false, false, false, false, false, false, false, false, false, false, false] rfl rfl (take_of HT_.out (by kernel_rfl)) (fun _ _ _ h => h) (Or.inl ⟨by rfl, ?_⟩) hHeld ?_ ?_
              rotate_left
              ·rintro w' ⟨s0, s1, s2, s3⟩
               go_simp
               with_reducible rfl
              rotate_left
              ·simp only [ps_]
               rfl
              refine pure_ (i := 7) (N := (some 73)) (v := ?_) (a' := ?_) #[true, true, true, true, true, true, true, true, false, false, false, false, false, false, false, false, false, false, false, false, false, false, false, false, false, false] rfl rfl (any_of HT_.out (by kernel_rfl)) (fun _ _ _ h => h) (Or.inl ⟨by rfl, ?_⟩) ?_ ?_
              rotate_left
              ·intro w'
               go_simp
               with_reducible rfl
              rotate_left
              ·simp only [ps_]
               rfl
              refine pure_ (i := 8) (N := (some 74)) (v := .bool false) (a' := ?_) #[true, true, true, true, true, true, true, true, true, false, false, false, false, false, false, false, false, false, false, false, false, false, false, false, false, false] rfl rfl (any_of HT_.out (by kernel_rfl)) (fun _ _ _ h => h) (Or.inl ⟨by rfl, ?_⟩) ?_ ?_
              ·intro w'
               go_simp
               first | done | with_reducible rfl | rfl | (simp [*]; done)
              rotate_left
              ·simp only [ps_]
               rfl
              refine pure_ (i := 9) (N := (some 75)) (v := .bool false) (a' := ?_) #[true, true, true, true, true, true, true, true, true, true, false, false, false, false, false, false, false, false, false, false, false, false, false, false, false, false] rfl rfl (any_of HT_.out (by kernel_rfl)) (fun _ _ _ h => h) (Or.inl ⟨by rfl, ?_⟩) ?_ ?_
              ·intro w'
               go_simp
               first | done | with_reducible rfl | rfl | (simp [*]; done)
              rotate_left
              ·simp only [ps_]
               rfl
              refine pure_ (i := 10) (N := (some 76)) (v := .bool false) (a' := ?_) #[true, true, true, true, true, true, true, true, true, true, true, false, false, false, false, false, false, false, false, false, false, false, false, false, false, false] rfl rfl (any_of HT_.out (by kernel_rfl)) (fun _ _ _ h => h) (Or.inl ⟨by rfl, ?_⟩) ?_ ?_
              ·intro w'
               go_simp
               first | done | with_reducible rfl | rfl | (simp [*]; done)
              rotate_left
              ·simp only [ps_]
               rfl
              refine pure_ (i := 11) (N := (some 77)) (v := ?_) (a' := ?_) #[true, true, true, true, true, true, true, true, true, true, true, true, false, false, false, false, false, false, false, false, false, false, false, false, false, false] rfl rfl (any_of HT_.out (by kernel_rfl)) (fun _ _ _ h => h) (Or.inl ⟨by rfl, ?_⟩) ?_ ?_
              rotate_left
              ·intro w'
               go_simp
               with_reducible rfl
              rotate_left
              ·simp only [ps_]
               rfl
              refine pure_ (i := 12) (N := (some 78)) (v := .bool true) (a' := ?_) #[true, true, true, true, true, true, true, true, true, true, true, true, true, false, false, false, false, false, false, false, false, false, false, false, false, false] rfl rfl (any_of HT_.out (by kernel_rfl)) (fun _ _ _ h => h) (Or.inl ⟨by rfl, ?_⟩) ?_ ?_
              ·intro w'
               go_simp
               first | done | with_reducible rfl | rfl | (simp [*]; done)
              rotate_left
              ·simp only [ps_]
               rfl
              refine pure_ (i := 13) (N := (some 79)) (v := .bool true) (a' := ?_) #[true, true, true, true, true, true, true, true, true, true, true, true, true, true, false, false, false, false, false, false, false, false, false, false, false, false] rfl rfl (any_of HT_.out (by kernel_rfl)) (fun _ _ _ h => h) (Or.inl ⟨by rfl, ?_⟩) ?_ ?_
              ·intro w'
               go_simp
               first | done | with_reducible rfl | rfl | (simp [*]; done)
              rotate_left
              ·simp only [ps_]
               rfl
              refine pure_ (i := 14) (N := (some 80)) (v := ?_) (a' := ?_) #[true, true, true, true, true, true, true, true, true, true, true, true, true, true, true, false, false, false, false, false, false, false, false, false, false, false] rfl rfl (any_of HT_.out (by kernel_rfl)) (fun _ _ _ h => h) (Or.inl ⟨by rfl, ?_⟩) ?_ ?_
              rotate_left
              ·intro w'
               go_simp
               with_reducible rfl
              rotate_left
              ·simp only [ps_]
               rfl
              refine take_ (i := 15) (N := (some 81)) (v := ?_) (a' := ?_) #[true, true, true, true, true, true, true, true, true, true, true, true, true, true, true, true, false, false, false, false, false, false, false, false, false, false] rfl rfl (take_of HT_.out (by kernel_rfl)) (fun _ _ _ h => h) (Or.inl ⟨by rfl, ?_⟩) hHeld ?_ ?_
              rotate_left
              ·rintro w' ⟨s0, s1, s2, s3⟩
               go_simp
               with_reducible rfl
              rotate_left
              ·simp only [ps_]
               rfl
              refine pure_ (i := 16) (N := (some 82)) (v := ?_) (a' := ?_) #[true, true, true, true, true, true, true, true, true, true, true, true, true, true, true, true, true, false, false, false, false, false, false, false, false, false] rfl rfl (any_of HT_.out (by kernel_rfl)) (fun _ _ _ h => h) (Or.inl ⟨by rfl, ?_⟩) ?_ ?_
              rotate_left
              ·intro w'
               go_simp
               with_reducible rfl
              rotate_left
              ·simp only [ps_]
               rfl
              refine take_ (i := 17) (N := (some 83)) (v := ?_) (a' := ?_) #[true, true, true, true, true, true, true, true, true, true, true, true, true, true, true, true, true, true, false, false, false, false, false, false, false, false] rfl rfl (take_of HT_.out (by kernel_rfl)) (fun _ _ _ h => h) (Or.inl ⟨by rfl, ?_⟩) hHeld ?_ ?_
              rotate_left
              ·rintro w' ⟨s0, s1, s2, s3⟩
               go_simp
               with_reducible rfl
              rotate_left
              ·simp only [ps_]
               rfl
              refine pure_ (i := 18) (N := (some 84)) (v := ?_) (a' := ?_) #[true, true, true, true, true, true, true, true, true, true, true, true, true, true, true, true, true, true, true, false, false, false, false, false, false, false] rfl rfl (any_of HT_.out (by kernel_rfl)) (fun _ _ _ h => h) (Or.inl ⟨by rfl, ?_⟩) ?_ ?_
              rotate_left
              ·intro w'
               go_simp
               with_reducible rfl
              rotate_left
              ·simp only [ps_]
               rfl
              refine pure_ (i := 19) (N := (some 85)) (v := .int .i64 ((i - 1 : Nat) : Int)) (a' := ?_) #[true, true, true, true, true, true, true, true, true, true, true, true, true, true, true, true, true, true, true, true, false, false, false, false, false, false] rfl rfl (any_of HT_.out (by kernel_rfl)) (fun _ _ _ h => h) (Or.inl ⟨by rfl, ?_⟩) ?_ ?_
              ·intro w'
               go_simp
               first | done | with_reducible rfl | rfl | exact wi | exact (i64_w _).trans wi
              rotate_left
              ·simp only [ps_]
               rfl
              refine pure_ (i := 20) (N := (some 86)) (v := .pointer (some (ad.add ((i - 1) * 2)))) (a' := ?_) #[true, true, true, true, true, true, true, true, true, true, true, true, true, true, true, true, true, true, true, true, true, false, false, false, false, false] rfl rfl (any_of HT_.out (by kernel_rfl)) (fun _ _ _ h => h) (Or.inl ⟨by rfl, ?_⟩) ?_ ?_
              ·intro w'
               go_simp
               first | done | with_reducible rfl | rfl | (simp [*]; done)
              rotate_left
              ·simp only [ps_]
               rfl
              refine pure_ (i := 21) (N := (some 87)) (v := ?_) (a' := ?_) #[true, true, true, true, true, true, true, true, true, true, true, true, true, true, true, true, true, true, true, true, true, true, false, false, false, false] rfl rfl (any_of HT_.out (by kernel_rfl)) (fun _ _ _ h => h) (Or.inl ⟨by rfl, ?_⟩) ?_ ?_
              rotate_left
              ·intro w'
               go_simp
               with_reducible rfl
              rotate_left
              ·simp only [ps_]
               rfl
              refine take_ (i := 22) (N := (some 88)) (v := ?_) (a' := ?_) #[true, true, true, true, true, true, true, true, true, true, true, true, true, true, true, true, true, true, true, true, true, true, true, false, false, false] rfl rfl (take_of HT_.out (by kernel_rfl)) (fun _ _ _ h => h) (Or.inl ⟨by rfl, ?_⟩) hHeld ?_ ?_
              rotate_left
              ·rintro w' ⟨s0, s1, s2, s3⟩
               go_simp
               with_reducible rfl
              rotate_left
              ·simp only [ps_]
               rfl
              refine pure_ (i := 23) (N := (some 89)) (v := .bool (!Op.bytesLess pk.toList k1.toList)) (a' := ?_) #[true, true, true, true, true, true, true, true, true, true, true, true, true, true, true, true, true, true, true, true, true, true, true, true, false, false] rfl rfl (any_of HT_.out (by kernel_rfl)) (fun _ _ _ h => h) (Or.inl ⟨by rfl, ?_⟩) ?_ ?_
              ·intro w'
               go_simp
               first | exact RfA.le_not _ _ | (rw [RfA.le_not]; done) | exact RfA.le_iff _ _ | fail "X"
              rotate_left
              ·simp only [ps_]
               rfl
              refine pure_ (i := 24) (N := (some 90)) (v := .bool (!Op.bytesLess pk.toList k1.toList)) (a' := ?_) #[true, true, true, true, true, true, true, true, true, true, true, true, true, true, true, true, true, true, true, true, true, true, true, true, true, false] rfl rfl (any_of HT_.out (by kernel_rfl)) (fun _ _ _ h => h) (Or.inl ⟨by rfl, ?_⟩) ?_ ?_
              ·intro w'
               go_simp
               first | done | with_reducible rfl | rfl | (simp [*]; done)
              rotate_left
              ·simp only [ps_]
               rfl
              refine pure_ (i := 25) (N := (some 91)) (v := .bool (!Op.bytesLess pk.toList k1.toList)) (a' := ?_) #[true, true, true, true, true, true, true, true, true, true, true, true, true, true, true, true, true, true, true, true, true, true, true, true, true, true] rfl rfl (any_of HT_.out (by kernel_rfl)) (fun _ _ _ h => h) (Or.inl ⟨by rfl, ?_⟩) ?_ ?_
              ·intro w'
               go_simp
               first | done | with_reducible rfl | rfl | (simp [*]; done)
              rotate_left
              ·simp only [ps_]
               rfl
              refine done_ (done_of HT_.out (by kernel_rfl)) ?_
              clear HT_
              clear hHeld
              cases hls : Op.bytesLess pk.toList k1.toList with
              | false =>
               have hR2 : R = false := by rw [hT4.out, hls]; rfl
               subst hR2
               go_wp2_with (fail)
               go_ret
               exact ⟨rfl, by repeat (first | exact HB.out | exact HB6.out | apply pw_below_drewN)⟩
              | true =>
               have hT5 := Aside0.mk (show R = (Itm.ordB (RfA.lastOf l (i + 1)) (l.drop (i + 1)) && !((l.drop (i + 1)).any Itm.oddB)) by rw [hT4.out, hls, Bool.true_and])
               clear hT4
               go_wp2_with (fail)
               go_roundg (l.length - (i + 1))
               case measure => omega
               case rel => exact ⟨i + 1, by go_num, by omega, by omega, hT5, ⟨by repeat (first | exact HB.out | exact HB6.out | apply pw_below_drewN)⟩, ⟨by repeat (first | exact hb.out | apply blk_drewN)⟩⟩
          ·have hiz' : decide ((i : Int) < (l.length : Int)) = false := decide_eq_false (by omega)
           have hR2 : R = true := by rw [hT.out, List.drop_of_length_le (by omega)]; rfl
           subst hR2
           clear hT
           go_wp2_with (fail)
           go_ret
           exact ⟨rfl, HB.out⟩
end Go.Proofs.Ytfapckmobeppnaa.Px
