-- Laid by a program of this session (wip/xprint.py: the kit's print.py, with functions given by hand). Lean checks it.
import Derived.Test.YtfapckmobeppnaaPx0
import Derived.Test.YtfapckmobeppnaaPx4
import Derived.Test.YtfapckmobeppnaaPx10
import Derived.Test.YtfapckmobeppnaaPx25
namespace Go.Proofs.Ytfapckmobeppnaa.Px
open Go.RowKit Go.Proofs.YtfapckmobeppnaaW.PrintWords Go.Proofs.YtfapckmobeppnaaW.PrintLast Go.Proofs.YtfapckmobeppnaaW.PrintMore
attribute [local go_sem] max2_int min2_int max_two min_two max_three min_three max_four min_four   -- for this text's walks alone
set_option linter.unusedVariables false
set_option linter.unusedSimpArgs false

/-! ### telemeterlaw03_ItemAttrs: function 4 -/
def telemeterlaw03_ItemAttrs.l0 : Nat → Int → Int → Int → Int → Int → Int → Int → ByteArray → Int → Int → Bool → List (S36) → Int → Option (Bool)
  | 0, _, _, _, _, _, _, _, _, _, _, _, _, _ => none
  | k + 1, x1, x2, x8, x212000, x212001, x212002, x212003, x212004, x212005, x212006, x212007, x212008, x212009 => if x8 < (wrap64 (Int.tmod x1 12)) then (if x212008.length < 4398046511104 then (telemeterlaw03_ItemAttrs.l0 k x1 x2 (wrap64 (x8 + 1)) x212000 x212001 x212002 x212003 x212004 x212005 x212006 x212007 (x212008 ++ [(⟨strOfNums (([(wrap64 (97 + x8)) % 256] : List Int)), (⟨#[]⟩ : ByteArray)⟩ : S36)]) x212009) else (none)) else ((item_RightSpan.f x212000 x212001 x212002 x212003 x212004 x212005 x212006 x212007 x212008 x212009).bind fun t218 => (if (t218 != (decide ((x212008.length : Int) ≤ 8))) = true then (some false) else (if (x212008.length : Int) < 2 then ((telemeterlaw03_known.f).bind fun t219 => (some t219)) else (if (wrap64 ((x212008.length : Int) - 1)) = 0 then (none) else (if 0 ≤ (wrap64 ((wrap64 (1 + (Int.tmod (wrap64 (x2)) (wrap64 ((x212008.length : Int) - 1))))) - 1)) then (if (wrap64 ((wrap64 (1 + (Int.tmod (wrap64 (x2)) (wrap64 ((x212008.length : Int) - 1))))) - 1)) < (x212008.length : Int) then (if 0 ≤ (wrap64 (1 + (Int.tmod (wrap64 (x2)) (wrap64 ((x212008.length : Int) - 1))))) then (if (wrap64 (1 + (Int.tmod (wrap64 (x2)) (wrap64 ((x212008.length : Int) - 1))))) < (x212008.length : Int) then ((telemeterlaw03_known.f).bind fun t222 => (if t222 = true then ((item_RightSpan.f x212000 x212001 x212002 x212003 x212004 x212005 x212006 x212007 (x212008.set ((wrap64 (1 + (Int.tmod (wrap64 (x2)) (wrap64 ((x212008.length : Int) - 1))))) : Int).toNat (⟨(rd_T36 x212008 (wrap64 ((wrap64 (1 + (Int.tmod (wrap64 (x2)) (wrap64 ((x212008.length : Int) - 1))))) - 1))).f0, (rd_T36 x212008 (wrap64 (1 + (Int.tmod (wrap64 (x2)) (wrap64 ((x212008.length : Int) - 1)))))).f1⟩ : S36)) x212009).bind fun t223 => (some (!t223))) else (some false))) else (none)) else (none)) else (none)) else (none))))))
def telemeterlaw03_ItemAttrs.f (k : Nat) (l0 : List Int) (a1 : Int) (a2 : Int) : Option (Bool) := (telemeterlaw03_Span.f l0).bind fun bt199 => (telemeterlaw03_ItemAttrs.l0 k a1 a2 0 bt199.1 bt199.2.1 bt199.2.2.1 bt199.2.2.2.1 bt199.2.2.2.2.1 bt199.2.2.2.2.2.1 bt199.2.2.2.2.2.2.1 bt199.2.2.2.2.2.2.2.1 ([] : List (S36)) bt199.2.2.2.2.2.2.2.2.2)
theorem telemeterlaw03_ItemAttrs.mono_l : ∀ k, (∀ y0 y1 y2 y3 y4 y5 y6 y7 y8 y9 y10 y11 y12, LeO (telemeterlaw03_ItemAttrs.l0 k y0 y1 y2 y3 y4 y5 y6 y7 y8 y9 y10 y11 y12) (telemeterlaw03_ItemAttrs.l0 (k + 1) y0 y1 y2 y3 y4 y5 y6 y7 y8 y9 y10 y11 y12))
  | 0 => fun _ _ _ _ _ _ _ _ _ _ _ _ _ r h => by simp [telemeterlaw03_ItemAttrs.l0] at h
  | k + 1 => by
    have ih0 := telemeterlaw03_ItemAttrs.mono_l k
    · intro y0 y1 y2 y3 y4 y5 y6 y7 y8 y9 y10 y11 y12
      unfold telemeterlaw03_ItemAttrs.l0
      repeat' first
      | (with_reducible exact ih0 _ _ _ _ _ _ _ _ _ _ _ _ _)
      | (with_reducible exact LeO.refl _)
      | (with_reducible exact LeO.none _)
      | (with_reducible refine LeO.ite ?_ ?_)
      | (with_reducible refine LeO.bind ?_ (fun _ => ?_))
      | exact ih0 _ _ _ _ _ _ _ _ _ _ _ _ _
      | exact LeO.none _
      | refine LeO.ite ?_ ?_
      | refine LeO.bind ?_ (fun _ => ?_)
theorem telemeterlaw03_ItemAttrs.mono : ∀ a0 a1 a2 k, LeO (telemeterlaw03_ItemAttrs.f k a0 a1 a2) (telemeterlaw03_ItemAttrs.f (k + 1) a0 a1 a2) := by
  intro a0 a1 a2 k
  have ih0 := telemeterlaw03_ItemAttrs.mono_l k
  unfold telemeterlaw03_ItemAttrs.f
  repeat' first
      | (with_reducible exact ih0 _ _ _ _ _ _ _ _ _ _ _ _ _)
      | (with_reducible exact LeO.refl _)
      | (with_reducible exact LeO.none _)
      | (with_reducible refine LeO.ite ?_ ?_)
      | (with_reducible refine LeO.bind ?_ (fun _ => ?_))
      | exact ih0 _ _ _ _ _ _ _ _ _ _ _ _ _
      | exact LeO.none _
      | refine LeO.ite ?_ ?_
      | refine LeO.bind ?_ (fun _ => ?_)
def telemeterlaw03_ItemAttrs.T13 : Bool × List (List Nat × List Nat) := (true, [([], []), ([0], [0]), ([], []), ([], []), ([3], [3]), ([], []), ([5], [5]), ([4, 6], [4, 6]), ([7], [7]), ([8], [8]), ([1, 2, 0, 1, 2, 3, 4, 5, 6, 7, 8, 9], [1, 2]), ([10, 0, 1, 2, 3, 4, 5, 6, 7, 8, 9], [10]), ([11, 9, 0, 1, 2, 3, 4, 5, 6, 7, 8, 9], [9, 11])])
def telemeterlaw03_ItemAttrs.B13 : List Nat := [0, 1, 0, 0, 8, 0, 32, 120, 248, 504, 1023, 2047, 4095]
theorem telemeterlaw03_ItemAttrs.tab13 : rtab .any (opsOf Try.f4 13) = telemeterlaw03_ItemAttrs.T13 := by kernel_rfl
theorem telemeterlaw03_ItemAttrs.bits13 : waitsOk telemeterlaw03_ItemAttrs.T13.2 telemeterlaw03_ItemAttrs.B13 = true := by kernel_rfl
set_option maxHeartbeats 8000000 in
set_option maxRecDepth 100000 in
theorem telemeterlaw03_ItemAttrs.calls (k : Nat) (A0 : Option Addr) (c0 : Nat) (l0 : List Int) (a1 : Int) (a2 : Int) (r : Bool) (w : World) (hr0 : Kd.C (Kd.int .u8) w A0 l0.length l0) (hc0 : l0.length ≤ c0) (h : telemeterlaw03_ItemAttrs.f k l0 a1 a2 = some r) :
    Calls Try.prog 4 #[.slice A0 l0.length c0, .int .u8 a1, .int .u8 a2] w fun e w' => e = .returned (.bool r) ∧ Below w.heap.size w w' := by
  have hu26 := Try.underlying26
  have hu36 := Try.underlying36
  have HR0 := Aside0.mk hr0
  have HC0 := Aside0.mk hc0
  clear hr0 hc0
  have HB := Aside0.mk (Below.refl w.heap.size w)
  have H : ((telemeterlaw03_Span.f l0).bind fun bt199 => (telemeterlaw03_ItemAttrs.l0 k a1 a2 0 bt199.1 bt199.2.1 bt199.2.2.1 bt199.2.2.2.1 bt199.2.2.2.2.1 bt199.2.2.2.2.2.1 bt199.2.2.2.2.2.2.1 bt199.2.2.2.2.2.2.2.1 ([] : List (S36)) bt199.2.2.2.2.2.2.2.2.2)) = some r := h
  clear h
  replace H := Option.bind_eq_some_iff.mp H
  obtain ⟨⟨t199, t200, t201, t202, t203, t204, t205, t206, t207, t210⟩, A40, H⟩ := H
  replace H : (telemeterlaw03_ItemAttrs.l0 k a1 a2 0 t199 t200 t201 t202 t203 t204 t205 t206 ([] : List (S36)) t210) = some r := H
  have A4 := Aside0.mk A40
  clear A40
  have H' := Aside0.mk H
  clear H
  go_enter Try.func4, Try.ntmps4
  go_wp2_with (first | ((with_reducible refine gate_callee (f := 10) rfl ?_); refine goesL_ (some 12) rfl rfl Try.func10 (by kernel_rfl) rfl #[.slice A0 l0.length c0] rfl (by (try simp only [List.map_toArray, List.map_cons, List.map_nil]); first | done | rfl | (simp only [List.length_drop, List.length_take]; rfl)) ?_; (with_reducible refine (telemeterlaw03_Span.calls _ _ l0 t199 t200 t201 t202 t203 t204 t205 t206 t207 t210 _ ?side1 ?side2 A4.out).mono ?_); (case side1 => repeat (first | exact HR0.out | (with_reducible refine Kd.C_alloc ?_ _) | (with_reducible refine Kd.C_drewN ?_ _) | (with_reducible refine Kd.C_drew ?_))); (case side2 => exact HC0.out); rintro e w5 ⟨v208, rfl, ho0, hb⟩; refine ⟨_, rfl, ?_⟩; have n0_ := Aside0.mk (Kd.R_lower ho0 (below_size (by repeat (first | (with_reducible first | exact HB.out | apply below_alloc | apply pw_below_drewN | apply below_drew1) | exact HB.out)))); have n1_ := Aside0.mk (below_step (by repeat (first | (with_reducible first | exact HB.out | apply below_alloc | apply pw_below_drewN | apply below_drew1) | exact HB.out)) hb); clear HB; have HO209 := n0_; have HB := n1_; clear n0_ n1_; (try clear hb); (try clear hb2); (try clear hk); (try clear hi); (try clear ho0)) | ((with_reducible refine gate_dst (N := 7) rfl ?_); refine box_event ?hg (N := 7) ?hd (cs := #[.int .u64 0, .int .u64 0, .int .u64 0, .int .u64 0, .string (⟨#[]⟩ : ByteArray), .int .i64 0, .int .i64 0, .bool false, .slice none 0 0, .int .u64 0]) (t := 26) ?hr ?_; (case hd => rfl); (case hg => rfl); (case hr => first | (go_simp; done) | (go_simp; rfl)); intro gb211 hg w6 hbox hb; have n0_ := Aside0.mk (Kd.R_below (by (with_reducible repeat (first | apply Kd.R_alloc | apply Kd.R_drewN | apply Kd.R_drew)); exact HO209.out) hb); have n1_ := Aside0.mk (below_step (by repeat (first | (with_reducible first | exact HB.out | apply below_alloc | apply pw_below_drewN | apply below_drew1) | exact HB.out)) hb); have n2_ := Aside0.mk (hbox); have n3_ := Aside0.mk ((by rw [hg]; exact (below_size (by repeat (first | (with_reducible first | exact HB.out | apply below_alloc | apply pw_below_drewN | apply below_drew1) | exact HB.out))) : w.heap.size ≤ gb211)); have n4_ := Aside0.mk ((by rw [hg]; exact (below_size (by repeat (first | (with_reducible first | exact HB.out | apply below_alloc | apply pw_below_drewN | apply below_drew1) | exact HB.out))) : w.heap.size ≤ gb211)); clear HO209; clear HB; have HO209 := n0_; have HB := n1_; have BK211 := n2_; have GW211 := n3_; have GE211 := n4_; clear n0_ n1_ n2_ n3_ n4_; clear hb hbox hg; have hcz7_0 : w6.cell? ⟨gb211, 0, none⟩ = some (.int .u64 0) := (blk_cell BK211.out 0).trans rfl; have hcz7_1 : w6.cell? ⟨gb211, 1, none⟩ = some (.int .u64 0) := (blk_cell BK211.out 1).trans rfl; have hcz7_2 : w6.cell? ⟨gb211, 2, none⟩ = some (.int .u64 0) := (blk_cell BK211.out 2).trans rfl; have hcz7_3 : w6.cell? ⟨gb211, 3, none⟩ = some (.int .u64 0) := (blk_cell BK211.out 3).trans rfl; have hcz7_4 : w6.cell? ⟨gb211, 4, none⟩ = some (.string (⟨#[]⟩ : ByteArray)) := (blk_cell BK211.out 4).trans rfl; have hcz7_5 : w6.cell? ⟨gb211, 5, none⟩ = some (.int .i64 0) := (blk_cell BK211.out 5).trans rfl; have hcz7_6 : w6.cell? ⟨gb211, 6, none⟩ = some (.int .i64 0) := (blk_cell BK211.out 6).trans rfl; have hcz7_7 : w6.cell? ⟨gb211, 7, none⟩ = some (.bool false) := (blk_cell BK211.out 7).trans rfl; have hcz7_8 : w6.cell? ⟨gb211, 8, none⟩ = some (.slice none 0 0) := (blk_cell BK211.out 8).trans rfl; have hcz7_9 : w6.cell? ⟨gb211, 9, none⟩ = some (.int .u64 0) := (blk_cell BK211.out 9).trans rfl; have hfz7_0 := blk_frozen BK211.out 0; have hfz7_1 := blk_frozen BK211.out 1; have hfz7_2 := blk_frozen BK211.out 2; have hfz7_3 := blk_frozen BK211.out 3; have hfz7_4 := blk_frozen BK211.out 4; have hfz7_5 := blk_frozen BK211.out 5; have hfz7_6 := blk_frozen BK211.out 6; have hfz7_7 := blk_frozen BK211.out 7; have hfz7_8 := blk_frozen BK211.out 8; have hfz7_9 := blk_frozen BK211.out 9; obtain ⟨Ao8, co8, eo8⟩ := Kd.R_slice HO209.out; subst eo8))
  go_loopg [8] k (fun kq v8 w' => ∃ (x8_1 : Int) (x212008_1 : List (S36)) (u212008 : Value), v8 = .int .i64 x8_1 ∧ Aside0 (telemeterlaw03_ItemAttrs.l0 kq a1 a2 x8_1 t199 t200 t201 t202 t203 t204 t205 t206 x212008_1 t210 = some r) ∧ Aside0 (kq ≤ k) ∧ Aside0 (Kd.R k36 36 w' w.heap.size (fun _ => True) u212008 x212008_1) ∧ Aside0 (w'.heap[gb211]? = some (.cells #[.int .u64 t199, .int .u64 t200, .int .u64 t201, .int .u64 t202, .string t203, .int .i64 t204, .int .i64 t205, .bool t206, u212008, .int .u64 t210] 26 (0, 0))) ∧ Aside0 (Below w.heap.size w w'))
  case atStart => exact ⟨(0), (([] : List (S36))), (.slice none 0 0), (by first | rfl | (simp; done) | (simp [*]; done)), H', ⟨Nat.le_refl _⟩, ⟨by first | exact Kd.R_nil _ _ _ _ _ | exact Kd.N_nil _ _ _ _ _ | exact Kd.V_nil _ _ _ _ _ | exact Kd.Q_nil _ _ _ _ _ | exact Kd.S_nil _ _ _ _ _⟩, ⟨by (with_reducible repeat (first | refine blk_drewN ?_ _ | refine blk_drew ?_ | refine blk_alloc ?_ _)); refine blk_put (cs := #[.int .u64 t199, .int .u64 t200, .int .u64 t201, .int .u64 t202, .string t203, .int .i64 t204, .int .i64 t205, .bool t206, .slice Ao8 t207.length co8, .int .u64 t210]) ?_ 8 _ rfl; (with_reducible repeat (first | refine blk_drewN ?_ _ | refine blk_drew ?_ | refine blk_alloc ?_ _)); refine blk_put (cs := #[.int .u64 t199, .int .u64 t200, .int .u64 t201, .int .u64 t202, .string t203, .int .i64 t204, .int .i64 t205, .bool t206, .slice Ao8 t207.length co8, .int .u64 0]) ?_ 9 _ rfl; (with_reducible repeat (first | refine blk_drewN ?_ _ | refine blk_drew ?_ | refine blk_alloc ?_ _)); refine blk_put (cs := #[.int .u64 t199, .int .u64 t200, .int .u64 t201, .int .u64 t202, .string t203, .int .i64 t204, .int .i64 t205, .bool t206, .slice none 0 0, .int .u64 0]) ?_ 8 _ rfl; (with_reducible repeat (first | refine blk_drewN ?_ _ | refine blk_drew ?_ | refine blk_alloc ?_ _)); refine blk_put (cs := #[.int .u64 t199, .int .u64 t200, .int .u64 t201, .int .u64 t202, .string t203, .int .i64 t204, .int .i64 t205, .bool false, .slice none 0 0, .int .u64 0]) ?_ 7 _ rfl; (with_reducible repeat (first | refine blk_drewN ?_ _ | refine blk_drew ?_ | refine blk_alloc ?_ _)); refine blk_put (cs := #[.int .u64 t199, .int .u64 t200, .int .u64 t201, .int .u64 t202, .string t203, .int .i64 t204, .int .i64 0, .bool false, .slice none 0 0, .int .u64 0]) ?_ 6 _ rfl; (with_reducible repeat (first | refine blk_drewN ?_ _ | refine blk_drew ?_ | refine blk_alloc ?_ _)); refine blk_put (cs := #[.int .u64 t199, .int .u64 t200, .int .u64 t201, .int .u64 t202, .string t203, .int .i64 0, .int .i64 0, .bool false, .slice none 0 0, .int .u64 0]) ?_ 5 _ rfl; (with_reducible repeat (first | refine blk_drewN ?_ _ | refine blk_drew ?_ | refine blk_alloc ?_ _)); refine blk_put (cs := #[.int .u64 t199, .int .u64 t200, .int .u64 t201, .int .u64 t202, .string (⟨#[]⟩ : ByteArray), .int .i64 0, .int .i64 0, .bool false, .slice none 0 0, .int .u64 0]) ?_ 4 _ rfl; (with_reducible repeat (first | refine blk_drewN ?_ _ | refine blk_drew ?_ | refine blk_alloc ?_ _)); refine blk_put (cs := #[.int .u64 t199, .int .u64 t200, .int .u64 t201, .int .u64 0, .string (⟨#[]⟩ : ByteArray), .int .i64 0, .int .i64 0, .bool false, .slice none 0 0, .int .u64 0]) ?_ 3 _ rfl; (with_reducible repeat (first | refine blk_drewN ?_ _ | refine blk_drew ?_ | refine blk_alloc ?_ _)); refine blk_put (cs := #[.int .u64 t199, .int .u64 t200, .int .u64 0, .int .u64 0, .string (⟨#[]⟩ : ByteArray), .int .i64 0, .int .i64 0, .bool false, .slice none 0 0, .int .u64 0]) ?_ 2 _ rfl; (with_reducible repeat (first | refine blk_drewN ?_ _ | refine blk_drew ?_ | refine blk_alloc ?_ _)); refine blk_put (cs := #[.int .u64 t199, .int .u64 0, .int .u64 0, .int .u64 0, .string (⟨#[]⟩ : ByteArray), .int .i64 0, .int .i64 0, .bool false, .slice none 0 0, .int .u64 0]) ?_ 1 _ rfl; (with_reducible repeat (first | refine blk_drewN ?_ _ | refine blk_drew ?_ | refine blk_alloc ?_ _)); refine blk_put (cs := #[.int .u64 0, .int .u64 0, .int .u64 0, .int .u64 0, .string (⟨#[]⟩ : ByteArray), .int .i64 0, .int .i64 0, .bool false, .slice none 0 0, .int .u64 0]) ?_ 0 _ rfl; (with_reducible repeat (first | refine blk_drewN ?_ _ | refine blk_drew ?_ | refine blk_alloc ?_ _)); exact BK211.out⟩, ⟨by repeat (first | (with_reducible first | exact HB.out | apply below_alloc | apply pw_below_drewN | apply below_drew1 | refine below_set ?_ GE211.out) | exact HB.out)⟩⟩
  case round =>
    clear H'
    try clear c1
    try clear p2
    try clear c4
    try clear hcz7_0
    try clear hcz7_1
    try clear hcz7_2
    try clear hcz7_3
    try clear hcz7_4
    try clear hcz7_5
    try clear hcz7_6
    try clear hcz7_7
    try clear hcz7_8
    try clear hcz7_9
    try clear hfz7_0
    try clear hfz7_1
    try clear hfz7_2
    try clear hfz7_3
    try clear hfz7_4
    try clear hfz7_5
    try clear hfz7_6
    try clear hfz7_7
    try clear hfz7_8
    try clear hfz7_9
    obtain ⟨x8_1, x212008_1, u212008, rfl, HA, HK1, HO_212008, BK211, HB⟩ := hrel
    cases gk with
    | zero => exact absurd HA.out (by simp [telemeterlaw03_ItemAttrs.l0])
    | succ k1 =>
      have H := HA.out
      clear HA
      simp only [telemeterlaw03_ItemAttrs.l0] at H
      by_cases c9 : x8_1 < (wrap64 (Int.tmod a1 12))
      · rw [if_pos c9] at H
        have c9b0 : decide (x8_1 < (wrap64 (Int.tmod a1 12))) = true := decide_eq_true c9
        clear c9
        obtain ⟨y212, hy212⟩ : ∃ y_ : List Int, y_ = (([(wrap64 (97 + x8_1)) % 256] : List Int)) := ⟨_, rfl⟩
        replace H : (if x212008_1.length < 4398046511104 then (telemeterlaw03_ItemAttrs.l0 k1 a1 a2 (wrap64 (x8_1 + 1)) t199 t200 t201 t202 t203 t204 t205 t206 (x212008_1 ++ [(⟨strOfNums y212, (⟨#[]⟩ : ByteArray)⟩ : S36)]) t210) else (none)) = some r := by first | (rw [hy212]; with_reducible exact H) | (have H2_ := (Option.bind_some _ _).symm.trans H; rw [hy212]; with_reducible exact H2_) | (have H2_ := (Option.bind_some _ _).symm.trans H; with_reducible exact H2_) | with_reducible exact H | (rw [hy212]; exact H) | exact H
        have Ny212 := Aside0.mk hy212
        clear hy212
        by_cases c10 : x212008_1.length < 4398046511104
        · rw [if_pos c10] at H
          have LMc10 := Aside0.mk c10
          clear c10
          obtain ⟨y215, hy215⟩ : ∃ y_ : List (S36), y_ = (x212008_1 ++ [(⟨strOfNums y212, (⟨#[]⟩ : ByteArray)⟩ : S36)]) := ⟨_, rfl⟩
          replace H : (telemeterlaw03_ItemAttrs.l0 k1 a1 a2 (wrap64 (x8_1 + 1)) t199 t200 t201 t202 t203 t204 t205 t206 y215 t210) = some r := by first | (rw [hy215]; with_reducible exact H) | (have H2_ := (Option.bind_some _ _).symm.trans H; rw [hy215]; with_reducible exact H2_) | (have H2_ := (Option.bind_some _ _).symm.trans H; with_reducible exact H2_) | with_reducible exact H | (rw [hy215]; exact H) | exact H
          have Ny215 := Aside0.mk hy215
          clear hy215
          have H' := Aside0.mk H
          clear H
          have hcz11_0 : wr.cell? ⟨gb211, 0, none⟩ = some (.int .u64 t199) := (blk_cell BK211.out 0).trans rfl
          have hcz11_1 : wr.cell? ⟨gb211, 1, none⟩ = some (.int .u64 t200) := (blk_cell BK211.out 1).trans rfl
          have hcz11_2 : wr.cell? ⟨gb211, 2, none⟩ = some (.int .u64 t201) := (blk_cell BK211.out 2).trans rfl
          have hcz11_3 : wr.cell? ⟨gb211, 3, none⟩ = some (.int .u64 t202) := (blk_cell BK211.out 3).trans rfl
          have hcz11_4 : wr.cell? ⟨gb211, 4, none⟩ = some (.string t203) := (blk_cell BK211.out 4).trans rfl
          have hcz11_5 : wr.cell? ⟨gb211, 5, none⟩ = some (.int .i64 t204) := (blk_cell BK211.out 5).trans rfl
          have hcz11_6 : wr.cell? ⟨gb211, 6, none⟩ = some (.int .i64 t205) := (blk_cell BK211.out 6).trans rfl
          have hcz11_7 : wr.cell? ⟨gb211, 7, none⟩ = some (.bool t206) := (blk_cell BK211.out 7).trans rfl
          have hcz11_8 : wr.cell? ⟨gb211, 8, none⟩ = some (u212008) := (blk_cell BK211.out 8).trans rfl
          have hcz11_9 : wr.cell? ⟨gb211, 9, none⟩ = some (.int .u64 t210) := (blk_cell BK211.out 9).trans rfl
          have hfz11_0 := blk_frozen BK211.out 0
          have hfz11_1 := blk_frozen BK211.out 1
          have hfz11_2 := blk_frozen BK211.out 2
          have hfz11_3 := blk_frozen BK211.out 3
          have hfz11_4 := blk_frozen BK211.out 4
          have hfz11_5 := blk_frozen BK211.out 5
          have hfz11_6 := blk_frozen BK211.out 6
          have hfz11_7 := blk_frozen BK211.out 7
          have hfz11_8 := blk_frozen BK211.out 8
          have hfz11_9 := blk_frozen BK211.out 9
          go_wp2_with (first | ((with_reducible refine gate_dst (N := 26) rfl ?_); refine Kd.R_lit (Kd.int .u8) _ 5 ?hg (N := 26) ?hd (xs := ([(wrap64 (97 + x8_1)) % 256] : List Int)) (inner := [.int .u8 ((wrap64 (97 + x8_1)) % 256)]) (ok := fun _ => True) (okp := fun _ => True) ?hr ?hp (fun _ hk => hk) trivial (Below.refl _ _) (Nat.le_refl _) (by simp) ?_; (case hd => rfl); (case hg => rfl); (case hr => first | (go_simp; done) | (go_simp; rfl)); (case hp => exact (Reps.one (show Kd.M (Kd.int .u8) _ _ _ ((wrap64 (97 + x8_1)) % 256) [.int .u8 ((wrap64 (97 + x8_1)) % 256)] from rfl) (Reps.none _ _))); intro v213 w12 ho13 hb hg_ hnew_; clear hg_ hnew_; (first | rw [← Ny212.out] at ho13 | (simp only [Int.reduceToNat] at ho13; rw [← Ny212.out] at ho13)); have n0_ := Aside0.mk (Kd.R_below (by (with_reducible repeat (first | apply Kd.R_alloc | apply Kd.R_drewN | apply Kd.R_drew)); exact HO_212008.out) hb); have n1_ := Aside0.mk (Kd.R_lower ho13 (below_size (by repeat (first | (with_reducible first | exact HB.out | apply below_alloc | apply pw_below_drewN | apply below_drew1 | refine below_set ?_ GE211.out) | exact HB.out)))); have n2_ := Aside0.mk (blk_below (g := gb211) (o := .cells #[.int .u64 t199, .int .u64 t200, .int .u64 t201, .int .u64 t202, .string t203, .int .i64 t204, .int .i64 t205, .bool t206, u212008, .int .u64 t210] 26 (0, 0)) (by (with_reducible repeat (first | refine blk_drewN ?_ _ | refine blk_drew ?_ | refine blk_alloc ?_ _)); exact BK211.out) hb); have n3_ := Aside0.mk (below_step (by repeat (first | (with_reducible first | exact HB.out | apply below_alloc | apply pw_below_drewN | apply below_drew1 | refine below_set ?_ GE211.out) | exact HB.out)) hb); clear HO_212008; clear BK211; clear HB; have HO_212008 := n0_; have HO214 := n1_; have BK211 := n2_; have HB := n3_; clear n0_ n1_ n2_ n3_; clear hb ho13; have hcv14 := own_string (P := Try.prog) Try.underlying22 Try.underlying5 Try.underlying9 (Kd.own_of_R HO214.out); have hcv14d := fun m_ => own_string (P := Try.prog) Try.underlying22 Try.underlying5 Try.underlying9 (pw_own_drewN (Kd.own_of_R HO214.out) m_)) | ((with_reducible refine gate_builtin (b := .append) (xs := #[.tmp 22, .tmp 29]) rfl ?_); at_builtin; refine Kd.R_append k36 (w0 := w) w.heap.size rfl (.tmp 22) (.tmp 29) 24 36 (.agg #[(.string ⟨#[]⟩), (.string ⟨#[]⟩)]) 32 rfl Try.underlying24 info36 rfl (by decide) (by omega) u212008 x212008_1 (⟨strOfNums y212, (⟨#[]⟩ : ByteArray)⟩ : S36) [.string (strOfNums y212), .string (⟨#[]⟩ : ByteArray)] (fun _ => True) (fun _ => False) rfl rfl ?aP (fun _ hk => hk.elim) ?aF ?aO ?aB ?aS ?aL ?_; (case aP => exact k36_mkM _ _ _ (⟨strOfNums y212, (⟨#[]⟩ : ByteArray)⟩ : S36)); (case aB => exact (by repeat (first | (with_reducible first | exact HB.out | apply below_alloc | apply pw_below_drewN | apply below_drew1 | refine below_set ?_ GE211.out) | exact HB.out))); (case aF => exact (fun _ _ => trivial)); (case aO => exact (by (with_reducible repeat (first | apply Kd.R_alloc | apply Kd.R_drewN | apply Kd.R_drew)); exact HO_212008.out)); (case aS => exact (below_size (by repeat (first | (with_reducible first | exact HB.out | apply below_alloc | apply pw_below_drewN | apply below_drew1 | refine below_set ?_ GE211.out) | exact HB.out)))); (case aL => have := LMc10.out; omega); intro v216 w15 ho hb hg hat; rw [← Ny215.out] at ho; have n0_ := Aside0.mk (blk_grown (g := gb211) (o := .cells #[.int .u64 t199, .int .u64 t200, .int .u64 t201, .int .u64 t202, .string t203, .int .i64 t204, .int .i64 t205, .bool t206, u212008, .int .u64 t210] 26 (0, 0)) (by (with_reducible repeat (first | refine blk_drewN ?_ _ | refine blk_drew ?_ | refine blk_alloc ?_ _)); exact BK211.out) hg (Kd.R_ne HO_212008.out BK211.out (by decide))); have n1_ := Aside0.mk (Kd.R_over' (by (with_reducible repeat (first | apply Kd.R_alloc | apply Kd.R_drewN | apply Kd.R_drew)); exact HO214.out) (Kd.R_typed (by (with_reducible repeat (first | apply Kd.R_alloc | apply Kd.R_drewN | apply Kd.R_drew)); exact HO_212008.out)) (by decide) hg); have n2_ := Aside0.mk (hb); have n3_ := Aside0.mk (ho); clear BK211; clear HO214; clear HB; clear HO_212008; have BK211 := n0_; have HO214 := n1_; have HB := n2_; have HO217 := n3_; clear n0_ n1_ n2_ n3_; clear ho hb hg hat; obtain ⟨Ao16, co16, eo16⟩ := Kd.R_slice HO217.out; subst eo16; have hcz17_0 : w15.cell? ⟨gb211, 0, none⟩ = some (.int .u64 t199) := (blk_cell BK211.out 0).trans rfl; have hcz17_1 : w15.cell? ⟨gb211, 1, none⟩ = some (.int .u64 t200) := (blk_cell BK211.out 1).trans rfl; have hcz17_2 : w15.cell? ⟨gb211, 2, none⟩ = some (.int .u64 t201) := (blk_cell BK211.out 2).trans rfl; have hcz17_3 : w15.cell? ⟨gb211, 3, none⟩ = some (.int .u64 t202) := (blk_cell BK211.out 3).trans rfl; have hcz17_4 : w15.cell? ⟨gb211, 4, none⟩ = some (.string t203) := (blk_cell BK211.out 4).trans rfl; have hcz17_5 : w15.cell? ⟨gb211, 5, none⟩ = some (.int .i64 t204) := (blk_cell BK211.out 5).trans rfl; have hcz17_6 : w15.cell? ⟨gb211, 6, none⟩ = some (.int .i64 t205) := (blk_cell BK211.out 6).trans rfl; have hcz17_7 : w15.cell? ⟨gb211, 7, none⟩ = some (.bool t206) := (blk_cell BK211.out 7).trans rfl; have hcz17_8 : w15.cell? ⟨gb211, 8, none⟩ = some (u212008) := (blk_cell BK211.out 8).trans rfl; have hcz17_9 : w15.cell? ⟨gb211, 9, none⟩ = some (.int .u64 t210) := (blk_cell BK211.out 9).trans rfl; have hfz17_0 := blk_frozen BK211.out 0; have hfz17_1 := blk_frozen BK211.out 1; have hfz17_2 := blk_frozen BK211.out 2; have hfz17_3 := blk_frozen BK211.out 3; have hfz17_4 := blk_frozen BK211.out 4; have hfz17_5 := blk_frozen BK211.out 5; have hfz17_6 := blk_frozen BK211.out 6; have hfz17_7 := blk_frozen BK211.out 7; have hfz17_8 := blk_frozen BK211.out 8; have hfz17_9 := blk_frozen BK211.out 9))
          go_roundg k1
          case measure => have := HK1.out; omega
          case rel => exact ⟨(wrap64 (x8_1 + 1)), (y215), (.slice Ao16 y215.length co16), (by first | rfl | (simp; done) | (simp [*]; done)), H', ⟨by have := HK1.out; omega⟩, ⟨by (with_reducible repeat (first | apply Kd.R_alloc | apply Kd.R_drewN | apply Kd.R_drew)); exact Kd.R_mono (Kd.R_far (p := ⟨gb211, 8, none⟩) (Kd.R_types HO217.out BK211.out (by decide)) (fun _ hk => hk.2) (.slice Ao16 y215.length co16)) (fun _ hk => trivial)⟩, ⟨by (with_reducible repeat (first | refine blk_drewN ?_ _ | refine blk_drew ?_ | refine blk_alloc ?_ _)); refine blk_put (cs := #[.int .u64 t199, .int .u64 t200, .int .u64 t201, .int .u64 t202, .string t203, .int .i64 t204, .int .i64 t205, .bool t206, u212008, .int .u64 t210]) ?_ 8 _ rfl; (with_reducible repeat (first | refine blk_drewN ?_ _ | refine blk_drew ?_ | refine blk_alloc ?_ _)); exact BK211.out⟩, ⟨by repeat (first | (with_reducible first | exact HB.out | apply below_alloc | apply pw_below_drewN | apply below_drew1 | refine below_set ?_ GE211.out) | exact HB.out)⟩⟩
        · rw [if_neg c10] at H
          exact absurd H (by simp)
      · rw [if_neg c9] at H
        have c9b0 : decide (x8_1 < (wrap64 (Int.tmod a1 12))) = false := decide_eq_false c9
        clear c9
        replace H := Option.bind_eq_some_iff.mp H
        obtain ⟨t218, A180, H⟩ := H
        replace H : (if (t218 != (decide ((x212008_1.length : Int) ≤ 8))) = true then (some false) else (if (x212008_1.length : Int) < 2 then ((telemeterlaw03_known.f).bind fun t219 => (some t219)) else (if (wrap64 ((x212008_1.length : Int) - 1)) = 0 then (none) else (if 0 ≤ (wrap64 ((wrap64 (1 + (Int.tmod (wrap64 (a2)) (wrap64 ((x212008_1.length : Int) - 1))))) - 1)) then (if (wrap64 ((wrap64 (1 + (Int.tmod (wrap64 (a2)) (wrap64 ((x212008_1.length : Int) - 1))))) - 1)) < (x212008_1.length : Int) then (if 0 ≤ (wrap64 (1 + (Int.tmod (wrap64 (a2)) (wrap64 ((x212008_1.length : Int) - 1))))) then (if (wrap64 (1 + (Int.tmod (wrap64 (a2)) (wrap64 ((x212008_1.length : Int) - 1))))) < (x212008_1.length : Int) then ((telemeterlaw03_known.f).bind fun t222 => (if t222 = true then ((item_RightSpan.f t199 t200 t201 t202 t203 t204 t205 t206 (x212008_1.set ((wrap64 (1 + (Int.tmod (wrap64 (a2)) (wrap64 ((x212008_1.length : Int) - 1))))) : Int).toNat (⟨(rd_T36 x212008_1 (wrap64 ((wrap64 (1 + (Int.tmod (wrap64 (a2)) (wrap64 ((x212008_1.length : Int) - 1))))) - 1))).f0, (rd_T36 x212008_1 (wrap64 (1 + (Int.tmod (wrap64 (a2)) (wrap64 ((x212008_1.length : Int) - 1)))))).f1⟩ : S36)) t210).bind fun t223 => (some (!t223))) else (some false))) else (none)) else (none)) else (none)) else (none))))) = some r := H
        have A18 := Aside0.mk A180
        clear A180
        by_cases c19 : (t218 != (decide ((x212008_1.length : Int) ≤ 8))) = true
        · rw [if_pos c19] at H
          have c19b0 : (t218 != (decide ((x212008_1.length : Int) ≤ 8))) = true := c19
          (try (have c19b1 : decide (t218 = (decide ((x212008_1.length : Int) ≤ 8))) = false := by simpa using c19))
          (try (have c19b2 : (t218 == (decide ((x212008_1.length : Int) ≤ 8))) = false := by simpa using c19))
          (try (have c19b3 : ¬ (t218 = (decide ((x212008_1.length : Int) ≤ 8))) := by simpa using c19))
          clear c19
          obtain rfl := Option.some.inj H
          have hcz20_0 : wr.cell? ⟨gb211, 0, none⟩ = some (.int .u64 t199) := (blk_cell BK211.out 0).trans rfl
          have hcz20_1 : wr.cell? ⟨gb211, 1, none⟩ = some (.int .u64 t200) := (blk_cell BK211.out 1).trans rfl
          have hcz20_2 : wr.cell? ⟨gb211, 2, none⟩ = some (.int .u64 t201) := (blk_cell BK211.out 2).trans rfl
          have hcz20_3 : wr.cell? ⟨gb211, 3, none⟩ = some (.int .u64 t202) := (blk_cell BK211.out 3).trans rfl
          have hcz20_4 : wr.cell? ⟨gb211, 4, none⟩ = some (.string t203) := (blk_cell BK211.out 4).trans rfl
          have hcz20_5 : wr.cell? ⟨gb211, 5, none⟩ = some (.int .i64 t204) := (blk_cell BK211.out 5).trans rfl
          have hcz20_6 : wr.cell? ⟨gb211, 6, none⟩ = some (.int .i64 t205) := (blk_cell BK211.out 6).trans rfl
          have hcz20_7 : wr.cell? ⟨gb211, 7, none⟩ = some (.bool t206) := (blk_cell BK211.out 7).trans rfl
          have hcz20_8 : wr.cell? ⟨gb211, 8, none⟩ = some (u212008) := (blk_cell BK211.out 8).trans rfl
          have hcz20_9 : wr.cell? ⟨gb211, 9, none⟩ = some (.int .u64 t210) := (blk_cell BK211.out 9).trans rfl
          have hfz20_0 := blk_frozen BK211.out 0
          have hfz20_1 := blk_frozen BK211.out 1
          have hfz20_2 := blk_frozen BK211.out 2
          have hfz20_3 := blk_frozen BK211.out 3
          have hfz20_4 := blk_frozen BK211.out 4
          have hfz20_5 := blk_frozen BK211.out 5
          have hfz20_6 := blk_frozen BK211.out 6
          have hfz20_7 := blk_frozen BK211.out 7
          have hfz20_8 := blk_frozen BK211.out 8
          have hfz20_9 := blk_frozen BK211.out 9
          obtain ⟨Ao21, co21, eo21⟩ := Kd.R_slice HO_212008.out
          subst eo21
          go_wp2_with (first | ((with_reducible refine gate_callee (f := 13) rfl ?_); refine goesL_ (some 36) rfl rfl Try.func13 (by kernel_rfl) rfl #[.agg #[.int .u64 t199, .int .u64 t200, .int .u64 t201, .int .u64 t202, .string t203, .int .i64 t204, .int .i64 t205, .bool t206, .slice Ao21 x212008_1.length co21, .int .u64 t210]] rfl (by (try simp only [List.map_toArray, List.map_cons, List.map_nil]); first | done | rfl | (simp only [List.length_drop, List.length_take]; rfl)) ?_; (with_reducible refine (item_RightSpan.calls t199 t200 t201 t202 t203 t204 t205 t206 _ _ x212008_1 t210 t218 _ ?side1 ?side2 A18.out).mono ?_); (case side1 => repeat (first | exact (Kd.R_reads' HO_212008.out).2.2 | (with_reducible refine Kd.C_alloc ?_ _) | (with_reducible refine Kd.C_drewN ?_ _) | (with_reducible refine Kd.C_drew ?_))); (case side2 => exact (Kd.R_reads' HO_212008.out).2.1); rintro e w22 ⟨rfl, hb⟩; refine ⟨_, rfl, ?_⟩; have n0_ := Aside0.mk (Kd.R_below (by (with_reducible repeat (first | apply Kd.R_alloc | apply Kd.R_drewN | apply Kd.R_drew)); exact HO_212008.out) hb); have n1_ := Aside0.mk (blk_below (g := gb211) (o := .cells #[.int .u64 t199, .int .u64 t200, .int .u64 t201, .int .u64 t202, .string t203, .int .i64 t204, .int .i64 t205, .bool t206, .slice Ao21 x212008_1.length co21, .int .u64 t210] 26 (0, 0)) (by (with_reducible repeat (first | refine blk_drewN ?_ _ | refine blk_drew ?_ | refine blk_alloc ?_ _)); exact BK211.out) hb); have n2_ := Aside0.mk (below_step (by repeat (first | (with_reducible first | exact HB.out | apply below_alloc | apply pw_below_drewN | apply below_drew1 | refine below_set ?_ GE211.out) | exact HB.out)) hb); clear HO_212008; clear BK211; clear HB; have HO_212008 := n0_; have BK211 := n1_; have HB := n2_; clear n0_ n1_ n2_; (try clear hb); (try clear hb2); (try clear hk); (try clear hi)))
          go_ret
          exact ⟨by first | rfl | (simp [errW_none, errW_some] <;> rfl) | (simp [*, errW_none, errW_some] <;> rfl), by repeat (first | (with_reducible first | exact HB.out | apply below_alloc | apply pw_below_drewN | apply below_drew1 | refine below_set ?_ GE211.out) | exact HB.out)⟩
        · rw [if_neg c19] at H
          have c19b0 : (t218 != (decide ((x212008_1.length : Int) ≤ 8))) = false := by simpa using c19
          (try (have c19b1 : decide (t218 = (decide ((x212008_1.length : Int) ≤ 8))) = true := by simpa using c19))
          (try (have c19b2 : (t218 == (decide ((x212008_1.length : Int) ≤ 8))) = true := by simpa using c19))
          clear c19
          by_cases c23 : (x212008_1.length : Int) < 2
          · rw [if_pos c23] at H
            have c23b0 : decide ((x212008_1.length : Int) < 2) = true := decide_eq_true c23
            have c23b1 : decide (x212008_1.length < 2) = true := decide_eq_true (by omega)
            clear c23
            replace H := Option.bind_eq_some_iff.mp H
            obtain ⟨t219, A240, H⟩ := H
            replace H : (some t219) = some r := H
            have A24 := Aside0.mk A240
            clear A240
            obtain rfl := Option.some.inj H
            have hcz25_0 : wr.cell? ⟨gb211, 0, none⟩ = some (.int .u64 t199) := (blk_cell BK211.out 0).trans rfl
            have hcz25_1 : wr.cell? ⟨gb211, 1, none⟩ = some (.int .u64 t200) := (blk_cell BK211.out 1).trans rfl
            have hcz25_2 : wr.cell? ⟨gb211, 2, none⟩ = some (.int .u64 t201) := (blk_cell BK211.out 2).trans rfl
            have hcz25_3 : wr.cell? ⟨gb211, 3, none⟩ = some (.int .u64 t202) := (blk_cell BK211.out 3).trans rfl
            have hcz25_4 : wr.cell? ⟨gb211, 4, none⟩ = some (.string t203) := (blk_cell BK211.out 4).trans rfl
            have hcz25_5 : wr.cell? ⟨gb211, 5, none⟩ = some (.int .i64 t204) := (blk_cell BK211.out 5).trans rfl
            have hcz25_6 : wr.cell? ⟨gb211, 6, none⟩ = some (.int .i64 t205) := (blk_cell BK211.out 6).trans rfl
            have hcz25_7 : wr.cell? ⟨gb211, 7, none⟩ = some (.bool t206) := (blk_cell BK211.out 7).trans rfl
            have hcz25_8 : wr.cell? ⟨gb211, 8, none⟩ = some (u212008) := (blk_cell BK211.out 8).trans rfl
            have hcz25_9 : wr.cell? ⟨gb211, 9, none⟩ = some (.int .u64 t210) := (blk_cell BK211.out 9).trans rfl
            have hfz25_0 := blk_frozen BK211.out 0
            have hfz25_1 := blk_frozen BK211.out 1
            have hfz25_2 := blk_frozen BK211.out 2
            have hfz25_3 := blk_frozen BK211.out 3
            have hfz25_4 := blk_frozen BK211.out 4
            have hfz25_5 := blk_frozen BK211.out 5
            have hfz25_6 := blk_frozen BK211.out 6
            have hfz25_7 := blk_frozen BK211.out 7
            have hfz25_8 := blk_frozen BK211.out 8
            have hfz25_9 := blk_frozen BK211.out 9
            obtain ⟨Ao26, co26, eo26⟩ := Kd.R_slice HO_212008.out
            subst eo26
            go_wp2_with (first | ((with_reducible refine gate_callee (f := 13) rfl ?_); refine goesL_ (some 36) rfl rfl Try.func13 (by kernel_rfl) rfl #[.agg #[.int .u64 t199, .int .u64 t200, .int .u64 t201, .int .u64 t202, .string t203, .int .i64 t204, .int .i64 t205, .bool t206, .slice Ao26 x212008_1.length co26, .int .u64 t210]] rfl (by (try simp only [List.map_toArray, List.map_cons, List.map_nil]); first | done | rfl | (simp only [List.length_drop, List.length_take]; rfl)) ?_; (with_reducible refine (item_RightSpan.calls t199 t200 t201 t202 t203 t204 t205 t206 _ _ x212008_1 t210 t218 _ ?side1 ?side2 A18.out).mono ?_); (case side1 => repeat (first | exact (Kd.R_reads' HO_212008.out).2.2 | (with_reducible refine Kd.C_alloc ?_ _) | (with_reducible refine Kd.C_drewN ?_ _) | (with_reducible refine Kd.C_drew ?_))); (case side2 => exact (Kd.R_reads' HO_212008.out).2.1); rintro e w27 ⟨rfl, hb⟩; refine ⟨_, rfl, ?_⟩; have n0_ := Aside0.mk (Kd.R_below (by (with_reducible repeat (first | apply Kd.R_alloc | apply Kd.R_drewN | apply Kd.R_drew)); exact HO_212008.out) hb); have n1_ := Aside0.mk (blk_below (g := gb211) (o := .cells #[.int .u64 t199, .int .u64 t200, .int .u64 t201, .int .u64 t202, .string t203, .int .i64 t204, .int .i64 t205, .bool t206, .slice Ao26 x212008_1.length co26, .int .u64 t210] 26 (0, 0)) (by (with_reducible repeat (first | refine blk_drewN ?_ _ | refine blk_drew ?_ | refine blk_alloc ?_ _)); exact BK211.out) hb); have n2_ := Aside0.mk (below_step (by repeat (first | (with_reducible first | exact HB.out | apply below_alloc | apply pw_below_drewN | apply below_drew1 | refine below_set ?_ GE211.out) | exact HB.out)) hb); clear HO_212008; clear BK211; clear HB; have HO_212008 := n0_; have BK211 := n1_; have HB := n2_; clear n0_ n1_ n2_; (try clear hb); (try clear hb2); (try clear hk); (try clear hi)) | ((with_reducible refine gate_callee (f := 12) rfl ?_); refine goesL_ (some 42) rfl rfl Try.func12 (by kernel_rfl) rfl #[] rfl (by (try simp only [List.map_toArray, List.map_cons, List.map_nil]); first | done | rfl | (simp only [List.length_drop, List.length_take]; rfl)) ?_; (with_reducible refine (telemeterlaw03_known.calls  t219 _ A24.out).mono ?_); rintro e w28 ⟨rfl, hb⟩; refine ⟨_, rfl, ?_⟩; have n0_ := Aside0.mk (Kd.R_below (by (with_reducible repeat (first | apply Kd.R_alloc | apply Kd.R_drewN | apply Kd.R_drew)); exact HO_212008.out) hb); have n1_ := Aside0.mk (blk_below (g := gb211) (o := .cells #[.int .u64 t199, .int .u64 t200, .int .u64 t201, .int .u64 t202, .string t203, .int .i64 t204, .int .i64 t205, .bool t206, .slice Ao26 x212008_1.length co26, .int .u64 t210] 26 (0, 0)) (by (with_reducible repeat (first | refine blk_drewN ?_ _ | refine blk_drew ?_ | refine blk_alloc ?_ _)); exact BK211.out) hb); have n2_ := Aside0.mk (below_step (by repeat (first | (with_reducible first | exact HB.out | apply below_alloc | apply pw_below_drewN | apply below_drew1 | refine below_set ?_ GE211.out) | exact HB.out)) hb); clear HO_212008; clear BK211; clear HB; have HO_212008 := n0_; have BK211 := n1_; have HB := n2_; clear n0_ n1_ n2_; (try clear hb); (try clear hb2); (try clear hk); (try clear hi)))
            go_ret
            exact ⟨by first | rfl | (simp [errW_none, errW_some] <;> rfl) | (simp [*, errW_none, errW_some] <;> rfl), by repeat (first | (with_reducible first | exact HB.out | apply below_alloc | apply pw_below_drewN | apply below_drew1 | refine below_set ?_ GE211.out) | exact HB.out)⟩
          · rw [if_neg c23] at H
            have c23b0 : decide ((x212008_1.length : Int) < 2) = false := decide_eq_false c23
            have c23b1 : decide (x212008_1.length < 2) = false := decide_eq_false (by omega)
            clear c23
            by_cases c29 : (wrap64 ((x212008_1.length : Int) - 1)) = 0
            · rw [if_pos c29] at H
              exact absurd H (by simp)
            · rw [if_neg c29] at H
              have c29b0 : ((wrap64 ((x212008_1.length : Int) - 1)) == 0) = false := beq_eq_false_iff_ne.mpr c29
              have c29b1 : ((wrap64 ((x212008_1.length : Int) - 1)) != 0) = true := bne_iff_ne.mpr c29
              obtain ⟨ji30, hji30⟩ : ∃ j_ : Int, (wrap64 ((wrap64 (1 + (Int.tmod (wrap64 (a2)) (wrap64 ((x212008_1.length : Int) - 1))))) - 1)) = j_ := ⟨_, rfl⟩
              replace H : (if 0 ≤ (ji30) then (if (ji30) < (x212008_1.length : Int) then (if 0 ≤ (wrap64 (1 + (Int.tmod (wrap64 (a2)) (wrap64 ((x212008_1.length : Int) - 1))))) then (if (wrap64 (1 + (Int.tmod (wrap64 (a2)) (wrap64 ((x212008_1.length : Int) - 1))))) < (x212008_1.length : Int) then ((telemeterlaw03_known.f).bind fun t222 => (if t222 = true then ((item_RightSpan.f t199 t200 t201 t202 t203 t204 t205 t206 (x212008_1.set ((wrap64 (1 + (Int.tmod (wrap64 (a2)) (wrap64 ((x212008_1.length : Int) - 1))))) : Int).toNat (⟨(rd_T36 x212008_1 (ji30)).f0, (rd_T36 x212008_1 (wrap64 (1 + (Int.tmod (wrap64 (a2)) (wrap64 ((x212008_1.length : Int) - 1)))))).f1⟩ : S36)) t210).bind fun t223 => (some (!t223))) else (some false))) else (none)) else (none)) else (none)) else (none)) = some r := by first | (rw [hji30] at H; exact H) | (simp only [hji30] at H ⊢; exact H)
              (try rw [hji30] at A18)
              have hji30w : (IntKind.i64.wrap ((wrap64 (1 + (Int.tmod (wrap64 (a2)) (wrap64 ((x212008_1.length : Int) - 1))))) - 1)) = ji30 := (i64_w _).trans hji30
              by_cases c31 : 0 ≤ (ji30)
              · rw [if_pos c31] at H
                have c31b0 : decide (0 ≤ (ji30)) = true := decide_eq_true c31
                clear c31
                by_cases c32 : (ji30) < (x212008_1.length : Int)
                · rw [if_pos c32] at H
                  have c32b0 : decide ((ji30) < (x212008_1.length : Int)) = true := decide_eq_true c32
                  clear c32
                  obtain ⟨ji33, hji33⟩ : ∃ j_ : Int, (wrap64 (1 + (Int.tmod (wrap64 (a2)) (wrap64 ((x212008_1.length : Int) - 1))))) = j_ := ⟨_, rfl⟩
                  replace H : (if 0 ≤ (ji33) then (if (ji33) < (x212008_1.length : Int) then ((telemeterlaw03_known.f).bind fun t222 => (if t222 = true then ((item_RightSpan.f t199 t200 t201 t202 t203 t204 t205 t206 (x212008_1.set ((ji33) : Int).toNat (⟨(rd_T36 x212008_1 (ji30)).f0, (rd_T36 x212008_1 (ji33)).f1⟩ : S36)) t210).bind fun t223 => (some (!t223))) else (some false))) else (none)) else (none)) = some r := by first | (rw [hji33] at H; exact H) | (simp only [hji33] at H ⊢; exact H)
                  (try rw [hji33] at A18)
                  have hji33w : (IntKind.i64.wrap (1 + (Int.tmod (wrap64 (a2)) (wrap64 ((x212008_1.length : Int) - 1))))) = ji33 := (i64_w _).trans hji33
                  by_cases c34 : 0 ≤ (ji33)
                  · rw [if_pos c34] at H
                    have c34b0 : decide (0 ≤ (ji33)) = true := decide_eq_true c34
                    clear c34
                    by_cases c35 : (ji33) < (x212008_1.length : Int)
                    · rw [if_pos c35] at H
                      have c35b0 : decide ((ji33) < (x212008_1.length : Int)) = true := decide_eq_true c35
                      clear c35
                      obtain ⟨y221, hy221⟩ : ∃ y_ : List (S36), y_ = (x212008_1.set ((ji33) : Int).toNat (⟨(rd_T36 x212008_1 (ji30)).f0, (rd_T36 x212008_1 (ji33)).f1⟩ : S36)) := ⟨_, rfl⟩
                      replace H : ((telemeterlaw03_known.f).bind fun t222 => (if t222 = true then ((item_RightSpan.f t199 t200 t201 t202 t203 t204 t205 t206 y221 t210).bind fun t223 => (some (!t223))) else (some false))) = some r := by first | (rw [hy221]; with_reducible exact H) | (have H2_ := (Option.bind_some _ _).symm.trans H; rw [hy221]; with_reducible exact H2_) | (have H2_ := (Option.bind_some _ _).symm.trans H; with_reducible exact H2_) | with_reducible exact H | (rw [hy221]; exact H) | exact H
                      have Ny221 := Aside0.mk hy221
                      clear hy221
                      replace H := Option.bind_eq_some_iff.mp H
                      obtain ⟨t222, A370, H⟩ := H
                      replace H : (if t222 = true then ((item_RightSpan.f t199 t200 t201 t202 t203 t204 t205 t206 y221 t210).bind fun t223 => (some (!t223))) else (some false)) = some r := H
                      have A37 := Aside0.mk A370
                      clear A370
                      by_cases c38 : t222 = true
                      · subst c38
                        have H1 : ((item_RightSpan.f t199 t200 t201 t202 t203 t204 t205 t206 y221 t210).bind fun t223 => (some (!t223))) = some r := by rw [if_pos rfl] at H; exact H
                        clear H
                        have H := H1
                        clear H1
                        replace H := Option.bind_eq_some_iff.mp H
                        obtain ⟨t223, A390, H⟩ := H
                        replace H : (some (!t223)) = some r := H
                        have A39 := Aside0.mk A390
                        clear A390
                        obtain rfl := Option.some.inj H
                        have hcz40_0 : wr.cell? ⟨gb211, 0, none⟩ = some (.int .u64 t199) := (blk_cell BK211.out 0).trans rfl
                        have hcz40_1 : wr.cell? ⟨gb211, 1, none⟩ = some (.int .u64 t200) := (blk_cell BK211.out 1).trans rfl
                        have hcz40_2 : wr.cell? ⟨gb211, 2, none⟩ = some (.int .u64 t201) := (blk_cell BK211.out 2).trans rfl
                        have hcz40_3 : wr.cell? ⟨gb211, 3, none⟩ = some (.int .u64 t202) := (blk_cell BK211.out 3).trans rfl
                        have hcz40_4 : wr.cell? ⟨gb211, 4, none⟩ = some (.string t203) := (blk_cell BK211.out 4).trans rfl
                        have hcz40_5 : wr.cell? ⟨gb211, 5, none⟩ = some (.int .i64 t204) := (blk_cell BK211.out 5).trans rfl
                        have hcz40_6 : wr.cell? ⟨gb211, 6, none⟩ = some (.int .i64 t205) := (blk_cell BK211.out 6).trans rfl
                        have hcz40_7 : wr.cell? ⟨gb211, 7, none⟩ = some (.bool t206) := (blk_cell BK211.out 7).trans rfl
                        have hcz40_8 : wr.cell? ⟨gb211, 8, none⟩ = some (u212008) := (blk_cell BK211.out 8).trans rfl
                        have hcz40_9 : wr.cell? ⟨gb211, 9, none⟩ = some (.int .u64 t210) := (blk_cell BK211.out 9).trans rfl
                        have hfz40_0 := blk_frozen BK211.out 0
                        have hfz40_1 := blk_frozen BK211.out 1
                        have hfz40_2 := blk_frozen BK211.out 2
                        have hfz40_3 := blk_frozen BK211.out 3
                        have hfz40_4 := blk_frozen BK211.out 4
                        have hfz40_5 := blk_frozen BK211.out 5
                        have hfz40_6 := blk_frozen BK211.out 6
                        have hfz40_7 := blk_frozen BK211.out 7
                        have hfz40_8 := blk_frozen BK211.out 8
                        have hfz40_9 := blk_frozen BK211.out 9
                        obtain ⟨Ao41, co41, eo41⟩ := Kd.R_slice HO_212008.out
                        subst eo41
                        try go_wp2_with (first | ((with_reducible refine gate_callee (f := 13) rfl ?_); refine goesL_ (some 36) rfl rfl Try.func13 (by kernel_rfl) rfl #[.agg #[.int .u64 t199, .int .u64 t200, .int .u64 t201, .int .u64 t202, .string t203, .int .i64 t204, .int .i64 t205, .bool t206, .slice Ao41 x212008_1.length co41, .int .u64 t210]] rfl (by (try simp only [List.map_toArray, List.map_cons, List.map_nil]); first | done | rfl | (simp only [List.length_drop, List.length_take]; rfl)) ?_; (with_reducible refine (item_RightSpan.calls t199 t200 t201 t202 t203 t204 t205 t206 _ _ x212008_1 t210 t218 _ ?side1 ?side2 A18.out).mono ?_); (case side1 => repeat (first | exact (Kd.R_reads' HO_212008.out).2.2 | (with_reducible refine Kd.C_alloc ?_ _) | (with_reducible refine Kd.C_drewN ?_ _) | (with_reducible refine Kd.C_drew ?_))); (case side2 => exact (Kd.R_reads' HO_212008.out).2.1); rintro e w42 ⟨rfl, hb⟩; refine ⟨_, rfl, ?_⟩; have n0_ := Aside0.mk (Kd.R_below (by (with_reducible repeat (first | apply Kd.R_alloc | apply Kd.R_drewN | apply Kd.R_drew)); exact HO_212008.out) hb); have n1_ := Aside0.mk (blk_below (g := gb211) (o := .cells #[.int .u64 t199, .int .u64 t200, .int .u64 t201, .int .u64 t202, .string t203, .int .i64 t204, .int .i64 t205, .bool t206, .slice Ao41 x212008_1.length co41, .int .u64 t210] 26 (0, 0)) (by (with_reducible repeat (first | refine blk_drewN ?_ _ | refine blk_drew ?_ | refine blk_alloc ?_ _)); exact BK211.out) hb); have n2_ := Aside0.mk (below_step (by repeat (first | (with_reducible first | exact HB.out | apply below_alloc | apply pw_below_drewN | apply below_drew1 | refine below_set ?_ GE211.out) | exact HB.out)) hb); clear HO_212008; clear BK211; clear HB; have HO_212008 := n0_; have BK211 := n1_; have HB := n2_; clear n0_ n1_ n2_; (try clear hb); (try clear hb2); (try clear hk); (try clear hi)))
                        have n0_ := Aside0.mk (Kd.R_drew HO_212008.out)
                        have n1_ := Aside0.mk (blk_drew BK211.out)
                        have n2_ := Aside0.mk (below_drew1 HB.out)
                        clear HO_212008
                        clear BK211
                        clear HB
                        have HO_212008 := n0_
                        have BK211 := n1_
                        have HB := n2_
                        clear n0_ n1_ n2_
                        have p220 : 0 ≤ ((ji30) : Int) := of_decide_eq_true (by first | (with_reducible assumption) | assumption)
                        have q220 : (ji30) < (x212008_1.length : Int) := of_decide_eq_true (by first | (with_reducible assumption) | assumption)
                        obtain ⟨ad220, e220, hx220_0, hx220_1⟩ := at_T36 (Kd.R_reads' HO_212008.out).2.2 (ji30) p220 q220
                        cases e220
                        replace p220 := eq_true p220
                        replace q220 := eq_true q220
                        have p36 : 0 ≤ ((ji33) : Int) := of_decide_eq_true (by first | (with_reducible assumption) | assumption)
                        have q36 : ((ji33) : Int) < ((x212008_1.length : Int) : Int) := of_decide_eq_true (by first | (with_reducible assumption) | assumption)
                        obtain ⟨go36, co36, eo36, gb36, gl36, cl36, HG36⟩ := Kd.R_form HO_212008.out (by omega)
                        (first | cases eo36 | (injection eo36 with ea_ en_ ec_; (first | subst ea_ | (injection ea_ with ea_; subst ea_)); subst ec_; clear en_))
                        have GB36 := Aside0.mk gb36
                        have GG36 := Aside0.mk HG36
                        clear gb36 gl36 HG36
                        (first | simp only [add_plain] at hx220_0 | skip)
                        (first | simp only [add_plain] at hx220_1 | skip)
                        obtain ⟨ce36, hcl36, hM36, hcc36, hfr36⟩ := Kd.R_elem HO_212008.out z36 ((ji33) : Int) p36 q36
                        obtain rfl := k36_openM hM36
                        have hx36_0 : World.cell? _ ⟨go36, ((ji33) : Int).toNat * 2, none⟩ = some (.string ((rd_T36 x212008_1 (ji33)).f0)) := hcc36 0 _ rfl
                        have hx36_1 : World.cell? _ ⟨go36, ((ji33) : Int).toNat * 2 + 1, none⟩ = some (.string ((rd_T36 x212008_1 (ji33)).f1)) := hcc36 1 _ rfl
                        have hf36_0 : World.frozen? _ ⟨go36, ((ji33) : Int).toNat * 2, none⟩ = false := hfr36 0
                        have hf36_1 : World.frozen? _ ⟨go36, ((ji33) : Int).toNat * 2 + 1, none⟩ = false := hfr36 1
                        clear hcl36 hcc36 hfr36 hM36
                        replace p36 := eq_true p36
                        replace q36 := eq_true q36
                        obtain ⟨ce44, hcl44, hM44, hcc44, hfr44⟩ := Kd.R_elem HO_212008.out z36 ((ji33) : Int) (of_decide_eq_true (by first | (with_reducible assumption) | assumption)) (by have h_ : ((ji33) : Int) < ((x212008_1.length : Int) : Int) := of_decide_eq_true (by first | (with_reducible assumption) | assumption); first | exact h_ | (have e_ := (Kd.R_reads' HO_212008.out).1; omega) | simpa using h_)
                        obtain rfl := k36_openM hM44
                        have HP44 := (Kd.R_seg HO_212008.out ((ji33) : Int) (of_decide_eq_true (by first | (with_reducible assumption) | assumption)) (by have h_ : ((ji33) : Int) < ((x212008_1.length : Int) : Int) := of_decide_eq_true (by first | (with_reducible assumption) | assumption); first | exact h_ | (have e_ := (Kd.R_reads' HO_212008.out).1; omega) | simpa using h_) (seg := [.string ((rd_T36 x212008_1 (ji30)).f0)]) (j := 0) hcl44 hcc44 (show 1 ≤ 2 from by decide) (x' := (⟨(rd_T36 x212008_1 (ji30)).f0, (rd_T36 x212008_1 (ji33)).f1⟩ : S36)) (k36_mkM _ _ _ (⟨(rd_T36 x212008_1 (ji30)).f0, (rd_T36 x212008_1 (ji33)).f1⟩ : S36) ) (fun _ hk => hk)).1
                        rw [← Ny221.out] at HP44
                        have HQ44 := Aside0.mk HP44
                        clear hcl44 hcc44 hfr44 hM44 HP44
                        refine start_ (n := 13) (S := fun w' => w'.cell? ⟨gb211, 0, none⟩ = some (.int .u64 t199) ∧ w'.cell? ⟨gb211, 1, none⟩ = some (.int .u64 t200) ∧ w'.cell? ⟨gb211, 2, none⟩ = some (.int .u64 t201) ∧ w'.cell? ⟨gb211, 3, none⟩ = some (.int .u64 t202) ∧ w'.cell? ⟨gb211, 4, none⟩ = some (.string t203) ∧ w'.cell? ⟨gb211, 5, none⟩ = some (.int .i64 t204) ∧ w'.cell? ⟨gb211, 6, none⟩ = some (.int .i64 t205) ∧ w'.cell? ⟨gb211, 7, none⟩ = some (.bool t206) ∧ w'.cell? ⟨gb211, 8, none⟩ = some (.slice (some ⟨go36, 0, none⟩) x212008_1.length co41) ∧ w'.cell? ⟨gb211, 9, none⟩ = some (.int .u64 t210) ∧ w'.cell? ⟨go36, ((ji30)).toNat * 2, none⟩ = some (.string ((rd_T36 x212008_1 (ji30)).f0)) ∧ w'.cell? ⟨go36, ((ji30)).toNat * 2 + 1, none⟩ = some (.string ((rd_T36 x212008_1 (ji30)).f1))) (ds := [12]) #[false, false, false, false, false, false, false, false, false, false, false, false, false] (by kernel_rfl) rfl rfl ⟨(blk_cell BK211.out 0).trans rfl, (blk_cell BK211.out 1).trans rfl, (blk_cell BK211.out 2).trans rfl, (blk_cell BK211.out 3).trans rfl, (blk_cell BK211.out 4).trans rfl, (blk_cell BK211.out 5).trans rfl, (blk_cell BK211.out 6).trans rfl, (blk_cell BK211.out 7).trans rfl, (blk_cell BK211.out 8).trans rfl, (blk_cell BK211.out 9).trans rfl, hx220_0, hx220_1⟩ (fun hHeld => ?_); refine with_tabW telemeterlaw03_ItemAttrs.tab13 telemeterlaw03_ItemAttrs.bits13 (fun HT_ HW_ => ?_)
                        generalize w42.drew = w43 at HO_212008 BK211 HB GG36 HQ44 hf36_0 hf36_1 hx220_0 hx220_1 hx36_0 hx36_1 hHeld ⊢
                        refine pure_ (i := 0) (N := some 49) (v := ?_) (a' := ?_) #[true, false, false, false, false, false, false, false, false, false, false, false, false] rfl rfl (any_of HT_.out (by kernel_rfl)) (fun _ _ _ h => h) (Or.inl ⟨by rfl, ?_⟩) ?_ ?_
                        rotate_left
                        · intro w'
                          go_simp
                          with_reducible rfl
                        rotate_left
                        · simp only [Act.put, List.setIfInBounds_toArray, List.set_cons_zero, List.set_cons_succ, i64_w, i32_w]
                          rfl
                        refine pure_ (i := 2) (N := some 51) (v := ?_) (a' := ?_) #[true, false, true, false, false, false, false, false, false, false, false, false, false] rfl rfl (any_of HT_.out (by kernel_rfl)) (fun _ _ _ h => h) (Or.inl ⟨by rfl, ?_⟩) ?_ ?_
                        rotate_left
                        · intro w'
                          go_simp
                          with_reducible rfl
                        rotate_left
                        · simp only [Act.put, List.setIfInBounds_toArray, List.set_cons_zero, List.set_cons_succ, i64_w, i32_w]
                          rfl
                        refine pure_ (i := 3) (N := some 52) (v := ?_) (a' := ?_) #[true, false, true, true, false, false, false, false, false, false, false, false, false] rfl rfl (any_of HT_.out (by kernel_rfl)) (fun _ _ _ h => h) (Or.inl ⟨by rfl, ?_⟩) ?_ ?_
                        rotate_left
                        · intro w'
                          go_simp
                          with_reducible rfl
                        rotate_left
                        · simp only [Act.put, List.setIfInBounds_toArray, List.set_cons_zero, List.set_cons_succ, i64_w, i32_w]
                          rfl
                        refine pure_ (i := 5) (N := some 54) (v := ?_) (a' := ?_) #[true, false, true, true, false, true, false, false, false, false, false, false, false] rfl rfl (any_of HT_.out (by kernel_rfl)) (fun _ _ _ h => h) (Or.inl ⟨by rfl, ?_⟩) ?_ ?_
                        rotate_left
                        · intro w'
                          go_simp
                          with_reducible rfl
                        rotate_left
                        · simp only [Act.put, List.setIfInBounds_toArray, List.set_cons_zero, List.set_cons_succ, i64_w, i32_w]
                          rfl
                        refine pure_ (i := 6) (N := some 55) (v := ?_) (a' := ?_) #[true, false, true, true, false, true, true, false, false, false, false, false, false] rfl rfl (any_of HT_.out (by kernel_rfl)) (fun _ _ _ h => h) (Or.inl ⟨by rfl, ?_⟩) ?_ ?_
                        rotate_left
                        · intro w'
                          go_simp
                          with_reducible rfl
                        rotate_left
                        · simp only [Act.put, List.setIfInBounds_toArray, List.set_cons_zero, List.set_cons_succ, i64_w, i32_w]
                          rfl
                        refine take_ (i := 1) (N := some 50) (v := ?_) (a' := ?_) #[true, true, true, true, false, true, true, false, false, false, false, false, false] rfl rfl (take_ofW HT_.out HW_.out (by kernel_rfl)) (fun _ _ _ h => h) (Or.inl ⟨by rfl, ?_⟩) hHeld ?_ ?_
                        rotate_left
                        · rintro w' ⟨s0, s1, s2, s3, s4, s5, s6, s7, s8, s9, s10, s11⟩
                          go_simp
                          with_reducible rfl
                        rotate_left
                        · simp only [Act.put, List.setIfInBounds_toArray, List.set_cons_zero, List.set_cons_succ, i64_w, i32_w]
                          rfl
                        refine take_ (i := 4) (N := some 53) (v := ?_) (a' := ?_) #[true, true, true, true, true, true, true, false, false, false, false, false, false] rfl rfl (take_ofW HT_.out HW_.out (by kernel_rfl)) (fun _ _ _ h => h) (Or.inl ⟨by rfl, ?_⟩) hHeld ?_ ?_
                        rotate_left
                        · rintro w' ⟨s0, s1, s2, s3, s4, s5, s6, s7, s8, s9, s10, s11⟩
                          go_simp
                          with_reducible rfl
                        rotate_left
                        · simp only [Act.put, List.setIfInBounds_toArray, List.set_cons_zero, List.set_cons_succ, i64_w, i32_w]
                          rfl
                        refine pure_ (i := 7) (N := some 56) (v := ?_) (a' := ?_) #[true, true, true, true, true, true, true, true, false, false, false, false, false] rfl rfl (any_of HT_.out (by kernel_rfl)) (fun _ _ _ h => h) (Or.inl ⟨by rfl, ?_⟩) ?_ ?_
                        rotate_left
                        · intro w'
                          go_simp
                          rw [show wrap64 (ji33 - 1) = ji30 from by rw [← hji33]; exact hji30, if_pos ⟨of_eq_true p220, of_eq_true q220⟩]
                        rotate_left
                        · simp only [Act.put, List.setIfInBounds_toArray, List.set_cons_zero, List.set_cons_succ, i64_w, i32_w]
                          rfl
                        refine pure_ (i := 8) (N := some 57) (v := ?_) (a' := ?_) #[true, true, true, true, true, true, true, true, true, false, false, false, false] rfl rfl (any_of HT_.out (by kernel_rfl)) (fun _ _ _ h => h) (Or.inl ⟨by rfl, ?_⟩) ?_ ?_
                        rotate_left
                        · intro w'
                          go_simp
                          with_reducible rfl
                        rotate_left
                        · simp only [Act.put, List.setIfInBounds_toArray, List.set_cons_zero, List.set_cons_succ, i64_w, i32_w]
                          rfl
                        refine take_ (i := 9) (N := some 58) (v := ?_) (a' := ?_) #[true, true, true, true, true, true, true, true, true, true, false, false, false] rfl rfl (take_ofW HT_.out HW_.out (by kernel_rfl)) (fun _ _ _ h => h) (Or.inl ⟨by rfl, ?_⟩) hHeld ?_ ?_
                        rotate_left
                        · rintro w' ⟨s0, s1, s2, s3, s4, s5, s6, s7, s8, s9, s10, s11⟩
                          go_simp
                          with_reducible rfl
                        rotate_left
                        · simp only [Act.put, List.setIfInBounds_toArray, List.set_cons_zero, List.set_cons_succ, i64_w, i32_w]
                          rfl
                        refine pure_ (i := 10) (N := some 59) (v := ?_) (a' := ?_) #[true, true, true, true, true, true, true, true, true, true, true, false, false] rfl rfl (any_of HT_.out (by kernel_rfl)) (fun _ _ _ h => h) (Or.inl ⟨by rfl, ?_⟩) ?_ ?_
                        rotate_left
                        · intro w'
                          go_simp
                          with_reducible rfl
                        rotate_left
                        · simp only [Act.put, List.setIfInBounds_toArray, List.set_cons_zero, List.set_cons_succ, i64_w, i32_w]
                          rfl
                        refine pure_ (i := 11) (N := some 60) (v := ?_) (a' := ?_) #[true, true, true, true, true, true, true, true, true, true, true, true, false] rfl rfl (any_of HT_.out (by kernel_rfl)) (fun _ _ _ h => h) (Or.inl ⟨by rfl, ?_⟩) ?_ ?_
                        rotate_left
                        · intro w'
                          go_simp
                          with_reducible rfl
                        rotate_left
                        · simp only [Act.put, List.setIfInBounds_toArray, List.set_cons_zero, List.set_cons_succ, i64_w, i32_w]
                          rfl
                        refine last_ (i := 12) (N := none) #[true, true, true, true, true, true, true, true, true, true, true, true, true] rfl rfl (one_of HT_.out (by kernel_rfl)) (by decide) (fun K hK => ?_)
                        refine skip_ (w1 := ?_) (by rfl) rfl ?_ ?_
                        rotate_left
                        · go_simp
                          rfl
                        refine hK.out _ _ ?_
                        clear hK K
                        refine done_ (done_of HT_.out (by kernel_rfl)) ?_
                        try go_wp2_with (first | ((with_reducible refine gate_callee (f := 12) rfl ?_); refine goesL_ (some 61) rfl rfl Try.func12 (by kernel_rfl) rfl #[] rfl (by (try simp only [List.map_toArray, List.map_cons, List.map_nil]); first | done | rfl | (simp only [List.length_drop, List.length_take]; rfl)) ?_; (with_reducible refine (telemeterlaw03_known.calls  true _ A37.out).mono ?_); rintro e w45 ⟨rfl, hb⟩; refine ⟨_, rfl, ?_⟩; have n0_ := Aside0.mk (Kd.R_below (by (with_reducible repeat (first | apply Kd.R_alloc | apply Kd.R_drewN | apply Kd.R_drew)); exact HQ44.out) hb); have n1_ := Aside0.mk (blk_below (g := gb211) (o := .cells #[.int .u64 t199, .int .u64 t200, .int .u64 t201, .int .u64 t202, .string t203, .int .i64 t204, .int .i64 t205, .bool t206, .slice (some ⟨go36, 0, none⟩) x212008_1.length co41, .int .u64 t210] 26 (0, 0)) (by (with_reducible repeat (first | refine blk_drewN ?_ _ | refine blk_drew ?_ | refine blk_alloc ?_ _)); refine blk_far ?_ (by have h_ := Kd.R_ne HO_212008.out BK211.out (by decide); intro e_; exact h_ (by rw [e_]; rfl)) _; (with_reducible repeat (first | refine blk_drewN ?_ _ | refine blk_drew ?_ | refine blk_alloc ?_ _)); exact BK211.out) hb); have n2_ := Aside0.mk (below_step (by repeat (first | (with_reducible first | exact HB.out | apply below_alloc | apply pw_below_drewN | apply below_drew1 | refine below_set ?_ GB36.out | refine below_set ?_ GE211.out) | exact HB.out)) hb); clear HO_212008; clear BK211; clear HB; have HO_212008 := n0_; have BK211 := n1_; have HB := n2_; clear n0_ n1_ n2_; (try clear hb); (try clear hb2); (try clear hk); (try clear hi); have hcz46_0 : w45.cell? ⟨gb211, 0, none⟩ = some (.int .u64 t199) := (blk_cell BK211.out 0).trans rfl; have hcz46_1 : w45.cell? ⟨gb211, 1, none⟩ = some (.int .u64 t200) := (blk_cell BK211.out 1).trans rfl; have hcz46_2 : w45.cell? ⟨gb211, 2, none⟩ = some (.int .u64 t201) := (blk_cell BK211.out 2).trans rfl; have hcz46_3 : w45.cell? ⟨gb211, 3, none⟩ = some (.int .u64 t202) := (blk_cell BK211.out 3).trans rfl; have hcz46_4 : w45.cell? ⟨gb211, 4, none⟩ = some (.string t203) := (blk_cell BK211.out 4).trans rfl; have hcz46_5 : w45.cell? ⟨gb211, 5, none⟩ = some (.int .i64 t204) := (blk_cell BK211.out 5).trans rfl; have hcz46_6 : w45.cell? ⟨gb211, 6, none⟩ = some (.int .i64 t205) := (blk_cell BK211.out 6).trans rfl; have hcz46_7 : w45.cell? ⟨gb211, 7, none⟩ = some (.bool t206) := (blk_cell BK211.out 7).trans rfl; have hcz46_8 : w45.cell? ⟨gb211, 8, none⟩ = some (.slice (some ⟨go36, 0, none⟩) x212008_1.length co41) := (blk_cell BK211.out 8).trans rfl; have hcz46_9 : w45.cell? ⟨gb211, 9, none⟩ = some (.int .u64 t210) := (blk_cell BK211.out 9).trans rfl; have hfz46_0 := blk_frozen BK211.out 0; have hfz46_1 := blk_frozen BK211.out 1; have hfz46_2 := blk_frozen BK211.out 2; have hfz46_3 := blk_frozen BK211.out 3; have hfz46_4 := blk_frozen BK211.out 4; have hfz46_5 := blk_frozen BK211.out 5; have hfz46_6 := blk_frozen BK211.out 6; have hfz46_7 := blk_frozen BK211.out 7; have hfz46_8 := blk_frozen BK211.out 8; have hfz46_9 := blk_frozen BK211.out 9) | (go_at_call 13; refine calls_of_args (args' := #[.agg #[.int .u64 t199, .int .u64 t200, .int .u64 t201, .int .u64 t202, .string t203, .int .i64 t204, .int .i64 t205, .bool t206, .slice (some ⟨go36, 0, none⟩) y221.length co41, .int .u64 t210]]) (by first | (rw [show y221.length = x212008_1.length from (Kd.R_reads' HO_212008.out).1.symm] <;> rfl) | rfl) ?_; (with_reducible refine (item_RightSpan.calls t199 t200 t201 t202 t203 t204 t205 t206 _ _ y221 t210 t223 _ ?side1 ?side2 A39.out).mono ?_); (case side1 => repeat (first | exact (Kd.R_reads' HO_212008.out).2.2 | (with_reducible refine Kd.C_alloc ?_ _) | (with_reducible refine Kd.C_drewN ?_ _) | (with_reducible refine Kd.C_drew ?_))); (case side2 => rw [show y221.length = x212008_1.length from (Kd.R_reads' HO_212008.out).1.symm]; exact (Kd.R_reads' HO_212008.out).2.1); rintro e w47 ⟨rfl, hb⟩; have n0_ := Aside0.mk (Kd.R_below (by (with_reducible repeat (first | apply Kd.R_alloc | apply Kd.R_drewN | apply Kd.R_drew)); exact HO_212008.out) hb); have n1_ := Aside0.mk (blk_below (g := gb211) (o := .cells #[.int .u64 t199, .int .u64 t200, .int .u64 t201, .int .u64 t202, .string t203, .int .i64 t204, .int .i64 t205, .bool t206, .slice (some ⟨go36, 0, none⟩) x212008_1.length co41, .int .u64 t210] 26 (0, 0)) (by (with_reducible repeat (first | refine blk_drewN ?_ _ | refine blk_drew ?_ | refine blk_alloc ?_ _)); exact BK211.out) hb); have n2_ := Aside0.mk (below_step (by repeat (first | (with_reducible first | exact HB.out | apply below_alloc | apply pw_below_drewN | apply below_drew1 | refine below_set ?_ GE211.out) | exact HB.out)) hb); clear HO_212008; clear BK211; clear HB; have HO_212008 := n0_; have BK211 := n1_; have HB := n2_; clear n0_ n1_ n2_; (try clear hb); (try clear hb2); (try clear hk); (try clear hi)))
                        go_ret
                        exact ⟨by first | rfl | (simp [errW_none, errW_some] <;> rfl) | (simp only [← hji30, ← hji33]; first | rfl | (simp [errW_none, errW_some] <;> rfl)) | (simp [*, errW_none, errW_some] <;> rfl), by repeat (first | (with_reducible first | exact HB.out | apply below_alloc | apply pw_below_drewN | apply below_drew1 | refine below_set ?_ GE211.out) | exact HB.out)⟩
                      · replace c38 := Bool.eq_false_iff.mpr c38
                        subst c38
                        have H1 : (some false) = some r := by rw [if_neg (show ¬ (false = true) by decide)] at H; exact H
                        clear H
                        have H := H1
                        clear H1
                        obtain rfl := Option.some.inj H
                        have hcz48_0 : wr.cell? ⟨gb211, 0, none⟩ = some (.int .u64 t199) := (blk_cell BK211.out 0).trans rfl
                        have hcz48_1 : wr.cell? ⟨gb211, 1, none⟩ = some (.int .u64 t200) := (blk_cell BK211.out 1).trans rfl
                        have hcz48_2 : wr.cell? ⟨gb211, 2, none⟩ = some (.int .u64 t201) := (blk_cell BK211.out 2).trans rfl
                        have hcz48_3 : wr.cell? ⟨gb211, 3, none⟩ = some (.int .u64 t202) := (blk_cell BK211.out 3).trans rfl
                        have hcz48_4 : wr.cell? ⟨gb211, 4, none⟩ = some (.string t203) := (blk_cell BK211.out 4).trans rfl
                        have hcz48_5 : wr.cell? ⟨gb211, 5, none⟩ = some (.int .i64 t204) := (blk_cell BK211.out 5).trans rfl
                        have hcz48_6 : wr.cell? ⟨gb211, 6, none⟩ = some (.int .i64 t205) := (blk_cell BK211.out 6).trans rfl
                        have hcz48_7 : wr.cell? ⟨gb211, 7, none⟩ = some (.bool t206) := (blk_cell BK211.out 7).trans rfl
                        have hcz48_8 : wr.cell? ⟨gb211, 8, none⟩ = some (u212008) := (blk_cell BK211.out 8).trans rfl
                        have hcz48_9 : wr.cell? ⟨gb211, 9, none⟩ = some (.int .u64 t210) := (blk_cell BK211.out 9).trans rfl
                        have hfz48_0 := blk_frozen BK211.out 0
                        have hfz48_1 := blk_frozen BK211.out 1
                        have hfz48_2 := blk_frozen BK211.out 2
                        have hfz48_3 := blk_frozen BK211.out 3
                        have hfz48_4 := blk_frozen BK211.out 4
                        have hfz48_5 := blk_frozen BK211.out 5
                        have hfz48_6 := blk_frozen BK211.out 6
                        have hfz48_7 := blk_frozen BK211.out 7
                        have hfz48_8 := blk_frozen BK211.out 8
                        have hfz48_9 := blk_frozen BK211.out 9
                        obtain ⟨Ao49, co49, eo49⟩ := Kd.R_slice HO_212008.out
                        subst eo49
                        try go_wp2_with (first | ((with_reducible refine gate_callee (f := 13) rfl ?_); refine goesL_ (some 36) rfl rfl Try.func13 (by kernel_rfl) rfl #[.agg #[.int .u64 t199, .int .u64 t200, .int .u64 t201, .int .u64 t202, .string t203, .int .i64 t204, .int .i64 t205, .bool t206, .slice Ao49 x212008_1.length co49, .int .u64 t210]] rfl (by (try simp only [List.map_toArray, List.map_cons, List.map_nil]); first | done | rfl | (simp only [List.length_drop, List.length_take]; rfl)) ?_; (with_reducible refine (item_RightSpan.calls t199 t200 t201 t202 t203 t204 t205 t206 _ _ x212008_1 t210 t218 _ ?side1 ?side2 A18.out).mono ?_); (case side1 => repeat (first | exact (Kd.R_reads' HO_212008.out).2.2 | (with_reducible refine Kd.C_alloc ?_ _) | (with_reducible refine Kd.C_drewN ?_ _) | (with_reducible refine Kd.C_drew ?_))); (case side2 => exact (Kd.R_reads' HO_212008.out).2.1); rintro e w50 ⟨rfl, hb⟩; refine ⟨_, rfl, ?_⟩; have n0_ := Aside0.mk (Kd.R_below (by (with_reducible repeat (first | apply Kd.R_alloc | apply Kd.R_drewN | apply Kd.R_drew)); exact HO_212008.out) hb); have n1_ := Aside0.mk (blk_below (g := gb211) (o := .cells #[.int .u64 t199, .int .u64 t200, .int .u64 t201, .int .u64 t202, .string t203, .int .i64 t204, .int .i64 t205, .bool t206, .slice Ao49 x212008_1.length co49, .int .u64 t210] 26 (0, 0)) (by (with_reducible repeat (first | refine blk_drewN ?_ _ | refine blk_drew ?_ | refine blk_alloc ?_ _)); exact BK211.out) hb); have n2_ := Aside0.mk (below_step (by repeat (first | (with_reducible first | exact HB.out | apply below_alloc | apply pw_below_drewN | apply below_drew1 | refine below_set ?_ GE211.out) | exact HB.out)) hb); clear HO_212008; clear BK211; clear HB; have HO_212008 := n0_; have BK211 := n1_; have HB := n2_; clear n0_ n1_ n2_; (try clear hb); (try clear hb2); (try clear hk); (try clear hi)))
                        have n0_ := Aside0.mk (Kd.R_drew HO_212008.out)
                        have n1_ := Aside0.mk (blk_drew BK211.out)
                        have n2_ := Aside0.mk (below_drew1 HB.out)
                        clear HO_212008
                        clear BK211
                        clear HB
                        have HO_212008 := n0_
                        have BK211 := n1_
                        have HB := n2_
                        clear n0_ n1_ n2_
                        have p220 : 0 ≤ ((ji30) : Int) := of_decide_eq_true (by first | (with_reducible assumption) | assumption)
                        have q220 : (ji30) < (x212008_1.length : Int) := of_decide_eq_true (by first | (with_reducible assumption) | assumption)
                        obtain ⟨ad220, e220, hx220_0, hx220_1⟩ := at_T36 (Kd.R_reads' HO_212008.out).2.2 (ji30) p220 q220
                        cases e220
                        replace p220 := eq_true p220
                        replace q220 := eq_true q220
                        have p36 : 0 ≤ ((ji33) : Int) := of_decide_eq_true (by first | (with_reducible assumption) | assumption)
                        have q36 : ((ji33) : Int) < ((x212008_1.length : Int) : Int) := of_decide_eq_true (by first | (with_reducible assumption) | assumption)
                        obtain ⟨go36, co36, eo36, gb36, gl36, cl36, HG36⟩ := Kd.R_form HO_212008.out (by omega)
                        (first | cases eo36 | (injection eo36 with ea_ en_ ec_; (first | subst ea_ | (injection ea_ with ea_; subst ea_)); subst ec_; clear en_))
                        have GB36 := Aside0.mk gb36
                        have GG36 := Aside0.mk HG36
                        clear gb36 gl36 HG36
                        (first | simp only [add_plain] at hx220_0 | skip)
                        (first | simp only [add_plain] at hx220_1 | skip)
                        obtain ⟨ce36, hcl36, hM36, hcc36, hfr36⟩ := Kd.R_elem HO_212008.out z36 ((ji33) : Int) p36 q36
                        obtain rfl := k36_openM hM36
                        have hx36_0 : World.cell? _ ⟨go36, ((ji33) : Int).toNat * 2, none⟩ = some (.string ((rd_T36 x212008_1 (ji33)).f0)) := hcc36 0 _ rfl
                        have hx36_1 : World.cell? _ ⟨go36, ((ji33) : Int).toNat * 2 + 1, none⟩ = some (.string ((rd_T36 x212008_1 (ji33)).f1)) := hcc36 1 _ rfl
                        have hf36_0 : World.frozen? _ ⟨go36, ((ji33) : Int).toNat * 2, none⟩ = false := hfr36 0
                        have hf36_1 : World.frozen? _ ⟨go36, ((ji33) : Int).toNat * 2 + 1, none⟩ = false := hfr36 1
                        clear hcl36 hcc36 hfr36 hM36
                        replace p36 := eq_true p36
                        replace q36 := eq_true q36
                        obtain ⟨ce52, hcl52, hM52, hcc52, hfr52⟩ := Kd.R_elem HO_212008.out z36 ((ji33) : Int) (of_decide_eq_true (by first | (with_reducible assumption) | assumption)) (by have h_ : ((ji33) : Int) < ((x212008_1.length : Int) : Int) := of_decide_eq_true (by first | (with_reducible assumption) | assumption); first | exact h_ | (have e_ := (Kd.R_reads' HO_212008.out).1; omega) | simpa using h_)
                        obtain rfl := k36_openM hM52
                        have HP52 := (Kd.R_seg HO_212008.out ((ji33) : Int) (of_decide_eq_true (by first | (with_reducible assumption) | assumption)) (by have h_ : ((ji33) : Int) < ((x212008_1.length : Int) : Int) := of_decide_eq_true (by first | (with_reducible assumption) | assumption); first | exact h_ | (have e_ := (Kd.R_reads' HO_212008.out).1; omega) | simpa using h_) (seg := [.string ((rd_T36 x212008_1 (ji30)).f0)]) (j := 0) hcl52 hcc52 (show 1 ≤ 2 from by decide) (x' := (⟨(rd_T36 x212008_1 (ji30)).f0, (rd_T36 x212008_1 (ji33)).f1⟩ : S36)) (k36_mkM _ _ _ (⟨(rd_T36 x212008_1 (ji30)).f0, (rd_T36 x212008_1 (ji33)).f1⟩ : S36) ) (fun _ hk => hk)).1
                        rw [← Ny221.out] at HP52
                        have HQ52 := Aside0.mk HP52
                        clear hcl52 hcc52 hfr52 hM52 HP52
                        refine start_ (n := 13) (S := fun w' => w'.cell? ⟨gb211, 0, none⟩ = some (.int .u64 t199) ∧ w'.cell? ⟨gb211, 1, none⟩ = some (.int .u64 t200) ∧ w'.cell? ⟨gb211, 2, none⟩ = some (.int .u64 t201) ∧ w'.cell? ⟨gb211, 3, none⟩ = some (.int .u64 t202) ∧ w'.cell? ⟨gb211, 4, none⟩ = some (.string t203) ∧ w'.cell? ⟨gb211, 5, none⟩ = some (.int .i64 t204) ∧ w'.cell? ⟨gb211, 6, none⟩ = some (.int .i64 t205) ∧ w'.cell? ⟨gb211, 7, none⟩ = some (.bool t206) ∧ w'.cell? ⟨gb211, 8, none⟩ = some (.slice (some ⟨go36, 0, none⟩) x212008_1.length co49) ∧ w'.cell? ⟨gb211, 9, none⟩ = some (.int .u64 t210) ∧ w'.cell? ⟨go36, ((ji30)).toNat * 2, none⟩ = some (.string ((rd_T36 x212008_1 (ji30)).f0)) ∧ w'.cell? ⟨go36, ((ji30)).toNat * 2 + 1, none⟩ = some (.string ((rd_T36 x212008_1 (ji30)).f1))) (ds := [12]) #[false, false, false, false, false, false, false, false, false, false, false, false, false] (by kernel_rfl) rfl rfl ⟨(blk_cell BK211.out 0).trans rfl, (blk_cell BK211.out 1).trans rfl, (blk_cell BK211.out 2).trans rfl, (blk_cell BK211.out 3).trans rfl, (blk_cell BK211.out 4).trans rfl, (blk_cell BK211.out 5).trans rfl, (blk_cell BK211.out 6).trans rfl, (blk_cell BK211.out 7).trans rfl, (blk_cell BK211.out 8).trans rfl, (blk_cell BK211.out 9).trans rfl, hx220_0, hx220_1⟩ (fun hHeld => ?_); refine with_tabW telemeterlaw03_ItemAttrs.tab13 telemeterlaw03_ItemAttrs.bits13 (fun HT_ HW_ => ?_)
                        generalize w50.drew = w51 at HO_212008 BK211 HB GG36 HQ52 hf36_0 hf36_1 hx220_0 hx220_1 hx36_0 hx36_1 hHeld ⊢
                        refine pure_ (i := 0) (N := some 49) (v := ?_) (a' := ?_) #[true, false, false, false, false, false, false, false, false, false, false, false, false] rfl rfl (any_of HT_.out (by kernel_rfl)) (fun _ _ _ h => h) (Or.inl ⟨by rfl, ?_⟩) ?_ ?_
                        rotate_left
                        · intro w'
                          go_simp
                          with_reducible rfl
                        rotate_left
                        · simp only [Act.put, List.setIfInBounds_toArray, List.set_cons_zero, List.set_cons_succ, i64_w, i32_w]
                          rfl
                        refine pure_ (i := 2) (N := some 51) (v := ?_) (a' := ?_) #[true, false, true, false, false, false, false, false, false, false, false, false, false] rfl rfl (any_of HT_.out (by kernel_rfl)) (fun _ _ _ h => h) (Or.inl ⟨by rfl, ?_⟩) ?_ ?_
                        rotate_left
                        · intro w'
                          go_simp
                          with_reducible rfl
                        rotate_left
                        · simp only [Act.put, List.setIfInBounds_toArray, List.set_cons_zero, List.set_cons_succ, i64_w, i32_w]
                          rfl
                        refine pure_ (i := 3) (N := some 52) (v := ?_) (a' := ?_) #[true, false, true, true, false, false, false, false, false, false, false, false, false] rfl rfl (any_of HT_.out (by kernel_rfl)) (fun _ _ _ h => h) (Or.inl ⟨by rfl, ?_⟩) ?_ ?_
                        rotate_left
                        · intro w'
                          go_simp
                          with_reducible rfl
                        rotate_left
                        · simp only [Act.put, List.setIfInBounds_toArray, List.set_cons_zero, List.set_cons_succ, i64_w, i32_w]
                          rfl
                        refine pure_ (i := 5) (N := some 54) (v := ?_) (a' := ?_) #[true, false, true, true, false, true, false, false, false, false, false, false, false] rfl rfl (any_of HT_.out (by kernel_rfl)) (fun _ _ _ h => h) (Or.inl ⟨by rfl, ?_⟩) ?_ ?_
                        rotate_left
                        · intro w'
                          go_simp
                          with_reducible rfl
                        rotate_left
                        · simp only [Act.put, List.setIfInBounds_toArray, List.set_cons_zero, List.set_cons_succ, i64_w, i32_w]
                          rfl
                        refine pure_ (i := 6) (N := some 55) (v := ?_) (a' := ?_) #[true, false, true, true, false, true, true, false, false, false, false, false, false] rfl rfl (any_of HT_.out (by kernel_rfl)) (fun _ _ _ h => h) (Or.inl ⟨by rfl, ?_⟩) ?_ ?_
                        rotate_left
                        · intro w'
                          go_simp
                          with_reducible rfl
                        rotate_left
                        · simp only [Act.put, List.setIfInBounds_toArray, List.set_cons_zero, List.set_cons_succ, i64_w, i32_w]
                          rfl
                        refine take_ (i := 1) (N := some 50) (v := ?_) (a' := ?_) #[true, true, true, true, false, true, true, false, false, false, false, false, false] rfl rfl (take_ofW HT_.out HW_.out (by kernel_rfl)) (fun _ _ _ h => h) (Or.inl ⟨by rfl, ?_⟩) hHeld ?_ ?_
                        rotate_left
                        · rintro w' ⟨s0, s1, s2, s3, s4, s5, s6, s7, s8, s9, s10, s11⟩
                          go_simp
                          with_reducible rfl
                        rotate_left
                        · simp only [Act.put, List.setIfInBounds_toArray, List.set_cons_zero, List.set_cons_succ, i64_w, i32_w]
                          rfl
                        refine take_ (i := 4) (N := some 53) (v := ?_) (a' := ?_) #[true, true, true, true, true, true, true, false, false, false, false, false, false] rfl rfl (take_ofW HT_.out HW_.out (by kernel_rfl)) (fun _ _ _ h => h) (Or.inl ⟨by rfl, ?_⟩) hHeld ?_ ?_
                        rotate_left
                        · rintro w' ⟨s0, s1, s2, s3, s4, s5, s6, s7, s8, s9, s10, s11⟩
                          go_simp
                          with_reducible rfl
                        rotate_left
                        · simp only [Act.put, List.setIfInBounds_toArray, List.set_cons_zero, List.set_cons_succ, i64_w, i32_w]
                          rfl
                        refine pure_ (i := 7) (N := some 56) (v := ?_) (a' := ?_) #[true, true, true, true, true, true, true, true, false, false, false, false, false] rfl rfl (any_of HT_.out (by kernel_rfl)) (fun _ _ _ h => h) (Or.inl ⟨by rfl, ?_⟩) ?_ ?_
                        rotate_left
                        · intro w'
                          go_simp
                          rw [show wrap64 (ji33 - 1) = ji30 from by rw [← hji33]; exact hji30, if_pos ⟨of_eq_true p220, of_eq_true q220⟩]
                        rotate_left
                        · simp only [Act.put, List.setIfInBounds_toArray, List.set_cons_zero, List.set_cons_succ, i64_w, i32_w]
                          rfl
                        refine pure_ (i := 8) (N := some 57) (v := ?_) (a' := ?_) #[true, true, true, true, true, true, true, true, true, false, false, false, false] rfl rfl (any_of HT_.out (by kernel_rfl)) (fun _ _ _ h => h) (Or.inl ⟨by rfl, ?_⟩) ?_ ?_
                        rotate_left
                        · intro w'
                          go_simp
                          with_reducible rfl
                        rotate_left
                        · simp only [Act.put, List.setIfInBounds_toArray, List.set_cons_zero, List.set_cons_succ, i64_w, i32_w]
                          rfl
                        refine take_ (i := 9) (N := some 58) (v := ?_) (a' := ?_) #[true, true, true, true, true, true, true, true, true, true, false, false, false] rfl rfl (take_ofW HT_.out HW_.out (by kernel_rfl)) (fun _ _ _ h => h) (Or.inl ⟨by rfl, ?_⟩) hHeld ?_ ?_
                        rotate_left
                        · rintro w' ⟨s0, s1, s2, s3, s4, s5, s6, s7, s8, s9, s10, s11⟩
                          go_simp
                          with_reducible rfl
                        rotate_left
                        · simp only [Act.put, List.setIfInBounds_toArray, List.set_cons_zero, List.set_cons_succ, i64_w, i32_w]
                          rfl
                        refine pure_ (i := 10) (N := some 59) (v := ?_) (a' := ?_) #[true, true, true, true, true, true, true, true, true, true, true, false, false] rfl rfl (any_of HT_.out (by kernel_rfl)) (fun _ _ _ h => h) (Or.inl ⟨by rfl, ?_⟩) ?_ ?_
                        rotate_left
                        · intro w'
                          go_simp
                          with_reducible rfl
                        rotate_left
                        · simp only [Act.put, List.setIfInBounds_toArray, List.set_cons_zero, List.set_cons_succ, i64_w, i32_w]
                          rfl
                        refine pure_ (i := 11) (N := some 60) (v := ?_) (a' := ?_) #[true, true, true, true, true, true, true, true, true, true, true, true, false] rfl rfl (any_of HT_.out (by kernel_rfl)) (fun _ _ _ h => h) (Or.inl ⟨by rfl, ?_⟩) ?_ ?_
                        rotate_left
                        · intro w'
                          go_simp
                          with_reducible rfl
                        rotate_left
                        · simp only [Act.put, List.setIfInBounds_toArray, List.set_cons_zero, List.set_cons_succ, i64_w, i32_w]
                          rfl
                        refine last_ (i := 12) (N := none) #[true, true, true, true, true, true, true, true, true, true, true, true, true] rfl rfl (one_of HT_.out (by kernel_rfl)) (by decide) (fun K hK => ?_)
                        refine skip_ (w1 := ?_) (by rfl) rfl ?_ ?_
                        rotate_left
                        · go_simp
                          rfl
                        refine hK.out _ _ ?_
                        clear hK K
                        refine done_ (done_of HT_.out (by kernel_rfl)) ?_
                        try go_wp2_with (first | ((with_reducible refine gate_callee (f := 12) rfl ?_); refine goesL_ (some 61) rfl rfl Try.func12 (by kernel_rfl) rfl #[] rfl (by (try simp only [List.map_toArray, List.map_cons, List.map_nil]); first | done | rfl | (simp only [List.length_drop, List.length_take]; rfl)) ?_; (with_reducible refine (telemeterlaw03_known.calls  false _ A37.out).mono ?_); rintro e w53 ⟨rfl, hb⟩; refine ⟨_, rfl, ?_⟩; have n0_ := Aside0.mk (Kd.R_below (by (with_reducible repeat (first | apply Kd.R_alloc | apply Kd.R_drewN | apply Kd.R_drew)); exact HQ52.out) hb); have n1_ := Aside0.mk (blk_below (g := gb211) (o := .cells #[.int .u64 t199, .int .u64 t200, .int .u64 t201, .int .u64 t202, .string t203, .int .i64 t204, .int .i64 t205, .bool t206, .slice (some ⟨go36, 0, none⟩) x212008_1.length co49, .int .u64 t210] 26 (0, 0)) (by (with_reducible repeat (first | refine blk_drewN ?_ _ | refine blk_drew ?_ | refine blk_alloc ?_ _)); refine blk_far ?_ (by have h_ := Kd.R_ne HO_212008.out BK211.out (by decide); intro e_; exact h_ (by rw [e_]; rfl)) _; (with_reducible repeat (first | refine blk_drewN ?_ _ | refine blk_drew ?_ | refine blk_alloc ?_ _)); exact BK211.out) hb); have n2_ := Aside0.mk (below_step (by repeat (first | (with_reducible first | exact HB.out | apply below_alloc | apply pw_below_drewN | apply below_drew1 | refine below_set ?_ GB36.out | refine below_set ?_ GE211.out) | exact HB.out)) hb); clear HO_212008; clear BK211; clear HB; have HO_212008 := n0_; have BK211 := n1_; have HB := n2_; clear n0_ n1_ n2_; (try clear hb); (try clear hb2); (try clear hk); (try clear hi)))
                        go_ret
                        exact ⟨by first | rfl | (simp [errW_none, errW_some] <;> rfl) | (simp only [← hji30, ← hji33]; first | rfl | (simp [errW_none, errW_some] <;> rfl)) | (simp [*, errW_none, errW_some] <;> rfl), by repeat (first | (with_reducible first | exact HB.out | apply below_alloc | apply pw_below_drewN | apply below_drew1 | refine below_set ?_ GE211.out) | exact HB.out)⟩
                    · rw [if_neg c35] at H
                      exact absurd H (by simp)
                  · rw [if_neg c34] at H
                    exact absurd H (by simp)
                · rw [if_neg c32] at H
                  exact absurd H (by simp)
              · rw [if_neg c31] at H
                exact absurd H (by simp)

/-- THE ONE PURE STATEMENT of telemeterlaw03_ItemAttrs: yours. -/
def telemeterlaw03_ItemAttrs.Pure : Prop := ∀ (l0 : List Int) (a1 : Int) (a2 : Int), l0.length ≤ maxLen → l0.length * 1 ≤ 140737488351232 → (∀ x ∈ l0, (Lit.int .u8 x).wf = true) → (Lit.int .u8 a1).wf = true → (Lit.int .u8 a2).wf = true → ∃ k, telemeterlaw03_ItemAttrs.f k l0 a1 a2 = some true
theorem telemeterlaw03_ItemAttrs.walk (P : telemeterlaw03_ItemAttrs.Pure) (a0 : Option Addr) (len0 cap0 : Nat) (z0 : List Int) (a1 : Int) (a2 : Int) (w : World) (w0 : (a0 = none ∧ len0 = 0 ∧ cap0 = 0 ∧ z0 = []) ∨ ∃ x, a0 = some x ∧ len0 ≤ cap0 ∧ cap0 ≤ maxLen ∧ z0.length = cap0 ∧ (∀ i, i < z0.length → w.cell? (x.add i) = some (.int .u8 (z0.getD i 0))) ∧ ∀ n ∈ z0, (Lit.int .u8 n).wf = true) (y0 : len0 * 1 ≤ 140737488351232) (w1 : (Lit.int .u8 a1).wf = true) (w2 : (Lit.int .u8 a2).wf = true) :
    Calls Try.prog 4 #[.slice a0 len0 cap0, .int .u8 a1, .int .u8 a2] w fun e w' => e = .returned (.bool true) ∧ Below w.heap.size w w' := by
  obtain ⟨l0, rfl, hr0, hm0, hw0, hc0⟩ := ReadsInt.ofRowC w0
  obtain ⟨k, h⟩ := P l0 a1 a2 hm0 y0 hw0 w1 w2
  refine (telemeterlaw03_ItemAttrs.calls k _ _ l0 a1 a2 true w (Kd.C_of_reads (d := (0 : Int)) (h1 := fun _ => rfl) hr0) hc0 h).mono ?_
  rintro e w' ⟨rfl, hd⟩
  exact ⟨rfl, hd⟩

end Go.Proofs.Ytfapckmobeppnaa.Px
