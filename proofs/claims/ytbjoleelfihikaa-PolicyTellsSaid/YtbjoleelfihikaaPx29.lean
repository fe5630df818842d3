-- Laid by a program of this session (wip/xprint.py: the kit's print.py, with functions given by hand). Lean checks it.
import Derived.Test.YtbjoleelfihikaaPx0
import Derived.Test.YtbjoleelfihikaaPx4
import Derived.Test.YtbjoleelfihikaaPx15
import Derived.Test.YtbjoleelfihikaaPx17
import Derived.Test.YtbjoleelfihikaaPx28
namespace Go.Proofs.Ytbjoleelfihikaa.Px
open Go.RowKit Go.Proofs.YtbjoleelfihikaaW.PrintWords Go.Proofs.YtbjoleelfihikaaW.PrintLast Go.Proofs.YtbjoleelfihikaaW.PrintMore
attribute [local go_sem] max2_int min2_int max_two min_two max_three min_three max_four min_four   -- for this text's walks alone
set_option linter.unusedVariables false
set_option linter.unusedSimpArgs false

/-! ### telemeterlaw12_PolicyTells: function 6 -/
mutual
def telemeterlaw12_PolicyTells.j0 : Nat → List (S36) → List Int → List (List Int) → Int → Bool → Int → Int → ByteArray → ByteArray → Option (Bool)
  | 0, _, _, _, _, _, _, _, _, _ => none
  | k + 1, x1, x2, x3, x4, x25, x248000, x248001, x248002, x248003 => if x25 = true then ((telemeterlaw12_known.f k).bind fun t249 => (some t249)) else (telemeterlaw12_PolicyTells.l0 k x1 x2 x3 x4 0 x248000 x248001 x248002 x248003)
def telemeterlaw12_PolicyTells.l0 : Nat → List (S36) → List Int → List (List Int) → Int → Int → Int → Int → ByteArray → ByteArray → Option (Bool)
  | 0, _, _, _, _, _, _, _, _, _ => none
  | k + 1, x1, x2, x3, x4, x11, x248000, x248001, x248002, x248003 => if x11 < (x1.length : Int) then (if 0 ≤ x11 then (if (((rd_T36 x1 x11).f8).length : Int) > 10 then (some true) else (telemeterlaw12_PolicyTells.l0 k x1 x2 x3 x4 (wrap64 (x11 + 1)) x248000 x248001 x248002 x248003)) else (none)) else ((telemeterlaw12_Spans.f k x3).bind fun t251 => ((telemeterlaw12_tells.f k (([(([(⟨x248000, x248001, x248002, x248003⟩ : S39)] : List (S39)))] : List (List (S39)))) x1 x4).bind fun t260 => (if t260 = true then ((telemeterlaw12_tells.f k (([(([(⟨x248000, x248001, x248002, x248003⟩ : S39)] : List (S39)))] : List (List (S39)))) t251 x4).bind fun t267 => (telemeterlaw12_PolicyTells.j2 k x1 x2 x4 t251 t267)) else (telemeterlaw12_PolicyTells.j2 k x1 x2 x4 t251 false))))
def telemeterlaw12_PolicyTells.j2 : Nat → List (S36) → List Int → Int → List (S36) → Bool → Option (Bool)
  | 0, _, _, _, _, _ => none
  | k + 1, x1, x2, x4, x12, x13 => if x13 = true then ((telemeterlaw12_Rules.f k x2).bind fun t268 => ((telemeterlaw12_tells.f k t268 x12 x4).bind fun t271 => (if t271 = true then ((telemeterlaw12_Rules.f k x2).bind fun t272 => ((telemeterlaw12_tells.f k t272 x12 (Int.tmod x4 72057594037927936)).bind fun t275 => (if t275 = true then ((telemeterlaw12_Rules.f k x2).bind fun t276 => ((telemeterlaw12_tells.f k t276 x1 x4).bind fun t279 => (some t279))) else (some false)))) else (some false)))) else (some false)
end
def telemeterlaw12_PolicyTells.f (k : Nat) (a0_0 : Int) (a0_1 : Int) (a0_2 : ByteArray) (a0_3 : ByteArray) (l1 : List (S36)) (l2 : List Int) (l3 : List (List Int)) (a4 : Int) : Option (Bool) := if (l1.length : Int) > 10 then (telemeterlaw12_PolicyTells.j0 k l1 l2 l3 a4 true a0_0 a0_1 a0_2 a0_3) else (if (l3.length : Int) > 10 then (telemeterlaw12_PolicyTells.j0 k l1 l2 l3 a4 true a0_0 a0_1 a0_2 a0_3) else ((telemeterlaw12_known.f k).bind fun t248 => (telemeterlaw12_PolicyTells.j0 k l1 l2 l3 a4 (!t248) a0_0 a0_1 a0_2 a0_3)))
theorem telemeterlaw12_PolicyTells.mono_l : ∀ k, (∀ y0 y1 y2 y3 y4 y5 y6 y7 y8, LeO (telemeterlaw12_PolicyTells.j0 k y0 y1 y2 y3 y4 y5 y6 y7 y8) (telemeterlaw12_PolicyTells.j0 (k + 1) y0 y1 y2 y3 y4 y5 y6 y7 y8)) ∧ (∀ y0 y1 y2 y3 y4 y5 y6 y7 y8, LeO (telemeterlaw12_PolicyTells.l0 k y0 y1 y2 y3 y4 y5 y6 y7 y8) (telemeterlaw12_PolicyTells.l0 (k + 1) y0 y1 y2 y3 y4 y5 y6 y7 y8)) ∧ (∀ y0 y1 y2 y3 y4, LeO (telemeterlaw12_PolicyTells.j2 k y0 y1 y2 y3 y4) (telemeterlaw12_PolicyTells.j2 (k + 1) y0 y1 y2 y3 y4))
  | 0 => ⟨fun _ _ _ _ _ _ _ _ _ r h => by simp [telemeterlaw12_PolicyTells.j0] at h, fun _ _ _ _ _ _ _ _ _ r h => by simp [telemeterlaw12_PolicyTells.l0] at h, fun _ _ _ _ _ r h => by simp [telemeterlaw12_PolicyTells.j2] at h⟩
  | k + 1 => by
    obtain ⟨ih0, ih1, ih2⟩ := telemeterlaw12_PolicyTells.mono_l k
    refine ⟨?_, ?_, ?_⟩
    · intro y0 y1 y2 y3 y4 y5 y6 y7 y8
      unfold telemeterlaw12_PolicyTells.j0
      repeat' first
      | (with_reducible exact ih0 _ _ _ _ _ _ _ _ _)
      | (with_reducible exact ih1 _ _ _ _ _ _ _ _ _)
      | (with_reducible exact ih2 _ _ _ _ _)
      | (with_reducible exact telemeterlaw12_Rules.mono _ _)
      | (with_reducible exact telemeterlaw12_Spans.mono _ _)
      | (with_reducible exact telemeterlaw12_known.mono _)
      | (with_reducible exact telemeterlaw12_tells.mono _ _ _ _)
      | (with_reducible exact LeO.refl _)
      | (with_reducible exact LeO.none _)
      | (with_reducible refine LeO.ite ?_ ?_)
      | (with_reducible refine LeO.bind ?_ (fun _ => ?_))
      | exact ih0 _ _ _ _ _ _ _ _ _
      | exact ih1 _ _ _ _ _ _ _ _ _
      | exact ih2 _ _ _ _ _
      | exact telemeterlaw12_Rules.mono _ _
      | exact telemeterlaw12_Spans.mono _ _
      | exact telemeterlaw12_known.mono _
      | exact telemeterlaw12_tells.mono _ _ _ _
      | exact LeO.none _
      | refine LeO.ite ?_ ?_
      | refine LeO.bind ?_ (fun _ => ?_)
    · intro y0 y1 y2 y3 y4 y5 y6 y7 y8
      unfold telemeterlaw12_PolicyTells.l0
      repeat' first
      | (with_reducible exact ih0 _ _ _ _ _ _ _ _ _)
      | (with_reducible exact ih1 _ _ _ _ _ _ _ _ _)
      | (with_reducible exact ih2 _ _ _ _ _)
      | (with_reducible exact telemeterlaw12_Rules.mono _ _)
      | (with_reducible exact telemeterlaw12_Spans.mono _ _)
      | (with_reducible exact telemeterlaw12_known.mono _)
      | (with_reducible exact telemeterlaw12_tells.mono _ _ _ _)
      | (with_reducible exact LeO.refl _)
      | (with_reducible exact LeO.none _)
      | (with_reducible refine LeO.ite ?_ ?_)
      | (with_reducible refine LeO.bind ?_ (fun _ => ?_))
      | exact ih0 _ _ _ _ _ _ _ _ _
      | exact ih1 _ _ _ _ _ _ _ _ _
      | exact ih2 _ _ _ _ _
      | exact telemeterlaw12_Rules.mono _ _
      | exact telemeterlaw12_Spans.mono _ _
      | exact telemeterlaw12_known.mono _
      | exact telemeterlaw12_tells.mono _ _ _ _
      | exact LeO.none _
      | refine LeO.ite ?_ ?_
      | refine LeO.bind ?_ (fun _ => ?_)
    · intro y0 y1 y2 y3 y4
      unfold telemeterlaw12_PolicyTells.j2
      repeat' first
      | (with_reducible exact ih0 _ _ _ _ _ _ _ _ _)
      | (with_reducible exact ih1 _ _ _ _ _ _ _ _ _)
      | (with_reducible exact ih2 _ _ _ _ _)
      | (with_reducible exact telemeterlaw12_Rules.mono _ _)
      | (with_reducible exact telemeterlaw12_Spans.mono _ _)
      | (with_reducible exact telemeterlaw12_known.mono _)
      | (with_reducible exact telemeterlaw12_tells.mono _ _ _ _)
      | (with_reducible exact LeO.refl _)
      | (with_reducible exact LeO.none _)
      | (with_reducible refine LeO.ite ?_ ?_)
      | (with_reducible refine LeO.bind ?_ (fun _ => ?_))
      | exact ih0 _ _ _ _ _ _ _ _ _
      | exact ih1 _ _ _ _ _ _ _ _ _
      | exact ih2 _ _ _ _ _
      | exact telemeterlaw12_Rules.mono _ _
      | exact telemeterlaw12_Spans.mono _ _
      | exact telemeterlaw12_known.mono _
      | exact telemeterlaw12_tells.mono _ _ _ _
      | exact LeO.none _
      | refine LeO.ite ?_ ?_
      | refine LeO.bind ?_ (fun _ => ?_)
theorem telemeterlaw12_PolicyTells.mono : ∀ a0 a1 a2 a3 a4 a5 a6 a7 k, LeO (telemeterlaw12_PolicyTells.f k a0 a1 a2 a3 a4 a5 a6 a7) (telemeterlaw12_PolicyTells.f (k + 1) a0 a1 a2 a3 a4 a5 a6 a7) := by
  intro a0 a1 a2 a3 a4 a5 a6 a7 k
  obtain ⟨ih0, ih1, ih2⟩ := telemeterlaw12_PolicyTells.mono_l k
  unfold telemeterlaw12_PolicyTells.f
  repeat' first
      | (with_reducible exact ih0 _ _ _ _ _ _ _ _ _)
      | (with_reducible exact ih1 _ _ _ _ _ _ _ _ _)
      | (with_reducible exact ih2 _ _ _ _ _)
      | (with_reducible exact telemeterlaw12_Rules.mono _ _)
      | (with_reducible exact telemeterlaw12_Spans.mono _ _)
      | (with_reducible exact telemeterlaw12_known.mono _)
      | (with_reducible exact telemeterlaw12_tells.mono _ _ _ _)
      | (with_reducible exact LeO.refl _)
      | (with_reducible exact LeO.none _)
      | (with_reducible refine LeO.ite ?_ ?_)
      | (with_reducible refine LeO.bind ?_ (fun _ => ?_))
      | exact ih0 _ _ _ _ _ _ _ _ _
      | exact ih1 _ _ _ _ _ _ _ _ _
      | exact ih2 _ _ _ _ _
      | exact telemeterlaw12_Rules.mono _ _
      | exact telemeterlaw12_Spans.mono _ _
      | exact telemeterlaw12_known.mono _
      | exact telemeterlaw12_tells.mono _ _ _ _
      | exact LeO.none _
      | refine LeO.ite ?_ ?_
      | refine LeO.bind ?_ (fun _ => ?_)
set_option maxHeartbeats 8000000 in
set_option maxRecDepth 100000 in
theorem telemeterlaw12_PolicyTells.calls (k : Nat) (a0_0 : Int) (a0_1 : Int) (a0_2 : ByteArray) (a0_3 : ByteArray) (A1 : Option Addr) (c1 : Nat) (l1 : List (S36)) (A2 : Option Addr) (c2 : Nat) (l2 : List Int) (A3 : Option Addr) (c3 : Nat) (l3 : List (List Int)) (a4 : Int) (r : Bool) (w : World) (hr1 : Kd.C k36 w A1 l1.length l1) (hc1 : l1.length ≤ c1) (hr2 : Kd.C (Kd.int .u8) w A2 l2.length l2) (hc2 : l2.length ≤ c2) (hr3 : Kd.C (Kd.slice 5 (Kd.int .u8)) w A3 l3.length l3) (hc3 : l3.length ≤ c3) (h : telemeterlaw12_PolicyTells.f k a0_0 a0_1 a0_2 a0_3 l1 l2 l3 a4 = some r) :
    Calls Try.prog 6 #[.agg #[.int .u8 a0_0, .int .i64 a0_1, .string a0_2, .string a0_3], .slice A1 l1.length c1, .slice A2 l2.length c2, .slice A3 l3.length c3, .int .u64 a4] w fun e w' => e = .returned (.bool r) ∧ Below w.heap.size w w' := by
  have hu39 := Try.underlying39
  have HR1 := Aside0.mk hr1
  have HC1 := Aside0.mk hc1
  clear hr1 hc1
  have HR2 := Aside0.mk hr2
  have HC2 := Aside0.mk hc2
  clear hr2 hc2
  have HR3 := Aside0.mk hr3
  have HC3 := Aside0.mk hc3
  clear hr3 hc3
  have HB := Aside0.mk (Below.refl w.heap.size w)
  have H : (if (l1.length : Int) > 10 then (telemeterlaw12_PolicyTells.j0 k l1 l2 l3 a4 true a0_0 a0_1 a0_2 a0_3) else (if (l3.length : Int) > 10 then (telemeterlaw12_PolicyTells.j0 k l1 l2 l3 a4 true a0_0 a0_1 a0_2 a0_3) else ((telemeterlaw12_known.f k).bind fun t248 => (telemeterlaw12_PolicyTells.j0 k l1 l2 l3 a4 (!t248) a0_0 a0_1 a0_2 a0_3)))) = some r := h
  clear h
  have HC6 := Aside0.mk H
  clear H
  go_enter Try.func6, Try.ntmps6
  go_upto_region 1 with (first | ((with_reducible refine gate_dst (N := 5) rfl ?_); (try (refine gate_guard (by rfl) ?_; dsimp only)); refine box_event ?hg (N := 5) ?hd (cs := #[.int .u8 a0_0, .int .i64 a0_1, .string a0_2, .string a0_3]) (t := 39) ?hr ?_; (case hd => rfl); (case hg => rfl); (case hr => first | (go_simp; done) | (go_simp; rfl)); intro gb247 hg w7 hbox hb; have n0_ := Aside0.mk (below_step (by repeat (first | (with_reducible first | exact HB.out | apply below_alloc | apply pw_below_drewN | apply below_drew1) | exact HB.out)) hb); have n1_ := Aside0.mk (hbox); have n2_ := Aside0.mk ((by rw [hg]; exact (below_size (by repeat (first | (with_reducible first | exact HB.out | apply below_alloc | apply pw_below_drewN | apply below_drew1) | exact HB.out))) : w.heap.size ≤ gb247)); have n3_ := Aside0.mk ((by rw [hg]; exact (below_size (by repeat (first | (with_reducible first | exact HB.out | apply below_alloc | apply pw_below_drewN | apply below_drew1) | exact HB.out))) : w.heap.size ≤ gb247)); clear HB; have HB := n0_; have BK247 := n1_; have GW247 := n2_; have GE247 := n3_; clear n0_ n1_ n2_ n3_; clear hb hbox hg))
  (try simp only [Act.put, List.setIfInBounds_toArray, List.set_cons_zero, List.set_cons_succ])
  go_cut [25] (fun v25 wc => ∃ (kq : Nat) (x25_5 : Bool), v25 = .bool x25_5 ∧ Aside0 (telemeterlaw12_PolicyTells.j0 kq l1 l2 l3 a4 x25_5 a0_0 a0_1 a0_2 a0_3 = some r) ∧ Aside0 (kq ≤ k) ∧ Aside0 (wc.heap[gb247]? = some (.cells #[.int .u8 a0_0, .int .i64 a0_1, .string a0_2, .string a0_3] 39 (0, 0))) ∧ Aside0 (Below w.heap.size w wc))
  case first =>
    have H := HC6.out
    clear HC6
    by_cases c8 : (l1.length : Int) > 10
    · rw [if_pos c8] at H
      have c8b0 : decide (10 < (l1.length : Int)) = true := decide_eq_true c8
      have c8b1 : decide (10 < l1.length) = true := decide_eq_true (by omega)
      clear c8
      (first | rw [c8b0] | (simp only [i64_w, i32_w]; rw [c8b0]) | skip)
      have H' := Aside0.mk H
      clear H
      go_wp2
      go_meet
      case rel => exact ⟨_, (true), (by first | rfl | (simp; done) | (simp [*]; done)), H', ⟨by first | omega | exact Nat.le_refl _⟩, ⟨by (with_reducible repeat (first | refine blk_drewN ?_ _ | refine blk_drew ?_ | refine blk_alloc ?_ _)); exact BK247.out⟩, ⟨by repeat (first | (with_reducible first | exact HB.out | apply below_alloc | apply pw_below_drewN | apply below_drew1 | refine below_set ?_ GE247.out) | exact HB.out)⟩⟩
    · rw [if_neg c8] at H
      have c8b0 : decide (10 < (l1.length : Int)) = false := decide_eq_false c8
      have c8b1 : decide (10 < l1.length) = false := decide_eq_false (by omega)
      clear c8
      (first | rw [c8b0] | (simp only [i64_w, i32_w]; rw [c8b0]) | skip)
      by_cases c9 : (l3.length : Int) > 10
      · rw [if_pos c9] at H
        have c9b0 : decide (10 < (l3.length : Int)) = true := decide_eq_true c9
        have c9b1 : decide (10 < l3.length) = true := decide_eq_true (by omega)
        clear c9
        have H' := Aside0.mk H
        clear H
        go_wp2
        go_meet
        case rel => exact ⟨_, (true), (by first | rfl | (simp; done) | (simp [*]; done)), H', ⟨by first | omega | exact Nat.le_refl _⟩, ⟨by (with_reducible repeat (first | refine blk_drewN ?_ _ | refine blk_drew ?_ | refine blk_alloc ?_ _)); exact BK247.out⟩, ⟨by repeat (first | (with_reducible first | exact HB.out | apply below_alloc | apply pw_below_drewN | apply below_drew1 | refine below_set ?_ GE247.out) | exact HB.out)⟩⟩
      · rw [if_neg c9] at H
        have c9b0 : decide (10 < (l3.length : Int)) = false := decide_eq_false c9
        have c9b1 : decide (10 < l3.length) = false := decide_eq_false (by omega)
        clear c9
        replace H := Option.bind_eq_some_iff.mp H
        obtain ⟨t248, A100, H⟩ := H
        replace H : (telemeterlaw12_PolicyTells.j0 k l1 l2 l3 a4 (!t248) a0_0 a0_1 a0_2 a0_3) = some r := H
        have A10 := Aside0.mk A100
        clear A100
        have H' := Aside0.mk H
        clear H
        go_wp2_with (first | (go_at_call 10; (with_reducible refine (telemeterlaw12_known.calls k  t248 _ A10.out).mono ?_); rintro e w11 ⟨rfl, hb⟩; have n0_ := Aside0.mk (blk_below (g := gb247) (o := .cells #[.int .u8 a0_0, .int .i64 a0_1, .string a0_2, .string a0_3] 39 (0, 0)) (by (with_reducible repeat (first | refine blk_drewN ?_ _ | refine blk_drew ?_ | refine blk_alloc ?_ _)); exact BK247.out) hb); have n1_ := Aside0.mk (below_step (by repeat (first | (with_reducible first | exact HB.out | apply below_alloc | apply pw_below_drewN | apply below_drew1 | refine below_set ?_ GE247.out) | exact HB.out)) hb); clear BK247; clear HB; have BK247 := n0_; have HB := n1_; clear n0_ n1_; (try clear hb); (try clear hb2); (try clear hk); (try clear hi)))
        go_meet
        case rel => exact ⟨_, (!t248), (by first | rfl | (simp; done) | (simp [*]; done)), H', ⟨by first | omega | exact Nat.le_refl _⟩, ⟨by (with_reducible repeat (first | refine blk_drewN ?_ _ | refine blk_drew ?_ | refine blk_alloc ?_ _)); exact BK247.out⟩, ⟨by repeat (first | (with_reducible first | exact HB.out | apply below_alloc | apply pw_below_drewN | apply below_drew1 | refine below_set ?_ GE247.out) | exact HB.out)⟩⟩
  case rest =>
    clear HC6
    try clear c1
    try clear c2
    try clear p2
    try clear c3
    try clear c6
    try clear c8
    try clear c8b0
    try clear c8b1
    try clear c9
    try clear c9b0
    try clear c9b1
    obtain ⟨kq, x25_5, rfl, HA, HJ5, BK247, HB⟩ := hcut
    cases kq with
    | zero => exact absurd HA.out (by simp [telemeterlaw12_PolicyTells.j0])
    | succ kj5 =>
      have H := HA.out
      clear HA
      simp only [telemeterlaw12_PolicyTells.j0] at H
      by_cases c12 : x25_5 = true
      · subst c12
        have H1 : ((telemeterlaw12_known.f kj5).bind fun t249 => (some t249)) = some r := by rw [if_pos rfl] at H; exact H
        clear H
        have H := H1
        clear H1
        replace H := Option.bind_eq_some_iff.mp H
        obtain ⟨t249, A130, H⟩ := H
        replace H : (some t249) = some r := H
        have A13 := Aside0.mk A130
        clear A130
        obtain rfl := Option.some.inj H
        go_wp2_with (first | ((with_reducible refine gate_callee (f := 10) rfl ?_); refine goesL_ (some 26) rfl rfl Try.func10 (by kernel_rfl) rfl #[] rfl (by (try simp only [List.map_toArray, List.map_cons, List.map_nil]); first | done | rfl | (simp only [List.length_drop, List.length_take]; rfl)) ?_; (with_reducible refine (telemeterlaw12_known.calls kj5  t249 _ A13.out).mono ?_); rintro e w14 ⟨rfl, hb⟩; refine ⟨_, rfl, ?_⟩; have n0_ := Aside0.mk (blk_below (g := gb247) (o := .cells #[.int .u8 a0_0, .int .i64 a0_1, .string a0_2, .string a0_3] 39 (0, 0)) (by (with_reducible repeat (first | refine blk_drewN ?_ _ | refine blk_drew ?_ | refine blk_alloc ?_ _)); exact BK247.out) hb); have n1_ := Aside0.mk (below_step (by repeat (first | (with_reducible first | exact HB.out | apply below_alloc | apply pw_below_drewN | apply below_drew1 | refine below_set ?_ GE247.out) | exact HB.out)) hb); clear BK247; clear HB; have BK247 := n0_; have HB := n1_; clear n0_ n1_; (try clear hb); (try clear hb2); (try clear hk); (try clear hi)))
        go_ret
        exact ⟨by first | rfl | (simp [errW_none, errW_some] <;> rfl) | (simp [*, errW_none, errW_some] <;> rfl), by repeat (first | (with_reducible first | exact HB.out | apply below_alloc | apply pw_below_drewN | apply below_drew1 | refine below_set ?_ GE247.out) | exact HB.out)⟩
      · replace c12 := Bool.eq_false_iff.mpr c12
        subst c12
        have H1 : (telemeterlaw12_PolicyTells.l0 kj5 l1 l2 l3 a4 0 a0_0 a0_1 a0_2 a0_3) = some r := by rw [if_neg (show ¬ (false = true) by decide)] at H; exact H
        clear H
        have H := H1
        clear H1
        have H' := Aside0.mk H
        clear H
        go_wp2
        go_loopg [11] kj5 (fun kq v11 w' => ∃ (x11_2 : Int), v11 = .int .i64 x11_2 ∧ Aside0 (telemeterlaw12_PolicyTells.l0 kq l1 l2 l3 a4 x11_2 a0_0 a0_1 a0_2 a0_3 = some r) ∧ Aside0 (kq ≤ kj5) ∧ Aside0 (w'.heap[gb247]? = some (.cells #[.int .u8 a0_0, .int .i64 a0_1, .string a0_2, .string a0_3] 39 (0, 0))) ∧ Aside0 (Below w.heap.size w w'))
        case atStart => exact ⟨(0), (by first | rfl | (simp; done) | (simp [*]; done)), H', ⟨Nat.le_refl _⟩, ⟨by (with_reducible repeat (first | refine blk_drewN ?_ _ | refine blk_drew ?_ | refine blk_alloc ?_ _)); exact BK247.out⟩, ⟨by repeat (first | (with_reducible first | exact HB.out | apply below_alloc | apply pw_below_drewN | apply below_drew1 | refine below_set ?_ GE247.out) | exact HB.out)⟩⟩
        case round =>
          clear H'
          try clear c1
          try clear c2
          try clear p2
          try clear c3
          try clear c6
          try clear c8
          try clear c8b0
          try clear c8b1
          try clear c9
          try clear c9b0
          try clear c9b1
          try clear c10
          try clear c12
          try clear p2
          obtain ⟨x11_2, rfl, HA, HK2, BK247, HB⟩ := hrel
          cases gk with
          | zero => exact absurd HA.out (by simp [telemeterlaw12_PolicyTells.l0])
          | succ k2 =>
            have H := HA.out
            clear HA
            simp only [telemeterlaw12_PolicyTells.l0] at H
            by_cases c15 : x11_2 < (l1.length : Int)
            · rw [if_pos c15] at H
              have c15b0 : decide (x11_2 < (l1.length : Int)) = true := decide_eq_true c15
              clear c15
              by_cases c16 : 0 ≤ x11_2
              · rw [if_pos c16] at H
                have c16b0 : decide (0 ≤ x11_2) = true := decide_eq_true c16
                clear c16
                by_cases c17 : (((rd_T36 l1 x11_2).f8).length : Int) > 10
                · rw [if_pos c17] at H
                  have c17b0 : decide (10 < (((rd_T36 l1 x11_2).f8).length : Int)) = true := decide_eq_true c17
                  have c17b1 : decide (10 < ((rd_T36 l1 x11_2).f8).length) = true := decide_eq_true (by omega)
                  clear c17
                  obtain rfl := Option.some.inj H
                  have p250 : 0 ≤ (x11_2 : Int) := of_decide_eq_true (by first | (with_reducible assumption) | assumption)
                  have q250 : x11_2 < (l1.length : Int) := of_decide_eq_true (by first | (with_reducible assumption) | assumption)
                  obtain ⟨ad250, A250_8, c250_8, e250, hx250_0, hx250_1, hx250_2, hx250_3, hx250_4, hx250_5, hx250_6, hx250_7, hx250_8, hx250_9, hl250_8, hi250_8⟩ := at_T36 HR1.out x11_2 p250 q250
                  cases e250
                  replace hx250_0 := (HB.out.cell (World.block_lt_of_cell? w _ hx250_0)).trans hx250_0
                  replace hx250_1 := (HB.out.cell (World.block_lt_of_cell? w _ hx250_1)).trans hx250_1
                  replace hx250_2 := (HB.out.cell (World.block_lt_of_cell? w _ hx250_2)).trans hx250_2
                  replace hx250_3 := (HB.out.cell (World.block_lt_of_cell? w _ hx250_3)).trans hx250_3
                  replace hx250_4 := (HB.out.cell (World.block_lt_of_cell? w _ hx250_4)).trans hx250_4
                  replace hx250_5 := (HB.out.cell (World.block_lt_of_cell? w _ hx250_5)).trans hx250_5
                  replace hx250_6 := (HB.out.cell (World.block_lt_of_cell? w _ hx250_6)).trans hx250_6
                  replace hx250_7 := (HB.out.cell (World.block_lt_of_cell? w _ hx250_7)).trans hx250_7
                  replace hx250_8 := (HB.out.cell (World.block_lt_of_cell? w _ hx250_8)).trans hx250_8
                  replace hx250_9 := (HB.out.cell (World.block_lt_of_cell? w _ hx250_9)).trans hx250_9
                  have HR250_8 := Aside0.mk hi250_8
                  have HC250_8 := Aside0.mk hl250_8
                  clear hi250_8 hl250_8
                  replace p250 := eq_true p250
                  replace q250 := eq_true q250
                  go_wp2
                  go_ret
                  exact ⟨by first | rfl | (simp [errW_none, errW_some] <;> rfl) | (simp [*, errW_none, errW_some] <;> rfl), by repeat (first | (with_reducible first | exact HB.out | apply below_alloc | apply pw_below_drewN | apply below_drew1 | refine below_set ?_ GE247.out) | exact HB.out)⟩
                · rw [if_neg c17] at H
                  have c17b0 : decide (10 < (((rd_T36 l1 x11_2).f8).length : Int)) = false := decide_eq_false c17
                  have c17b1 : decide (10 < ((rd_T36 l1 x11_2).f8).length) = false := decide_eq_false (by omega)
                  clear c17
                  have H' := Aside0.mk H
                  clear H
                  have p250 : 0 ≤ (x11_2 : Int) := of_decide_eq_true (by first | (with_reducible assumption) | assumption)
                  have q250 : x11_2 < (l1.length : Int) := of_decide_eq_true (by first | (with_reducible assumption) | assumption)
                  obtain ⟨ad250, A250_8, c250_8, e250, hx250_0, hx250_1, hx250_2, hx250_3, hx250_4, hx250_5, hx250_6, hx250_7, hx250_8, hx250_9, hl250_8, hi250_8⟩ := at_T36 HR1.out x11_2 p250 q250
                  cases e250
                  replace hx250_0 := (HB.out.cell (World.block_lt_of_cell? w _ hx250_0)).trans hx250_0
                  replace hx250_1 := (HB.out.cell (World.block_lt_of_cell? w _ hx250_1)).trans hx250_1
                  replace hx250_2 := (HB.out.cell (World.block_lt_of_cell? w _ hx250_2)).trans hx250_2
                  replace hx250_3 := (HB.out.cell (World.block_lt_of_cell? w _ hx250_3)).trans hx250_3
                  replace hx250_4 := (HB.out.cell (World.block_lt_of_cell? w _ hx250_4)).trans hx250_4
                  replace hx250_5 := (HB.out.cell (World.block_lt_of_cell? w _ hx250_5)).trans hx250_5
                  replace hx250_6 := (HB.out.cell (World.block_lt_of_cell? w _ hx250_6)).trans hx250_6
                  replace hx250_7 := (HB.out.cell (World.block_lt_of_cell? w _ hx250_7)).trans hx250_7
                  replace hx250_8 := (HB.out.cell (World.block_lt_of_cell? w _ hx250_8)).trans hx250_8
                  replace hx250_9 := (HB.out.cell (World.block_lt_of_cell? w _ hx250_9)).trans hx250_9
                  have HR250_8 := Aside0.mk hi250_8
                  have HC250_8 := Aside0.mk hl250_8
                  clear hi250_8 hl250_8
                  replace p250 := eq_true p250
                  replace q250 := eq_true q250
                  go_wp2
                  go_roundg k2
                  case measure => have := HJ5.out; have := HK2.out; omega
                  case rel => exact ⟨(wrap64 (x11_2 + 1)), (by first | rfl | (simp; done) | (simp [*]; done)), H', ⟨by have := HJ5.out; have := HK2.out; omega⟩, ⟨by (with_reducible repeat (first | refine blk_drewN ?_ _ | refine blk_drew ?_ | refine blk_alloc ?_ _)); exact BK247.out⟩, ⟨by repeat (first | (with_reducible first | exact HB.out | apply below_alloc | apply pw_below_drewN | apply below_drew1 | refine below_set ?_ GE247.out) | exact HB.out)⟩⟩
              · rw [if_neg c16] at H
                exact absurd H (by simp)
            · rw [if_neg c15] at H
              have c15b0 : decide (x11_2 < (l1.length : Int)) = false := decide_eq_false c15
              clear c15
              replace H := Option.bind_eq_some_iff.mp H
              obtain ⟨t251, A180, H⟩ := H
              replace H : ((telemeterlaw12_tells.f k2 (([(([(⟨a0_0, a0_1, a0_2, a0_3⟩ : S39)] : List (S39)))] : List (List (S39)))) l1 a4).bind fun t260 => (if t260 = true then ((telemeterlaw12_tells.f k2 (([(([(⟨a0_0, a0_1, a0_2, a0_3⟩ : S39)] : List (S39)))] : List (List (S39)))) t251 a4).bind fun t267 => (telemeterlaw12_PolicyTells.j2 k2 l1 l2 a4 t251 t267)) else (telemeterlaw12_PolicyTells.j2 k2 l1 l2 a4 t251 false))) = some r := H
              have A18 := Aside0.mk A180
              clear A180
              have HC19 := Aside0.mk H
              clear H
              go_upto_region 9 with (first | ((with_reducible refine gate_callee (f := 11) rfl ?_); refine goesL_ (some 41) rfl rfl Try.func11 (by kernel_rfl) rfl #[.slice A3 l3.length c3] rfl (by (try simp only [List.map_toArray, List.map_cons, List.map_nil]); first | done | rfl | (simp only [List.length_drop, List.length_take]; rfl)) ?_; (with_reducible refine (telemeterlaw12_Spans.calls k2 _ _ l3 t251 _ ?side1 ?side2 A18.out).mono ?_); (case side1 => repeat (first | exact (Kd.C_below HR3.out HB.out) | (with_reducible refine Kd.C_alloc ?_ _) | (with_reducible refine Kd.C_drewN ?_ _) | (with_reducible refine Kd.C_drew ?_))); (case side2 => exact HC3.out); rintro e w20 ⟨v252, rfl, ho0, hb⟩; refine ⟨_, rfl, ?_⟩; have n0_ := Aside0.mk (Kd.N_lower (Kd.N_mono (ok' := fun k_ => k_ ≠ gb247) (Kd.S_N (Kd.S_bound ho0)) (fun k_ hk_ => (Kd.freshB (g := gb247) (o := .cells #[.int .u8 a0_0, .int .i64 a0_1, .string a0_2, .string a0_3] 39 (0, 0)) (by (with_reducible repeat (first | refine blk_drewN ?_ _ | refine blk_drew ?_ | refine blk_alloc ?_ _)); exact BK247.out) k_ hk_.2.1))) (below_size (by repeat (first | (with_reducible first | exact HB.out | apply below_alloc | apply pw_below_drewN | apply below_drew1 | refine below_set ?_ GE247.out) | exact HB.out)))); have n1_ := Aside0.mk (blk_below (g := gb247) (o := .cells #[.int .u8 a0_0, .int .i64 a0_1, .string a0_2, .string a0_3] 39 (0, 0)) (by (with_reducible repeat (first | refine blk_drewN ?_ _ | refine blk_drew ?_ | refine blk_alloc ?_ _)); exact BK247.out) hb); have n2_ := Aside0.mk (below_step (by repeat (first | (with_reducible first | exact HB.out | apply below_alloc | apply pw_below_drewN | apply below_drew1 | refine below_set ?_ GE247.out) | exact HB.out)) hb); clear BK247; clear HB; have HO253 := n0_; have BK247 := n1_; have HB := n2_; clear n0_ n1_ n2_; (try clear hb); (try clear hb2); (try clear hk); (try clear hi); (try clear ho0)))
              (try simp only [Act.put, List.setIfInBounds_toArray, List.set_cons_zero, List.set_cons_succ])
              go_cut [13] (fun v13 wc => ∃ (kq : Nat) (x13_18 : Bool), v13 = .bool x13_18 ∧ Aside0 (telemeterlaw12_PolicyTells.j2 kq l1 l2 a4 t251 x13_18 = some r) ∧ Aside0 (kq ≤ k2) ∧ Aside0 (Kd.N k36 36 wc w.heap.size (fun k_ => k_ ≠ gb247) v252 t251) ∧ Aside0 (wc.heap[gb247]? = some (.cells #[.int .u8 a0_0, .int .i64 a0_1, .string a0_2, .string a0_3] 39 (0, 0))) ∧ Aside0 (Below w.heap.size w wc))
              case first =>
                have H := HC19.out
                clear HC19
                obtain ⟨y254, hy254⟩ : ∃ y_ : List (S39), y_ = (([(⟨a0_0, a0_1, a0_2, a0_3⟩ : S39)] : List (S39))) := ⟨_, rfl⟩
                replace H : ((telemeterlaw12_tells.f k2 (([y254] : List (List (S39)))) l1 a4).bind fun t260 => (if t260 = true then ((telemeterlaw12_tells.f k2 (([(([(⟨a0_0, a0_1, a0_2, a0_3⟩ : S39)] : List (S39)))] : List (List (S39)))) t251 a4).bind fun t267 => (telemeterlaw12_PolicyTells.j2 k2 l1 l2 a4 t251 t267)) else (telemeterlaw12_PolicyTells.j2 k2 l1 l2 a4 t251 false))) = some r := by first | (rw [hy254]; with_reducible exact H) | (have H2_ := (Option.bind_some _ _).symm.trans H; rw [hy254]; with_reducible exact H2_) | (have H2_ := (Option.bind_some _ _).symm.trans H; with_reducible exact H2_) | with_reducible exact H | (rw [hy254]; exact H) | exact H
                have Ny254 := Aside0.mk hy254
                clear hy254
                obtain ⟨y257, hy257⟩ : ∃ y_ : List (List (S39)), y_ = (([y254] : List (List (S39)))) := ⟨_, rfl⟩
                replace H : ((telemeterlaw12_tells.f k2 y257 l1 a4).bind fun t260 => (if t260 = true then ((telemeterlaw12_tells.f k2 (([(([(⟨a0_0, a0_1, a0_2, a0_3⟩ : S39)] : List (S39)))] : List (List (S39)))) t251 a4).bind fun t267 => (telemeterlaw12_PolicyTells.j2 k2 l1 l2 a4 t251 t267)) else (telemeterlaw12_PolicyTells.j2 k2 l1 l2 a4 t251 false))) = some r := by first | (rw [hy257]; with_reducible exact H) | (have H2_ := (Option.bind_some _ _).symm.trans H; rw [hy257]; with_reducible exact H2_) | (have H2_ := (Option.bind_some _ _).symm.trans H; with_reducible exact H2_) | with_reducible exact H | (rw [hy257]; exact H) | exact H
                have Ny257 := Aside0.mk hy257
                clear hy257
                replace H := Option.bind_eq_some_iff.mp H
                obtain ⟨t260, A210, H⟩ := H
                replace H : (if t260 = true then ((telemeterlaw12_tells.f k2 (([(([(⟨a0_0, a0_1, a0_2, a0_3⟩ : S39)] : List (S39)))] : List (List (S39)))) t251 a4).bind fun t267 => (telemeterlaw12_PolicyTells.j2 k2 l1 l2 a4 t251 t267)) else (telemeterlaw12_PolicyTells.j2 k2 l1 l2 a4 t251 false)) = some r := H
                have A21 := Aside0.mk A210
                clear A210
                by_cases c22 : t260 = true
                · subst c22
                  have H1 : ((telemeterlaw12_tells.f k2 (([(([(⟨a0_0, a0_1, a0_2, a0_3⟩ : S39)] : List (S39)))] : List (List (S39)))) t251 a4).bind fun t267 => (telemeterlaw12_PolicyTells.j2 k2 l1 l2 a4 t251 t267)) = some r := by rw [if_pos rfl] at H; exact H
                  clear H
                  have H := H1
                  clear H1
                  obtain ⟨y261, hy261⟩ : ∃ y_ : List (S39), y_ = (([(⟨a0_0, a0_1, a0_2, a0_3⟩ : S39)] : List (S39))) := ⟨_, rfl⟩
                  replace H : ((telemeterlaw12_tells.f k2 (([y261] : List (List (S39)))) t251 a4).bind fun t267 => (telemeterlaw12_PolicyTells.j2 k2 l1 l2 a4 t251 t267)) = some r := by first | (rw [hy261]; with_reducible exact H) | (have H2_ := (Option.bind_some _ _).symm.trans H; rw [hy261]; with_reducible exact H2_) | (have H2_ := (Option.bind_some _ _).symm.trans H; with_reducible exact H2_) | with_reducible exact H | (rw [hy261]; exact H) | exact H
                  have Ny261 := Aside0.mk hy261
                  clear hy261
                  obtain ⟨y264, hy264⟩ : ∃ y_ : List (List (S39)), y_ = (([y261] : List (List (S39)))) := ⟨_, rfl⟩
                  replace H : ((telemeterlaw12_tells.f k2 y264 t251 a4).bind fun t267 => (telemeterlaw12_PolicyTells.j2 k2 l1 l2 a4 t251 t267)) = some r := by first | (rw [hy264]; with_reducible exact H) | (have H2_ := (Option.bind_some _ _).symm.trans H; rw [hy264]; with_reducible exact H2_) | (have H2_ := (Option.bind_some _ _).symm.trans H; with_reducible exact H2_) | with_reducible exact H | (rw [hy264]; exact H) | exact H
                  have Ny264 := Aside0.mk hy264
                  clear hy264
                  replace H := Option.bind_eq_some_iff.mp H
                  obtain ⟨t267, A230, H⟩ := H
                  replace H : (telemeterlaw12_PolicyTells.j2 k2 l1 l2 a4 t251 t267) = some r := H
                  have A23 := Aside0.mk A230
                  clear A230
                  have H' := Aside0.mk H
                  clear H
                  have hcz24_0 : w20.cell? ⟨gb247, 0, none⟩ = some (.int .u8 a0_0) := (blk_cell BK247.out 0).trans rfl
                  have hcz24_1 : w20.cell? ⟨gb247, 1, none⟩ = some (.int .i64 a0_1) := (blk_cell BK247.out 1).trans rfl
                  have hcz24_2 : w20.cell? ⟨gb247, 2, none⟩ = some (.string a0_2) := (blk_cell BK247.out 2).trans rfl
                  have hcz24_3 : w20.cell? ⟨gb247, 3, none⟩ = some (.string a0_3) := (blk_cell BK247.out 3).trans rfl
                  have hfz24_0 := blk_frozen BK247.out 0
                  have hfz24_1 := blk_frozen BK247.out 1
                  have hfz24_2 := blk_frozen BK247.out 2
                  have hfz24_3 := blk_frozen BK247.out 3
                  go_wp2_with (first | ((with_reducible refine gate_dst (N := 43) rfl ?_); (try (refine gate_guard (by rfl) ?_; dsimp only)); refine Kd.R_lit k39 _ 39 ?hg (N := 43) ?hd (xs := ([(⟨a0_0, a0_1, a0_2, a0_3⟩ : S39)] : List (S39))) (inner := [.int .u8 a0_0, .int .i64 a0_1, .string a0_2, .string a0_3]) (ok := fun _ => True) (okp := fun _ => True) ?hr ?hp (fun _ hk => hk) trivial (Below.refl _ _) (Nat.le_refl _) (by simp) ?_; (case hd => rfl); (case hg => rfl); (case hr => first | (go_simp; done) | (go_simp; rfl)); (case hp => exact (Reps.c4 (show Kd.M k39 _ _ _ (⟨a0_0, a0_1, a0_2, a0_3⟩ : S39) [.int .u8 a0_0, .int .i64 a0_1, .string a0_2, .string a0_3] from (k39_mkM _ _ _ (⟨a0_0, a0_1, a0_2, a0_3⟩ : S39) )) (Reps.none _ _))); intro v255 w25 ho26 hb hg_ hnew_; clear hg_ hnew_; (first | rw [← Ny254.out] at ho26 | (simp only [Int.reduceToNat] at ho26; rw [← Ny254.out] at ho26)); have n0_ := Aside0.mk (Kd.N_elder' (by (with_reducible repeat (first | apply Kd.N_alloc | apply Kd.N_drewN | apply Kd.N_drew)); exact HO253.out) (Kd.R_base ho26) hb); have n1_ := Aside0.mk (Kd.R_lower (Kd.R_newB ho26 (g := gb247) (o := .cells #[.int .u8 a0_0, .int .i64 a0_1, .string a0_2, .string a0_3] 39 (0, 0)) (by (with_reducible repeat (first | refine blk_drewN ?_ _ | refine blk_drew ?_ | refine blk_alloc ?_ _)); exact BK247.out)) (below_size (by repeat (first | (with_reducible first | exact HB.out | apply below_alloc | apply pw_below_drewN | apply below_drew1 | refine below_set ?_ GE247.out) | exact HB.out)))); have n2_ := Aside0.mk (blk_below (g := gb247) (o := .cells #[.int .u8 a0_0, .int .i64 a0_1, .string a0_2, .string a0_3] 39 (0, 0)) (by (with_reducible repeat (first | refine blk_drewN ?_ _ | refine blk_drew ?_ | refine blk_alloc ?_ _)); exact BK247.out) hb); have n3_ := Aside0.mk (below_step (by repeat (first | (with_reducible first | exact HB.out | apply below_alloc | apply pw_below_drewN | apply below_drew1 | refine below_set ?_ GE247.out) | exact HB.out)) hb); clear HO253; clear BK247; clear HB; have HO253 := n0_; have HO256 := n1_; have BK247 := n2_; have HB := n3_; clear n0_ n1_ n2_ n3_; clear hb ho26; obtain ⟨Ao27, co27, eo27⟩ := Kd.R_slice HO256.out; subst eo27) | ((with_reducible refine gate_dst (N := 44) rfl ?_); (try (refine gate_guard (by rfl) ?_; dsimp only)); refine Kd.N_lit (Kd.slice 39 k39) _ 30 ?hg (N' := 44) ?hd (xs := ([y254] : List (List (S39)))) (inner := [.slice Ao27 y254.length co27]) (ok := (fun k_ => some k_ ≠ (v252 : Value).ownBlock ∧ k_ ≠ gb247)) (okp := (fun k_ => some k_ ≠ (v252 : Value).ownBlock ∧ k_ ≠ gb247)) ?hr ?hp (fun _ hk => hk) ((show ∀ k_, w25.heap.size ≤ k_ → (fun k_ => some k_ ≠ (v252 : Value).ownBlock ∧ k_ ≠ gb247) k_ from fun k_ hk => ⟨Kd.fresh' (Kd.N_lt (by (with_reducible repeat (first | apply Kd.N_alloc | apply Kd.N_drewN | apply Kd.N_drew)); exact HO253.out)) k_ hk, Kd.freshB (g := gb247) (o := .cells #[.int .u8 a0_0, .int .i64 a0_1, .string a0_2, .string a0_3] 39 (0, 0)) (by (with_reducible repeat (first | refine blk_drewN ?_ _ | refine blk_drew ?_ | refine blk_alloc ?_ _)); exact BK247.out) k_ hk⟩) _ (Nat.le_refl _)) (Below.refl _ _) (Nat.le_refl _) (by simp) ?_; (case hd => rfl); (case hg => rfl); (case hr => first | (go_simp; done) | (go_simp; rfl)); (case hp => exact (Reps.one (show Kd.FK (Kd.slice 39 k39) _ _ y254 [.slice Ao27 y254.length co27] from (Kd.FK_slice_mk (Kd.R_reads' (Kd.R_mono (ok' := (fun k_ => some k_ ≠ (v252 : Value).ownBlock ∧ k_ ≠ gb247)) (Kd.R_apart' (HO256.out) (Kd.N_typed HO253.out) (by decide)) (fun k_ hk => ⟨hk.2, hk.1.2⟩))).2.1 (Kd.R_F (Kd.R_mono (ok' := (fun k_ => some k_ ≠ (v252 : Value).ownBlock ∧ k_ ≠ gb247)) (Kd.R_apart' (HO256.out) (Kd.N_typed HO253.out) (by decide)) (fun k_ hk => ⟨hk.2, hk.1.2⟩))))) (Reps.none _ _))); intro v258 w28 ho29 hb hg_ hnew_; clear hg_ hnew_; (first | rw [← Ny257.out] at ho29 | (simp only [Int.reduceToNat] at ho29; rw [← Ny257.out] at ho29)); have n0_ := Aside0.mk (Kd.N_elder' (by (with_reducible repeat (first | apply Kd.N_alloc | apply Kd.N_drewN | apply Kd.N_drew)); exact HO253.out) (Kd.N_base ho29) hb); have n1_ := Aside0.mk (Kd.N_lower ho29 (below_size (by repeat (first | (with_reducible first | exact HB.out | apply below_alloc | apply pw_below_drewN | apply below_drew1 | refine below_set ?_ GE247.out) | exact HB.out)))); have n2_ := Aside0.mk (blk_below (g := gb247) (o := .cells #[.int .u8 a0_0, .int .i64 a0_1, .string a0_2, .string a0_3] 39 (0, 0)) (by (with_reducible repeat (first | refine blk_drewN ?_ _ | refine blk_drew ?_ | refine blk_alloc ?_ _)); exact BK247.out) hb); have n3_ := Aside0.mk (below_step (by repeat (first | (with_reducible first | exact HB.out | apply below_alloc | apply pw_below_drewN | apply below_drew1 | refine below_set ?_ GE247.out) | exact HB.out)) hb); clear HO253; clear BK247; clear HB; clear HO256; have HO253 := n0_; have HO259 := n1_; have BK247 := n2_; have HB := n3_; clear n0_ n1_ n2_ n3_; clear hb ho29; obtain ⟨Ao30, co30, eo30⟩ := Kd.N_slice HO259.out; subst eo30) | ((with_reducible refine gate_callee (f := 17) rfl ?_); refine goesL_ (some 47) rfl rfl Try.func17 (by kernel_rfl) rfl #[.slice Ao30 y257.length co30, .slice A1 l1.length c1, .int .u64 a4] rfl (by (try simp only [List.map_toArray, List.map_cons, List.map_nil]); first | done | rfl | (simp only [List.length_drop, List.length_take]; rfl)) ?_; (with_reducible refine (telemeterlaw12_tells.calls k2 _ _ y257 _ _ l1 a4 true _ ?side1 ?side2 ?side3 ?side4 A21.out).mono ?_); (case side1 => repeat (first | exact (Kd.N_reads' HO259.out).2.2 | (with_reducible refine Kd.C_alloc ?_ _) | (with_reducible refine Kd.C_drewN ?_ _) | (with_reducible refine Kd.C_drew ?_))); (case side2 => exact (Kd.N_reads' HO259.out).2.1); (case side3 => repeat (first | exact (Kd.C_below HR1.out HB.out) | (with_reducible refine Kd.C_alloc ?_ _) | (with_reducible refine Kd.C_drewN ?_ _) | (with_reducible refine Kd.C_drew ?_))); (case side4 => exact HC1.out); rintro e w31 ⟨rfl, hb⟩; refine ⟨_, rfl, ?_⟩; have n0_ := Aside0.mk (Kd.N_below (by (with_reducible repeat (first | apply Kd.N_alloc | apply Kd.N_drewN | apply Kd.N_drew)); exact HO253.out) hb); have n1_ := Aside0.mk (Kd.N_below (by (with_reducible repeat (first | apply Kd.N_alloc | apply Kd.N_drewN | apply Kd.N_drew)); exact HO259.out) hb); have n2_ := Aside0.mk (blk_below (g := gb247) (o := .cells #[.int .u8 a0_0, .int .i64 a0_1, .string a0_2, .string a0_3] 39 (0, 0)) (by (with_reducible repeat (first | refine blk_drewN ?_ _ | refine blk_drew ?_ | refine blk_alloc ?_ _)); exact BK247.out) hb); have n3_ := Aside0.mk (below_step (by repeat (first | (with_reducible first | exact HB.out | apply below_alloc | apply pw_below_drewN | apply below_drew1 | refine below_set ?_ GE247.out) | exact HB.out)) hb); clear HO253; clear HO259; clear BK247; clear HB; have HO253 := n0_; have HO259 := n1_; have BK247 := n2_; have HB := n3_; clear n0_ n1_ n2_ n3_; (try clear hb); (try clear hb2); (try clear hk); (try clear hi); have hcz32_0 : w31.cell? ⟨gb247, 0, none⟩ = some (.int .u8 a0_0) := (blk_cell BK247.out 0).trans rfl; have hcz32_1 : w31.cell? ⟨gb247, 1, none⟩ = some (.int .i64 a0_1) := (blk_cell BK247.out 1).trans rfl; have hcz32_2 : w31.cell? ⟨gb247, 2, none⟩ = some (.string a0_2) := (blk_cell BK247.out 2).trans rfl; have hcz32_3 : w31.cell? ⟨gb247, 3, none⟩ = some (.string a0_3) := (blk_cell BK247.out 3).trans rfl; have hfz32_0 := blk_frozen BK247.out 0; have hfz32_1 := blk_frozen BK247.out 1; have hfz32_2 := blk_frozen BK247.out 2; have hfz32_3 := blk_frozen BK247.out 3) | ((with_reducible refine gate_dst (N := 50) rfl ?_); (try (refine gate_guard (by rfl) ?_; dsimp only)); refine Kd.R_lit k39 _ 39 ?hg (N := 50) ?hd (xs := ([(⟨a0_0, a0_1, a0_2, a0_3⟩ : S39)] : List (S39))) (inner := [.int .u8 a0_0, .int .i64 a0_1, .string a0_2, .string a0_3]) (ok := fun _ => True) (okp := fun _ => True) ?hr ?hp (fun _ hk => hk) trivial (Below.refl _ _) (Nat.le_refl _) (by simp) ?_; (case hd => rfl); (case hg => rfl); (case hr => first | (go_simp; done) | (go_simp; rfl)); (case hp => exact (Reps.c4 (show Kd.M k39 _ _ _ (⟨a0_0, a0_1, a0_2, a0_3⟩ : S39) [.int .u8 a0_0, .int .i64 a0_1, .string a0_2, .string a0_3] from (k39_mkM _ _ _ (⟨a0_0, a0_1, a0_2, a0_3⟩ : S39) )) (Reps.none _ _))); intro v262 w33 ho34 hb hg_ hnew_; clear hg_ hnew_; (first | rw [← Ny261.out] at ho34 | (simp only [Int.reduceToNat] at ho34; rw [← Ny261.out] at ho34)); have n0_ := Aside0.mk (Kd.N_elder' (by (with_reducible repeat (first | apply Kd.N_alloc | apply Kd.N_drewN | apply Kd.N_drew)); exact HO253.out) (Kd.R_base ho34) hb); have n1_ := Aside0.mk (Kd.N_elder' (by (with_reducible repeat (first | apply Kd.N_alloc | apply Kd.N_drewN | apply Kd.N_drew)); exact HO259.out) (Kd.R_base ho34) hb); have n2_ := Aside0.mk (Kd.R_lower (Kd.R_newB ho34 (g := gb247) (o := .cells #[.int .u8 a0_0, .int .i64 a0_1, .string a0_2, .string a0_3] 39 (0, 0)) (by (with_reducible repeat (first | refine blk_drewN ?_ _ | refine blk_drew ?_ | refine blk_alloc ?_ _)); exact BK247.out)) (below_size (by repeat (first | (with_reducible first | exact HB.out | apply below_alloc | apply pw_below_drewN | apply below_drew1 | refine below_set ?_ GE247.out) | exact HB.out)))); have n3_ := Aside0.mk (blk_below (g := gb247) (o := .cells #[.int .u8 a0_0, .int .i64 a0_1, .string a0_2, .string a0_3] 39 (0, 0)) (by (with_reducible repeat (first | refine blk_drewN ?_ _ | refine blk_drew ?_ | refine blk_alloc ?_ _)); exact BK247.out) hb); have n4_ := Aside0.mk (below_step (by repeat (first | (with_reducible first | exact HB.out | apply below_alloc | apply pw_below_drewN | apply below_drew1 | refine below_set ?_ GE247.out) | exact HB.out)) hb); clear HO253; clear HO259; clear BK247; clear HB; have HO253 := n0_; have HO259 := n1_; have HO263 := n2_; have BK247 := n3_; have HB := n4_; clear n0_ n1_ n2_ n3_ n4_; clear hb ho34; obtain ⟨Ao35, co35, eo35⟩ := Kd.R_slice HO263.out; subst eo35) | ((with_reducible refine gate_dst (N := 51) rfl ?_); (try (refine gate_guard (by rfl) ?_; dsimp only)); refine Kd.N_lit (Kd.slice 39 k39) _ 30 ?hg (N' := 51) ?hd (xs := ([y261] : List (List (S39)))) (inner := [.slice Ao35 y261.length co35]) (ok := (fun k_ => some k_ ≠ (v252 : Value).ownBlock ∧ some k_ ≠ (.slice Ao30 y257.length co30 : Value).ownBlock ∧ k_ ≠ gb247)) (okp := (fun k_ => some k_ ≠ (v252 : Value).ownBlock ∧ some k_ ≠ (.slice Ao30 y257.length co30 : Value).ownBlock ∧ k_ ≠ gb247)) ?hr ?hp (fun _ hk => hk) ((show ∀ k_, w33.heap.size ≤ k_ → (fun k_ => some k_ ≠ (v252 : Value).ownBlock ∧ some k_ ≠ (.slice Ao30 y257.length co30 : Value).ownBlock ∧ k_ ≠ gb247) k_ from fun k_ hk => ⟨Kd.fresh' (Kd.N_lt (by (with_reducible repeat (first | apply Kd.N_alloc | apply Kd.N_drewN | apply Kd.N_drew)); exact HO253.out)) k_ hk, Kd.fresh' (Kd.N_lt (by (with_reducible repeat (first | apply Kd.N_alloc | apply Kd.N_drewN | apply Kd.N_drew)); exact HO259.out)) k_ hk, Kd.freshB (g := gb247) (o := .cells #[.int .u8 a0_0, .int .i64 a0_1, .string a0_2, .string a0_3] 39 (0, 0)) (by (with_reducible repeat (first | refine blk_drewN ?_ _ | refine blk_drew ?_ | refine blk_alloc ?_ _)); exact BK247.out) k_ hk⟩) _ (Nat.le_refl _)) (Below.refl _ _) (Nat.le_refl _) (by simp) ?_; (case hd => rfl); (case hg => rfl); (case hr => first | (go_simp; done) | (go_simp; rfl)); (case hp => exact (Reps.one (show Kd.FK (Kd.slice 39 k39) _ _ y261 [.slice Ao35 y261.length co35] from (Kd.FK_slice_mk (Kd.R_reads' (Kd.R_mono (ok' := (fun k_ => some k_ ≠ (v252 : Value).ownBlock ∧ some k_ ≠ (.slice Ao30 y257.length co30 : Value).ownBlock ∧ k_ ≠ gb247)) (Kd.R_apart' (Kd.R_apart' (HO263.out) (Kd.N_typed HO253.out) (by decide)) (Kd.N_typed HO259.out) (by decide)) (fun k_ hk => ⟨hk.1.2, ⟨hk.2, hk.1.1.2⟩⟩))).2.1 (Kd.R_F (Kd.R_mono (ok' := (fun k_ => some k_ ≠ (v252 : Value).ownBlock ∧ some k_ ≠ (.slice Ao30 y257.length co30 : Value).ownBlock ∧ k_ ≠ gb247)) (Kd.R_apart' (Kd.R_apart' (HO263.out) (Kd.N_typed HO253.out) (by decide)) (Kd.N_typed HO259.out) (by decide)) (fun k_ hk => ⟨hk.1.2, ⟨hk.2, hk.1.1.2⟩⟩))))) (Reps.none _ _))); intro v265 w36 ho37 hb hg_ hnew_; clear hg_ hnew_; (first | rw [← Ny264.out] at ho37 | (simp only [Int.reduceToNat] at ho37; rw [← Ny264.out] at ho37)); have n0_ := Aside0.mk (Kd.N_elder' (by (with_reducible repeat (first | apply Kd.N_alloc | apply Kd.N_drewN | apply Kd.N_drew)); exact HO253.out) (Kd.N_base ho37) hb); have n1_ := Aside0.mk (Kd.N_elder' (by (with_reducible repeat (first | apply Kd.N_alloc | apply Kd.N_drewN | apply Kd.N_drew)); exact HO259.out) (Kd.N_base ho37) hb); have n2_ := Aside0.mk (Kd.N_lower ho37 (below_size (by repeat (first | (with_reducible first | exact HB.out | apply below_alloc | apply pw_below_drewN | apply below_drew1 | refine below_set ?_ GE247.out) | exact HB.out)))); have n3_ := Aside0.mk (blk_below (g := gb247) (o := .cells #[.int .u8 a0_0, .int .i64 a0_1, .string a0_2, .string a0_3] 39 (0, 0)) (by (with_reducible repeat (first | refine blk_drewN ?_ _ | refine blk_drew ?_ | refine blk_alloc ?_ _)); exact BK247.out) hb); have n4_ := Aside0.mk (below_step (by repeat (first | (with_reducible first | exact HB.out | apply below_alloc | apply pw_below_drewN | apply below_drew1 | refine below_set ?_ GE247.out) | exact HB.out)) hb); clear HO253; clear HO259; clear BK247; clear HB; clear HO263; have HO253 := n0_; have HO259 := n1_; have HO266 := n2_; have BK247 := n3_; have HB := n4_; clear n0_ n1_ n2_ n3_ n4_; clear hb ho37; obtain ⟨Ao38, co38, eo38⟩ := Kd.N_slice HO266.out; subst eo38; obtain ⟨Ao39, co39, eo39⟩ := Kd.N_slice HO253.out; subst eo39) | (go_at_call 17; (with_reducible refine (telemeterlaw12_tells.calls k2 _ _ y264 _ _ t251 a4 t267 _ ?side1 ?side2 ?side3 ?side4 A23.out).mono ?_); (case side1 => repeat (first | exact (Kd.N_reads' HO266.out).2.2 | (with_reducible refine Kd.C_alloc ?_ _) | (with_reducible refine Kd.C_drewN ?_ _) | (with_reducible refine Kd.C_drew ?_))); (case side2 => exact (Kd.N_reads' HO266.out).2.1); (case side3 => repeat (first | exact (Kd.N_reads' HO253.out).2.2 | (with_reducible refine Kd.C_alloc ?_ _) | (with_reducible refine Kd.C_drewN ?_ _) | (with_reducible refine Kd.C_drew ?_))); (case side4 => exact (Kd.N_reads' HO253.out).2.1); rintro e w40 ⟨rfl, hb⟩; have n0_ := Aside0.mk (Kd.N_below (by (with_reducible repeat (first | apply Kd.N_alloc | apply Kd.N_drewN | apply Kd.N_drew)); exact HO253.out) hb); have n1_ := Aside0.mk (Kd.N_below (by (with_reducible repeat (first | apply Kd.N_alloc | apply Kd.N_drewN | apply Kd.N_drew)); exact HO259.out) hb); have n2_ := Aside0.mk (Kd.N_below (by (with_reducible repeat (first | apply Kd.N_alloc | apply Kd.N_drewN | apply Kd.N_drew)); exact HO266.out) hb); have n3_ := Aside0.mk (blk_below (g := gb247) (o := .cells #[.int .u8 a0_0, .int .i64 a0_1, .string a0_2, .string a0_3] 39 (0, 0)) (by (with_reducible repeat (first | refine blk_drewN ?_ _ | refine blk_drew ?_ | refine blk_alloc ?_ _)); exact BK247.out) hb); have n4_ := Aside0.mk (below_step (by repeat (first | (with_reducible first | exact HB.out | apply below_alloc | apply pw_below_drewN | apply below_drew1 | refine below_set ?_ GE247.out) | exact HB.out)) hb); clear HO253; clear HO259; clear HO266; clear BK247; clear HB; have HO253 := n0_; have HO259 := n1_; have HO266 := n2_; have BK247 := n3_; have HB := n4_; clear n0_ n1_ n2_ n3_ n4_; (try clear hb); (try clear hb2); (try clear hk); (try clear hi)))
                  go_meet
                  case rel => exact ⟨_, (t267), (by first | rfl | (simp; done) | (simp [*]; done)), H', ⟨by have := HJ5.out; have := HK2.out; first | omega | exact Nat.le_refl _⟩, ⟨by (with_reducible repeat (first | apply Kd.N_alloc | apply Kd.N_drewN | apply Kd.N_drew)); exact Kd.N_mono HO253.out (fun _ hk => hk.1.1.1.1)⟩, ⟨by (with_reducible repeat (first | refine blk_drewN ?_ _ | refine blk_drew ?_ | refine blk_alloc ?_ _)); exact BK247.out⟩, ⟨by repeat (first | (with_reducible first | exact HB.out | apply below_alloc | apply pw_below_drewN | apply below_drew1 | refine below_set ?_ GE247.out) | exact HB.out)⟩⟩
                · replace c22 := Bool.eq_false_iff.mpr c22
                  subst c22
                  have H1 : (telemeterlaw12_PolicyTells.j2 k2 l1 l2 a4 t251 false) = some r := by rw [if_neg (show ¬ (false = true) by decide)] at H; exact H
                  clear H
                  have H := H1
                  clear H1
                  have H' := Aside0.mk H
                  clear H
                  have hcz41_0 : w20.cell? ⟨gb247, 0, none⟩ = some (.int .u8 a0_0) := (blk_cell BK247.out 0).trans rfl
                  have hcz41_1 : w20.cell? ⟨gb247, 1, none⟩ = some (.int .i64 a0_1) := (blk_cell BK247.out 1).trans rfl
                  have hcz41_2 : w20.cell? ⟨gb247, 2, none⟩ = some (.string a0_2) := (blk_cell BK247.out 2).trans rfl
                  have hcz41_3 : w20.cell? ⟨gb247, 3, none⟩ = some (.string a0_3) := (blk_cell BK247.out 3).trans rfl
                  have hfz41_0 := blk_frozen BK247.out 0
                  have hfz41_1 := blk_frozen BK247.out 1
                  have hfz41_2 := blk_frozen BK247.out 2
                  have hfz41_3 := blk_frozen BK247.out 3
                  go_wp2_with (first | ((with_reducible refine gate_dst (N := 43) rfl ?_); (try (refine gate_guard (by rfl) ?_; dsimp only)); refine Kd.R_lit k39 _ 39 ?hg (N := 43) ?hd (xs := ([(⟨a0_0, a0_1, a0_2, a0_3⟩ : S39)] : List (S39))) (inner := [.int .u8 a0_0, .int .i64 a0_1, .string a0_2, .string a0_3]) (ok := fun _ => True) (okp := fun _ => True) ?hr ?hp (fun _ hk => hk) trivial (Below.refl _ _) (Nat.le_refl _) (by simp) ?_; (case hd => rfl); (case hg => rfl); (case hr => first | (go_simp; done) | (go_simp; rfl)); (case hp => exact (Reps.c4 (show Kd.M k39 _ _ _ (⟨a0_0, a0_1, a0_2, a0_3⟩ : S39) [.int .u8 a0_0, .int .i64 a0_1, .string a0_2, .string a0_3] from (k39_mkM _ _ _ (⟨a0_0, a0_1, a0_2, a0_3⟩ : S39) )) (Reps.none _ _))); intro v255 w42 ho43 hb hg_ hnew_; clear hg_ hnew_; (first | rw [← Ny254.out] at ho43 | (simp only [Int.reduceToNat] at ho43; rw [← Ny254.out] at ho43)); have n0_ := Aside0.mk (Kd.N_elder' (by (with_reducible repeat (first | apply Kd.N_alloc | apply Kd.N_drewN | apply Kd.N_drew)); exact HO253.out) (Kd.R_base ho43) hb); have n1_ := Aside0.mk (Kd.R_lower (Kd.R_newB ho43 (g := gb247) (o := .cells #[.int .u8 a0_0, .int .i64 a0_1, .string a0_2, .string a0_3] 39 (0, 0)) (by (with_reducible repeat (first | refine blk_drewN ?_ _ | refine blk_drew ?_ | refine blk_alloc ?_ _)); exact BK247.out)) (below_size (by repeat (first | (with_reducible first | exact HB.out | apply below_alloc | apply pw_below_drewN | apply below_drew1 | refine below_set ?_ GE247.out) | exact HB.out)))); have n2_ := Aside0.mk (blk_below (g := gb247) (o := .cells #[.int .u8 a0_0, .int .i64 a0_1, .string a0_2, .string a0_3] 39 (0, 0)) (by (with_reducible repeat (first | refine blk_drewN ?_ _ | refine blk_drew ?_ | refine blk_alloc ?_ _)); exact BK247.out) hb); have n3_ := Aside0.mk (below_step (by repeat (first | (with_reducible first | exact HB.out | apply below_alloc | apply pw_below_drewN | apply below_drew1 | refine below_set ?_ GE247.out) | exact HB.out)) hb); clear HO253; clear BK247; clear HB; have HO253 := n0_; have HO256 := n1_; have BK247 := n2_; have HB := n3_; clear n0_ n1_ n2_ n3_; clear hb ho43; obtain ⟨Ao44, co44, eo44⟩ := Kd.R_slice HO256.out; subst eo44) | ((with_reducible refine gate_dst (N := 44) rfl ?_); (try (refine gate_guard (by rfl) ?_; dsimp only)); refine Kd.N_lit (Kd.slice 39 k39) _ 30 ?hg (N' := 44) ?hd (xs := ([y254] : List (List (S39)))) (inner := [.slice Ao44 y254.length co44]) (ok := (fun k_ => some k_ ≠ (v252 : Value).ownBlock ∧ k_ ≠ gb247)) (okp := (fun k_ => some k_ ≠ (v252 : Value).ownBlock ∧ k_ ≠ gb247)) ?hr ?hp (fun _ hk => hk) ((show ∀ k_, w42.heap.size ≤ k_ → (fun k_ => some k_ ≠ (v252 : Value).ownBlock ∧ k_ ≠ gb247) k_ from fun k_ hk => ⟨Kd.fresh' (Kd.N_lt (by (with_reducible repeat (first | apply Kd.N_alloc | apply Kd.N_drewN | apply Kd.N_drew)); exact HO253.out)) k_ hk, Kd.freshB (g := gb247) (o := .cells #[.int .u8 a0_0, .int .i64 a0_1, .string a0_2, .string a0_3] 39 (0, 0)) (by (with_reducible repeat (first | refine blk_drewN ?_ _ | refine blk_drew ?_ | refine blk_alloc ?_ _)); exact BK247.out) k_ hk⟩) _ (Nat.le_refl _)) (Below.refl _ _) (Nat.le_refl _) (by simp) ?_; (case hd => rfl); (case hg => rfl); (case hr => first | (go_simp; done) | (go_simp; rfl)); (case hp => exact (Reps.one (show Kd.FK (Kd.slice 39 k39) _ _ y254 [.slice Ao44 y254.length co44] from (Kd.FK_slice_mk (Kd.R_reads' (Kd.R_mono (ok' := (fun k_ => some k_ ≠ (v252 : Value).ownBlock ∧ k_ ≠ gb247)) (Kd.R_apart' (HO256.out) (Kd.N_typed HO253.out) (by decide)) (fun k_ hk => ⟨hk.2, hk.1.2⟩))).2.1 (Kd.R_F (Kd.R_mono (ok' := (fun k_ => some k_ ≠ (v252 : Value).ownBlock ∧ k_ ≠ gb247)) (Kd.R_apart' (HO256.out) (Kd.N_typed HO253.out) (by decide)) (fun k_ hk => ⟨hk.2, hk.1.2⟩))))) (Reps.none _ _))); intro v258 w45 ho46 hb hg_ hnew_; clear hg_ hnew_; (first | rw [← Ny257.out] at ho46 | (simp only [Int.reduceToNat] at ho46; rw [← Ny257.out] at ho46)); have n0_ := Aside0.mk (Kd.N_elder' (by (with_reducible repeat (first | apply Kd.N_alloc | apply Kd.N_drewN | apply Kd.N_drew)); exact HO253.out) (Kd.N_base ho46) hb); have n1_ := Aside0.mk (Kd.N_lower ho46 (below_size (by repeat (first | (with_reducible first | exact HB.out | apply below_alloc | apply pw_below_drewN | apply below_drew1 | refine below_set ?_ GE247.out) | exact HB.out)))); have n2_ := Aside0.mk (blk_below (g := gb247) (o := .cells #[.int .u8 a0_0, .int .i64 a0_1, .string a0_2, .string a0_3] 39 (0, 0)) (by (with_reducible repeat (first | refine blk_drewN ?_ _ | refine blk_drew ?_ | refine blk_alloc ?_ _)); exact BK247.out) hb); have n3_ := Aside0.mk (below_step (by repeat (first | (with_reducible first | exact HB.out | apply below_alloc | apply pw_below_drewN | apply below_drew1 | refine below_set ?_ GE247.out) | exact HB.out)) hb); clear HO253; clear BK247; clear HB; clear HO256; have HO253 := n0_; have HO259 := n1_; have BK247 := n2_; have HB := n3_; clear n0_ n1_ n2_ n3_; clear hb ho46; obtain ⟨Ao47, co47, eo47⟩ := Kd.N_slice HO259.out; subst eo47) | ((with_reducible refine gate_callee (f := 17) rfl ?_); refine goesL_ (some 47) rfl rfl Try.func17 (by kernel_rfl) rfl #[.slice Ao47 y257.length co47, .slice A1 l1.length c1, .int .u64 a4] rfl (by (try simp only [List.map_toArray, List.map_cons, List.map_nil]); first | done | rfl | (simp only [List.length_drop, List.length_take]; rfl)) ?_; (with_reducible refine (telemeterlaw12_tells.calls k2 _ _ y257 _ _ l1 a4 false _ ?side1 ?side2 ?side3 ?side4 A21.out).mono ?_); (case side1 => repeat (first | exact (Kd.N_reads' HO259.out).2.2 | (with_reducible refine Kd.C_alloc ?_ _) | (with_reducible refine Kd.C_drewN ?_ _) | (with_reducible refine Kd.C_drew ?_))); (case side2 => exact (Kd.N_reads' HO259.out).2.1); (case side3 => repeat (first | exact (Kd.C_below HR1.out HB.out) | (with_reducible refine Kd.C_alloc ?_ _) | (with_reducible refine Kd.C_drewN ?_ _) | (with_reducible refine Kd.C_drew ?_))); (case side4 => exact HC1.out); rintro e w48 ⟨rfl, hb⟩; refine ⟨_, rfl, ?_⟩; have n0_ := Aside0.mk (Kd.N_below (by (with_reducible repeat (first | apply Kd.N_alloc | apply Kd.N_drewN | apply Kd.N_drew)); exact HO253.out) hb); have n1_ := Aside0.mk (Kd.N_below (by (with_reducible repeat (first | apply Kd.N_alloc | apply Kd.N_drewN | apply Kd.N_drew)); exact HO259.out) hb); have n2_ := Aside0.mk (blk_below (g := gb247) (o := .cells #[.int .u8 a0_0, .int .i64 a0_1, .string a0_2, .string a0_3] 39 (0, 0)) (by (with_reducible repeat (first | refine blk_drewN ?_ _ | refine blk_drew ?_ | refine blk_alloc ?_ _)); exact BK247.out) hb); have n3_ := Aside0.mk (below_step (by repeat (first | (with_reducible first | exact HB.out | apply below_alloc | apply pw_below_drewN | apply below_drew1 | refine below_set ?_ GE247.out) | exact HB.out)) hb); clear HO253; clear HO259; clear BK247; clear HB; have HO253 := n0_; have HO259 := n1_; have BK247 := n2_; have HB := n3_; clear n0_ n1_ n2_ n3_; (try clear hb); (try clear hb2); (try clear hk); (try clear hi)))
                  go_meet
                  case rel => exact ⟨_, (false), (by first | rfl | (simp; done) | (simp [*]; done)), H', ⟨by have := HJ5.out; have := HK2.out; first | omega | exact Nat.le_refl _⟩, ⟨by (with_reducible repeat (first | apply Kd.N_alloc | apply Kd.N_drewN | apply Kd.N_drew)); exact Kd.N_mono HO253.out (fun _ hk => hk.1.1)⟩, ⟨by (with_reducible repeat (first | refine blk_drewN ?_ _ | refine blk_drew ?_ | refine blk_alloc ?_ _)); exact BK247.out⟩, ⟨by repeat (first | (with_reducible first | exact HB.out | apply below_alloc | apply pw_below_drewN | apply below_drew1 | refine below_set ?_ GE247.out) | exact HB.out)⟩⟩
              case rest =>
                clear HC19
                try clear c1
                try clear c2
                try clear p2
                try clear q2
                try clear hx2
                try clear c3
                try clear c4
                try clear c6
                try clear p6
                try clear c8
                try clear c8b0
                try clear c8b1
                try clear c9
                try clear c9b0
                try clear c9b1
                try clear c10
                try clear c11
                try clear c12
                try clear c15
                try clear c15b0
                try clear c16
                try clear c16b0
                try clear c17
                try clear c17b0
                try clear c17b1
                try clear c22
                try clear c25
                try clear p25
                try clear q25
                try clear hx25
                try clear hcz24_0
                try clear hcz24_1
                try clear hcz24_2
                try clear hcz24_3
                try clear hcz32_0
                try clear hcz32_1
                try clear hcz32_2
                try clear hcz32_3
                try clear hcz41_0
                try clear hcz41_1
                try clear hcz41_2
                try clear hcz41_3
                try clear hfz24_0
                try clear hfz24_1
                try clear hfz24_2
                try clear hfz24_3
                try clear hfz32_0
                try clear hfz32_1
                try clear hfz32_2
                try clear hfz32_3
                try clear hfz41_0
                try clear hfz41_1
                try clear hfz41_2
                try clear hfz41_3
                try clear hx250_0
                try clear hx250_1
                try clear hx250_2
                try clear hx250_3
                try clear hx250_4
                try clear hx250_5
                try clear hx250_6
                try clear hx250_7
                try clear hx250_8
                try clear hx250_9
                try clear p2
                try clear p250
                try clear q250
                obtain ⟨kq, x13_18, rfl, HA, HJ18, HO_12, BK247, HB⟩ := hcut
                cases kq with
                | zero => exact absurd HA.out (by simp [telemeterlaw12_PolicyTells.j2])
                | succ kj18 =>
                  have H := HA.out
                  clear HA
                  simp only [telemeterlaw12_PolicyTells.j2] at H
                  by_cases c49 : x13_18 = true
                  · subst c49
                    have H1 : ((telemeterlaw12_Rules.f kj18 l2).bind fun t268 => ((telemeterlaw12_tells.f kj18 t268 t251 a4).bind fun t271 => (if t271 = true then ((telemeterlaw12_Rules.f kj18 l2).bind fun t272 => ((telemeterlaw12_tells.f kj18 t272 t251 (Int.tmod a4 72057594037927936)).bind fun t275 => (if t275 = true then ((telemeterlaw12_Rules.f kj18 l2).bind fun t276 => ((telemeterlaw12_tells.f kj18 t276 l1 a4).bind fun t279 => (some t279))) else (some false)))) else (some false)))) = some r := by rw [if_pos rfl] at H; exact H
                    clear H
                    have H := H1
                    clear H1
                    replace H := Option.bind_eq_some_iff.mp H
                    obtain ⟨t268, A500, H⟩ := H
                    replace H : ((telemeterlaw12_tells.f kj18 t268 t251 a4).bind fun t271 => (if t271 = true then ((telemeterlaw12_Rules.f kj18 l2).bind fun t272 => ((telemeterlaw12_tells.f kj18 t272 t251 (Int.tmod a4 72057594037927936)).bind fun t275 => (if t275 = true then ((telemeterlaw12_Rules.f kj18 l2).bind fun t276 => ((telemeterlaw12_tells.f kj18 t276 l1 a4).bind fun t279 => (some t279))) else (some false)))) else (some false))) = some r := H
                    have A50 := Aside0.mk A500
                    clear A500
                    replace H := Option.bind_eq_some_iff.mp H
                    obtain ⟨t271, A510, H⟩ := H
                    replace H : (if t271 = true then ((telemeterlaw12_Rules.f kj18 l2).bind fun t272 => ((telemeterlaw12_tells.f kj18 t272 t251 (Int.tmod a4 72057594037927936)).bind fun t275 => (if t275 = true then ((telemeterlaw12_Rules.f kj18 l2).bind fun t276 => ((telemeterlaw12_tells.f kj18 t276 l1 a4).bind fun t279 => (some t279))) else (some false)))) else (some false)) = some r := H
                    have A51 := Aside0.mk A510
                    clear A510
                    by_cases c52 : t271 = true
                    · subst c52
                      have H1 : ((telemeterlaw12_Rules.f kj18 l2).bind fun t272 => ((telemeterlaw12_tells.f kj18 t272 t251 (Int.tmod a4 72057594037927936)).bind fun t275 => (if t275 = true then ((telemeterlaw12_Rules.f kj18 l2).bind fun t276 => ((telemeterlaw12_tells.f kj18 t276 l1 a4).bind fun t279 => (some t279))) else (some false)))) = some r := by rw [if_pos rfl] at H; exact H
                      clear H
                      have H := H1
                      clear H1
                      replace H := Option.bind_eq_some_iff.mp H
                      obtain ⟨t272, A530, H⟩ := H
                      replace H : ((telemeterlaw12_tells.f kj18 t272 t251 (Int.tmod a4 72057594037927936)).bind fun t275 => (if t275 = true then ((telemeterlaw12_Rules.f kj18 l2).bind fun t276 => ((telemeterlaw12_tells.f kj18 t276 l1 a4).bind fun t279 => (some t279))) else (some false))) = some r := H
                      have A53 := Aside0.mk A530
                      clear A530
                      replace H := Option.bind_eq_some_iff.mp H
                      obtain ⟨t275, A540, H⟩ := H
                      replace H : (if t275 = true then ((telemeterlaw12_Rules.f kj18 l2).bind fun t276 => ((telemeterlaw12_tells.f kj18 t276 l1 a4).bind fun t279 => (some t279))) else (some false)) = some r := H
                      have A54 := Aside0.mk A540
                      clear A540
                      by_cases c55 : t275 = true
                      · subst c55
                        have H1 : ((telemeterlaw12_Rules.f kj18 l2).bind fun t276 => ((telemeterlaw12_tells.f kj18 t276 l1 a4).bind fun t279 => (some t279))) = some r := by rw [if_pos rfl] at H; exact H
                        clear H
                        have H := H1
                        clear H1
                        replace H := Option.bind_eq_some_iff.mp H
                        obtain ⟨t276, A560, H⟩ := H
                        replace H : ((telemeterlaw12_tells.f kj18 t276 l1 a4).bind fun t279 => (some t279)) = some r := H
                        have A56 := Aside0.mk A560
                        clear A560
                        replace H := Option.bind_eq_some_iff.mp H
                        obtain ⟨t279, A570, H⟩ := H
                        replace H : (some t279) = some r := H
                        have A57 := Aside0.mk A570
                        clear A570
                        obtain rfl := Option.some.inj H
                        go_wp2_with (first | (go_at_call 9; (fail_if_success (have hq_ := HM_t268; skip)); (with_reducible refine (telemeterlaw12_Rules.calls kj18 _ _ l2 t268 _ ?side1 ?side2 A50.out).mono ?_); (case side1 => repeat (first | exact (Kd.C_below HR2.out HB.out) | (with_reducible refine Kd.C_alloc ?_ _) | (with_reducible refine Kd.C_drewN ?_ _) | (with_reducible refine Kd.C_drew ?_))); (case side2 => exact HC2.out); rintro e w58 ⟨v269, rfl, ho0, hb⟩; have HM_t268 : True := trivial; have n0_ := Aside0.mk (Kd.N_elder' (by (with_reducible repeat (first | apply Kd.N_alloc | apply Kd.N_drewN | apply Kd.N_drew)); exact HO_12.out) (Kd.S_base ho0) hb); have n1_ := Aside0.mk (Kd.N_lower (Kd.N_mono (ok' := fun k_ => some k_ ≠ (v252 : Value).ownBlock ∧ k_ ≠ gb247) (Kd.S_N (Kd.S_bound ho0)) (fun k_ hk_ => ⟨(Kd.fresh' (Kd.N_lt (by (with_reducible repeat (first | apply Kd.N_alloc | apply Kd.N_drewN | apply Kd.N_drew)); exact HO_12.out)) k_ hk_.2.1), (Kd.freshB (g := gb247) (o := .cells #[.int .u8 a0_0, .int .i64 a0_1, .string a0_2, .string a0_3] 39 (0, 0)) (by (with_reducible repeat (first | refine blk_drewN ?_ _ | refine blk_drew ?_ | refine blk_alloc ?_ _)); exact BK247.out) k_ hk_.2.1)⟩)) (below_size (by repeat (first | (with_reducible first | exact HB.out | apply below_alloc | apply pw_below_drewN | apply below_drew1 | refine below_set ?_ GE247.out) | exact HB.out)))); have n2_ := Aside0.mk (blk_below (g := gb247) (o := .cells #[.int .u8 a0_0, .int .i64 a0_1, .string a0_2, .string a0_3] 39 (0, 0)) (by (with_reducible repeat (first | refine blk_drewN ?_ _ | refine blk_drew ?_ | refine blk_alloc ?_ _)); exact BK247.out) hb); have n3_ := Aside0.mk (below_step (by repeat (first | (with_reducible first | exact HB.out | apply below_alloc | apply pw_below_drewN | apply below_drew1 | refine below_set ?_ GE247.out) | exact HB.out)) hb); clear HO_12; clear BK247; clear HB; have HO_12 := n0_; have HO270 := n1_; have BK247 := n2_; have HB := n3_; clear n0_ n1_ n2_ n3_; (try clear hb); (try clear hb2); (try clear hk); (try clear hi); (try clear ho0); obtain ⟨Ao59, co59, eo59⟩ := Kd.N_slice HO270.out; subst eo59; obtain ⟨Ao60, co60, eo60⟩ := Kd.N_slice HO_12.out; subst eo60) | (go_at_call 17; (with_reducible refine (telemeterlaw12_tells.calls kj18 _ _ t268 _ _ t251 a4 true _ ?side1 ?side2 ?side3 ?side4 A51.out).mono ?_); (case side1 => repeat (first | exact (Kd.N_reads' HO270.out).2.2 | (with_reducible refine Kd.C_alloc ?_ _) | (with_reducible refine Kd.C_drewN ?_ _) | (with_reducible refine Kd.C_drew ?_))); (case side2 => exact (Kd.N_reads' HO270.out).2.1); (case side3 => repeat (first | exact (Kd.N_reads' HO_12.out).2.2 | (with_reducible refine Kd.C_alloc ?_ _) | (with_reducible refine Kd.C_drewN ?_ _) | (with_reducible refine Kd.C_drew ?_))); (case side4 => exact (Kd.N_reads' HO_12.out).2.1); rintro e w61 ⟨rfl, hb⟩; have n0_ := Aside0.mk (Kd.N_below (by (with_reducible repeat (first | apply Kd.N_alloc | apply Kd.N_drewN | apply Kd.N_drew)); exact HO_12.out) hb); have n1_ := Aside0.mk (Kd.N_below (by (with_reducible repeat (first | apply Kd.N_alloc | apply Kd.N_drewN | apply Kd.N_drew)); exact HO270.out) hb); have n2_ := Aside0.mk (blk_below (g := gb247) (o := .cells #[.int .u8 a0_0, .int .i64 a0_1, .string a0_2, .string a0_3] 39 (0, 0)) (by (with_reducible repeat (first | refine blk_drewN ?_ _ | refine blk_drew ?_ | refine blk_alloc ?_ _)); exact BK247.out) hb); have n3_ := Aside0.mk (below_step (by repeat (first | (with_reducible first | exact HB.out | apply below_alloc | apply pw_below_drewN | apply below_drew1 | refine below_set ?_ GE247.out) | exact HB.out)) hb); clear HO_12; clear HO270; clear BK247; clear HB; have HO_12 := n0_; have HO270 := n1_; have BK247 := n2_; have HB := n3_; clear n0_ n1_ n2_ n3_; (try clear hb); (try clear hb2); (try clear hk); (try clear hi)) | (go_at_call 9; (fail_if_success (have hq_ := HM_t272; skip)); (with_reducible refine (telemeterlaw12_Rules.calls kj18 _ _ l2 t272 _ ?side1 ?side2 A53.out).mono ?_); (case side1 => repeat (first | exact (Kd.C_below HR2.out HB.out) | (with_reducible refine Kd.C_alloc ?_ _) | (with_reducible refine Kd.C_drewN ?_ _) | (with_reducible refine Kd.C_drew ?_))); (case side2 => exact HC2.out); rintro e w62 ⟨v273, rfl, ho0, hb⟩; have HM_t272 : True := trivial; have n0_ := Aside0.mk (Kd.N_elder' (by (with_reducible repeat (first | apply Kd.N_alloc | apply Kd.N_drewN | apply Kd.N_drew)); exact HO_12.out) (Kd.S_base ho0) hb); have n1_ := Aside0.mk (Kd.N_elder' (by (with_reducible repeat (first | apply Kd.N_alloc | apply Kd.N_drewN | apply Kd.N_drew)); exact HO270.out) (Kd.S_base ho0) hb); have n2_ := Aside0.mk (Kd.N_lower (Kd.N_mono (ok' := fun k_ => some k_ ≠ (.slice Ao60 t251.length co60 : Value).ownBlock ∧ some k_ ≠ (.slice Ao59 t268.length co59 : Value).ownBlock ∧ k_ ≠ gb247) (Kd.S_N (Kd.S_bound ho0)) (fun k_ hk_ => ⟨(Kd.fresh' (Kd.N_lt (by (with_reducible repeat (first | apply Kd.N_alloc | apply Kd.N_drewN | apply Kd.N_drew)); exact HO_12.out)) k_ hk_.2.1), (Kd.fresh' (Kd.N_lt (by (with_reducible repeat (first | apply Kd.N_alloc | apply Kd.N_drewN | apply Kd.N_drew)); exact HO270.out)) k_ hk_.2.1), (Kd.freshB (g := gb247) (o := .cells #[.int .u8 a0_0, .int .i64 a0_1, .string a0_2, .string a0_3] 39 (0, 0)) (by (with_reducible repeat (first | refine blk_drewN ?_ _ | refine blk_drew ?_ | refine blk_alloc ?_ _)); exact BK247.out) k_ hk_.2.1)⟩)) (below_size (by repeat (first | (with_reducible first | exact HB.out | apply below_alloc | apply pw_below_drewN | apply below_drew1 | refine below_set ?_ GE247.out) | exact HB.out)))); have n3_ := Aside0.mk (blk_below (g := gb247) (o := .cells #[.int .u8 a0_0, .int .i64 a0_1, .string a0_2, .string a0_3] 39 (0, 0)) (by (with_reducible repeat (first | refine blk_drewN ?_ _ | refine blk_drew ?_ | refine blk_alloc ?_ _)); exact BK247.out) hb); have n4_ := Aside0.mk (below_step (by repeat (first | (with_reducible first | exact HB.out | apply below_alloc | apply pw_below_drewN | apply below_drew1 | refine below_set ?_ GE247.out) | exact HB.out)) hb); clear HO_12; clear HO270; clear BK247; clear HB; have HO_12 := n0_; have HO270 := n1_; have HO274 := n2_; have BK247 := n3_; have HB := n4_; clear n0_ n1_ n2_ n3_ n4_; (try clear hb); (try clear hb2); (try clear hk); (try clear hi); (try clear ho0); obtain ⟨Ao63, co63, eo63⟩ := Kd.N_slice HO274.out; subst eo63) | (go_at_call 17; (with_reducible refine (telemeterlaw12_tells.calls kj18 _ _ t272 _ _ t251 (Int.tmod a4 72057594037927936) true _ ?side1 ?side2 ?side3 ?side4 A54.out).mono ?_); (case side1 => repeat (first | exact (Kd.N_reads' HO274.out).2.2 | (with_reducible refine Kd.C_alloc ?_ _) | (with_reducible refine Kd.C_drewN ?_ _) | (with_reducible refine Kd.C_drew ?_))); (case side2 => exact (Kd.N_reads' HO274.out).2.1); (case side3 => repeat (first | exact (Kd.N_reads' HO_12.out).2.2 | (with_reducible refine Kd.C_alloc ?_ _) | (with_reducible refine Kd.C_drewN ?_ _) | (with_reducible refine Kd.C_drew ?_))); (case side4 => exact (Kd.N_reads' HO_12.out).2.1); rintro e w64 ⟨rfl, hb⟩; have n0_ := Aside0.mk (Kd.N_below (by (with_reducible repeat (first | apply Kd.N_alloc | apply Kd.N_drewN | apply Kd.N_drew)); exact HO_12.out) hb); have n1_ := Aside0.mk (Kd.N_below (by (with_reducible repeat (first | apply Kd.N_alloc | apply Kd.N_drewN | apply Kd.N_drew)); exact HO270.out) hb); have n2_ := Aside0.mk (Kd.N_below (by (with_reducible repeat (first | apply Kd.N_alloc | apply Kd.N_drewN | apply Kd.N_drew)); exact HO274.out) hb); have n3_ := Aside0.mk (blk_below (g := gb247) (o := .cells #[.int .u8 a0_0, .int .i64 a0_1, .string a0_2, .string a0_3] 39 (0, 0)) (by (with_reducible repeat (first | refine blk_drewN ?_ _ | refine blk_drew ?_ | refine blk_alloc ?_ _)); exact BK247.out) hb); have n4_ := Aside0.mk (below_step (by repeat (first | (with_reducible first | exact HB.out | apply below_alloc | apply pw_below_drewN | apply below_drew1 | refine below_set ?_ GE247.out) | exact HB.out)) hb); clear HO_12; clear HO270; clear HO274; clear BK247; clear HB; have HO_12 := n0_; have HO270 := n1_; have HO274 := n2_; have BK247 := n3_; have HB := n4_; clear n0_ n1_ n2_ n3_ n4_; (try clear hb); (try clear hb2); (try clear hk); (try clear hi)) | (go_at_call 9; (fail_if_success (have hq_ := HM_t276; skip)); (with_reducible refine (telemeterlaw12_Rules.calls kj18 _ _ l2 t276 _ ?side1 ?side2 A56.out).mono ?_); (case side1 => repeat (first | exact (Kd.C_below HR2.out HB.out) | (with_reducible refine Kd.C_alloc ?_ _) | (with_reducible refine Kd.C_drewN ?_ _) | (with_reducible refine Kd.C_drew ?_))); (case side2 => exact HC2.out); rintro e w65 ⟨v277, rfl, ho0, hb⟩; have HM_t276 : True := trivial; have n0_ := Aside0.mk (Kd.N_elder' (by (with_reducible repeat (first | apply Kd.N_alloc | apply Kd.N_drewN | apply Kd.N_drew)); exact HO_12.out) (Kd.S_base ho0) hb); have n1_ := Aside0.mk (Kd.N_elder' (by (with_reducible repeat (first | apply Kd.N_alloc | apply Kd.N_drewN | apply Kd.N_drew)); exact HO270.out) (Kd.S_base ho0) hb); have n2_ := Aside0.mk (Kd.N_elder' (by (with_reducible repeat (first | apply Kd.N_alloc | apply Kd.N_drewN | apply Kd.N_drew)); exact HO274.out) (Kd.S_base ho0) hb); have n3_ := Aside0.mk (Kd.N_lower (Kd.N_mono (ok' := fun k_ => some k_ ≠ (.slice Ao60 t251.length co60 : Value).ownBlock ∧ some k_ ≠ (.slice Ao59 t268.length co59 : Value).ownBlock ∧ some k_ ≠ (.slice Ao63 t272.length co63 : Value).ownBlock ∧ k_ ≠ gb247) (Kd.S_N (Kd.S_bound ho0)) (fun k_ hk_ => ⟨(Kd.fresh' (Kd.N_lt (by (with_reducible repeat (first | apply Kd.N_alloc | apply Kd.N_drewN | apply Kd.N_drew)); exact HO_12.out)) k_ hk_.2.1), (Kd.fresh' (Kd.N_lt (by (with_reducible repeat (first | apply Kd.N_alloc | apply Kd.N_drewN | apply Kd.N_drew)); exact HO270.out)) k_ hk_.2.1), (Kd.fresh' (Kd.N_lt (by (with_reducible repeat (first | apply Kd.N_alloc | apply Kd.N_drewN | apply Kd.N_drew)); exact HO274.out)) k_ hk_.2.1), (Kd.freshB (g := gb247) (o := .cells #[.int .u8 a0_0, .int .i64 a0_1, .string a0_2, .string a0_3] 39 (0, 0)) (by (with_reducible repeat (first | refine blk_drewN ?_ _ | refine blk_drew ?_ | refine blk_alloc ?_ _)); exact BK247.out) k_ hk_.2.1)⟩)) (below_size (by repeat (first | (with_reducible first | exact HB.out | apply below_alloc | apply pw_below_drewN | apply below_drew1 | refine below_set ?_ GE247.out) | exact HB.out)))); have n4_ := Aside0.mk (blk_below (g := gb247) (o := .cells #[.int .u8 a0_0, .int .i64 a0_1, .string a0_2, .string a0_3] 39 (0, 0)) (by (with_reducible repeat (first | refine blk_drewN ?_ _ | refine blk_drew ?_ | refine blk_alloc ?_ _)); exact BK247.out) hb); have n5_ := Aside0.mk (below_step (by repeat (first | (with_reducible first | exact HB.out | apply below_alloc | apply pw_below_drewN | apply below_drew1 | refine below_set ?_ GE247.out) | exact HB.out)) hb); clear HO_12; clear HO270; clear HO274; clear BK247; clear HB; have HO_12 := n0_; have HO270 := n1_; have HO274 := n2_; have HO278 := n3_; have BK247 := n4_; have HB := n5_; clear n0_ n1_ n2_ n3_ n4_ n5_; (try clear hb); (try clear hb2); (try clear hk); (try clear hi); (try clear ho0); obtain ⟨Ao66, co66, eo66⟩ := Kd.N_slice HO278.out; subst eo66) | (go_at_call 17; (with_reducible refine (telemeterlaw12_tells.calls kj18 _ _ t276 _ _ l1 a4 t279 _ ?side1 ?side2 ?side3 ?side4 A57.out).mono ?_); (case side1 => repeat (first | exact (Kd.N_reads' HO278.out).2.2 | (with_reducible refine Kd.C_alloc ?_ _) | (with_reducible refine Kd.C_drewN ?_ _) | (with_reducible refine Kd.C_drew ?_))); (case side2 => exact (Kd.N_reads' HO278.out).2.1); (case side3 => repeat (first | exact (Kd.C_below HR1.out HB.out) | (with_reducible refine Kd.C_alloc ?_ _) | (with_reducible refine Kd.C_drewN ?_ _) | (with_reducible refine Kd.C_drew ?_))); (case side4 => exact HC1.out); rintro e w67 ⟨rfl, hb⟩; have n0_ := Aside0.mk (Kd.N_below (by (with_reducible repeat (first | apply Kd.N_alloc | apply Kd.N_drewN | apply Kd.N_drew)); exact HO_12.out) hb); have n1_ := Aside0.mk (Kd.N_below (by (with_reducible repeat (first | apply Kd.N_alloc | apply Kd.N_drewN | apply Kd.N_drew)); exact HO270.out) hb); have n2_ := Aside0.mk (Kd.N_below (by (with_reducible repeat (first | apply Kd.N_alloc | apply Kd.N_drewN | apply Kd.N_drew)); exact HO274.out) hb); have n3_ := Aside0.mk (Kd.N_below (by (with_reducible repeat (first | apply Kd.N_alloc | apply Kd.N_drewN | apply Kd.N_drew)); exact HO278.out) hb); have n4_ := Aside0.mk (blk_below (g := gb247) (o := .cells #[.int .u8 a0_0, .int .i64 a0_1, .string a0_2, .string a0_3] 39 (0, 0)) (by (with_reducible repeat (first | refine blk_drewN ?_ _ | refine blk_drew ?_ | refine blk_alloc ?_ _)); exact BK247.out) hb); have n5_ := Aside0.mk (below_step (by repeat (first | (with_reducible first | exact HB.out | apply below_alloc | apply pw_below_drewN | apply below_drew1 | refine below_set ?_ GE247.out) | exact HB.out)) hb); clear HO_12; clear HO270; clear HO274; clear HO278; clear BK247; clear HB; have HO_12 := n0_; have HO270 := n1_; have HO274 := n2_; have HO278 := n3_; have BK247 := n4_; have HB := n5_; clear n0_ n1_ n2_ n3_ n4_ n5_; (try clear hb); (try clear hb2); (try clear hk); (try clear hi)))
                        go_ret
                        exact ⟨by first | rfl | (simp [errW_none, errW_some] <;> rfl) | (simp [*, errW_none, errW_some] <;> rfl), by repeat (first | (with_reducible first | exact HB.out | apply below_alloc | apply pw_below_drewN | apply below_drew1 | refine below_set ?_ GE247.out) | exact HB.out)⟩
                      · replace c55 := Bool.eq_false_iff.mpr c55
                        subst c55
                        have H1 : (some false) = some r := by rw [if_neg (show ¬ (false = true) by decide)] at H; exact H
                        clear H
                        have H := H1
                        clear H1
                        obtain rfl := Option.some.inj H
                        go_wp2_with (first | (go_at_call 9; (fail_if_success (have hq_ := HM_t268; skip)); (with_reducible refine (telemeterlaw12_Rules.calls kj18 _ _ l2 t268 _ ?side1 ?side2 A50.out).mono ?_); (case side1 => repeat (first | exact (Kd.C_below HR2.out HB.out) | (with_reducible refine Kd.C_alloc ?_ _) | (with_reducible refine Kd.C_drewN ?_ _) | (with_reducible refine Kd.C_drew ?_))); (case side2 => exact HC2.out); rintro e w68 ⟨v269, rfl, ho0, hb⟩; have HM_t268 : True := trivial; have n0_ := Aside0.mk (Kd.N_elder' (by (with_reducible repeat (first | apply Kd.N_alloc | apply Kd.N_drewN | apply Kd.N_drew)); exact HO_12.out) (Kd.S_base ho0) hb); have n1_ := Aside0.mk (Kd.N_lower (Kd.N_mono (ok' := fun k_ => some k_ ≠ (v252 : Value).ownBlock ∧ k_ ≠ gb247) (Kd.S_N (Kd.S_bound ho0)) (fun k_ hk_ => ⟨(Kd.fresh' (Kd.N_lt (by (with_reducible repeat (first | apply Kd.N_alloc | apply Kd.N_drewN | apply Kd.N_drew)); exact HO_12.out)) k_ hk_.2.1), (Kd.freshB (g := gb247) (o := .cells #[.int .u8 a0_0, .int .i64 a0_1, .string a0_2, .string a0_3] 39 (0, 0)) (by (with_reducible repeat (first | refine blk_drewN ?_ _ | refine blk_drew ?_ | refine blk_alloc ?_ _)); exact BK247.out) k_ hk_.2.1)⟩)) (below_size (by repeat (first | (with_reducible first | exact HB.out | apply below_alloc | apply pw_below_drewN | apply below_drew1 | refine below_set ?_ GE247.out) | exact HB.out)))); have n2_ := Aside0.mk (blk_below (g := gb247) (o := .cells #[.int .u8 a0_0, .int .i64 a0_1, .string a0_2, .string a0_3] 39 (0, 0)) (by (with_reducible repeat (first | refine blk_drewN ?_ _ | refine blk_drew ?_ | refine blk_alloc ?_ _)); exact BK247.out) hb); have n3_ := Aside0.mk (below_step (by repeat (first | (with_reducible first | exact HB.out | apply below_alloc | apply pw_below_drewN | apply below_drew1 | refine below_set ?_ GE247.out) | exact HB.out)) hb); clear HO_12; clear BK247; clear HB; have HO_12 := n0_; have HO270 := n1_; have BK247 := n2_; have HB := n3_; clear n0_ n1_ n2_ n3_; (try clear hb); (try clear hb2); (try clear hk); (try clear hi); (try clear ho0); obtain ⟨Ao69, co69, eo69⟩ := Kd.N_slice HO270.out; subst eo69; obtain ⟨Ao70, co70, eo70⟩ := Kd.N_slice HO_12.out; subst eo70) | (go_at_call 17; (with_reducible refine (telemeterlaw12_tells.calls kj18 _ _ t268 _ _ t251 a4 true _ ?side1 ?side2 ?side3 ?side4 A51.out).mono ?_); (case side1 => repeat (first | exact (Kd.N_reads' HO270.out).2.2 | (with_reducible refine Kd.C_alloc ?_ _) | (with_reducible refine Kd.C_drewN ?_ _) | (with_reducible refine Kd.C_drew ?_))); (case side2 => exact (Kd.N_reads' HO270.out).2.1); (case side3 => repeat (first | exact (Kd.N_reads' HO_12.out).2.2 | (with_reducible refine Kd.C_alloc ?_ _) | (with_reducible refine Kd.C_drewN ?_ _) | (with_reducible refine Kd.C_drew ?_))); (case side4 => exact (Kd.N_reads' HO_12.out).2.1); rintro e w71 ⟨rfl, hb⟩; have n0_ := Aside0.mk (Kd.N_below (by (with_reducible repeat (first | apply Kd.N_alloc | apply Kd.N_drewN | apply Kd.N_drew)); exact HO_12.out) hb); have n1_ := Aside0.mk (Kd.N_below (by (with_reducible repeat (first | apply Kd.N_alloc | apply Kd.N_drewN | apply Kd.N_drew)); exact HO270.out) hb); have n2_ := Aside0.mk (blk_below (g := gb247) (o := .cells #[.int .u8 a0_0, .int .i64 a0_1, .string a0_2, .string a0_3] 39 (0, 0)) (by (with_reducible repeat (first | refine blk_drewN ?_ _ | refine blk_drew ?_ | refine blk_alloc ?_ _)); exact BK247.out) hb); have n3_ := Aside0.mk (below_step (by repeat (first | (with_reducible first | exact HB.out | apply below_alloc | apply pw_below_drewN | apply below_drew1 | refine below_set ?_ GE247.out) | exact HB.out)) hb); clear HO_12; clear HO270; clear BK247; clear HB; have HO_12 := n0_; have HO270 := n1_; have BK247 := n2_; have HB := n3_; clear n0_ n1_ n2_ n3_; (try clear hb); (try clear hb2); (try clear hk); (try clear hi)) | (go_at_call 9; (fail_if_success (have hq_ := HM_t272; skip)); (with_reducible refine (telemeterlaw12_Rules.calls kj18 _ _ l2 t272 _ ?side1 ?side2 A53.out).mono ?_); (case side1 => repeat (first | exact (Kd.C_below HR2.out HB.out) | (with_reducible refine Kd.C_alloc ?_ _) | (with_reducible refine Kd.C_drewN ?_ _) | (with_reducible refine Kd.C_drew ?_))); (case side2 => exact HC2.out); rintro e w72 ⟨v273, rfl, ho0, hb⟩; have HM_t272 : True := trivial; have n0_ := Aside0.mk (Kd.N_elder' (by (with_reducible repeat (first | apply Kd.N_alloc | apply Kd.N_drewN | apply Kd.N_drew)); exact HO_12.out) (Kd.S_base ho0) hb); have n1_ := Aside0.mk (Kd.N_elder' (by (with_reducible repeat (first | apply Kd.N_alloc | apply Kd.N_drewN | apply Kd.N_drew)); exact HO270.out) (Kd.S_base ho0) hb); have n2_ := Aside0.mk (Kd.N_lower (Kd.N_mono (ok' := fun k_ => some k_ ≠ (.slice Ao70 t251.length co70 : Value).ownBlock ∧ some k_ ≠ (.slice Ao69 t268.length co69 : Value).ownBlock ∧ k_ ≠ gb247) (Kd.S_N (Kd.S_bound ho0)) (fun k_ hk_ => ⟨(Kd.fresh' (Kd.N_lt (by (with_reducible repeat (first | apply Kd.N_alloc | apply Kd.N_drewN | apply Kd.N_drew)); exact HO_12.out)) k_ hk_.2.1), (Kd.fresh' (Kd.N_lt (by (with_reducible repeat (first | apply Kd.N_alloc | apply Kd.N_drewN | apply Kd.N_drew)); exact HO270.out)) k_ hk_.2.1), (Kd.freshB (g := gb247) (o := .cells #[.int .u8 a0_0, .int .i64 a0_1, .string a0_2, .string a0_3] 39 (0, 0)) (by (with_reducible repeat (first | refine blk_drewN ?_ _ | refine blk_drew ?_ | refine blk_alloc ?_ _)); exact BK247.out) k_ hk_.2.1)⟩)) (below_size (by repeat (first | (with_reducible first | exact HB.out | apply below_alloc | apply pw_below_drewN | apply below_drew1 | refine below_set ?_ GE247.out) | exact HB.out)))); have n3_ := Aside0.mk (blk_below (g := gb247) (o := .cells #[.int .u8 a0_0, .int .i64 a0_1, .string a0_2, .string a0_3] 39 (0, 0)) (by (with_reducible repeat (first | refine blk_drewN ?_ _ | refine blk_drew ?_ | refine blk_alloc ?_ _)); exact BK247.out) hb); have n4_ := Aside0.mk (below_step (by repeat (first | (with_reducible first | exact HB.out | apply below_alloc | apply pw_below_drewN | apply below_drew1 | refine below_set ?_ GE247.out) | exact HB.out)) hb); clear HO_12; clear HO270; clear BK247; clear HB; have HO_12 := n0_; have HO270 := n1_; have HO274 := n2_; have BK247 := n3_; have HB := n4_; clear n0_ n1_ n2_ n3_ n4_; (try clear hb); (try clear hb2); (try clear hk); (try clear hi); (try clear ho0); obtain ⟨Ao73, co73, eo73⟩ := Kd.N_slice HO274.out; subst eo73) | (go_at_call 17; (with_reducible refine (telemeterlaw12_tells.calls kj18 _ _ t272 _ _ t251 (Int.tmod a4 72057594037927936) false _ ?side1 ?side2 ?side3 ?side4 A54.out).mono ?_); (case side1 => repeat (first | exact (Kd.N_reads' HO274.out).2.2 | (with_reducible refine Kd.C_alloc ?_ _) | (with_reducible refine Kd.C_drewN ?_ _) | (with_reducible refine Kd.C_drew ?_))); (case side2 => exact (Kd.N_reads' HO274.out).2.1); (case side3 => repeat (first | exact (Kd.N_reads' HO_12.out).2.2 | (with_reducible refine Kd.C_alloc ?_ _) | (with_reducible refine Kd.C_drewN ?_ _) | (with_reducible refine Kd.C_drew ?_))); (case side4 => exact (Kd.N_reads' HO_12.out).2.1); rintro e w74 ⟨rfl, hb⟩; have n0_ := Aside0.mk (Kd.N_below (by (with_reducible repeat (first | apply Kd.N_alloc | apply Kd.N_drewN | apply Kd.N_drew)); exact HO_12.out) hb); have n1_ := Aside0.mk (Kd.N_below (by (with_reducible repeat (first | apply Kd.N_alloc | apply Kd.N_drewN | apply Kd.N_drew)); exact HO270.out) hb); have n2_ := Aside0.mk (Kd.N_below (by (with_reducible repeat (first | apply Kd.N_alloc | apply Kd.N_drewN | apply Kd.N_drew)); exact HO274.out) hb); have n3_ := Aside0.mk (blk_below (g := gb247) (o := .cells #[.int .u8 a0_0, .int .i64 a0_1, .string a0_2, .string a0_3] 39 (0, 0)) (by (with_reducible repeat (first | refine blk_drewN ?_ _ | refine blk_drew ?_ | refine blk_alloc ?_ _)); exact BK247.out) hb); have n4_ := Aside0.mk (below_step (by repeat (first | (with_reducible first | exact HB.out | apply below_alloc | apply pw_below_drewN | apply below_drew1 | refine below_set ?_ GE247.out) | exact HB.out)) hb); clear HO_12; clear HO270; clear HO274; clear BK247; clear HB; have HO_12 := n0_; have HO270 := n1_; have HO274 := n2_; have BK247 := n3_; have HB := n4_; clear n0_ n1_ n2_ n3_ n4_; (try clear hb); (try clear hb2); (try clear hk); (try clear hi)))
                        go_ret
                        exact ⟨by first | rfl | (simp [errW_none, errW_some] <;> rfl) | (simp [*, errW_none, errW_some] <;> rfl), by repeat (first | (with_reducible first | exact HB.out | apply below_alloc | apply pw_below_drewN | apply below_drew1 | refine below_set ?_ GE247.out) | exact HB.out)⟩
                    · replace c52 := Bool.eq_false_iff.mpr c52
                      subst c52
                      have H1 : (some false) = some r := by rw [if_neg (show ¬ (false = true) by decide)] at H; exact H
                      clear H
                      have H := H1
                      clear H1
                      obtain rfl := Option.some.inj H
                      go_wp2_with (first | (go_at_call 9; (with_reducible refine (telemeterlaw12_Rules.calls kj18 _ _ l2 t268 _ ?side1 ?side2 A50.out).mono ?_); (case side1 => repeat (first | exact (Kd.C_below HR2.out HB.out) | (with_reducible refine Kd.C_alloc ?_ _) | (with_reducible refine Kd.C_drewN ?_ _) | (with_reducible refine Kd.C_drew ?_))); (case side2 => exact HC2.out); rintro e w75 ⟨v269, rfl, ho0, hb⟩; have n0_ := Aside0.mk (Kd.N_elder' (by (with_reducible repeat (first | apply Kd.N_alloc | apply Kd.N_drewN | apply Kd.N_drew)); exact HO_12.out) (Kd.S_base ho0) hb); have n1_ := Aside0.mk (Kd.N_lower (Kd.N_mono (ok' := fun k_ => some k_ ≠ (v252 : Value).ownBlock ∧ k_ ≠ gb247) (Kd.S_N (Kd.S_bound ho0)) (fun k_ hk_ => ⟨(Kd.fresh' (Kd.N_lt (by (with_reducible repeat (first | apply Kd.N_alloc | apply Kd.N_drewN | apply Kd.N_drew)); exact HO_12.out)) k_ hk_.2.1), (Kd.freshB (g := gb247) (o := .cells #[.int .u8 a0_0, .int .i64 a0_1, .string a0_2, .string a0_3] 39 (0, 0)) (by (with_reducible repeat (first | refine blk_drewN ?_ _ | refine blk_drew ?_ | refine blk_alloc ?_ _)); exact BK247.out) k_ hk_.2.1)⟩)) (below_size (by repeat (first | (with_reducible first | exact HB.out | apply below_alloc | apply pw_below_drewN | apply below_drew1 | refine below_set ?_ GE247.out) | exact HB.out)))); have n2_ := Aside0.mk (blk_below (g := gb247) (o := .cells #[.int .u8 a0_0, .int .i64 a0_1, .string a0_2, .string a0_3] 39 (0, 0)) (by (with_reducible repeat (first | refine blk_drewN ?_ _ | refine blk_drew ?_ | refine blk_alloc ?_ _)); exact BK247.out) hb); have n3_ := Aside0.mk (below_step (by repeat (first | (with_reducible first | exact HB.out | apply below_alloc | apply pw_below_drewN | apply below_drew1 | refine below_set ?_ GE247.out) | exact HB.out)) hb); clear HO_12; clear BK247; clear HB; have HO_12 := n0_; have HO270 := n1_; have BK247 := n2_; have HB := n3_; clear n0_ n1_ n2_ n3_; (try clear hb); (try clear hb2); (try clear hk); (try clear hi); (try clear ho0); obtain ⟨Ao76, co76, eo76⟩ := Kd.N_slice HO270.out; subst eo76; obtain ⟨Ao77, co77, eo77⟩ := Kd.N_slice HO_12.out; subst eo77) | (go_at_call 17; (with_reducible refine (telemeterlaw12_tells.calls kj18 _ _ t268 _ _ t251 a4 false _ ?side1 ?side2 ?side3 ?side4 A51.out).mono ?_); (case side1 => repeat (first | exact (Kd.N_reads' HO270.out).2.2 | (with_reducible refine Kd.C_alloc ?_ _) | (with_reducible refine Kd.C_drewN ?_ _) | (with_reducible refine Kd.C_drew ?_))); (case side2 => exact (Kd.N_reads' HO270.out).2.1); (case side3 => repeat (first | exact (Kd.N_reads' HO_12.out).2.2 | (with_reducible refine Kd.C_alloc ?_ _) | (with_reducible refine Kd.C_drewN ?_ _) | (with_reducible refine Kd.C_drew ?_))); (case side4 => exact (Kd.N_reads' HO_12.out).2.1); rintro e w78 ⟨rfl, hb⟩; have n0_ := Aside0.mk (Kd.N_below (by (with_reducible repeat (first | apply Kd.N_alloc | apply Kd.N_drewN | apply Kd.N_drew)); exact HO_12.out) hb); have n1_ := Aside0.mk (Kd.N_below (by (with_reducible repeat (first | apply Kd.N_alloc | apply Kd.N_drewN | apply Kd.N_drew)); exact HO270.out) hb); have n2_ := Aside0.mk (blk_below (g := gb247) (o := .cells #[.int .u8 a0_0, .int .i64 a0_1, .string a0_2, .string a0_3] 39 (0, 0)) (by (with_reducible repeat (first | refine blk_drewN ?_ _ | refine blk_drew ?_ | refine blk_alloc ?_ _)); exact BK247.out) hb); have n3_ := Aside0.mk (below_step (by repeat (first | (with_reducible first | exact HB.out | apply below_alloc | apply pw_below_drewN | apply below_drew1 | refine below_set ?_ GE247.out) | exact HB.out)) hb); clear HO_12; clear HO270; clear BK247; clear HB; have HO_12 := n0_; have HO270 := n1_; have BK247 := n2_; have HB := n3_; clear n0_ n1_ n2_ n3_; (try clear hb); (try clear hb2); (try clear hk); (try clear hi)))
                      go_ret
                      exact ⟨by first | rfl | (simp [errW_none, errW_some] <;> rfl) | (simp [*, errW_none, errW_some] <;> rfl), by repeat (first | (with_reducible first | exact HB.out | apply below_alloc | apply pw_below_drewN | apply below_drew1 | refine below_set ?_ GE247.out) | exact HB.out)⟩
                  · replace c49 := Bool.eq_false_iff.mpr c49
                    subst c49
                    have H1 : (some false) = some r := by rw [if_neg (show ¬ (false = true) by decide)] at H; exact H
                    clear H
                    have H := H1
                    clear H1
                    obtain rfl := Option.some.inj H
                    go_wp2
                    go_ret
                    exact ⟨by first | rfl | (simp [errW_none, errW_some] <;> rfl) | (simp [*, errW_none, errW_some] <;> rfl), by repeat (first | (with_reducible first | exact HB.out | apply below_alloc | apply pw_below_drewN | apply below_drew1 | refine below_set ?_ GE247.out) | exact HB.out)⟩

end Go.Proofs.Ytbjoleelfihikaa.Px
