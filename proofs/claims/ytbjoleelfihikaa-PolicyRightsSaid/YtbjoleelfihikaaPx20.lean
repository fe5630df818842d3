-- Laid by a program of this session (wip/xprint.py: the kit's print.py, with functions given by hand). Lean checks it.
import Derived.Test.YtbjoleelfihikaaPx0
namespace Go.Proofs.Ytbjoleelfihikaa.Px
open Go.RowKit Go.Proofs.YtbjoleelfihikaaW.PrintWords Go.Proofs.YtbjoleelfihikaaW.PrintLast Go.Proofs.YtbjoleelfihikaaW.PrintMore
attribute [local go_sem] max2_int min2_int max_two min_two max_three min_three max_four min_four   -- for this text's walks alone
set_option linter.unusedVariables false
set_option linter.unusedSimpArgs false

/-! ### telemeterref12_right: function 27 -/
def telemeterref12_right.j0 : Nat → Bool → Int → Int → ByteArray → ByteArray → Option (Bool)
  | 0, _, _, _, _, _ => none
  | k + 1, x40, x201000, x201001, x201002, x201003 => if x40 = true then (some false) else (if x201000 = 3 then (if (x201002.size : Int) ≥ 1 then (if (x201002.size : Int) ≤ 60 then (some (decide ((x201003.size : Int) ≤ 60))) else (some false)) else (some false)) else (if x201002.toList = ([] : List UInt8) then (some (x201003.toList == ([] : List UInt8))) else (some false)))
def telemeterref12_right.f (k : Nat) (a0_0 : Int) (a0_1 : Int) (a0_2 : ByteArray) (a0_3 : ByteArray) : Option (Bool) := if a0_0 < 1 then (telemeterref12_right.j0 k true a0_0 a0_1 a0_2 a0_3) else (if a0_0 > 5 then (telemeterref12_right.j0 k true a0_0 a0_1 a0_2 a0_3) else (if a0_1 < 0 then (telemeterref12_right.j0 k true a0_0 a0_1 a0_2 a0_3) else (if a0_0 = 5 then (if a0_1 > 72057594037927936 then (telemeterref12_right.j0 k true a0_0 a0_1 a0_2 a0_3) else (if a0_0 = 2 then (telemeterref12_right.j0 k (a0_1 != 0) a0_0 a0_1 a0_2 a0_3) else (if a0_0 = 3 then (telemeterref12_right.j0 k (a0_1 != 0) a0_0 a0_1 a0_2 a0_3) else (telemeterref12_right.j0 k false a0_0 a0_1 a0_2 a0_3)))) else (if a0_0 = 2 then (telemeterref12_right.j0 k (a0_1 != 0) a0_0 a0_1 a0_2 a0_3) else (if a0_0 = 3 then (telemeterref12_right.j0 k (a0_1 != 0) a0_0 a0_1 a0_2 a0_3) else (telemeterref12_right.j0 k false a0_0 a0_1 a0_2 a0_3))))))
theorem telemeterref12_right.mono_l : ∀ k, (∀ y0 y1 y2 y3 y4, LeO (telemeterref12_right.j0 k y0 y1 y2 y3 y4) (telemeterref12_right.j0 (k + 1) y0 y1 y2 y3 y4))
  | 0 => fun _ _ _ _ _ r h => by simp [telemeterref12_right.j0] at h
  | k + 1 => by
    have ih0 := telemeterref12_right.mono_l k
    · intro y0 y1 y2 y3 y4
      unfold telemeterref12_right.j0
      repeat' first
      | (with_reducible exact ih0 _ _ _ _ _)
      | (with_reducible exact LeO.refl _)
      | (with_reducible exact LeO.none _)
      | (with_reducible refine LeO.ite ?_ ?_)
      | (with_reducible refine LeO.bind ?_ (fun _ => ?_))
      | exact ih0 _ _ _ _ _
      | exact LeO.none _
      | refine LeO.ite ?_ ?_
      | refine LeO.bind ?_ (fun _ => ?_)
theorem telemeterref12_right.mono : ∀ a0 a1 a2 a3 k, LeO (telemeterref12_right.f k a0 a1 a2 a3) (telemeterref12_right.f (k + 1) a0 a1 a2 a3) := by
  intro a0 a1 a2 a3 k
  have ih0 := telemeterref12_right.mono_l k
  unfold telemeterref12_right.f
  repeat' first
      | (with_reducible exact ih0 _ _ _ _ _)
      | (with_reducible exact LeO.refl _)
      | (with_reducible exact LeO.none _)
      | (with_reducible refine LeO.ite ?_ ?_)
      | (with_reducible refine LeO.bind ?_ (fun _ => ?_))
      | exact ih0 _ _ _ _ _
      | exact LeO.none _
      | refine LeO.ite ?_ ?_
      | refine LeO.bind ?_ (fun _ => ?_)
set_option maxHeartbeats 8000000 in
set_option maxRecDepth 100000 in
theorem telemeterref12_right.calls (k : Nat) (a0_0 : Int) (a0_1 : Int) (a0_2 : ByteArray) (a0_3 : ByteArray) (r : Bool) (w : World) (h : telemeterref12_right.f k a0_0 a0_1 a0_2 a0_3 = some r) :
    Calls Try.prog 27 #[.agg #[.int .u8 a0_0, .int .i64 a0_1, .string a0_2, .string a0_3]] w fun e w' => e = .returned (.bool r) ∧ Below w.heap.size w w' := by
  have hu39 := Try.underlying39
  have HB := Aside0.mk (Below.refl w.heap.size w)
  have H : (if a0_0 < 1 then (telemeterref12_right.j0 k true a0_0 a0_1 a0_2 a0_3) else (if a0_0 > 5 then (telemeterref12_right.j0 k true a0_0 a0_1 a0_2 a0_3) else (if a0_1 < 0 then (telemeterref12_right.j0 k true a0_0 a0_1 a0_2 a0_3) else (if a0_0 = 5 then (if a0_1 > 72057594037927936 then (telemeterref12_right.j0 k true a0_0 a0_1 a0_2 a0_3) else (if a0_0 = 2 then (telemeterref12_right.j0 k (a0_1 != 0) a0_0 a0_1 a0_2 a0_3) else (if a0_0 = 3 then (telemeterref12_right.j0 k (a0_1 != 0) a0_0 a0_1 a0_2 a0_3) else (telemeterref12_right.j0 k false a0_0 a0_1 a0_2 a0_3)))) else (if a0_0 = 2 then (telemeterref12_right.j0 k (a0_1 != 0) a0_0 a0_1 a0_2 a0_3) else (if a0_0 = 3 then (telemeterref12_right.j0 k (a0_1 != 0) a0_0 a0_1 a0_2 a0_3) else (telemeterref12_right.j0 k false a0_0 a0_1 a0_2 a0_3))))))) = some r := h
  clear h
  have HC2 := Aside0.mk H
  clear H
  go_enter Try.func27, Try.ntmps27
  go_upto_region 1 with (first | ((with_reducible refine gate_dst (N := 1) rfl ?_); (try (refine gate_guard (by rfl) ?_; dsimp only)); refine box_event ?hg (N := 1) ?hd (cs := #[.int .u8 a0_0, .int .i64 a0_1, .string a0_2, .string a0_3]) (t := 39) ?hr ?_; (case hd => rfl); (case hg => rfl); (case hr => first | (go_simp; done) | (go_simp; rfl)); intro gb200 hg w3 hbox hb; have n0_ := Aside0.mk (below_step (by repeat (first | (with_reducible first | exact HB.out | apply below_alloc | apply pw_below_drewN | apply below_drew1) | exact HB.out)) hb); have n1_ := Aside0.mk (hbox); have n2_ := Aside0.mk ((by rw [hg]; exact (below_size (by repeat (first | (with_reducible first | exact HB.out | apply below_alloc | apply pw_below_drewN | apply below_drew1) | exact HB.out))) : w.heap.size ≤ gb200)); have n3_ := Aside0.mk ((by rw [hg]; exact (below_size (by repeat (first | (with_reducible first | exact HB.out | apply below_alloc | apply pw_below_drewN | apply below_drew1) | exact HB.out))) : w.heap.size ≤ gb200)); clear HB; have HB := n0_; have BK200 := n1_; have GW200 := n2_; have GE200 := n3_; clear n0_ n1_ n2_ n3_; clear hb hbox hg))
  (try simp only [Act.put, List.setIfInBounds_toArray, List.set_cons_zero, List.set_cons_succ])
  go_cut [40] (fun v40 wc => ∃ (kq : Nat) (x40_1 : Bool), v40 = .bool x40_1 ∧ Aside0 (telemeterref12_right.j0 kq x40_1 a0_0 a0_1 a0_2 a0_3 = some r) ∧ Aside0 (kq ≤ k) ∧ Aside0 (wc.heap[gb200]? = some (.cells #[.int .u8 a0_0, .int .i64 a0_1, .string a0_2, .string a0_3] 39 (0, 0))) ∧ Aside0 (Below w.heap.size w wc))
  case first =>
    have H := HC2.out
    clear HC2
    by_cases c4 : a0_0 < 1
    · rw [if_pos c4] at H
      have c4b0 : decide (a0_0 < 1) = true := decide_eq_true c4
      clear c4
      (first | rw [c4b0] | (simp only [i64_w, i32_w]; rw [c4b0]) | skip)
      have H' := Aside0.mk H
      clear H
      have hcz5_0 : w3.cell? ⟨gb200, 0, none⟩ = some (.int .u8 a0_0) := (blk_cell BK200.out 0).trans rfl
      have hcz5_1 : w3.cell? ⟨gb200, 1, none⟩ = some (.int .i64 a0_1) := (blk_cell BK200.out 1).trans rfl
      have hcz5_2 : w3.cell? ⟨gb200, 2, none⟩ = some (.string a0_2) := (blk_cell BK200.out 2).trans rfl
      have hcz5_3 : w3.cell? ⟨gb200, 3, none⟩ = some (.string a0_3) := (blk_cell BK200.out 3).trans rfl
      have hfz5_0 := blk_frozen BK200.out 0
      have hfz5_1 := blk_frozen BK200.out 1
      have hfz5_2 := blk_frozen BK200.out 2
      have hfz5_3 := blk_frozen BK200.out 3
      go_wp2
      go_meet
      case rel => exact ⟨_, (true), (by first | rfl | (simp; done) | (simp [*]; done)), H', ⟨by first | omega | exact Nat.le_refl _⟩, ⟨by (with_reducible repeat (first | refine blk_drewN ?_ _ | refine blk_drew ?_ | refine blk_alloc ?_ _)); exact BK200.out⟩, ⟨by repeat (first | (with_reducible first | exact HB.out | apply below_alloc | apply pw_below_drewN | apply below_drew1 | refine below_set ?_ GE200.out) | exact HB.out)⟩⟩
    · rw [if_neg c4] at H
      have c4b0 : decide (a0_0 < 1) = false := decide_eq_false c4
      clear c4
      (first | rw [c4b0] | (simp only [i64_w, i32_w]; rw [c4b0]) | skip)
      by_cases c6 : a0_0 > 5
      · rw [if_pos c6] at H
        have c6b0 : decide (5 < a0_0) = true := decide_eq_true c6
        clear c6
        have H' := Aside0.mk H
        clear H
        have hcz7_0 : w3.cell? ⟨gb200, 0, none⟩ = some (.int .u8 a0_0) := (blk_cell BK200.out 0).trans rfl
        have hcz7_1 : w3.cell? ⟨gb200, 1, none⟩ = some (.int .i64 a0_1) := (blk_cell BK200.out 1).trans rfl
        have hcz7_2 : w3.cell? ⟨gb200, 2, none⟩ = some (.string a0_2) := (blk_cell BK200.out 2).trans rfl
        have hcz7_3 : w3.cell? ⟨gb200, 3, none⟩ = some (.string a0_3) := (blk_cell BK200.out 3).trans rfl
        have hfz7_0 := blk_frozen BK200.out 0
        have hfz7_1 := blk_frozen BK200.out 1
        have hfz7_2 := blk_frozen BK200.out 2
        have hfz7_3 := blk_frozen BK200.out 3
        go_wp2
        go_meet
        case rel => exact ⟨_, (true), (by first | rfl | (simp; done) | (simp [*]; done)), H', ⟨by first | omega | exact Nat.le_refl _⟩, ⟨by (with_reducible repeat (first | refine blk_drewN ?_ _ | refine blk_drew ?_ | refine blk_alloc ?_ _)); exact BK200.out⟩, ⟨by repeat (first | (with_reducible first | exact HB.out | apply below_alloc | apply pw_below_drewN | apply below_drew1 | refine below_set ?_ GE200.out) | exact HB.out)⟩⟩
      · rw [if_neg c6] at H
        have c6b0 : decide (5 < a0_0) = false := decide_eq_false c6
        clear c6
        by_cases c8 : a0_1 < 0
        · rw [if_pos c8] at H
          have c8b0 : decide (a0_1 < 0) = true := decide_eq_true c8
          clear c8
          have H' := Aside0.mk H
          clear H
          have hcz9_0 : w3.cell? ⟨gb200, 0, none⟩ = some (.int .u8 a0_0) := (blk_cell BK200.out 0).trans rfl
          have hcz9_1 : w3.cell? ⟨gb200, 1, none⟩ = some (.int .i64 a0_1) := (blk_cell BK200.out 1).trans rfl
          have hcz9_2 : w3.cell? ⟨gb200, 2, none⟩ = some (.string a0_2) := (blk_cell BK200.out 2).trans rfl
          have hcz9_3 : w3.cell? ⟨gb200, 3, none⟩ = some (.string a0_3) := (blk_cell BK200.out 3).trans rfl
          have hfz9_0 := blk_frozen BK200.out 0
          have hfz9_1 := blk_frozen BK200.out 1
          have hfz9_2 := blk_frozen BK200.out 2
          have hfz9_3 := blk_frozen BK200.out 3
          go_wp2
          go_meet
          case rel => exact ⟨_, (true), (by first | rfl | (simp; done) | (simp [*]; done)), H', ⟨by first | omega | exact Nat.le_refl _⟩, ⟨by (with_reducible repeat (first | refine blk_drewN ?_ _ | refine blk_drew ?_ | refine blk_alloc ?_ _)); exact BK200.out⟩, ⟨by repeat (first | (with_reducible first | exact HB.out | apply below_alloc | apply pw_below_drewN | apply below_drew1 | refine below_set ?_ GE200.out) | exact HB.out)⟩⟩
        · rw [if_neg c8] at H
          have c8b0 : decide (a0_1 < 0) = false := decide_eq_false c8
          clear c8
          by_cases c10 : a0_0 = 5
          · rw [if_pos c10] at H
            have c10b0 : (a0_0 == 5) = true := beq_iff_eq.mpr c10
            have c10b1 : (a0_0 != 5) = false := bne_eq_false_iff_eq.mpr c10
            clear c10
            by_cases c11 : a0_1 > 72057594037927936
            · rw [if_pos c11] at H
              have c11b0 : decide (72057594037927936 < a0_1) = true := decide_eq_true c11
              clear c11
              have H' := Aside0.mk H
              clear H
              have hcz12_0 : w3.cell? ⟨gb200, 0, none⟩ = some (.int .u8 a0_0) := (blk_cell BK200.out 0).trans rfl
              have hcz12_1 : w3.cell? ⟨gb200, 1, none⟩ = some (.int .i64 a0_1) := (blk_cell BK200.out 1).trans rfl
              have hcz12_2 : w3.cell? ⟨gb200, 2, none⟩ = some (.string a0_2) := (blk_cell BK200.out 2).trans rfl
              have hcz12_3 : w3.cell? ⟨gb200, 3, none⟩ = some (.string a0_3) := (blk_cell BK200.out 3).trans rfl
              have hfz12_0 := blk_frozen BK200.out 0
              have hfz12_1 := blk_frozen BK200.out 1
              have hfz12_2 := blk_frozen BK200.out 2
              have hfz12_3 := blk_frozen BK200.out 3
              go_wp2
              go_meet
              case rel => exact ⟨_, (true), (by first | rfl | (simp; done) | (simp [*]; done)), H', ⟨by first | omega | exact Nat.le_refl _⟩, ⟨by (with_reducible repeat (first | refine blk_drewN ?_ _ | refine blk_drew ?_ | refine blk_alloc ?_ _)); exact BK200.out⟩, ⟨by repeat (first | (with_reducible first | exact HB.out | apply below_alloc | apply pw_below_drewN | apply below_drew1 | refine below_set ?_ GE200.out) | exact HB.out)⟩⟩
            · rw [if_neg c11] at H
              have c11b0 : decide (72057594037927936 < a0_1) = false := decide_eq_false c11
              clear c11
              by_cases c13 : a0_0 = 2
              · rw [if_pos c13] at H
                have c13b0 : (a0_0 == 2) = true := beq_iff_eq.mpr c13
                have c13b1 : (a0_0 != 2) = false := bne_eq_false_iff_eq.mpr c13
                clear c13
                have H' := Aside0.mk H
                clear H
                have hcz14_0 : w3.cell? ⟨gb200, 0, none⟩ = some (.int .u8 a0_0) := (blk_cell BK200.out 0).trans rfl
                have hcz14_1 : w3.cell? ⟨gb200, 1, none⟩ = some (.int .i64 a0_1) := (blk_cell BK200.out 1).trans rfl
                have hcz14_2 : w3.cell? ⟨gb200, 2, none⟩ = some (.string a0_2) := (blk_cell BK200.out 2).trans rfl
                have hcz14_3 : w3.cell? ⟨gb200, 3, none⟩ = some (.string a0_3) := (blk_cell BK200.out 3).trans rfl
                have hfz14_0 := blk_frozen BK200.out 0
                have hfz14_1 := blk_frozen BK200.out 1
                have hfz14_2 := blk_frozen BK200.out 2
                have hfz14_3 := blk_frozen BK200.out 3
                go_wp2
                go_meet
                case rel => exact ⟨_, ((a0_1 != 0)), (by first | rfl | (simp; done) | (simp [*]; done)), H', ⟨by first | omega | exact Nat.le_refl _⟩, ⟨by (with_reducible repeat (first | refine blk_drewN ?_ _ | refine blk_drew ?_ | refine blk_alloc ?_ _)); exact BK200.out⟩, ⟨by repeat (first | (with_reducible first | exact HB.out | apply below_alloc | apply pw_below_drewN | apply below_drew1 | refine below_set ?_ GE200.out) | exact HB.out)⟩⟩
              · rw [if_neg c13] at H
                have c13b0 : (a0_0 == 2) = false := beq_eq_false_iff_ne.mpr c13
                have c13b1 : (a0_0 != 2) = true := bne_iff_ne.mpr c13
                by_cases c15 : a0_0 = 3
                · rw [if_pos c15] at H
                  have c15b0 : (a0_0 == 3) = true := beq_iff_eq.mpr c15
                  have c15b1 : (a0_0 != 3) = false := bne_eq_false_iff_eq.mpr c15
                  clear c15
                  have H' := Aside0.mk H
                  clear H
                  have hcz16_0 : w3.cell? ⟨gb200, 0, none⟩ = some (.int .u8 a0_0) := (blk_cell BK200.out 0).trans rfl
                  have hcz16_1 : w3.cell? ⟨gb200, 1, none⟩ = some (.int .i64 a0_1) := (blk_cell BK200.out 1).trans rfl
                  have hcz16_2 : w3.cell? ⟨gb200, 2, none⟩ = some (.string a0_2) := (blk_cell BK200.out 2).trans rfl
                  have hcz16_3 : w3.cell? ⟨gb200, 3, none⟩ = some (.string a0_3) := (blk_cell BK200.out 3).trans rfl
                  have hfz16_0 := blk_frozen BK200.out 0
                  have hfz16_1 := blk_frozen BK200.out 1
                  have hfz16_2 := blk_frozen BK200.out 2
                  have hfz16_3 := blk_frozen BK200.out 3
                  go_wp2
                  go_meet
                  case rel => exact ⟨_, ((a0_1 != 0)), (by first | rfl | (simp; done) | (simp [*]; done)), H', ⟨by first | omega | exact Nat.le_refl _⟩, ⟨by (with_reducible repeat (first | refine blk_drewN ?_ _ | refine blk_drew ?_ | refine blk_alloc ?_ _)); exact BK200.out⟩, ⟨by repeat (first | (with_reducible first | exact HB.out | apply below_alloc | apply pw_below_drewN | apply below_drew1 | refine below_set ?_ GE200.out) | exact HB.out)⟩⟩
                · rw [if_neg c15] at H
                  have c15b0 : (a0_0 == 3) = false := beq_eq_false_iff_ne.mpr c15
                  have c15b1 : (a0_0 != 3) = true := bne_iff_ne.mpr c15
                  have H' := Aside0.mk H
                  clear H
                  have hcz17_0 : w3.cell? ⟨gb200, 0, none⟩ = some (.int .u8 a0_0) := (blk_cell BK200.out 0).trans rfl
                  have hcz17_1 : w3.cell? ⟨gb200, 1, none⟩ = some (.int .i64 a0_1) := (blk_cell BK200.out 1).trans rfl
                  have hcz17_2 : w3.cell? ⟨gb200, 2, none⟩ = some (.string a0_2) := (blk_cell BK200.out 2).trans rfl
                  have hcz17_3 : w3.cell? ⟨gb200, 3, none⟩ = some (.string a0_3) := (blk_cell BK200.out 3).trans rfl
                  have hfz17_0 := blk_frozen BK200.out 0
                  have hfz17_1 := blk_frozen BK200.out 1
                  have hfz17_2 := blk_frozen BK200.out 2
                  have hfz17_3 := blk_frozen BK200.out 3
                  go_wp2
                  go_meet
                  case rel => exact ⟨_, (false), (by first | rfl | (simp; done) | (simp [*]; done)), H', ⟨by first | omega | exact Nat.le_refl _⟩, ⟨by (with_reducible repeat (first | refine blk_drewN ?_ _ | refine blk_drew ?_ | refine blk_alloc ?_ _)); exact BK200.out⟩, ⟨by repeat (first | (with_reducible first | exact HB.out | apply below_alloc | apply pw_below_drewN | apply below_drew1 | refine below_set ?_ GE200.out) | exact HB.out)⟩⟩
          · rw [if_neg c10] at H
            have c10b0 : (a0_0 == 5) = false := beq_eq_false_iff_ne.mpr c10
            have c10b1 : (a0_0 != 5) = true := bne_iff_ne.mpr c10
            by_cases c18 : a0_0 = 2
            · rw [if_pos c18] at H
              have c18b0 : (a0_0 == 2) = true := beq_iff_eq.mpr c18
              have c18b1 : (a0_0 != 2) = false := bne_eq_false_iff_eq.mpr c18
              clear c18
              have H' := Aside0.mk H
              clear H
              have hcz19_0 : w3.cell? ⟨gb200, 0, none⟩ = some (.int .u8 a0_0) := (blk_cell BK200.out 0).trans rfl
              have hcz19_1 : w3.cell? ⟨gb200, 1, none⟩ = some (.int .i64 a0_1) := (blk_cell BK200.out 1).trans rfl
              have hcz19_2 : w3.cell? ⟨gb200, 2, none⟩ = some (.string a0_2) := (blk_cell BK200.out 2).trans rfl
              have hcz19_3 : w3.cell? ⟨gb200, 3, none⟩ = some (.string a0_3) := (blk_cell BK200.out 3).trans rfl
              have hfz19_0 := blk_frozen BK200.out 0
              have hfz19_1 := blk_frozen BK200.out 1
              have hfz19_2 := blk_frozen BK200.out 2
              have hfz19_3 := blk_frozen BK200.out 3
              go_wp2
              go_meet
              case rel => exact ⟨_, ((a0_1 != 0)), (by first | rfl | (simp; done) | (simp [*]; done)), H', ⟨by first | omega | exact Nat.le_refl _⟩, ⟨by (with_reducible repeat (first | refine blk_drewN ?_ _ | refine blk_drew ?_ | refine blk_alloc ?_ _)); exact BK200.out⟩, ⟨by repeat (first | (with_reducible first | exact HB.out | apply below_alloc | apply pw_below_drewN | apply below_drew1 | refine below_set ?_ GE200.out) | exact HB.out)⟩⟩
            · rw [if_neg c18] at H
              have c18b0 : (a0_0 == 2) = false := beq_eq_false_iff_ne.mpr c18
              have c18b1 : (a0_0 != 2) = true := bne_iff_ne.mpr c18
              by_cases c20 : a0_0 = 3
              · rw [if_pos c20] at H
                have c20b0 : (a0_0 == 3) = true := beq_iff_eq.mpr c20
                have c20b1 : (a0_0 != 3) = false := bne_eq_false_iff_eq.mpr c20
                clear c20
                have H' := Aside0.mk H
                clear H
                have hcz21_0 : w3.cell? ⟨gb200, 0, none⟩ = some (.int .u8 a0_0) := (blk_cell BK200.out 0).trans rfl
                have hcz21_1 : w3.cell? ⟨gb200, 1, none⟩ = some (.int .i64 a0_1) := (blk_cell BK200.out 1).trans rfl
                have hcz21_2 : w3.cell? ⟨gb200, 2, none⟩ = some (.string a0_2) := (blk_cell BK200.out 2).trans rfl
                have hcz21_3 : w3.cell? ⟨gb200, 3, none⟩ = some (.string a0_3) := (blk_cell BK200.out 3).trans rfl
                have hfz21_0 := blk_frozen BK200.out 0
                have hfz21_1 := blk_frozen BK200.out 1
                have hfz21_2 := blk_frozen BK200.out 2
                have hfz21_3 := blk_frozen BK200.out 3
                go_wp2
                go_meet
                case rel => exact ⟨_, ((a0_1 != 0)), (by first | rfl | (simp; done) | (simp [*]; done)), H', ⟨by first | omega | exact Nat.le_refl _⟩, ⟨by (with_reducible repeat (first | refine blk_drewN ?_ _ | refine blk_drew ?_ | refine blk_alloc ?_ _)); exact BK200.out⟩, ⟨by repeat (first | (with_reducible first | exact HB.out | apply below_alloc | apply pw_below_drewN | apply below_drew1 | refine below_set ?_ GE200.out) | exact HB.out)⟩⟩
              · rw [if_neg c20] at H
                have c20b0 : (a0_0 == 3) = false := beq_eq_false_iff_ne.mpr c20
                have c20b1 : (a0_0 != 3) = true := bne_iff_ne.mpr c20
                have H' := Aside0.mk H
                clear H
                have hcz22_0 : w3.cell? ⟨gb200, 0, none⟩ = some (.int .u8 a0_0) := (blk_cell BK200.out 0).trans rfl
                have hcz22_1 : w3.cell? ⟨gb200, 1, none⟩ = some (.int .i64 a0_1) := (blk_cell BK200.out 1).trans rfl
                have hcz22_2 : w3.cell? ⟨gb200, 2, none⟩ = some (.string a0_2) := (blk_cell BK200.out 2).trans rfl
                have hcz22_3 : w3.cell? ⟨gb200, 3, none⟩ = some (.string a0_3) := (blk_cell BK200.out 3).trans rfl
                have hfz22_0 := blk_frozen BK200.out 0
                have hfz22_1 := blk_frozen BK200.out 1
                have hfz22_2 := blk_frozen BK200.out 2
                have hfz22_3 := blk_frozen BK200.out 3
                go_wp2
                go_meet
                case rel => exact ⟨_, (false), (by first | rfl | (simp; done) | (simp [*]; done)), H', ⟨by first | omega | exact Nat.le_refl _⟩, ⟨by (with_reducible repeat (first | refine blk_drewN ?_ _ | refine blk_drew ?_ | refine blk_alloc ?_ _)); exact BK200.out⟩, ⟨by repeat (first | (with_reducible first | exact HB.out | apply below_alloc | apply pw_below_drewN | apply below_drew1 | refine below_set ?_ GE200.out) | exact HB.out)⟩⟩
  case rest =>
    clear HC2
    try clear c1
    try clear c2
    try clear p2
    try clear c4
    try clear c4b0
    try clear c6
    try clear c6b0
    try clear c8
    try clear c8b0
    try clear c10
    try clear c10b0
    try clear c10b1
    try clear c11
    try clear c11b0
    try clear c13
    try clear c13b0
    try clear c13b1
    try clear c15
    try clear c15b0
    try clear c15b1
    try clear c18
    try clear c18b0
    try clear c18b1
    try clear c20
    try clear c20b0
    try clear c20b1
    try clear hcz12_0
    try clear hcz12_1
    try clear hcz12_2
    try clear hcz12_3
    try clear hcz14_0
    try clear hcz14_1
    try clear hcz14_2
    try clear hcz14_3
    try clear hcz16_0
    try clear hcz16_1
    try clear hcz16_2
    try clear hcz16_3
    try clear hcz17_0
    try clear hcz17_1
    try clear hcz17_2
    try clear hcz17_3
    try clear hcz19_0
    try clear hcz19_1
    try clear hcz19_2
    try clear hcz19_3
    try clear hcz21_0
    try clear hcz21_1
    try clear hcz21_2
    try clear hcz21_3
    try clear hcz22_0
    try clear hcz22_1
    try clear hcz22_2
    try clear hcz22_3
    try clear hcz5_0
    try clear hcz5_1
    try clear hcz5_2
    try clear hcz5_3
    try clear hcz7_0
    try clear hcz7_1
    try clear hcz7_2
    try clear hcz7_3
    try clear hcz9_0
    try clear hcz9_1
    try clear hcz9_2
    try clear hcz9_3
    try clear hfz12_0
    try clear hfz12_1
    try clear hfz12_2
    try clear hfz12_3
    try clear hfz14_0
    try clear hfz14_1
    try clear hfz14_2
    try clear hfz14_3
    try clear hfz16_0
    try clear hfz16_1
    try clear hfz16_2
    try clear hfz16_3
    try clear hfz17_0
    try clear hfz17_1
    try clear hfz17_2
    try clear hfz17_3
    try clear hfz19_0
    try clear hfz19_1
    try clear hfz19_2
    try clear hfz19_3
    try clear hfz21_0
    try clear hfz21_1
    try clear hfz21_2
    try clear hfz21_3
    try clear hfz22_0
    try clear hfz22_1
    try clear hfz22_2
    try clear hfz22_3
    try clear hfz5_0
    try clear hfz5_1
    try clear hfz5_2
    try clear hfz5_3
    try clear hfz7_0
    try clear hfz7_1
    try clear hfz7_2
    try clear hfz7_3
    try clear hfz9_0
    try clear hfz9_1
    try clear hfz9_2
    try clear hfz9_3
    obtain ⟨kq, x40_1, rfl, HA, HJ1, BK200, HB⟩ := hcut
    cases kq with
    | zero => exact absurd HA.out (by simp [telemeterref12_right.j0])
    | succ kj1 =>
      have H := HA.out
      clear HA
      simp only [telemeterref12_right.j0] at H
      by_cases c23 : x40_1 = true
      · subst c23
        have H1 : (some false) = some r := by rw [if_pos rfl] at H; exact H
        clear H
        have H := H1
        clear H1
        obtain rfl := Option.some.inj H
        go_wp2
        go_ret
        exact ⟨by first | rfl | (simp [errW_none, errW_some] <;> rfl) | (simp [*, errW_none, errW_some] <;> rfl), by repeat (first | (with_reducible first | exact HB.out | apply below_alloc | apply pw_below_drewN | apply below_drew1 | refine below_set ?_ GE200.out) | exact HB.out)⟩
      · replace c23 := Bool.eq_false_iff.mpr c23
        subst c23
        have H1 : (if a0_0 = 3 then (if (a0_2.size : Int) ≥ 1 then (if (a0_2.size : Int) ≤ 60 then (some (decide ((a0_3.size : Int) ≤ 60))) else (some false)) else (some false)) else (if a0_2.toList = ([] : List UInt8) then (some (a0_3.toList == ([] : List UInt8))) else (some false))) = some r := by rw [if_neg (show ¬ (false = true) by decide)] at H; exact H
        clear H
        have H := H1
        clear H1
        by_cases c24 : a0_0 = 3
        · rw [if_pos c24] at H
          have c24b0 : (a0_0 == 3) = true := beq_iff_eq.mpr c24
          have c24b1 : (a0_0 != 3) = false := bne_eq_false_iff_eq.mpr c24
          clear c24
          by_cases c25 : (a0_2.size : Int) ≥ 1
          · rw [if_pos c25] at H
            have c25b0 : decide (1 ≤ (a0_2.size : Int)) = true := decide_eq_true c25
            have c25b1 : decide (1 ≤ a0_2.size) = true := decide_eq_true (by omega)
            clear c25
            by_cases c26 : (a0_2.size : Int) ≤ 60
            · rw [if_pos c26] at H
              have c26b0 : decide ((a0_2.size : Int) ≤ 60) = true := decide_eq_true c26
              have c26b1 : decide (a0_2.size ≤ 60) = true := decide_eq_true (by omega)
              clear c26
              obtain rfl := Option.some.inj H
              have hcz27_0 : wc.cell? ⟨gb200, 0, none⟩ = some (.int .u8 a0_0) := (blk_cell BK200.out 0).trans rfl
              have hcz27_1 : wc.cell? ⟨gb200, 1, none⟩ = some (.int .i64 a0_1) := (blk_cell BK200.out 1).trans rfl
              have hcz27_2 : wc.cell? ⟨gb200, 2, none⟩ = some (.string a0_2) := (blk_cell BK200.out 2).trans rfl
              have hcz27_3 : wc.cell? ⟨gb200, 3, none⟩ = some (.string a0_3) := (blk_cell BK200.out 3).trans rfl
              have hfz27_0 := blk_frozen BK200.out 0
              have hfz27_1 := blk_frozen BK200.out 1
              have hfz27_2 := blk_frozen BK200.out 2
              have hfz27_3 := blk_frozen BK200.out 3
              go_wp2
              go_ret
              exact ⟨by first | rfl | (simp [errW_none, errW_some] <;> rfl) | (simp [*, errW_none, errW_some] <;> rfl), by repeat (first | (with_reducible first | exact HB.out | apply below_alloc | apply pw_below_drewN | apply below_drew1 | refine below_set ?_ GE200.out) | exact HB.out)⟩
            · rw [if_neg c26] at H
              have c26b0 : decide ((a0_2.size : Int) ≤ 60) = false := decide_eq_false c26
              have c26b1 : decide (a0_2.size ≤ 60) = false := decide_eq_false (by omega)
              clear c26
              obtain rfl := Option.some.inj H
              have hcz28_0 : wc.cell? ⟨gb200, 0, none⟩ = some (.int .u8 a0_0) := (blk_cell BK200.out 0).trans rfl
              have hcz28_1 : wc.cell? ⟨gb200, 1, none⟩ = some (.int .i64 a0_1) := (blk_cell BK200.out 1).trans rfl
              have hcz28_2 : wc.cell? ⟨gb200, 2, none⟩ = some (.string a0_2) := (blk_cell BK200.out 2).trans rfl
              have hcz28_3 : wc.cell? ⟨gb200, 3, none⟩ = some (.string a0_3) := (blk_cell BK200.out 3).trans rfl
              have hfz28_0 := blk_frozen BK200.out 0
              have hfz28_1 := blk_frozen BK200.out 1
              have hfz28_2 := blk_frozen BK200.out 2
              have hfz28_3 := blk_frozen BK200.out 3
              go_wp2
              go_ret
              exact ⟨by first | rfl | (simp [errW_none, errW_some] <;> rfl) | (simp [*, errW_none, errW_some] <;> rfl), by repeat (first | (with_reducible first | exact HB.out | apply below_alloc | apply pw_below_drewN | apply below_drew1 | refine below_set ?_ GE200.out) | exact HB.out)⟩
          · rw [if_neg c25] at H
            have c25b0 : decide (1 ≤ (a0_2.size : Int)) = false := decide_eq_false c25
            have c25b1 : decide (1 ≤ a0_2.size) = false := decide_eq_false (by omega)
            clear c25
            obtain rfl := Option.some.inj H
            have hcz29_0 : wc.cell? ⟨gb200, 0, none⟩ = some (.int .u8 a0_0) := (blk_cell BK200.out 0).trans rfl
            have hcz29_1 : wc.cell? ⟨gb200, 1, none⟩ = some (.int .i64 a0_1) := (blk_cell BK200.out 1).trans rfl
            have hcz29_2 : wc.cell? ⟨gb200, 2, none⟩ = some (.string a0_2) := (blk_cell BK200.out 2).trans rfl
            have hcz29_3 : wc.cell? ⟨gb200, 3, none⟩ = some (.string a0_3) := (blk_cell BK200.out 3).trans rfl
            have hfz29_0 := blk_frozen BK200.out 0
            have hfz29_1 := blk_frozen BK200.out 1
            have hfz29_2 := blk_frozen BK200.out 2
            have hfz29_3 := blk_frozen BK200.out 3
            go_wp2
            go_ret
            exact ⟨by first | rfl | (simp [errW_none, errW_some] <;> rfl) | (simp [*, errW_none, errW_some] <;> rfl), by repeat (first | (with_reducible first | exact HB.out | apply below_alloc | apply pw_below_drewN | apply below_drew1 | refine below_set ?_ GE200.out) | exact HB.out)⟩
        · rw [if_neg c24] at H
          have c24b0 : (a0_0 == 3) = false := beq_eq_false_iff_ne.mpr c24
          have c24b1 : (a0_0 != 3) = true := bne_iff_ne.mpr c24
          by_cases c30 : a0_2.toList = ([] : List UInt8)
          · rw [if_pos c30] at H
            have c30b0 : (a0_2.toList == ([] : List UInt8)) = true := beq_iff_eq.mpr c30
            have c30b1 : (a0_2.toList != ([] : List UInt8)) = false := bne_eq_false_iff_eq.mpr c30
            clear c30
            obtain rfl := Option.some.inj H
            have hcz31_0 : wc.cell? ⟨gb200, 0, none⟩ = some (.int .u8 a0_0) := (blk_cell BK200.out 0).trans rfl
            have hcz31_1 : wc.cell? ⟨gb200, 1, none⟩ = some (.int .i64 a0_1) := (blk_cell BK200.out 1).trans rfl
            have hcz31_2 : wc.cell? ⟨gb200, 2, none⟩ = some (.string a0_2) := (blk_cell BK200.out 2).trans rfl
            have hcz31_3 : wc.cell? ⟨gb200, 3, none⟩ = some (.string a0_3) := (blk_cell BK200.out 3).trans rfl
            have hfz31_0 := blk_frozen BK200.out 0
            have hfz31_1 := blk_frozen BK200.out 1
            have hfz31_2 := blk_frozen BK200.out 2
            have hfz31_3 := blk_frozen BK200.out 3
            go_wp2
            go_ret
            exact ⟨by first | rfl | (simp [errW_none, errW_some] <;> rfl) | (simp [*, errW_none, errW_some] <;> rfl), by repeat (first | (with_reducible first | exact HB.out | apply below_alloc | apply pw_below_drewN | apply below_drew1 | refine below_set ?_ GE200.out) | exact HB.out)⟩
          · rw [if_neg c30] at H
            have c30b0 : (a0_2.toList == ([] : List UInt8)) = false := beq_eq_false_iff_ne.mpr c30
            have c30b1 : (a0_2.toList != ([] : List UInt8)) = true := bne_iff_ne.mpr c30
            obtain rfl := Option.some.inj H
            have hcz32_0 : wc.cell? ⟨gb200, 0, none⟩ = some (.int .u8 a0_0) := (blk_cell BK200.out 0).trans rfl
            have hcz32_1 : wc.cell? ⟨gb200, 1, none⟩ = some (.int .i64 a0_1) := (blk_cell BK200.out 1).trans rfl
            have hcz32_2 : wc.cell? ⟨gb200, 2, none⟩ = some (.string a0_2) := (blk_cell BK200.out 2).trans rfl
            have hcz32_3 : wc.cell? ⟨gb200, 3, none⟩ = some (.string a0_3) := (blk_cell BK200.out 3).trans rfl
            have hfz32_0 := blk_frozen BK200.out 0
            have hfz32_1 := blk_frozen BK200.out 1
            have hfz32_2 := blk_frozen BK200.out 2
            have hfz32_3 := blk_frozen BK200.out 3
            go_wp2
            go_ret
            exact ⟨by first | rfl | (simp [errW_none, errW_some] <;> rfl) | (simp [*, errW_none, errW_some] <;> rfl), by repeat (first | (with_reducible first | exact HB.out | apply below_alloc | apply pw_below_drewN | apply below_drew1 | refine below_set ?_ GE200.out) | exact HB.out)⟩

end Go.Proofs.Ytbjoleelfihikaa.Px
