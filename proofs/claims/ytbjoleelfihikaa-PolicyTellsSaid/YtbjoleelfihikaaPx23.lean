-- Laid by a program of this session (wip/xprint.py: the kit's print.py, with functions given by hand). Lean checks it.
import Derived.Test.YtbjoleelfihikaaPx0
namespace Go.Proofs.Ytbjoleelfihikaa.Px
open Go.RowKit Go.Proofs.YtbjoleelfihikaaW.PrintWords Go.Proofs.YtbjoleelfihikaaW.PrintLast Go.Proofs.YtbjoleelfihikaaW.PrintMore
attribute [local go_sem] max2_int min2_int max_two min_two max_three min_three max_four min_four   -- for this text's walks alone
set_option linter.unusedVariables false
set_option linter.unusedSimpArgs false

/-! ### telemeterref12_Length: function 31 -/
def telemeterref12_Length.l0 : Nat → List (S36) → Int → Int → Int → Option (Int)
  | 0, _, _, _, _ => none
  | k + 1, x0, x3, x4, x5 => if x5 < (x0.length : Int) then (if 0 ≤ x5 then (telemeterref12_Length.l0 k x0 (mn x3 ((rd_T36 x0 x5).f5)) (mx x4 ((rd_T36 x0 x5).f6)) (wrap64 (x5 + 1))) else (none)) else (some (wrap64 (x4 - x3)))
def telemeterref12_Length.f (k : Nat) (l0 : List (S36)) : Option (Int) := if (l0.length : Int) = 0 then (some 0) else (if 0 < (l0.length : Int) then (telemeterref12_Length.l0 k l0 ((rd_T36 l0 0).f5) ((rd_T36 l0 0).f6) 0) else (none))
theorem telemeterref12_Length.mono_l : ∀ k, (∀ y0 y1 y2 y3, LeO (telemeterref12_Length.l0 k y0 y1 y2 y3) (telemeterref12_Length.l0 (k + 1) y0 y1 y2 y3))
  | 0 => fun _ _ _ _ r h => by simp [telemeterref12_Length.l0] at h
  | k + 1 => by
    have ih0 := telemeterref12_Length.mono_l k
    · intro y0 y1 y2 y3
      unfold telemeterref12_Length.l0
      repeat' first
      | (with_reducible exact ih0 _ _ _ _)
      | (with_reducible exact LeO.refl _)
      | (with_reducible exact LeO.none _)
      | (with_reducible refine LeO.ite ?_ ?_)
      | (with_reducible refine LeO.bind ?_ (fun _ => ?_))
      | exact ih0 _ _ _ _
      | exact LeO.none _
      | refine LeO.ite ?_ ?_
      | refine LeO.bind ?_ (fun _ => ?_)
theorem telemeterref12_Length.mono : ∀ a0 k, LeO (telemeterref12_Length.f k a0) (telemeterref12_Length.f (k + 1) a0) := by
  intro a0 k
  have ih0 := telemeterref12_Length.mono_l k
  unfold telemeterref12_Length.f
  repeat' first
      | (with_reducible exact ih0 _ _ _ _)
      | (with_reducible exact LeO.refl _)
      | (with_reducible exact LeO.none _)
      | (with_reducible refine LeO.ite ?_ ?_)
      | (with_reducible refine LeO.bind ?_ (fun _ => ?_))
      | exact ih0 _ _ _ _
      | exact LeO.none _
      | refine LeO.ite ?_ ?_
      | refine LeO.bind ?_ (fun _ => ?_)
set_option maxHeartbeats 8000000 in
set_option maxRecDepth 100000 in
theorem telemeterref12_Length.calls (k : Nat) (A0 : Option Addr) (c0 : Nat) (l0 : List (S36)) (r : Int) (w : World) (hr0 : Kd.C k36 w A0 l0.length l0) (hc0 : l0.length ≤ c0) (h : telemeterref12_Length.f k l0 = some r) :
    Calls Try.prog 31 #[.slice A0 l0.length c0] w fun e w' => e = .returned (.int .i64 r) ∧ Below w.heap.size w w' := by
  have HR0 := Aside0.mk hr0
  have HC0 := Aside0.mk hc0
  clear hr0 hc0
  have HB := Aside0.mk (Below.refl w.heap.size w)
  have H : (if (l0.length : Int) = 0 then (some 0) else (if 0 < (l0.length : Int) then (telemeterref12_Length.l0 k l0 ((rd_T36 l0 0).f5) ((rd_T36 l0 0).f6) 0) else (none))) = some r := h
  clear h
  by_cases c2 : (l0.length : Int) = 0
  · rw [if_pos c2] at H
    have c2b0 : ((l0.length : Int) == 0) = true := beq_iff_eq.mpr c2
    have c2b1 : ((l0.length : Int) != 0) = false := bne_eq_false_iff_eq.mpr c2
    clear c2
    obtain rfl := Option.some.inj H
    go_enter Try.func31, Try.ntmps31
    go_wp2
    go_ret
    exact ⟨by first | rfl | (simp [errW_none, errW_some] <;> rfl) | (simp [*, errW_none, errW_some] <;> rfl), by repeat (first | (with_reducible first | exact HB.out | apply below_alloc | apply pw_below_drewN | apply below_drew1) | exact HB.out)⟩
  · rw [if_neg c2] at H
    have c2b0 : ((l0.length : Int) == 0) = false := beq_eq_false_iff_ne.mpr c2
    have c2b1 : ((l0.length : Int) != 0) = true := bne_iff_ne.mpr c2
    have c2b2 : ¬ (l0 = []) := fun h_ => c2 (by rw [h_]; rfl)
    by_cases c3 : 0 < (l0.length : Int)
    · rw [if_pos c3] at H
      have c3b0 : decide (0 < (l0.length : Int)) = true := decide_eq_true c3
      have c3b1 : decide (0 < l0.length) = true := decide_eq_true (by omega)
      clear c3
      have H' := Aside0.mk H
      clear H
      have p216 : 0 ≤ (0 : Int) := (by omega)
      have q216 : 0 < (l0.length : Int) := of_decide_eq_true (by first | (with_reducible assumption) | assumption)
      obtain ⟨ad216, A216_8, c216_8, e216, hx216_0, hx216_1, hx216_2, hx216_3, hx216_4, hx216_5, hx216_6, hx216_7, hx216_8, hx216_9, hl216_8, hi216_8⟩ := at_T36 HR0.out 0 p216 q216
      cases e216
      have qi216 : (0 < l0.length) = True := eq_true (by omega)
      (try rw [show ((0 : Int)).toNat = 0 from rfl] at hx216_0)
      (try rw [show 0 * 10 = 0 from rfl] at hx216_0)
      (try rw [Addr.add_zero'] at hx216_0)
      (try rw [show ((0 : Int)).toNat = 0 from rfl] at hx216_1)
      (try rw [show 0 * 10 = 0 from rfl] at hx216_1)
      (try rw [Addr.add_zero'] at hx216_1)
      (try rw [show ((0 : Int)).toNat = 0 from rfl] at hx216_2)
      (try rw [show 0 * 10 = 0 from rfl] at hx216_2)
      (try rw [Addr.add_zero'] at hx216_2)
      (try rw [show ((0 : Int)).toNat = 0 from rfl] at hx216_3)
      (try rw [show 0 * 10 = 0 from rfl] at hx216_3)
      (try rw [Addr.add_zero'] at hx216_3)
      (try rw [show ((0 : Int)).toNat = 0 from rfl] at hx216_4)
      (try rw [show 0 * 10 = 0 from rfl] at hx216_4)
      (try rw [Addr.add_zero'] at hx216_4)
      (try rw [show ((0 : Int)).toNat = 0 from rfl] at hx216_5)
      (try rw [show 0 * 10 = 0 from rfl] at hx216_5)
      (try rw [Addr.add_zero'] at hx216_5)
      (try rw [show ((0 : Int)).toNat = 0 from rfl] at hx216_6)
      (try rw [show 0 * 10 = 0 from rfl] at hx216_6)
      (try rw [Addr.add_zero'] at hx216_6)
      (try rw [show ((0 : Int)).toNat = 0 from rfl] at hx216_7)
      (try rw [show 0 * 10 = 0 from rfl] at hx216_7)
      (try rw [Addr.add_zero'] at hx216_7)
      (try rw [show ((0 : Int)).toNat = 0 from rfl] at hx216_8)
      (try rw [show 0 * 10 = 0 from rfl] at hx216_8)
      (try rw [Addr.add_zero'] at hx216_8)
      (try rw [show ((0 : Int)).toNat = 0 from rfl] at hx216_9)
      (try rw [show 0 * 10 = 0 from rfl] at hx216_9)
      (try rw [Addr.add_zero'] at hx216_9)
      have HR216_8 := Aside0.mk hi216_8
      have HC216_8 := Aside0.mk hl216_8
      clear hi216_8 hl216_8
      replace p216 := eq_true p216
      replace q216 := eq_true q216
      have p217 : 0 ≤ (0 : Int) := (by omega)
      have q217 : 0 < (l0.length : Int) := of_decide_eq_true (by first | (with_reducible assumption) | assumption)
      obtain ⟨ad217, A217_8, c217_8, e217, hx217_0, hx217_1, hx217_2, hx217_3, hx217_4, hx217_5, hx217_6, hx217_7, hx217_8, hx217_9, hl217_8, hi217_8⟩ := at_T36 HR0.out 0 p217 q217
      obtain rfl : ad216 = ad217 := (by injection e217)
      have qi217 : (0 < l0.length) = True := eq_true (by omega)
      (try rw [show ((0 : Int)).toNat = 0 from rfl] at hx217_0)
      (try rw [show 0 * 10 = 0 from rfl] at hx217_0)
      (try rw [Addr.add_zero'] at hx217_0)
      (try rw [show ((0 : Int)).toNat = 0 from rfl] at hx217_1)
      (try rw [show 0 * 10 = 0 from rfl] at hx217_1)
      (try rw [Addr.add_zero'] at hx217_1)
      (try rw [show ((0 : Int)).toNat = 0 from rfl] at hx217_2)
      (try rw [show 0 * 10 = 0 from rfl] at hx217_2)
      (try rw [Addr.add_zero'] at hx217_2)
      (try rw [show ((0 : Int)).toNat = 0 from rfl] at hx217_3)
      (try rw [show 0 * 10 = 0 from rfl] at hx217_3)
      (try rw [Addr.add_zero'] at hx217_3)
      (try rw [show ((0 : Int)).toNat = 0 from rfl] at hx217_4)
      (try rw [show 0 * 10 = 0 from rfl] at hx217_4)
      (try rw [Addr.add_zero'] at hx217_4)
      (try rw [show ((0 : Int)).toNat = 0 from rfl] at hx217_5)
      (try rw [show 0 * 10 = 0 from rfl] at hx217_5)
      (try rw [Addr.add_zero'] at hx217_5)
      (try rw [show ((0 : Int)).toNat = 0 from rfl] at hx217_6)
      (try rw [show 0 * 10 = 0 from rfl] at hx217_6)
      (try rw [Addr.add_zero'] at hx217_6)
      (try rw [show ((0 : Int)).toNat = 0 from rfl] at hx217_7)
      (try rw [show 0 * 10 = 0 from rfl] at hx217_7)
      (try rw [Addr.add_zero'] at hx217_7)
      (try rw [show ((0 : Int)).toNat = 0 from rfl] at hx217_8)
      (try rw [show 0 * 10 = 0 from rfl] at hx217_8)
      (try rw [Addr.add_zero'] at hx217_8)
      (try rw [show ((0 : Int)).toNat = 0 from rfl] at hx217_9)
      (try rw [show 0 * 10 = 0 from rfl] at hx217_9)
      (try rw [Addr.add_zero'] at hx217_9)
      have HR217_8 := Aside0.mk hi217_8
      have HC217_8 := Aside0.mk hl217_8
      clear hi217_8 hl217_8
      replace p217 := eq_true p217
      replace q217 := eq_true q217
      have ea_ := Option.some.inj (hx216_8.symm.trans hx217_8)
      injection ea_ with ea_ en_ ec_
      subst ea_
      subst ec_
      clear en_
      go_enter Try.func31, Try.ntmps31
      go_wp2
      go_loopg [3, 4, 5] k (fun kq v3 v4 v5 w' => ∃ (x3_1 : Int) (x4_1 : Int) (x5_1 : Int), v3 = .int .i64 x3_1 ∧ v4 = .int .i64 x4_1 ∧ v5 = .int .i64 x5_1 ∧ Aside0 (telemeterref12_Length.l0 kq l0 x3_1 x4_1 x5_1 = some r) ∧ Aside0 (kq ≤ k) ∧ Aside0 (Below w.heap.size w w'))
      case atStart => exact ⟨((rd_T36 l0 0).f5), ((rd_T36 l0 0).f6), (0), (by first | rfl | (simp; done) | (simp [*]; done)), (by first | rfl | (simp; done) | (simp [*]; done)), (by first | rfl | (simp; done) | (simp [*]; done)), H', ⟨Nat.le_refl _⟩, ⟨by repeat (first | (with_reducible first | exact HB.out | apply below_alloc | apply pw_below_drewN | apply below_drew1) | exact HB.out)⟩⟩
      case round =>
        clear H'
        try clear c2
        try clear c2b0
        try clear c2b1
        try clear c2b2
        try clear p2
        try clear q2
        try clear hx2
        try clear qi2
        try clear c3
        try clear c3b0
        try clear c3b1
        try clear hx216_0
        try clear hx216_1
        try clear hx216_2
        try clear hx216_3
        try clear hx216_4
        try clear hx216_5
        try clear hx216_6
        try clear hx216_7
        try clear hx216_8
        try clear hx216_9
        try clear hx217_0
        try clear hx217_1
        try clear hx217_2
        try clear hx217_3
        try clear hx217_4
        try clear hx217_5
        try clear hx217_6
        try clear hx217_7
        try clear hx217_8
        try clear hx217_9
        try clear p216
        try clear p217
        try clear q216
        try clear q217
        obtain ⟨x3_1, x4_1, x5_1, rfl, rfl, rfl, HA, HK1, HB⟩ := hrel
        cases gk with
        | zero => exact absurd HA.out (by simp [telemeterref12_Length.l0])
        | succ k1 =>
          have H := HA.out
          clear HA
          simp only [telemeterref12_Length.l0] at H
          by_cases c4 : x5_1 < (l0.length : Int)
          · rw [if_pos c4] at H
            have c4b0 : decide (x5_1 < (l0.length : Int)) = true := decide_eq_true c4
            clear c4
            by_cases c5 : 0 ≤ x5_1
            · rw [if_pos c5] at H
              have c5b0 : decide (0 ≤ x5_1) = true := decide_eq_true c5
              clear c5
              obtain ⟨ji6, hji6⟩ : ∃ j_ : Int, (mn x3_1 ((rd_T36 l0 x5_1).f5)) = j_ := ⟨_, rfl⟩
              replace H : (telemeterref12_Length.l0 k1 l0 ji6 (mx x4_1 ((rd_T36 l0 x5_1).f6)) (wrap64 (x5_1 + 1))) = some r := by first | (rw [hji6] at H; exact H) | (simp only [hji6] at H ⊢; exact H)
              have hji6_ : (if ((rd_T36 l0 x5_1).f5) < x3_1 then ((rd_T36 l0 x5_1).f5) else x3_1) = ji6 := hji6
              obtain ⟨ji7, hji7⟩ : ∃ j_ : Int, (mx x4_1 ((rd_T36 l0 x5_1).f6)) = j_ := ⟨_, rfl⟩
              replace H : (telemeterref12_Length.l0 k1 l0 ji6 ji7 (wrap64 (x5_1 + 1))) = some r := by first | (rw [hji7] at H; exact H) | (simp only [hji7] at H ⊢; exact H)
              have hji7_ : (if x4_1 < ((rd_T36 l0 x5_1).f6) then ((rd_T36 l0 x5_1).f6) else x4_1) = ji7 := hji7
              have H' := Aside0.mk H
              clear H
              have p218 : 0 ≤ (x5_1 : Int) := of_decide_eq_true (by first | (with_reducible assumption) | assumption)
              have q218 : x5_1 < (l0.length : Int) := of_decide_eq_true (by first | (with_reducible assumption) | assumption)
              obtain ⟨ad218, A218_8, c218_8, e218, hx218_0, hx218_1, hx218_2, hx218_3, hx218_4, hx218_5, hx218_6, hx218_7, hx218_8, hx218_9, hl218_8, hi218_8⟩ := at_T36 HR0.out x5_1 p218 q218
              obtain rfl : ad216 = ad218 := (by injection e218)
              replace hx218_0 := (HB.out.cell (World.block_lt_of_cell? w _ hx218_0)).trans hx218_0
              replace hx218_1 := (HB.out.cell (World.block_lt_of_cell? w _ hx218_1)).trans hx218_1
              replace hx218_2 := (HB.out.cell (World.block_lt_of_cell? w _ hx218_2)).trans hx218_2
              replace hx218_3 := (HB.out.cell (World.block_lt_of_cell? w _ hx218_3)).trans hx218_3
              replace hx218_4 := (HB.out.cell (World.block_lt_of_cell? w _ hx218_4)).trans hx218_4
              replace hx218_5 := (HB.out.cell (World.block_lt_of_cell? w _ hx218_5)).trans hx218_5
              replace hx218_6 := (HB.out.cell (World.block_lt_of_cell? w _ hx218_6)).trans hx218_6
              replace hx218_7 := (HB.out.cell (World.block_lt_of_cell? w _ hx218_7)).trans hx218_7
              replace hx218_8 := (HB.out.cell (World.block_lt_of_cell? w _ hx218_8)).trans hx218_8
              replace hx218_9 := (HB.out.cell (World.block_lt_of_cell? w _ hx218_9)).trans hx218_9
              have HR218_8 := Aside0.mk hi218_8
              have HC218_8 := Aside0.mk hl218_8
              clear hi218_8 hl218_8
              replace p218 := eq_true p218
              replace q218 := eq_true q218
              have p219 : 0 ≤ (x5_1 : Int) := of_decide_eq_true (by first | (with_reducible assumption) | assumption)
              have q219 : x5_1 < (l0.length : Int) := of_decide_eq_true (by first | (with_reducible assumption) | assumption)
              obtain ⟨ad219, A219_8, c219_8, e219, hx219_0, hx219_1, hx219_2, hx219_3, hx219_4, hx219_5, hx219_6, hx219_7, hx219_8, hx219_9, hl219_8, hi219_8⟩ := at_T36 HR0.out x5_1 p219 q219
              obtain rfl : ad216 = ad219 := (by injection e219)
              replace hx219_0 := (HB.out.cell (World.block_lt_of_cell? w _ hx219_0)).trans hx219_0
              replace hx219_1 := (HB.out.cell (World.block_lt_of_cell? w _ hx219_1)).trans hx219_1
              replace hx219_2 := (HB.out.cell (World.block_lt_of_cell? w _ hx219_2)).trans hx219_2
              replace hx219_3 := (HB.out.cell (World.block_lt_of_cell? w _ hx219_3)).trans hx219_3
              replace hx219_4 := (HB.out.cell (World.block_lt_of_cell? w _ hx219_4)).trans hx219_4
              replace hx219_5 := (HB.out.cell (World.block_lt_of_cell? w _ hx219_5)).trans hx219_5
              replace hx219_6 := (HB.out.cell (World.block_lt_of_cell? w _ hx219_6)).trans hx219_6
              replace hx219_7 := (HB.out.cell (World.block_lt_of_cell? w _ hx219_7)).trans hx219_7
              replace hx219_8 := (HB.out.cell (World.block_lt_of_cell? w _ hx219_8)).trans hx219_8
              replace hx219_9 := (HB.out.cell (World.block_lt_of_cell? w _ hx219_9)).trans hx219_9
              have HR219_8 := Aside0.mk hi219_8
              have HC219_8 := Aside0.mk hl219_8
              clear hi219_8 hl219_8
              replace p219 := eq_true p219
              replace q219 := eq_true q219
              have ea_ := Option.some.inj (hx218_8.symm.trans hx219_8)
              injection ea_ with ea_ en_ ec_
              subst ea_
              subst ec_
              clear en_
              go_wp2
              go_roundg k1
              case measure => have := HK1.out; omega
              case rel => exact ⟨(ji6), (ji7), (wrap64 (x5_1 + 1)), (by first | rfl | (simp; done) | (simp only [← hji6] <;> (first | rfl | simp)) | (simp [*]; done)), (by first | rfl | (simp; done) | (simp only [← hji7] <;> (first | rfl | simp)) | (simp [*]; done)), (by first | rfl | (simp; done) | (simp [*]; done)), H', ⟨by have := HK1.out; omega⟩, ⟨by repeat (first | (with_reducible first | exact HB.out | apply below_alloc | apply pw_below_drewN | apply below_drew1) | exact HB.out)⟩⟩
            · rw [if_neg c5] at H
              exact absurd H (by simp)
          · rw [if_neg c4] at H
            have c4b0 : decide (x5_1 < (l0.length : Int)) = false := decide_eq_false c4
            clear c4
            obtain rfl := Option.some.inj H
            go_wp2
            go_ret
            exact ⟨by first | rfl | (simp [errW_none, errW_some] <;> rfl) | (simp [*, errW_none, errW_some] <;> rfl), by repeat (first | (with_reducible first | exact HB.out | apply below_alloc | apply pw_below_drewN | apply below_drew1) | exact HB.out)⟩
    · rw [if_neg c3] at H
      exact absurd H (by simp)

end Go.Proofs.Ytbjoleelfihikaa.Px
