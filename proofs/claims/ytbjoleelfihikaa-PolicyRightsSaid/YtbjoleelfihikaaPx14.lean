-- Laid by a program of this session (wip/xprint.py: the kit's print.py, with functions given by hand). Lean checks it.
import Derived.Test.YtbjoleelfihikaaPx0
namespace Go.Proofs.Ytbjoleelfihikaa.Px
open Go.RowKit Go.Proofs.YtbjoleelfihikaaW.PrintWords Go.Proofs.YtbjoleelfihikaaW.PrintLast Go.Proofs.YtbjoleelfihikaaW.PrintMore
attribute [local go_sem] max2_int min2_int max_two min_two max_three min_three max_four min_four   -- for this text's walks alone
set_option linter.unusedVariables false
set_option linter.unusedSimpArgs false

/-! ### policy_Length: function 19 -/
def policy_Length.l0 : Nat → Int → Int → List (S36) → Int → Int → Option (Int)
  | 0, _, _, _, _, _ => none
  | k + 1, x3, x4, x18, x19, x20 => if x20 < x19 then (if 0 ≤ x20 then (if x20 < (x18.length : Int) then (policy_Length.l0 k (mn x3 ((rd_T36 x18 x20).f5)) (mx x4 ((rd_T36 x18 x20).f6)) x18 x19 (wrap64 (x20 + 1))) else (none)) else (none)) else (some (wrap64 (x4 - x3)))
def policy_Length.f (k : Nat) (l0 : List (S36)) : Option (Int) := if (l0.length : Int) = 0 then (some 0) else (if 0 < (l0.length : Int) then (policy_Length.l0 k ((rd_T36 l0 0).f5) ((rd_T36 l0 0).f6) l0 (l0.length : Int) 0) else (none))
theorem policy_Length.mono_l : ∀ k, (∀ y0 y1 y2 y3 y4, LeO (policy_Length.l0 k y0 y1 y2 y3 y4) (policy_Length.l0 (k + 1) y0 y1 y2 y3 y4))
  | 0 => fun _ _ _ _ _ r h => by simp [policy_Length.l0] at h
  | k + 1 => by
    have ih0 := policy_Length.mono_l k
    · intro y0 y1 y2 y3 y4
      unfold policy_Length.l0
      repeat' first
      | (with_reducible exact ih0 _ _ _ _ _)
      | (with_reducible exact LeO.refl _)
      | (with_reducible exact LeO.none _)
      | (with_reducible refine LeO.ite ?_ ?_)
      | (with_reducible refine LeO.bind ?_ (fun _ => ?_))
      | exact ih0 _ _ _ _ _
      | exact LeO.none _
      | refine LeO.ite ?_ ?_
      | refine LeO.bind ?_ (fun _ => ?_)
theorem policy_Length.mono : ∀ a0 k, LeO (policy_Length.f k a0) (policy_Length.f (k + 1) a0) := by
  intro a0 k
  have ih0 := policy_Length.mono_l k
  unfold policy_Length.f
  repeat' first
      | (with_reducible exact ih0 _ _ _ _ _)
      | (with_reducible exact LeO.refl _)
      | (with_reducible exact LeO.none _)
      | (with_reducible refine LeO.ite ?_ ?_)
      | (with_reducible refine LeO.bind ?_ (fun _ => ?_))
      | exact ih0 _ _ _ _ _
      | exact LeO.none _
      | refine LeO.ite ?_ ?_
      | refine LeO.bind ?_ (fun _ => ?_)
set_option maxHeartbeats 8000000 in
set_option maxRecDepth 100000 in
theorem policy_Length.calls (k : Nat) (A0 : Option Addr) (c0 : Nat) (l0 : List (S36)) (r : Int) (w : World) (hr0 : Kd.C k36 w A0 l0.length l0) (hc0 : l0.length ≤ c0) (h : policy_Length.f k l0 = some r) :
    Calls Try.prog 19 #[.slice A0 l0.length c0] w fun e w' => e = .returned (.int .i64 r) ∧ Below w.heap.size w w' := by
  have hu36 := Try.underlying36
  have HR0 := Aside0.mk hr0
  have HC0 := Aside0.mk hc0
  clear hr0 hc0
  have HB := Aside0.mk (Below.refl w.heap.size w)
  have H : (if (l0.length : Int) = 0 then (some 0) else (if 0 < (l0.length : Int) then (policy_Length.l0 k ((rd_T36 l0 0).f5) ((rd_T36 l0 0).f6) l0 (l0.length : Int) 0) else (none))) = some r := h
  clear h
  by_cases c2 : (l0.length : Int) = 0
  · rw [if_pos c2] at H
    have c2b0 : ((l0.length : Int) == 0) = true := beq_iff_eq.mpr c2
    have c2b1 : ((l0.length : Int) != 0) = false := bne_eq_false_iff_eq.mpr c2
    clear c2
    obtain rfl := Option.some.inj H
    go_enter Try.func19, Try.ntmps19
    go_wp2
    repeat (go_quiet (fail); try go_wp2)
    go_ret
    exact ⟨by first | rfl | (simp [errW_none, errW_some] <;> rfl) | (simp [*, errW_none, errW_some] <;> rfl), by repeat (first | (with_reducible first | exact HB.out | apply below_alloc | apply pw_below_drewN | apply below_drew1) | exact HB.out)⟩
  · rw [if_neg c2] at H
    have c2b0 : ((l0.length : Int) == 0) = false := beq_eq_false_iff_ne.mpr c2
    have c2b1 : ((l0.length : Int) != 0) = true := bne_iff_ne.mpr c2
    have c2b2 : ¬ (l0 = []) := fun h_ => c2 (by rw [h_]; rfl)
    by_cases c3 : 0 < (l0.length : Int)
    · rw [if_pos c3] at H
      have c3b0 : decide (0 < (l0.length : Int)) = true := decide_eq_true c3
      have c3b1 : decide (0 < l0.length) = true := decide_eq_true (by omega)
      clear c3
      have H' := Aside0.mk H
      clear H
      have p129 : 0 ≤ (0 : Int) := (by omega)
      have q129 : 0 < (l0.length : Int) := of_decide_eq_true (by first | (with_reducible assumption) | assumption)
      obtain ⟨ad129, A129_8, c129_8, e129, hx129_0, hx129_1, hx129_2, hx129_3, hx129_4, hx129_5, hx129_6, hx129_7, hx129_8, hx129_9, hl129_8, hi129_8⟩ := at_T36 HR0.out 0 p129 q129
      cases e129
      have qi129 : (0 < l0.length) = True := eq_true (by omega)
      (try rw [show ((0 : Int)).toNat = 0 from rfl] at hx129_0)
      (try rw [show 0 * 10 = 0 from rfl] at hx129_0)
      (try rw [Addr.add_zero'] at hx129_0)
      (try rw [show ((0 : Int)).toNat = 0 from rfl] at hx129_1)
      (try rw [show 0 * 10 = 0 from rfl] at hx129_1)
      (try rw [Addr.add_zero'] at hx129_1)
      (try rw [show ((0 : Int)).toNat = 0 from rfl] at hx129_2)
      (try rw [show 0 * 10 = 0 from rfl] at hx129_2)
      (try rw [Addr.add_zero'] at hx129_2)
      (try rw [show ((0 : Int)).toNat = 0 from rfl] at hx129_3)
      (try rw [show 0 * 10 = 0 from rfl] at hx129_3)
      (try rw [Addr.add_zero'] at hx129_3)
      (try rw [show ((0 : Int)).toNat = 0 from rfl] at hx129_4)
      (try rw [show 0 * 10 = 0 from rfl] at hx129_4)
      (try rw [Addr.add_zero'] at hx129_4)
      (try rw [show ((0 : Int)).toNat = 0 from rfl] at hx129_5)
      (try rw [show 0 * 10 = 0 from rfl] at hx129_5)
      (try rw [Addr.add_zero'] at hx129_5)
      (try rw [show ((0 : Int)).toNat = 0 from rfl] at hx129_6)
      (try rw [show 0 * 10 = 0 from rfl] at hx129_6)
      (try rw [Addr.add_zero'] at hx129_6)
      (try rw [show ((0 : Int)).toNat = 0 from rfl] at hx129_7)
      (try rw [show 0 * 10 = 0 from rfl] at hx129_7)
      (try rw [Addr.add_zero'] at hx129_7)
      (try rw [show ((0 : Int)).toNat = 0 from rfl] at hx129_8)
      (try rw [show 0 * 10 = 0 from rfl] at hx129_8)
      (try rw [Addr.add_zero'] at hx129_8)
      (try rw [show ((0 : Int)).toNat = 0 from rfl] at hx129_9)
      (try rw [show 0 * 10 = 0 from rfl] at hx129_9)
      (try rw [Addr.add_zero'] at hx129_9)
      have HR129_8 := Aside0.mk hi129_8
      have HC129_8 := Aside0.mk hl129_8
      clear hi129_8 hl129_8
      replace p129 := eq_true p129
      replace q129 := eq_true q129
      have p130 : 0 ≤ (0 : Int) := (by omega)
      have q130 : 0 < (l0.length : Int) := of_decide_eq_true (by first | (with_reducible assumption) | assumption)
      obtain ⟨ad130, A130_8, c130_8, e130, hx130_0, hx130_1, hx130_2, hx130_3, hx130_4, hx130_5, hx130_6, hx130_7, hx130_8, hx130_9, hl130_8, hi130_8⟩ := at_T36 HR0.out 0 p130 q130
      obtain rfl : ad129 = ad130 := (by injection e130)
      have qi130 : (0 < l0.length) = True := eq_true (by omega)
      (try rw [show ((0 : Int)).toNat = 0 from rfl] at hx130_0)
      (try rw [show 0 * 10 = 0 from rfl] at hx130_0)
      (try rw [Addr.add_zero'] at hx130_0)
      (try rw [show ((0 : Int)).toNat = 0 from rfl] at hx130_1)
      (try rw [show 0 * 10 = 0 from rfl] at hx130_1)
      (try rw [Addr.add_zero'] at hx130_1)
      (try rw [show ((0 : Int)).toNat = 0 from rfl] at hx130_2)
      (try rw [show 0 * 10 = 0 from rfl] at hx130_2)
      (try rw [Addr.add_zero'] at hx130_2)
      (try rw [show ((0 : Int)).toNat = 0 from rfl] at hx130_3)
      (try rw [show 0 * 10 = 0 from rfl] at hx130_3)
      (try rw [Addr.add_zero'] at hx130_3)
      (try rw [show ((0 : Int)).toNat = 0 from rfl] at hx130_4)
      (try rw [show 0 * 10 = 0 from rfl] at hx130_4)
      (try rw [Addr.add_zero'] at hx130_4)
      (try rw [show ((0 : Int)).toNat = 0 from rfl] at hx130_5)
      (try rw [show 0 * 10 = 0 from rfl] at hx130_5)
      (try rw [Addr.add_zero'] at hx130_5)
      (try rw [show ((0 : Int)).toNat = 0 from rfl] at hx130_6)
      (try rw [show 0 * 10 = 0 from rfl] at hx130_6)
      (try rw [Addr.add_zero'] at hx130_6)
      (try rw [show ((0 : Int)).toNat = 0 from rfl] at hx130_7)
      (try rw [show 0 * 10 = 0 from rfl] at hx130_7)
      (try rw [Addr.add_zero'] at hx130_7)
      (try rw [show ((0 : Int)).toNat = 0 from rfl] at hx130_8)
      (try rw [show 0 * 10 = 0 from rfl] at hx130_8)
      (try rw [Addr.add_zero'] at hx130_8)
      (try rw [show ((0 : Int)).toNat = 0 from rfl] at hx130_9)
      (try rw [show 0 * 10 = 0 from rfl] at hx130_9)
      (try rw [Addr.add_zero'] at hx130_9)
      have HR130_8 := Aside0.mk hi130_8
      have HC130_8 := Aside0.mk hl130_8
      clear hi130_8 hl130_8
      replace p130 := eq_true p130
      replace q130 := eq_true q130
      have ea_ := Option.some.inj (hx129_8.symm.trans hx130_8)
      injection ea_ with ea_ en_ ec_
      subst ea_
      subst ec_
      clear en_
      go_enter Try.func19, Try.ntmps19
      go_wp2
      repeat (go_quiet (fail); try go_wp2)
      go_loopg [3, 4, 20] k (fun kq v3 v4 v20 w' => ∃ (x3_1 : Int) (x4_1 : Int) (x20_1 : Int), v3 = .int .i64 x3_1 ∧ v4 = .int .i64 x4_1 ∧ v20 = .int .i64 x20_1 ∧ Aside0 (policy_Length.l0 kq x3_1 x4_1 l0 (l0.length : Int) x20_1 = some r) ∧ Aside0 (kq ≤ k) ∧ Aside0 (Below w.heap.size w w'))
      case atStart => exact ⟨((rd_T36 l0 0).f5), ((rd_T36 l0 0).f6), (0), (by first | rfl | (simp; done) | (simp [*]; done)), (by first | rfl | (simp; done) | (simp [*]; done)), (by first | rfl | (simp; done) | (simp [*]; done)), H', ⟨Nat.le_refl _⟩, ⟨by repeat (first | (with_reducible first | exact HB.out | apply below_alloc | apply pw_below_drewN | apply below_drew1) | exact HB.out)⟩⟩
      case round =>
        clear H'
        try clear c1
        try clear p1
        try clear q1
        try clear hx1
        try clear qi1
        try clear c2
        try clear c2b0
        try clear c2b1
        try clear c2b2
        try clear p2
        try clear c3
        try clear c3b0
        try clear c3b1
        try clear hx129_0
        try clear hx129_1
        try clear hx129_2
        try clear hx129_3
        try clear hx129_4
        try clear hx129_5
        try clear hx129_6
        try clear hx129_7
        try clear hx129_8
        try clear hx129_9
        try clear hx130_0
        try clear hx130_1
        try clear hx130_2
        try clear hx130_3
        try clear hx130_4
        try clear hx130_5
        try clear hx130_6
        try clear hx130_7
        try clear hx130_8
        try clear hx130_9
        try clear p129
        try clear p130
        try clear q129
        try clear q130
        obtain ⟨x3_1, x4_1, x20_1, rfl, rfl, rfl, HA, HK1, HB⟩ := hrel
        cases gk with
        | zero => exact absurd HA.out (by simp [policy_Length.l0])
        | succ k1 =>
          have H := HA.out
          clear HA
          simp only [policy_Length.l0] at H
          by_cases c4 : x20_1 < (l0.length : Int)
          · rw [if_pos c4] at H
            have c4b0 : decide (x20_1 < (l0.length : Int)) = true := decide_eq_true c4
            clear c4
            by_cases c5 : 0 ≤ x20_1
            · rw [if_pos c5] at H
              have c5b0 : decide (0 ≤ x20_1) = true := decide_eq_true c5
              clear c5
              by_cases c6 : x20_1 < (l0.length : Int)
              · rw [if_pos c6] at H
                have c6b0 : decide (x20_1 < (l0.length : Int)) = true := decide_eq_true c6
                clear c6
                obtain ⟨ji7, hji7⟩ : ∃ j_ : Int, (mn x3_1 ((rd_T36 l0 x20_1).f5)) = j_ := ⟨_, rfl⟩
                replace H : (policy_Length.l0 k1 ji7 (mx x4_1 ((rd_T36 l0 x20_1).f6)) l0 (l0.length : Int) (wrap64 (x20_1 + 1))) = some r := by first | (rw [hji7] at H; exact H) | (simp only [hji7] at H ⊢; exact H)
                have hji7_ : (if ((rd_T36 l0 x20_1).f5) < x3_1 then ((rd_T36 l0 x20_1).f5) else x3_1) = ji7 := hji7
                obtain ⟨ji8, hji8⟩ : ∃ j_ : Int, (mx x4_1 ((rd_T36 l0 x20_1).f6)) = j_ := ⟨_, rfl⟩
                replace H : (policy_Length.l0 k1 ji7 ji8 l0 (l0.length : Int) (wrap64 (x20_1 + 1))) = some r := by first | (rw [hji8] at H; exact H) | (simp only [hji8] at H ⊢; exact H)
                have hji8_ : (if x4_1 < ((rd_T36 l0 x20_1).f6) then ((rd_T36 l0 x20_1).f6) else x4_1) = ji8 := hji8
                have H' := Aside0.mk H
                clear H
                have p131 : 0 ≤ (x20_1 : Int) := of_decide_eq_true (by first | (with_reducible assumption) | assumption)
                have q131 : x20_1 < (l0.length : Int) := of_decide_eq_true (by first | (with_reducible assumption) | assumption)
                obtain ⟨ad131, A131_8, c131_8, e131, hx131_0, hx131_1, hx131_2, hx131_3, hx131_4, hx131_5, hx131_6, hx131_7, hx131_8, hx131_9, hl131_8, hi131_8⟩ := at_T36 HR0.out x20_1 p131 q131
                obtain rfl : ad129 = ad131 := (by injection e131)
                replace hx131_0 := (HB.out.cell (World.block_lt_of_cell? w _ hx131_0)).trans hx131_0
                replace hx131_1 := (HB.out.cell (World.block_lt_of_cell? w _ hx131_1)).trans hx131_1
                replace hx131_2 := (HB.out.cell (World.block_lt_of_cell? w _ hx131_2)).trans hx131_2
                replace hx131_3 := (HB.out.cell (World.block_lt_of_cell? w _ hx131_3)).trans hx131_3
                replace hx131_4 := (HB.out.cell (World.block_lt_of_cell? w _ hx131_4)).trans hx131_4
                replace hx131_5 := (HB.out.cell (World.block_lt_of_cell? w _ hx131_5)).trans hx131_5
                replace hx131_6 := (HB.out.cell (World.block_lt_of_cell? w _ hx131_6)).trans hx131_6
                replace hx131_7 := (HB.out.cell (World.block_lt_of_cell? w _ hx131_7)).trans hx131_7
                replace hx131_8 := (HB.out.cell (World.block_lt_of_cell? w _ hx131_8)).trans hx131_8
                replace hx131_9 := (HB.out.cell (World.block_lt_of_cell? w _ hx131_9)).trans hx131_9
                have HR131_8 := Aside0.mk hi131_8
                have HC131_8 := Aside0.mk hl131_8
                clear hi131_8 hl131_8
                replace p131 := eq_true p131
                replace q131 := eq_true q131
                go_wp2_with (first | ((with_reducible refine gate_dst (N := 6) rfl ?_); refine box_event ?hg (N := 6) ?hd (cs := #[.int .u64 0, .int .u64 0, .int .u64 0, .int .u64 0, .string (⟨#[]⟩ : ByteArray), .int .i64 0, .int .i64 0, .bool false, .slice none 0 0, .int .u64 0]) (t := 36) ?hr ?_; (case hd => rfl); (case hg => rfl); (case hr => first | (go_simp; done) | (go_simp; rfl)); intro gb132 hg w9 hbox hb; have n0_ := Aside0.mk (below_step (by repeat (first | (with_reducible first | exact HB.out | apply below_alloc | apply pw_below_drewN | apply below_drew1) | exact HB.out)) hb); have n1_ := Aside0.mk (hbox); have n2_ := Aside0.mk ((by rw [hg]; exact (below_size (by repeat (first | (with_reducible first | exact HB.out | apply below_alloc | apply pw_below_drewN | apply below_drew1) | exact HB.out))) : w.heap.size ≤ gb132)); have n3_ := Aside0.mk ((by rw [hg]; exact (below_size (by repeat (first | (with_reducible first | exact HB.out | apply below_alloc | apply pw_below_drewN | apply below_drew1) | exact HB.out))) : w.heap.size ≤ gb132)); clear HB; have HB := n0_; have BK132 := n1_; have GW132 := n2_; have GE132 := n3_; clear n0_ n1_ n2_ n3_; clear hb hbox hg; have hcz10_0 : w9.cell? ⟨gb132, 0, none⟩ = some (.int .u64 0) := (blk_cell BK132.out 0).trans rfl; have hcz10_1 : w9.cell? ⟨gb132, 1, none⟩ = some (.int .u64 0) := (blk_cell BK132.out 1).trans rfl; have hcz10_2 : w9.cell? ⟨gb132, 2, none⟩ = some (.int .u64 0) := (blk_cell BK132.out 2).trans rfl; have hcz10_3 : w9.cell? ⟨gb132, 3, none⟩ = some (.int .u64 0) := (blk_cell BK132.out 3).trans rfl; have hcz10_4 : w9.cell? ⟨gb132, 4, none⟩ = some (.string (⟨#[]⟩ : ByteArray)) := (blk_cell BK132.out 4).trans rfl; have hcz10_5 : w9.cell? ⟨gb132, 5, none⟩ = some (.int .i64 0) := (blk_cell BK132.out 5).trans rfl; have hcz10_6 : w9.cell? ⟨gb132, 6, none⟩ = some (.int .i64 0) := (blk_cell BK132.out 6).trans rfl; have hcz10_7 : w9.cell? ⟨gb132, 7, none⟩ = some (.bool false) := (blk_cell BK132.out 7).trans rfl; have hcz10_8 : w9.cell? ⟨gb132, 8, none⟩ = some (.slice none 0 0) := (blk_cell BK132.out 8).trans rfl; have hcz10_9 : w9.cell? ⟨gb132, 9, none⟩ = some (.int .u64 0) := (blk_cell BK132.out 9).trans rfl; have hfz10_0 := blk_frozen BK132.out 0; have hfz10_1 := blk_frozen BK132.out 1; have hfz10_2 := blk_frozen BK132.out 2; have hfz10_3 := blk_frozen BK132.out 3; have hfz10_4 := blk_frozen BK132.out 4; have hfz10_5 := blk_frozen BK132.out 5; have hfz10_6 := blk_frozen BK132.out 6; have hfz10_7 := blk_frozen BK132.out 7; have hfz10_8 := blk_frozen BK132.out 8; have hfz10_9 := blk_frozen BK132.out 9))
                repeat (go_quiet (first | ((with_reducible refine gate_dst (N := 6) rfl ?_); refine box_event ?hg (N := 6) ?hd (cs := #[.int .u64 0, .int .u64 0, .int .u64 0, .int .u64 0, .string (⟨#[]⟩ : ByteArray), .int .i64 0, .int .i64 0, .bool false, .slice none 0 0, .int .u64 0]) (t := 36) ?hr ?_; (case hd => rfl); (case hg => rfl); (case hr => first | (go_simp; done) | (go_simp; rfl)); intro gb132 hg w9 hbox hb; have n0_ := Aside0.mk (below_step (by repeat (first | (with_reducible first | exact HB.out | apply below_alloc | apply pw_below_drewN | apply below_drew1) | exact HB.out)) hb); have n1_ := Aside0.mk (hbox); have n2_ := Aside0.mk ((by rw [hg]; exact (below_size (by repeat (first | (with_reducible first | exact HB.out | apply below_alloc | apply pw_below_drewN | apply below_drew1) | exact HB.out))) : w.heap.size ≤ gb132)); have n3_ := Aside0.mk ((by rw [hg]; exact (below_size (by repeat (first | (with_reducible first | exact HB.out | apply below_alloc | apply pw_below_drewN | apply below_drew1) | exact HB.out))) : w.heap.size ≤ gb132)); clear HB; have HB := n0_; have BK132 := n1_; have GW132 := n2_; have GE132 := n3_; clear n0_ n1_ n2_ n3_; clear hb hbox hg; have hcz10_0 : w9.cell? ⟨gb132, 0, none⟩ = some (.int .u64 0) := (blk_cell BK132.out 0).trans rfl; have hcz10_1 : w9.cell? ⟨gb132, 1, none⟩ = some (.int .u64 0) := (blk_cell BK132.out 1).trans rfl; have hcz10_2 : w9.cell? ⟨gb132, 2, none⟩ = some (.int .u64 0) := (blk_cell BK132.out 2).trans rfl; have hcz10_3 : w9.cell? ⟨gb132, 3, none⟩ = some (.int .u64 0) := (blk_cell BK132.out 3).trans rfl; have hcz10_4 : w9.cell? ⟨gb132, 4, none⟩ = some (.string (⟨#[]⟩ : ByteArray)) := (blk_cell BK132.out 4).trans rfl; have hcz10_5 : w9.cell? ⟨gb132, 5, none⟩ = some (.int .i64 0) := (blk_cell BK132.out 5).trans rfl; have hcz10_6 : w9.cell? ⟨gb132, 6, none⟩ = some (.int .i64 0) := (blk_cell BK132.out 6).trans rfl; have hcz10_7 : w9.cell? ⟨gb132, 7, none⟩ = some (.bool false) := (blk_cell BK132.out 7).trans rfl; have hcz10_8 : w9.cell? ⟨gb132, 8, none⟩ = some (.slice none 0 0) := (blk_cell BK132.out 8).trans rfl; have hcz10_9 : w9.cell? ⟨gb132, 9, none⟩ = some (.int .u64 0) := (blk_cell BK132.out 9).trans rfl; have hfz10_0 := blk_frozen BK132.out 0; have hfz10_1 := blk_frozen BK132.out 1; have hfz10_2 := blk_frozen BK132.out 2; have hfz10_3 := blk_frozen BK132.out 3; have hfz10_4 := blk_frozen BK132.out 4; have hfz10_5 := blk_frozen BK132.out 5; have hfz10_6 := blk_frozen BK132.out 6; have hfz10_7 := blk_frozen BK132.out 7; have hfz10_8 := blk_frozen BK132.out 8; have hfz10_9 := blk_frozen BK132.out 9)); try go_wp2_with (first | ((with_reducible refine gate_dst (N := 6) rfl ?_); refine box_event ?hg (N := 6) ?hd (cs := #[.int .u64 0, .int .u64 0, .int .u64 0, .int .u64 0, .string (⟨#[]⟩ : ByteArray), .int .i64 0, .int .i64 0, .bool false, .slice none 0 0, .int .u64 0]) (t := 36) ?hr ?_; (case hd => rfl); (case hg => rfl); (case hr => first | (go_simp; done) | (go_simp; rfl)); intro gb132 hg w9 hbox hb; have n0_ := Aside0.mk (below_step (by repeat (first | (with_reducible first | exact HB.out | apply below_alloc | apply pw_below_drewN | apply below_drew1) | exact HB.out)) hb); have n1_ := Aside0.mk (hbox); have n2_ := Aside0.mk ((by rw [hg]; exact (below_size (by repeat (first | (with_reducible first | exact HB.out | apply below_alloc | apply pw_below_drewN | apply below_drew1) | exact HB.out))) : w.heap.size ≤ gb132)); have n3_ := Aside0.mk ((by rw [hg]; exact (below_size (by repeat (first | (with_reducible first | exact HB.out | apply below_alloc | apply pw_below_drewN | apply below_drew1) | exact HB.out))) : w.heap.size ≤ gb132)); clear HB; have HB := n0_; have BK132 := n1_; have GW132 := n2_; have GE132 := n3_; clear n0_ n1_ n2_ n3_; clear hb hbox hg; have hcz10_0 : w9.cell? ⟨gb132, 0, none⟩ = some (.int .u64 0) := (blk_cell BK132.out 0).trans rfl; have hcz10_1 : w9.cell? ⟨gb132, 1, none⟩ = some (.int .u64 0) := (blk_cell BK132.out 1).trans rfl; have hcz10_2 : w9.cell? ⟨gb132, 2, none⟩ = some (.int .u64 0) := (blk_cell BK132.out 2).trans rfl; have hcz10_3 : w9.cell? ⟨gb132, 3, none⟩ = some (.int .u64 0) := (blk_cell BK132.out 3).trans rfl; have hcz10_4 : w9.cell? ⟨gb132, 4, none⟩ = some (.string (⟨#[]⟩ : ByteArray)) := (blk_cell BK132.out 4).trans rfl; have hcz10_5 : w9.cell? ⟨gb132, 5, none⟩ = some (.int .i64 0) := (blk_cell BK132.out 5).trans rfl; have hcz10_6 : w9.cell? ⟨gb132, 6, none⟩ = some (.int .i64 0) := (blk_cell BK132.out 6).trans rfl; have hcz10_7 : w9.cell? ⟨gb132, 7, none⟩ = some (.bool false) := (blk_cell BK132.out 7).trans rfl; have hcz10_8 : w9.cell? ⟨gb132, 8, none⟩ = some (.slice none 0 0) := (blk_cell BK132.out 8).trans rfl; have hcz10_9 : w9.cell? ⟨gb132, 9, none⟩ = some (.int .u64 0) := (blk_cell BK132.out 9).trans rfl; have hfz10_0 := blk_frozen BK132.out 0; have hfz10_1 := blk_frozen BK132.out 1; have hfz10_2 := blk_frozen BK132.out 2; have hfz10_3 := blk_frozen BK132.out 3; have hfz10_4 := blk_frozen BK132.out 4; have hfz10_5 := blk_frozen BK132.out 5; have hfz10_6 := blk_frozen BK132.out 6; have hfz10_7 := blk_frozen BK132.out 7; have hfz10_8 := blk_frozen BK132.out 8; have hfz10_9 := blk_frozen BK132.out 9)))
                go_roundg k1
                case measure => have := HK1.out; omega
                case rel => exact ⟨(ji7), (ji8), (wrap64 (x20_1 + 1)), (by first | rfl | (simp; done) | (simp only [← hji7] <;> (first | rfl | simp)) | (simp [*]; done)), (by first | rfl | (simp; done) | (simp only [← hji8] <;> (first | rfl | simp)) | (simp [*]; done)), (by first | rfl | (simp; done) | (simp [*]; done)), H', ⟨by have := HK1.out; omega⟩, ⟨by repeat (first | (with_reducible first | exact HB.out | apply below_alloc | apply pw_below_drewN | apply below_drew1 | refine below_set ?_ GE132.out) | exact HB.out)⟩⟩
              · rw [if_neg c6] at H
                exact absurd H (by simp)
            · rw [if_neg c5] at H
              exact absurd H (by simp)
          · rw [if_neg c4] at H
            have c4b0 : decide (x20_1 < (l0.length : Int)) = false := decide_eq_false c4
            clear c4
            obtain rfl := Option.some.inj H
            go_wp2
            repeat (go_quiet (fail); try go_wp2)
            go_ret
            exact ⟨by first | rfl | (simp [errW_none, errW_some] <;> rfl) | (simp [*, errW_none, errW_some] <;> rfl), by repeat (first | (with_reducible first | exact HB.out | apply below_alloc | apply pw_below_drewN | apply below_drew1) | exact HB.out)⟩
    · rw [if_neg c3] at H
      exact absurd H (by simp)

end Go.Proofs.Ytbjoleelfihikaa.Px
