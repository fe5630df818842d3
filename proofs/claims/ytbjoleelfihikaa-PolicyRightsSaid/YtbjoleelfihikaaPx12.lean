-- Laid by a program of this session (wip/xprint.py: the kit's print.py, with functions given by hand). Lean checks it.
import Derived.Test.YtbjoleelfihikaaPx0
namespace Go.Proofs.Ytbjoleelfihikaa.Px
open Go.RowKit Go.Proofs.YtbjoleelfihikaaW.PrintWords Go.Proofs.YtbjoleelfihikaaW.PrintLast Go.Proofs.YtbjoleelfihikaaW.PrintMore
attribute [local go_sem] max2_int min2_int max_two min_two max_three min_three max_four min_four   -- for this text's walks alone
set_option linter.unusedVariables false
set_option linter.unusedSimpArgs false

/-! ### policy_odd: function 26 -/
mutual
def policy_odd.j0 : Nat → Bool → Int → Int → ByteArray → ByteArray → Option (Bool)
  | 0, _, _, _, _, _ => none
  | k + 1, x3, x129000, x129001, x129002, x129003 => if x129000 = 1 then (policy_odd.j1 k x3 x129000 (x129000 == 1) x129000 x129001 x129002 x129003) else (policy_odd.j1 k x3 x129000 (x129000 == 4) x129000 x129001 x129002 x129003)
def policy_odd.j1 : Nat → Bool → Int → Bool → Int → Int → ByteArray → ByteArray → Option (Bool)
  | 0, _, _, _, _, _, _, _ => none
  | k + 1, x3, x13, x14, x129000, x129001, x129002, x129003 => if x14 = true then (if x129001 < 0 then (some true) else (some (!x3))) else (if x13 = 2 then (if x129001 = 0 then (some (!x3)) else (some true)) else (if x13 = 3 then (if x129001 = 0 then (if x129002.toList = ([] : List UInt8) then (some true) else (some (decide ((mx (x129002.size : Int) (x129003.size : Int)) > 60)))) else (some true)) else (if x13 = 5 then (if x129001 < 0 then (some true) else (if x129001 > 72057594037927936 then (some true) else (some (!x3)))) else (some true))))
end
def policy_odd.f (k : Nat) (a0_0 : Int) (a0_1 : Int) (a0_2 : ByteArray) (a0_3 : ByteArray) : Option (Bool) := if a0_2.toList = ([] : List UInt8) then (policy_odd.j0 k (a0_3.toList == ([] : List UInt8)) a0_0 a0_1 a0_2 a0_3) else (policy_odd.j0 k false a0_0 a0_1 a0_2 a0_3)
theorem policy_odd.mono_l : ∀ k, (∀ y0 y1 y2 y3 y4, LeO (policy_odd.j0 k y0 y1 y2 y3 y4) (policy_odd.j0 (k + 1) y0 y1 y2 y3 y4)) ∧ (∀ y0 y1 y2 y3 y4 y5 y6, LeO (policy_odd.j1 k y0 y1 y2 y3 y4 y5 y6) (policy_odd.j1 (k + 1) y0 y1 y2 y3 y4 y5 y6))
  | 0 => ⟨fun _ _ _ _ _ r h => by simp [policy_odd.j0] at h, fun _ _ _ _ _ _ _ r h => by simp [policy_odd.j1] at h⟩
  | k + 1 => by
    obtain ⟨ih0, ih1⟩ := policy_odd.mono_l k
    refine ⟨?_, ?_⟩
    · intro y0 y1 y2 y3 y4
      unfold policy_odd.j0
      repeat' first
      | (with_reducible exact ih0 _ _ _ _ _)
      | (with_reducible exact ih1 _ _ _ _ _ _ _)
      | (with_reducible exact LeO.refl _)
      | (with_reducible exact LeO.none _)
      | (with_reducible refine LeO.ite ?_ ?_)
      | (with_reducible refine LeO.bind ?_ (fun _ => ?_))
      | exact ih0 _ _ _ _ _
      | exact ih1 _ _ _ _ _ _ _
      | exact LeO.none _
      | refine LeO.ite ?_ ?_
      | refine LeO.bind ?_ (fun _ => ?_)
    · intro y0 y1 y2 y3 y4 y5 y6
      unfold policy_odd.j1
      repeat' first
      | (with_reducible exact ih0 _ _ _ _ _)
      | (with_reducible exact ih1 _ _ _ _ _ _ _)
      | (with_reducible exact LeO.refl _)
      | (with_reducible exact LeO.none _)
      | (with_reducible refine LeO.ite ?_ ?_)
      | (with_reducible refine LeO.bind ?_ (fun _ => ?_))
      | exact ih0 _ _ _ _ _
      | exact ih1 _ _ _ _ _ _ _
      | exact LeO.none _
      | refine LeO.ite ?_ ?_
      | refine LeO.bind ?_ (fun _ => ?_)
theorem policy_odd.mono : ∀ a0 a1 a2 a3 k, LeO (policy_odd.f k a0 a1 a2 a3) (policy_odd.f (k + 1) a0 a1 a2 a3) := by
  intro a0 a1 a2 a3 k
  obtain ⟨ih0, ih1⟩ := policy_odd.mono_l k
  unfold policy_odd.f
  repeat' first
      | (with_reducible exact ih0 _ _ _ _ _)
      | (with_reducible exact ih1 _ _ _ _ _ _ _)
      | (with_reducible exact LeO.refl _)
      | (with_reducible exact LeO.none _)
      | (with_reducible refine LeO.ite ?_ ?_)
      | (with_reducible refine LeO.bind ?_ (fun _ => ?_))
      | exact ih0 _ _ _ _ _
      | exact ih1 _ _ _ _ _ _ _
      | exact LeO.none _
      | refine LeO.ite ?_ ?_
      | refine LeO.bind ?_ (fun _ => ?_)
set_option maxHeartbeats 8000000 in
set_option maxRecDepth 100000 in
theorem policy_odd.calls (k : Nat) (a0_0 : Int) (a0_1 : Int) (a0_2 : ByteArray) (a0_3 : ByteArray) (r : Bool) (w : World) (h : policy_odd.f k a0_0 a0_1 a0_2 a0_3 = some r) :
    Calls Try.prog 26 #[.agg #[.int .u8 a0_0, .int .i64 a0_1, .string a0_2, .string a0_3]] w fun e w' => e = .returned (.bool r) ∧ Below w.heap.size w w' := by
  have hu39 := Try.underlying39
  have HB := Aside0.mk (Below.refl w.heap.size w)
  have H : (if a0_2.toList = ([] : List UInt8) then (policy_odd.j0 k (a0_3.toList == ([] : List UInt8)) a0_0 a0_1 a0_2 a0_3) else (policy_odd.j0 k false a0_0 a0_1 a0_2 a0_3)) = some r := h
  clear h
  have HC2 := Aside0.mk H
  clear H
  go_enter Try.func26, Try.ntmps26
  go_upto_region 1 with (first | ((with_reducible refine gate_dst (N := 1) rfl ?_); (try (refine gate_guard (by rfl) ?_; dsimp only)); refine box_event ?hg (N := 1) ?hd (cs := #[.int .u8 a0_0, .int .i64 a0_1, .string a0_2, .string a0_3]) (t := 39) ?hr ?_; (case hd => rfl); (case hg => rfl); (case hr => first | (go_simp; done) | (go_simp; rfl)); intro gb128 hg w3 hbox hb; have n0_ := Aside0.mk (below_step (by repeat (first | (with_reducible first | exact HB.out | apply below_alloc | apply pw_below_drewN | apply below_drew1) | exact HB.out)) hb); have n1_ := Aside0.mk (hbox); have n2_ := Aside0.mk ((by rw [hg]; exact (below_size (by repeat (first | (with_reducible first | exact HB.out | apply below_alloc | apply pw_below_drewN | apply below_drew1) | exact HB.out))) : w.heap.size ≤ gb128)); have n3_ := Aside0.mk ((by rw [hg]; exact (below_size (by repeat (first | (with_reducible first | exact HB.out | apply below_alloc | apply pw_below_drewN | apply below_drew1) | exact HB.out))) : w.heap.size ≤ gb128)); clear HB; have HB := n0_; have BK128 := n1_; have GW128 := n2_; have GE128 := n3_; clear n0_ n1_ n2_ n3_; clear hb hbox hg))
  (try simp only [Act.put, List.setIfInBounds_toArray, List.set_cons_zero, List.set_cons_succ])
  go_cut [3] (fun v3 wc => ∃ (kq : Nat) (x3_1 : Bool), v3 = .bool x3_1 ∧ Aside0 (policy_odd.j0 kq x3_1 a0_0 a0_1 a0_2 a0_3 = some r) ∧ Aside0 (kq ≤ k) ∧ Aside0 (wc.heap[gb128]? = some (.cells #[.int .u8 a0_0, .int .i64 a0_1, .string a0_2, .string a0_3] 39 (0, 0))) ∧ Aside0 (Below w.heap.size w wc))
  case first =>
    have H := HC2.out
    clear HC2
    by_cases c4 : a0_2.toList = ([] : List UInt8)
    · rw [if_pos c4] at H
      have c4b0 : (a0_2.toList == ([] : List UInt8)) = true := beq_iff_eq.mpr c4
      have c4b1 : (a0_2.toList != ([] : List UInt8)) = false := bne_eq_false_iff_eq.mpr c4
      clear c4
      (first | rw [c4b0] | (simp only [i64_w, i32_w]; rw [c4b0]) | skip)
      have H' := Aside0.mk H
      clear H
      have hcz5_0 : w3.cell? ⟨gb128, 0, none⟩ = some (.int .u8 a0_0) := (blk_cell BK128.out 0).trans rfl
      have hcz5_1 : w3.cell? ⟨gb128, 1, none⟩ = some (.int .i64 a0_1) := (blk_cell BK128.out 1).trans rfl
      have hcz5_2 : w3.cell? ⟨gb128, 2, none⟩ = some (.string a0_2) := (blk_cell BK128.out 2).trans rfl
      have hcz5_3 : w3.cell? ⟨gb128, 3, none⟩ = some (.string a0_3) := (blk_cell BK128.out 3).trans rfl
      have hfz5_0 := blk_frozen BK128.out 0
      have hfz5_1 := blk_frozen BK128.out 1
      have hfz5_2 := blk_frozen BK128.out 2
      have hfz5_3 := blk_frozen BK128.out 3
      go_wp2
      go_meet
      case rel => exact ⟨_, ((a0_3.toList == ([] : List UInt8))), (by first | rfl | (simp; done) | (simp [*]; done)), H', ⟨by first | omega | exact Nat.le_refl _⟩, ⟨by (with_reducible repeat (first | refine blk_drewN ?_ _ | refine blk_drew ?_ | refine blk_alloc ?_ _)); exact BK128.out⟩, ⟨by repeat (first | (with_reducible first | exact HB.out | apply below_alloc | apply pw_below_drewN | apply below_drew1 | refine below_set ?_ GE128.out) | exact HB.out)⟩⟩
    · rw [if_neg c4] at H
      have c4b0 : (a0_2.toList == ([] : List UInt8)) = false := beq_eq_false_iff_ne.mpr c4
      have c4b1 : (a0_2.toList != ([] : List UInt8)) = true := bne_iff_ne.mpr c4
      (first | rw [c4b0] | (simp only [i64_w, i32_w]; rw [c4b0]) | skip)
      have H' := Aside0.mk H
      clear H
      have hcz6_0 : w3.cell? ⟨gb128, 0, none⟩ = some (.int .u8 a0_0) := (blk_cell BK128.out 0).trans rfl
      have hcz6_1 : w3.cell? ⟨gb128, 1, none⟩ = some (.int .i64 a0_1) := (blk_cell BK128.out 1).trans rfl
      have hcz6_2 : w3.cell? ⟨gb128, 2, none⟩ = some (.string a0_2) := (blk_cell BK128.out 2).trans rfl
      have hcz6_3 : w3.cell? ⟨gb128, 3, none⟩ = some (.string a0_3) := (blk_cell BK128.out 3).trans rfl
      have hfz6_0 := blk_frozen BK128.out 0
      have hfz6_1 := blk_frozen BK128.out 1
      have hfz6_2 := blk_frozen BK128.out 2
      have hfz6_3 := blk_frozen BK128.out 3
      go_wp2
      go_meet
      case rel => exact ⟨_, (false), (by first | rfl | (simp; done) | (simp [*]; done)), H', ⟨by first | omega | exact Nat.le_refl _⟩, ⟨by (with_reducible repeat (first | refine blk_drewN ?_ _ | refine blk_drew ?_ | refine blk_alloc ?_ _)); exact BK128.out⟩, ⟨by repeat (first | (with_reducible first | exact HB.out | apply below_alloc | apply pw_below_drewN | apply below_drew1 | refine below_set ?_ GE128.out) | exact HB.out)⟩⟩
  case rest =>
    clear HC2
    try clear c2
    try clear p2
    try clear c4
    try clear c4b0
    try clear c4b1
    try clear hcz5_0
    try clear hcz5_1
    try clear hcz5_2
    try clear hcz5_3
    try clear hcz6_0
    try clear hcz6_1
    try clear hcz6_2
    try clear hcz6_3
    try clear hfz5_0
    try clear hfz5_1
    try clear hfz5_2
    try clear hfz5_3
    try clear hfz6_0
    try clear hfz6_1
    try clear hfz6_2
    try clear hfz6_3
    obtain ⟨kq, x3_1, rfl, HA, HJ1, BK128, HB⟩ := hcut
    cases kq with
    | zero => exact absurd HA.out (by simp [policy_odd.j0])
    | succ kj1 =>
      have H := HA.out
      clear HA
      simp only [policy_odd.j0] at H
      have HC7 := Aside0.mk H
      clear H
      have hcz8_0 : wc.cell? ⟨gb128, 0, none⟩ = some (.int .u8 a0_0) := (blk_cell BK128.out 0).trans rfl
      have hcz8_1 : wc.cell? ⟨gb128, 1, none⟩ = some (.int .i64 a0_1) := (blk_cell BK128.out 1).trans rfl
      have hcz8_2 : wc.cell? ⟨gb128, 2, none⟩ = some (.string a0_2) := (blk_cell BK128.out 2).trans rfl
      have hcz8_3 : wc.cell? ⟨gb128, 3, none⟩ = some (.string a0_3) := (blk_cell BK128.out 3).trans rfl
      have hfz8_0 := blk_frozen BK128.out 0
      have hfz8_1 := blk_frozen BK128.out 1
      have hfz8_2 := blk_frozen BK128.out 2
      have hfz8_3 := blk_frozen BK128.out 3
      go_upto_if 14 with (fail)
      go_cut [14] (fun v14 wc => ∃ (kq : Nat) (x14_6 : Bool), v14 = .bool x14_6 ∧ Aside0 (policy_odd.j1 kq x3_1 a0_0 x14_6 a0_0 a0_1 a0_2 a0_3 = some r) ∧ Aside0 (kq ≤ kj1) ∧ Aside0 (wc.heap[gb128]? = some (.cells #[.int .u8 a0_0, .int .i64 a0_1, .string a0_2, .string a0_3] 39 (0, 0))) ∧ Aside0 (Below w.heap.size w wc))
      case first =>
        have H := HC7.out
        clear HC7
        by_cases c9 : a0_0 = 1
        · rw [if_pos c9] at H
          have c9b0 : (a0_0 == 1) = true := beq_iff_eq.mpr c9
          have c9b1 : (a0_0 != 1) = false := bne_eq_false_iff_eq.mpr c9
          clear c9
          (first | rw [c9b0] | (simp only [i64_w, i32_w]; rw [c9b0]) | skip)
          have H' := Aside0.mk H
          clear H
          go_wp2
          go_meet
          case rel => exact ⟨_, ((a0_0 == 1)), (by first | rfl | (simp; done) | (simp [*]; done)), H', ⟨by have := HJ1.out; first | omega | exact Nat.le_refl _⟩, ⟨by (with_reducible repeat (first | refine blk_drewN ?_ _ | refine blk_drew ?_ | refine blk_alloc ?_ _)); exact BK128.out⟩, ⟨by repeat (first | (with_reducible first | exact HB.out | apply below_alloc | apply pw_below_drewN | apply below_drew1 | refine below_set ?_ GE128.out) | exact HB.out)⟩⟩
        · rw [if_neg c9] at H
          have c9b0 : (a0_0 == 1) = false := beq_eq_false_iff_ne.mpr c9
          have c9b1 : (a0_0 != 1) = true := bne_iff_ne.mpr c9
          (first | rw [c9b0] | (simp only [i64_w, i32_w]; rw [c9b0]) | skip)
          have H' := Aside0.mk H
          clear H
          go_wp2
          go_meet
          case rel => exact ⟨_, ((a0_0 == 4)), (by first | rfl | (simp; done) | (simp [*]; done)), H', ⟨by have := HJ1.out; first | omega | exact Nat.le_refl _⟩, ⟨by (with_reducible repeat (first | refine blk_drewN ?_ _ | refine blk_drew ?_ | refine blk_alloc ?_ _)); exact BK128.out⟩, ⟨by repeat (first | (with_reducible first | exact HB.out | apply below_alloc | apply pw_below_drewN | apply below_drew1 | refine below_set ?_ GE128.out) | exact HB.out)⟩⟩
      case rest =>
        clear HC7
        try clear c2
        try clear p2
        try clear c4
        try clear c4b0
        try clear c4b1
        try clear c9
        try clear c9b0
        try clear c9b1
        try clear hcz5_0
        try clear hcz5_1
        try clear hcz5_2
        try clear hcz5_3
        try clear hcz6_0
        try clear hcz6_1
        try clear hcz6_2
        try clear hcz6_3
        try clear hcz8_0
        try clear hcz8_1
        try clear hcz8_2
        try clear hcz8_3
        try clear hfz5_0
        try clear hfz5_1
        try clear hfz5_2
        try clear hfz5_3
        try clear hfz6_0
        try clear hfz6_1
        try clear hfz6_2
        try clear hfz6_3
        try clear hfz8_0
        try clear hfz8_1
        try clear hfz8_2
        try clear hfz8_3
        try clear p2
        obtain ⟨kq, x14_6, rfl, HA, HJ6, BK128, HB⟩ := hcut
        cases kq with
        | zero => exact absurd HA.out (by simp [policy_odd.j1])
        | succ kj6 =>
          have H := HA.out
          clear HA
          simp only [policy_odd.j1] at H
          by_cases c10 : x14_6 = true
          · subst c10
            have H1 : (if a0_1 < 0 then (some true) else (some (!x3_1))) = some r := by rw [if_pos rfl] at H; exact H
            clear H
            have H := H1
            clear H1
            by_cases c11 : a0_1 < 0
            · rw [if_pos c11] at H
              have c11b0 : decide (a0_1 < 0) = true := decide_eq_true c11
              clear c11
              obtain rfl := Option.some.inj H
              have hcz12_0 : wc.cell? ⟨gb128, 0, none⟩ = some (.int .u8 a0_0) := (blk_cell BK128.out 0).trans rfl
              have hcz12_1 : wc.cell? ⟨gb128, 1, none⟩ = some (.int .i64 a0_1) := (blk_cell BK128.out 1).trans rfl
              have hcz12_2 : wc.cell? ⟨gb128, 2, none⟩ = some (.string a0_2) := (blk_cell BK128.out 2).trans rfl
              have hcz12_3 : wc.cell? ⟨gb128, 3, none⟩ = some (.string a0_3) := (blk_cell BK128.out 3).trans rfl
              have hfz12_0 := blk_frozen BK128.out 0
              have hfz12_1 := blk_frozen BK128.out 1
              have hfz12_2 := blk_frozen BK128.out 2
              have hfz12_3 := blk_frozen BK128.out 3
              go_wp2
              go_ret
              exact ⟨by first | rfl | (simp [errW_none, errW_some] <;> rfl) | (simp [*, errW_none, errW_some] <;> rfl), by repeat (first | (with_reducible first | exact HB.out | apply below_alloc | apply pw_below_drewN | apply below_drew1 | refine below_set ?_ GE128.out) | exact HB.out)⟩
            · rw [if_neg c11] at H
              have c11b0 : decide (a0_1 < 0) = false := decide_eq_false c11
              clear c11
              obtain rfl := Option.some.inj H
              have hcz13_0 : wc.cell? ⟨gb128, 0, none⟩ = some (.int .u8 a0_0) := (blk_cell BK128.out 0).trans rfl
              have hcz13_1 : wc.cell? ⟨gb128, 1, none⟩ = some (.int .i64 a0_1) := (blk_cell BK128.out 1).trans rfl
              have hcz13_2 : wc.cell? ⟨gb128, 2, none⟩ = some (.string a0_2) := (blk_cell BK128.out 2).trans rfl
              have hcz13_3 : wc.cell? ⟨gb128, 3, none⟩ = some (.string a0_3) := (blk_cell BK128.out 3).trans rfl
              have hfz13_0 := blk_frozen BK128.out 0
              have hfz13_1 := blk_frozen BK128.out 1
              have hfz13_2 := blk_frozen BK128.out 2
              have hfz13_3 := blk_frozen BK128.out 3
              go_wp2
              go_ret
              exact ⟨by first | rfl | (simp [errW_none, errW_some] <;> rfl) | (simp [*, errW_none, errW_some] <;> rfl), by repeat (first | (with_reducible first | exact HB.out | apply below_alloc | apply pw_below_drewN | apply below_drew1 | refine below_set ?_ GE128.out) | exact HB.out)⟩
          · replace c10 := Bool.eq_false_iff.mpr c10
            subst c10
            have H1 : (if a0_0 = 2 then (if a0_1 = 0 then (some (!x3_1)) else (some true)) else (if a0_0 = 3 then (if a0_1 = 0 then (if a0_2.toList = ([] : List UInt8) then (some true) else (some (decide ((mx (a0_2.size : Int) (a0_3.size : Int)) > 60)))) else (some true)) else (if a0_0 = 5 then (if a0_1 < 0 then (some true) else (if a0_1 > 72057594037927936 then (some true) else (some (!x3_1)))) else (some true)))) = some r := by rw [if_neg (show ¬ (false = true) by decide)] at H; exact H
            clear H
            have H := H1
            clear H1
            by_cases c14 : a0_0 = 2
            · rw [if_pos c14] at H
              have c14b0 : (a0_0 == 2) = true := beq_iff_eq.mpr c14
              have c14b1 : (a0_0 != 2) = false := bne_eq_false_iff_eq.mpr c14
              clear c14
              by_cases c15 : a0_1 = 0
              · rw [if_pos c15] at H
                have c15b0 : (a0_1 == 0) = true := beq_iff_eq.mpr c15
                have c15b1 : (a0_1 != 0) = false := bne_eq_false_iff_eq.mpr c15
                clear c15
                obtain rfl := Option.some.inj H
                have hcz16_0 : wc.cell? ⟨gb128, 0, none⟩ = some (.int .u8 a0_0) := (blk_cell BK128.out 0).trans rfl
                have hcz16_1 : wc.cell? ⟨gb128, 1, none⟩ = some (.int .i64 a0_1) := (blk_cell BK128.out 1).trans rfl
                have hcz16_2 : wc.cell? ⟨gb128, 2, none⟩ = some (.string a0_2) := (blk_cell BK128.out 2).trans rfl
                have hcz16_3 : wc.cell? ⟨gb128, 3, none⟩ = some (.string a0_3) := (blk_cell BK128.out 3).trans rfl
                have hfz16_0 := blk_frozen BK128.out 0
                have hfz16_1 := blk_frozen BK128.out 1
                have hfz16_2 := blk_frozen BK128.out 2
                have hfz16_3 := blk_frozen BK128.out 3
                go_wp2
                go_ret
                exact ⟨by first | rfl | (simp [errW_none, errW_some] <;> rfl) | (simp [*, errW_none, errW_some] <;> rfl), by repeat (first | (with_reducible first | exact HB.out | apply below_alloc | apply pw_below_drewN | apply below_drew1 | refine below_set ?_ GE128.out) | exact HB.out)⟩
              · rw [if_neg c15] at H
                have c15b0 : (a0_1 == 0) = false := beq_eq_false_iff_ne.mpr c15
                have c15b1 : (a0_1 != 0) = true := bne_iff_ne.mpr c15
                obtain rfl := Option.some.inj H
                have hcz17_0 : wc.cell? ⟨gb128, 0, none⟩ = some (.int .u8 a0_0) := (blk_cell BK128.out 0).trans rfl
                have hcz17_1 : wc.cell? ⟨gb128, 1, none⟩ = some (.int .i64 a0_1) := (blk_cell BK128.out 1).trans rfl
                have hcz17_2 : wc.cell? ⟨gb128, 2, none⟩ = some (.string a0_2) := (blk_cell BK128.out 2).trans rfl
                have hcz17_3 : wc.cell? ⟨gb128, 3, none⟩ = some (.string a0_3) := (blk_cell BK128.out 3).trans rfl
                have hfz17_0 := blk_frozen BK128.out 0
                have hfz17_1 := blk_frozen BK128.out 1
                have hfz17_2 := blk_frozen BK128.out 2
                have hfz17_3 := blk_frozen BK128.out 3
                go_wp2
                go_ret
                exact ⟨by first | rfl | (simp [errW_none, errW_some] <;> rfl) | (simp [*, errW_none, errW_some] <;> rfl), by repeat (first | (with_reducible first | exact HB.out | apply below_alloc | apply pw_below_drewN | apply below_drew1 | refine below_set ?_ GE128.out) | exact HB.out)⟩
            · rw [if_neg c14] at H
              have c14b0 : (a0_0 == 2) = false := beq_eq_false_iff_ne.mpr c14
              have c14b1 : (a0_0 != 2) = true := bne_iff_ne.mpr c14
              by_cases c18 : a0_0 = 3
              · rw [if_pos c18] at H
                have c18b0 : (a0_0 == 3) = true := beq_iff_eq.mpr c18
                have c18b1 : (a0_0 != 3) = false := bne_eq_false_iff_eq.mpr c18
                clear c18
                by_cases c19 : a0_1 = 0
                · rw [if_pos c19] at H
                  have c19b0 : (a0_1 == 0) = true := beq_iff_eq.mpr c19
                  have c19b1 : (a0_1 != 0) = false := bne_eq_false_iff_eq.mpr c19
                  clear c19
                  by_cases c20 : a0_2.toList = ([] : List UInt8)
                  · rw [if_pos c20] at H
                    have c20b0 : (a0_2.toList == ([] : List UInt8)) = true := beq_iff_eq.mpr c20
                    have c20b1 : (a0_2.toList != ([] : List UInt8)) = false := bne_eq_false_iff_eq.mpr c20
                    clear c20
                    obtain rfl := Option.some.inj H
                    have hcz21_0 : wc.cell? ⟨gb128, 0, none⟩ = some (.int .u8 a0_0) := (blk_cell BK128.out 0).trans rfl
                    have hcz21_1 : wc.cell? ⟨gb128, 1, none⟩ = some (.int .i64 a0_1) := (blk_cell BK128.out 1).trans rfl
                    have hcz21_2 : wc.cell? ⟨gb128, 2, none⟩ = some (.string a0_2) := (blk_cell BK128.out 2).trans rfl
                    have hcz21_3 : wc.cell? ⟨gb128, 3, none⟩ = some (.string a0_3) := (blk_cell BK128.out 3).trans rfl
                    have hfz21_0 := blk_frozen BK128.out 0
                    have hfz21_1 := blk_frozen BK128.out 1
                    have hfz21_2 := blk_frozen BK128.out 2
                    have hfz21_3 := blk_frozen BK128.out 3
                    go_wp2
                    go_ret
                    exact ⟨by first | rfl | (simp [errW_none, errW_some] <;> rfl) | (simp [*, errW_none, errW_some] <;> rfl), by repeat (first | (with_reducible first | exact HB.out | apply below_alloc | apply pw_below_drewN | apply below_drew1 | refine below_set ?_ GE128.out) | exact HB.out)⟩
                  · rw [if_neg c20] at H
                    have c20b0 : (a0_2.toList == ([] : List UInt8)) = false := beq_eq_false_iff_ne.mpr c20
                    have c20b1 : (a0_2.toList != ([] : List UInt8)) = true := bne_iff_ne.mpr c20
                    obtain ⟨ji22, hji22⟩ : ∃ j_ : Int, (mx (a0_2.size : Int) (a0_3.size : Int)) = j_ := ⟨_, rfl⟩
                    replace H : (some (decide ((ji22) > 60))) = some r := by first | (rw [hji22] at H; exact H) | (simp only [hji22] at H ⊢; exact H)
                    have hji22_ : (if (a0_2.size : Int) < (a0_3.size : Int) then (a0_3.size : Int) else (a0_2.size : Int)) = ji22 := hji22
                    obtain rfl := Option.some.inj H
                    have hcz23_0 : wc.cell? ⟨gb128, 0, none⟩ = some (.int .u8 a0_0) := (blk_cell BK128.out 0).trans rfl
                    have hcz23_1 : wc.cell? ⟨gb128, 1, none⟩ = some (.int .i64 a0_1) := (blk_cell BK128.out 1).trans rfl
                    have hcz23_2 : wc.cell? ⟨gb128, 2, none⟩ = some (.string a0_2) := (blk_cell BK128.out 2).trans rfl
                    have hcz23_3 : wc.cell? ⟨gb128, 3, none⟩ = some (.string a0_3) := (blk_cell BK128.out 3).trans rfl
                    have hfz23_0 := blk_frozen BK128.out 0
                    have hfz23_1 := blk_frozen BK128.out 1
                    have hfz23_2 := blk_frozen BK128.out 2
                    have hfz23_3 := blk_frozen BK128.out 3
                    go_wp2
                    all_goals go_ret
                    all_goals exact ⟨by first | rfl | (simp [errW_none, errW_some] <;> rfl) | (simp only [← hji22]; first | rfl | (simp [errW_none, errW_some] <;> rfl)) | (simp [*, errW_none, errW_some] <;> rfl) | (rw [← hji22_, if_pos (by assumption)]) | (rw [← hji22_, if_neg (by assumption)]) | (rw [← hji22_]; split <;> first | rfl | (exfalso; omega)), by repeat (first | (with_reducible first | exact HB.out | apply below_alloc | apply pw_below_drewN | apply below_drew1 | refine below_set ?_ GE128.out) | exact HB.out)⟩
                · rw [if_neg c19] at H
                  have c19b0 : (a0_1 == 0) = false := beq_eq_false_iff_ne.mpr c19
                  have c19b1 : (a0_1 != 0) = true := bne_iff_ne.mpr c19
                  obtain rfl := Option.some.inj H
                  have hcz24_0 : wc.cell? ⟨gb128, 0, none⟩ = some (.int .u8 a0_0) := (blk_cell BK128.out 0).trans rfl
                  have hcz24_1 : wc.cell? ⟨gb128, 1, none⟩ = some (.int .i64 a0_1) := (blk_cell BK128.out 1).trans rfl
                  have hcz24_2 : wc.cell? ⟨gb128, 2, none⟩ = some (.string a0_2) := (blk_cell BK128.out 2).trans rfl
                  have hcz24_3 : wc.cell? ⟨gb128, 3, none⟩ = some (.string a0_3) := (blk_cell BK128.out 3).trans rfl
                  have hfz24_0 := blk_frozen BK128.out 0
                  have hfz24_1 := blk_frozen BK128.out 1
                  have hfz24_2 := blk_frozen BK128.out 2
                  have hfz24_3 := blk_frozen BK128.out 3
                  go_wp2
                  go_ret
                  exact ⟨by first | rfl | (simp [errW_none, errW_some] <;> rfl) | (simp [*, errW_none, errW_some] <;> rfl), by repeat (first | (with_reducible first | exact HB.out | apply below_alloc | apply pw_below_drewN | apply below_drew1 | refine below_set ?_ GE128.out) | exact HB.out)⟩
              · rw [if_neg c18] at H
                have c18b0 : (a0_0 == 3) = false := beq_eq_false_iff_ne.mpr c18
                have c18b1 : (a0_0 != 3) = true := bne_iff_ne.mpr c18
                by_cases c25 : a0_0 = 5
                · rw [if_pos c25] at H
                  have c25b0 : (a0_0 == 5) = true := beq_iff_eq.mpr c25
                  have c25b1 : (a0_0 != 5) = false := bne_eq_false_iff_eq.mpr c25
                  clear c25
                  by_cases c26 : a0_1 < 0
                  · rw [if_pos c26] at H
                    have c26b0 : decide (a0_1 < 0) = true := decide_eq_true c26
                    clear c26
                    obtain rfl := Option.some.inj H
                    have hcz27_0 : wc.cell? ⟨gb128, 0, none⟩ = some (.int .u8 a0_0) := (blk_cell BK128.out 0).trans rfl
                    have hcz27_1 : wc.cell? ⟨gb128, 1, none⟩ = some (.int .i64 a0_1) := (blk_cell BK128.out 1).trans rfl
                    have hcz27_2 : wc.cell? ⟨gb128, 2, none⟩ = some (.string a0_2) := (blk_cell BK128.out 2).trans rfl
                    have hcz27_3 : wc.cell? ⟨gb128, 3, none⟩ = some (.string a0_3) := (blk_cell BK128.out 3).trans rfl
                    have hfz27_0 := blk_frozen BK128.out 0
                    have hfz27_1 := blk_frozen BK128.out 1
                    have hfz27_2 := blk_frozen BK128.out 2
                    have hfz27_3 := blk_frozen BK128.out 3
                    go_wp2
                    go_ret
                    exact ⟨by first | rfl | (simp [errW_none, errW_some] <;> rfl) | (simp [*, errW_none, errW_some] <;> rfl), by repeat (first | (with_reducible first | exact HB.out | apply below_alloc | apply pw_below_drewN | apply below_drew1 | refine below_set ?_ GE128.out) | exact HB.out)⟩
                  · rw [if_neg c26] at H
                    have c26b0 : decide (a0_1 < 0) = false := decide_eq_false c26
                    clear c26
                    by_cases c28 : a0_1 > 72057594037927936
                    · rw [if_pos c28] at H
                      have c28b0 : decide (72057594037927936 < a0_1) = true := decide_eq_true c28
                      clear c28
                      obtain rfl := Option.some.inj H
                      have hcz29_0 : wc.cell? ⟨gb128, 0, none⟩ = some (.int .u8 a0_0) := (blk_cell BK128.out 0).trans rfl
                      have hcz29_1 : wc.cell? ⟨gb128, 1, none⟩ = some (.int .i64 a0_1) := (blk_cell BK128.out 1).trans rfl
                      have hcz29_2 : wc.cell? ⟨gb128, 2, none⟩ = some (.string a0_2) := (blk_cell BK128.out 2).trans rfl
                      have hcz29_3 : wc.cell? ⟨gb128, 3, none⟩ = some (.string a0_3) := (blk_cell BK128.out 3).trans rfl
                      have hfz29_0 := blk_frozen BK128.out 0
                      have hfz29_1 := blk_frozen BK128.out 1
                      have hfz29_2 := blk_frozen BK128.out 2
                      have hfz29_3 := blk_frozen BK128.out 3
                      go_wp2
                      go_ret
                      exact ⟨by first | rfl | (simp [errW_none, errW_some] <;> rfl) | (simp [*, errW_none, errW_some] <;> rfl), by repeat (first | (with_reducible first | exact HB.out | apply below_alloc | apply pw_below_drewN | apply below_drew1 | refine below_set ?_ GE128.out) | exact HB.out)⟩
                    · rw [if_neg c28] at H
                      have c28b0 : decide (72057594037927936 < a0_1) = false := decide_eq_false c28
                      clear c28
                      obtain rfl := Option.some.inj H
                      have hcz30_0 : wc.cell? ⟨gb128, 0, none⟩ = some (.int .u8 a0_0) := (blk_cell BK128.out 0).trans rfl
                      have hcz30_1 : wc.cell? ⟨gb128, 1, none⟩ = some (.int .i64 a0_1) := (blk_cell BK128.out 1).trans rfl
                      have hcz30_2 : wc.cell? ⟨gb128, 2, none⟩ = some (.string a0_2) := (blk_cell BK128.out 2).trans rfl
                      have hcz30_3 : wc.cell? ⟨gb128, 3, none⟩ = some (.string a0_3) := (blk_cell BK128.out 3).trans rfl
                      have hfz30_0 := blk_frozen BK128.out 0
                      have hfz30_1 := blk_frozen BK128.out 1
                      have hfz30_2 := blk_frozen BK128.out 2
                      have hfz30_3 := blk_frozen BK128.out 3
                      go_wp2
                      go_ret
                      exact ⟨by first | rfl | (simp [errW_none, errW_some] <;> rfl) | (simp [*, errW_none, errW_some] <;> rfl), by repeat (first | (with_reducible first | exact HB.out | apply below_alloc | apply pw_below_drewN | apply below_drew1 | refine below_set ?_ GE128.out) | exact HB.out)⟩
                · rw [if_neg c25] at H
                  have c25b0 : (a0_0 == 5) = false := beq_eq_false_iff_ne.mpr c25
                  have c25b1 : (a0_0 != 5) = true := bne_iff_ne.mpr c25
                  obtain rfl := Option.some.inj H
                  go_wp2
                  go_ret
                  exact ⟨by first | rfl | (simp [errW_none, errW_some] <;> rfl) | (simp [*, errW_none, errW_some] <;> rfl), by repeat (first | (with_reducible first | exact HB.out | apply below_alloc | apply pw_below_drewN | apply below_drew1 | refine below_set ?_ GE128.out) | exact HB.out)⟩

end Go.Proofs.Ytbjoleelfihikaa.Px
