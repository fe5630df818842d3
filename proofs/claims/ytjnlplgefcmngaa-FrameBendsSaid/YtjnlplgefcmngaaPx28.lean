-- Laid by a program of this session (wip/xprint.py: the kit's print.py, with functions given by hand). Lean checks it.
import Derived.Test.YtjnlplgefcmngaaPx0
import Derived.Test.YtjnlplgefcmngaaPx2
import Derived.Test.YtjnlplgefcmngaaPx8
import Derived.Test.YtjnlplgefcmngaaPx12
import Derived.Test.YtjnlplgefcmngaaPx13
namespace Go.Proofs.Ytjnlplgefcmngaa.Px
open Go.RowKit Go.Proofs.YtjnlplgefcmngaaW.PrintWords Go.Proofs.YtjnlplgefcmngaaW.PrintLast Go.Proofs.YtjnlplgefcmngaaW.PrintMore
attribute [local go_sem] max2_int min2_int max_two min_two max_three min_three max_four min_four   -- for this text's walks alone
set_option linter.unusedVariables false
set_option linter.unusedSimpArgs false

/-! ### telemeterlaw02_FrameBends: function 5 -/
def telemeterlaw02_FrameBends.j0 : Nat → List Int → Int → Int → Bool → Option (Bool)
  | 0, _, _, _, _ => none
  | k + 1, x0, x1, x2, x29 => if x29 = true then ((telemeterlaw02_known.f).bind fun t302 => (some t302)) else (if ([] : List Int).length + x0.length < 140737488355328 then ((some (([] : List Int) ++ x0 : List Int)).bind fun y303 => (if (y303.length : Int) = 0 then (none) else (if 0 ≤ (Int.tmod (wrap64 (x1)) (y303.length : Int)) then (if (Int.tmod (wrap64 (x1)) (y303.length : Int)) < (y303.length : Int) then ((frame_Frame.f x0).bind fun bt308 => (if (bt308.1.length : Int) < (wrap64 ((x0.length : Int) + 5)) then (some false) else (if (wrap64 ((x0.length : Int) + 4)) = 0 then (none) else (if 0 ≤ (wrap64 ((wrap64 ((bt308.1.length : Int) - 1)) - (Int.tmod (wrap64 (x1)) (wrap64 ((x0.length : Int) + 4))))) then (if (wrap64 ((wrap64 ((bt308.1.length : Int) - 1)) - (Int.tmod (wrap64 (x1)) (wrap64 ((x0.length : Int) + 4))))) < (bt308.1.length : Int) then ((frame_Take.f k (bt308.1.set ((wrap64 ((wrap64 ((bt308.1.length : Int) - 1)) - (Int.tmod (wrap64 (x1)) (wrap64 ((x0.length : Int) + 4))))) : Int).toNat (Go.bits .xor .u8 (rd bt308.1 (wrap64 ((wrap64 ((bt308.1.length : Int) - 1)) - (Int.tmod (wrap64 (x1)) (wrap64 ((x0.length : Int) + 4)))))) x2)) 0).bind fun bt314 => ((frame_Sum.f (y303.set ((Int.tmod (wrap64 (x1)) (y303.length : Int)) : Int).toNat (Go.bits .xor .u8 (rd y303 (Int.tmod (wrap64 (x1)) (y303.length : Int))) x2))).bind fun t319 => ((frame_Sum.f x0).bind fun t320 => (if t319 = t320 then (some false) else (some (bt314.2.2 == 30)))))) else (none)) else (none))))) else (none)) else (none)))) else (none))
def telemeterlaw02_FrameBends.f (k : Nat) (l0 : List Int) (a1 : Int) (a2 : Int) : Option (Bool) := if (l0.length : Int) = 0 then (telemeterlaw02_FrameBends.j0 k l0 a1 a2 true) else (if (l0.length : Int) > 300 then (telemeterlaw02_FrameBends.j0 k l0 a1 a2 true) else (if a2 = 0 then (telemeterlaw02_FrameBends.j0 k l0 a1 a2 true) else ((telemeterlaw02_known.f).bind fun t301 => (telemeterlaw02_FrameBends.j0 k l0 a1 a2 (!t301)))))
theorem telemeterlaw02_FrameBends.mono_l : ∀ k, (∀ y0 y1 y2 y3, LeO (telemeterlaw02_FrameBends.j0 k y0 y1 y2 y3) (telemeterlaw02_FrameBends.j0 (k + 1) y0 y1 y2 y3))
  | 0 => fun _ _ _ _ r h => by simp [telemeterlaw02_FrameBends.j0] at h
  | k + 1 => by
    have ih0 := telemeterlaw02_FrameBends.mono_l k
    · intro y0 y1 y2 y3
      unfold telemeterlaw02_FrameBends.j0
      repeat' first
      | (with_reducible exact ih0 _ _ _ _)
      | (with_reducible exact frame_Take.mono _ _ _)
      | (with_reducible exact LeO.refl _)
      | (with_reducible exact LeO.none _)
      | (with_reducible refine LeO.ite ?_ ?_)
      | (with_reducible refine LeO.bind ?_ (fun _ => ?_))
      | exact ih0 _ _ _ _
      | exact frame_Take.mono _ _ _
      | exact LeO.none _
      | refine LeO.ite ?_ ?_
      | refine LeO.bind ?_ (fun _ => ?_)
theorem telemeterlaw02_FrameBends.mono : ∀ a0 a1 a2 k, LeO (telemeterlaw02_FrameBends.f k a0 a1 a2) (telemeterlaw02_FrameBends.f (k + 1) a0 a1 a2) := by
  intro a0 a1 a2 k
  have ih0 := telemeterlaw02_FrameBends.mono_l k
  unfold telemeterlaw02_FrameBends.f
  repeat' first
      | (with_reducible exact ih0 _ _ _ _)
      | (with_reducible exact frame_Take.mono _ _ _)
      | (with_reducible exact LeO.refl _)
      | (with_reducible exact LeO.none _)
      | (with_reducible refine LeO.ite ?_ ?_)
      | (with_reducible refine LeO.bind ?_ (fun _ => ?_))
      | exact ih0 _ _ _ _
      | exact frame_Take.mono _ _ _
      | exact LeO.none _
      | refine LeO.ite ?_ ?_
      | refine LeO.bind ?_ (fun _ => ?_)
set_option maxHeartbeats 8000000 in
set_option maxRecDepth 100000 in
theorem telemeterlaw02_FrameBends.calls (k : Nat) (A0 : Option Addr) (c0 : Nat) (l0 : List Int) (a1 : Int) (a2 : Int) (r : Bool) (w : World) (hr0 : Kd.C (Kd.int .u8) w A0 l0.length l0) (hc0 : l0.length ≤ c0) (h : telemeterlaw02_FrameBends.f k l0 a1 a2 = some r) :
    Calls Try.prog 5 #[.slice A0 l0.length c0, .int .u16 a1, .int .u8 a2] w fun e w' => e = .returned (.bool r) ∧ Below w.heap.size w w' := by
  have HR0 := Aside0.mk hr0
  have HC0 := Aside0.mk hc0
  clear hr0 hc0
  have HB := Aside0.mk (Below.refl w.heap.size w)
  have H : (if (l0.length : Int) = 0 then (telemeterlaw02_FrameBends.j0 k l0 a1 a2 true) else (if (l0.length : Int) > 300 then (telemeterlaw02_FrameBends.j0 k l0 a1 a2 true) else (if a2 = 0 then (telemeterlaw02_FrameBends.j0 k l0 a1 a2 true) else ((telemeterlaw02_known.f).bind fun t301 => (telemeterlaw02_FrameBends.j0 k l0 a1 a2 (!t301)))))) = some r := h
  clear h
  have HC4 := Aside0.mk H
  clear H
  go_enter Try.func5, Try.ntmps5
  go_upto_region 1 with (fail)
  go_cut [29] (fun v29 wc => ∃ (kq : Nat) (x29_3 : Bool), v29 = .bool x29_3 ∧ Aside0 (telemeterlaw02_FrameBends.j0 kq l0 a1 a2 x29_3 = some r) ∧ Aside0 (kq ≤ k) ∧ Aside0 (Below w.heap.size w wc))
  case first =>
    have H := HC4.out
    clear HC4
    by_cases c5 : (l0.length : Int) = 0
    · rw [if_pos c5] at H
      have c5b0 : ((l0.length : Int) == 0) = true := beq_iff_eq.mpr c5
      have c5b1 : ((l0.length : Int) != 0) = false := bne_eq_false_iff_eq.mpr c5
      clear c5
      (first | rw [c5b0] | (simp only [i64_w, i32_w]; rw [c5b0]) | skip)
      have H' := Aside0.mk H
      clear H
      go_wp2
      go_meet
      case rel => exact ⟨_, (true), (by first | rfl | (simp; done) | (simp [*]; done)), H', ⟨by first | omega | exact Nat.le_refl _⟩, ⟨by repeat (first | (with_reducible first | exact HB.out | apply below_alloc | apply pw_below_drewN | apply below_drew1) | exact HB.out)⟩⟩
    · rw [if_neg c5] at H
      have c5b0 : ((l0.length : Int) == 0) = false := beq_eq_false_iff_ne.mpr c5
      have c5b1 : ((l0.length : Int) != 0) = true := bne_iff_ne.mpr c5
      have c5b2 : ¬ (l0 = []) := fun h_ => c5 (by rw [h_]; rfl)
      (first | rw [c5b0] | (simp only [i64_w, i32_w]; rw [c5b0]) | skip)
      by_cases c6 : (l0.length : Int) > 300
      · rw [if_pos c6] at H
        have c6b0 : decide (300 < (l0.length : Int)) = true := decide_eq_true c6
        have c6b1 : decide (300 < l0.length) = true := decide_eq_true (by omega)
        clear c6
        have H' := Aside0.mk H
        clear H
        go_wp2
        go_meet
        case rel => exact ⟨_, (true), (by first | rfl | (simp; done) | (simp [*]; done)), H', ⟨by first | omega | exact Nat.le_refl _⟩, ⟨by repeat (first | (with_reducible first | exact HB.out | apply below_alloc | apply pw_below_drewN | apply below_drew1) | exact HB.out)⟩⟩
      · rw [if_neg c6] at H
        have c6b0 : decide (300 < (l0.length : Int)) = false := decide_eq_false c6
        have c6b1 : decide (300 < l0.length) = false := decide_eq_false (by omega)
        clear c6
        by_cases c7 : a2 = 0
        · rw [if_pos c7] at H
          have c7b0 : (a2 == 0) = true := beq_iff_eq.mpr c7
          have c7b1 : (a2 != 0) = false := bne_eq_false_iff_eq.mpr c7
          clear c7
          have H' := Aside0.mk H
          clear H
          go_wp2
          go_meet
          case rel => exact ⟨_, (true), (by first | rfl | (simp; done) | (simp [*]; done)), H', ⟨by first | omega | exact Nat.le_refl _⟩, ⟨by repeat (first | (with_reducible first | exact HB.out | apply below_alloc | apply pw_below_drewN | apply below_drew1) | exact HB.out)⟩⟩
        · rw [if_neg c7] at H
          have c7b0 : (a2 == 0) = false := beq_eq_false_iff_ne.mpr c7
          have c7b1 : (a2 != 0) = true := bne_iff_ne.mpr c7
          replace H := Option.bind_eq_some_iff.mp H
          obtain ⟨t301, A80, H⟩ := H
          replace H : (telemeterlaw02_FrameBends.j0 k l0 a1 a2 (!t301)) = some r := H
          have A8 := Aside0.mk A80
          clear A80
          have H' := Aside0.mk H
          clear H
          go_wp2_with (first | (go_at_call 16; (with_reducible refine (telemeterlaw02_known.calls  t301 _ A8.out).mono ?_); rintro e w9 ⟨rfl, hb⟩; have n0_ := Aside0.mk (below_step (by repeat (first | (with_reducible first | exact HB.out | apply below_alloc | apply pw_below_drewN | apply below_drew1) | exact HB.out)) hb); clear HB; have HB := n0_; clear n0_; (try clear hb); (try clear hb2); (try clear hk); (try clear hi)))
          go_meet
          case rel => exact ⟨_, (!t301), (by first | rfl | (simp; done) | (simp [*]; done)), H', ⟨by first | omega | exact Nat.le_refl _⟩, ⟨by repeat (first | (with_reducible first | exact HB.out | apply below_alloc | apply pw_below_drewN | apply below_drew1) | exact HB.out)⟩⟩
  case rest =>
    clear HC4
    try clear p2
    try clear c5
    try clear c5b0
    try clear c5b1
    try clear c5b2
    try clear c6
    try clear c6b0
    try clear c6b1
    try clear c7
    try clear c7b0
    try clear c7b1
    obtain ⟨kq, x29_3, rfl, HA, HJ3, HB⟩ := hcut
    cases kq with
    | zero => exact absurd HA.out (by simp [telemeterlaw02_FrameBends.j0])
    | succ kj3 =>
      have H := HA.out
      clear HA
      simp only [telemeterlaw02_FrameBends.j0] at H
      by_cases c10 : x29_3 = true
      · subst c10
        have H1 : ((telemeterlaw02_known.f).bind fun t302 => (some t302)) = some r := by rw [if_pos rfl] at H; exact H
        clear H
        have H := H1
        clear H1
        replace H := Option.bind_eq_some_iff.mp H
        obtain ⟨t302, A110, H⟩ := H
        replace H : (some t302) = some r := H
        have A11 := Aside0.mk A110
        clear A110
        obtain rfl := Option.some.inj H
        go_wp2_with (first | ((with_reducible refine gate_callee (f := 16) rfl ?_); refine goesL_ (some 30) rfl rfl Try.func16 (by kernel_rfl) rfl #[] rfl (by (try simp only [List.map_toArray, List.map_cons, List.map_nil]); first | done | rfl | (simp only [List.length_drop, List.length_take]; rfl)) ?_; (with_reducible refine (telemeterlaw02_known.calls  t302 _ A11.out).mono ?_); rintro e w12 ⟨rfl, hb⟩; refine ⟨_, rfl, ?_⟩; have n0_ := Aside0.mk (below_step (by repeat (first | (with_reducible first | exact HB.out | apply below_alloc | apply pw_below_drewN | apply below_drew1) | exact HB.out)) hb); clear HB; have HB := n0_; clear n0_; (try clear hb); (try clear hb2); (try clear hk); (try clear hi)))
        go_ret
        exact ⟨by first | rfl | (simp [errW_none, errW_some] <;> rfl) | (simp [*, errW_none, errW_some] <;> rfl), by repeat (first | (with_reducible first | exact HB.out | apply below_alloc | apply pw_below_drewN | apply below_drew1) | exact HB.out)⟩
      · replace c10 := Bool.eq_false_iff.mpr c10
        subst c10
        have H1 : (if ([] : List Int).length + l0.length < 140737488355328 then ((some (([] : List Int) ++ l0 : List Int)).bind fun y303 => (if (y303.length : Int) = 0 then (none) else (if 0 ≤ (Int.tmod (wrap64 (a1)) (y303.length : Int)) then (if (Int.tmod (wrap64 (a1)) (y303.length : Int)) < (y303.length : Int) then ((frame_Frame.f l0).bind fun bt308 => (if (bt308.1.length : Int) < (wrap64 ((l0.length : Int) + 5)) then (some false) else (if (wrap64 ((l0.length : Int) + 4)) = 0 then (none) else (if 0 ≤ (wrap64 ((wrap64 ((bt308.1.length : Int) - 1)) - (Int.tmod (wrap64 (a1)) (wrap64 ((l0.length : Int) + 4))))) then (if (wrap64 ((wrap64 ((bt308.1.length : Int) - 1)) - (Int.tmod (wrap64 (a1)) (wrap64 ((l0.length : Int) + 4))))) < (bt308.1.length : Int) then ((frame_Take.f kj3 (bt308.1.set ((wrap64 ((wrap64 ((bt308.1.length : Int) - 1)) - (Int.tmod (wrap64 (a1)) (wrap64 ((l0.length : Int) + 4))))) : Int).toNat (Go.bits .xor .u8 (rd bt308.1 (wrap64 ((wrap64 ((bt308.1.length : Int) - 1)) - (Int.tmod (wrap64 (a1)) (wrap64 ((l0.length : Int) + 4)))))) a2)) 0).bind fun bt314 => ((frame_Sum.f (y303.set ((Int.tmod (wrap64 (a1)) (y303.length : Int)) : Int).toNat (Go.bits .xor .u8 (rd y303 (Int.tmod (wrap64 (a1)) (y303.length : Int))) a2))).bind fun t319 => ((frame_Sum.f l0).bind fun t320 => (if t319 = t320 then (some false) else (some (bt314.2.2 == 30)))))) else (none)) else (none))))) else (none)) else (none)))) else (none)) = some r := by rw [if_neg (show ¬ (false = true) by decide)] at H; exact H
        clear H
        have H := H1
        clear H1
        by_cases c13 : ([] : List Int).length + l0.length < 140737488355328
        · rw [if_pos c13] at H
          have LMc13 := Aside0.mk c13
          clear c13
          obtain ⟨y303, hy303⟩ : ∃ y_ : List Int, y_ = (([] : List Int) ++ l0) := ⟨_, rfl⟩
          replace H : (if (y303.length : Int) = 0 then (none) else (if 0 ≤ (Int.tmod (wrap64 (a1)) (y303.length : Int)) then (if (Int.tmod (wrap64 (a1)) (y303.length : Int)) < (y303.length : Int) then ((frame_Frame.f l0).bind fun bt308 => (if (bt308.1.length : Int) < (wrap64 ((l0.length : Int) + 5)) then (some false) else (if (wrap64 ((l0.length : Int) + 4)) = 0 then (none) else (if 0 ≤ (wrap64 ((wrap64 ((bt308.1.length : Int) - 1)) - (Int.tmod (wrap64 (a1)) (wrap64 ((l0.length : Int) + 4))))) then (if (wrap64 ((wrap64 ((bt308.1.length : Int) - 1)) - (Int.tmod (wrap64 (a1)) (wrap64 ((l0.length : Int) + 4))))) < (bt308.1.length : Int) then ((frame_Take.f kj3 (bt308.1.set ((wrap64 ((wrap64 ((bt308.1.length : Int) - 1)) - (Int.tmod (wrap64 (a1)) (wrap64 ((l0.length : Int) + 4))))) : Int).toNat (Go.bits .xor .u8 (rd bt308.1 (wrap64 ((wrap64 ((bt308.1.length : Int) - 1)) - (Int.tmod (wrap64 (a1)) (wrap64 ((l0.length : Int) + 4)))))) a2)) 0).bind fun bt314 => ((frame_Sum.f (y303.set ((Int.tmod (wrap64 (a1)) (y303.length : Int)) : Int).toNat (Go.bits .xor .u8 (rd y303 (Int.tmod (wrap64 (a1)) (y303.length : Int))) a2))).bind fun t319 => ((frame_Sum.f l0).bind fun t320 => (if t319 = t320 then (some false) else (some (bt314.2.2 == 30)))))) else (none)) else (none))))) else (none)) else (none))) = some r := by first | (rw [hy303]; with_reducible exact H) | (have H2_ := (Option.bind_some _ _).symm.trans H; rw [hy303]; with_reducible exact H2_) | (have H2_ := (Option.bind_some _ _).symm.trans H; with_reducible exact H2_) | with_reducible exact H | (rw [hy303]; exact H) | exact H
          have Ny303 := Aside0.mk hy303
          clear hy303
          by_cases c14 : (y303.length : Int) = 0
          · rw [if_pos c14] at H
            exact absurd H (by simp)
          · rw [if_neg c14] at H
            have c14b0 : ((y303.length : Int) == 0) = false := beq_eq_false_iff_ne.mpr c14
            have c14b1 : ((y303.length : Int) != 0) = true := bne_iff_ne.mpr c14
            have c14b2 : ¬ (y303 = []) := fun h_ => c14 (by rw [h_]; rfl)
            obtain ⟨ji15, hji15⟩ : ∃ j_ : Int, (Int.tmod (wrap64 (a1)) (y303.length : Int)) = j_ := ⟨_, rfl⟩
            replace H : (if 0 ≤ (ji15) then (if (ji15) < (y303.length : Int) then ((frame_Frame.f l0).bind fun bt308 => (if (bt308.1.length : Int) < (wrap64 ((l0.length : Int) + 5)) then (some false) else (if (wrap64 ((l0.length : Int) + 4)) = 0 then (none) else (if 0 ≤ (wrap64 ((wrap64 ((bt308.1.length : Int) - 1)) - (Int.tmod (wrap64 (a1)) (wrap64 ((l0.length : Int) + 4))))) then (if (wrap64 ((wrap64 ((bt308.1.length : Int) - 1)) - (Int.tmod (wrap64 (a1)) (wrap64 ((l0.length : Int) + 4))))) < (bt308.1.length : Int) then ((frame_Take.f kj3 (bt308.1.set ((wrap64 ((wrap64 ((bt308.1.length : Int) - 1)) - (Int.tmod (wrap64 (a1)) (wrap64 ((l0.length : Int) + 4))))) : Int).toNat (Go.bits .xor .u8 (rd bt308.1 (wrap64 ((wrap64 ((bt308.1.length : Int) - 1)) - (Int.tmod (wrap64 (a1)) (wrap64 ((l0.length : Int) + 4)))))) a2)) 0).bind fun bt314 => ((frame_Sum.f (y303.set ((ji15) : Int).toNat (Go.bits .xor .u8 (rd y303 (ji15)) a2))).bind fun t319 => ((frame_Sum.f l0).bind fun t320 => (if t319 = t320 then (some false) else (some (bt314.2.2 == 30)))))) else (none)) else (none))))) else (none)) else (none)) = some r := by first | (rw [hji15] at H; exact H) | (simp only [hji15] at H ⊢; exact H)
            by_cases c16 : 0 ≤ (ji15)
            · rw [if_pos c16] at H
              have c16b0 : decide (0 ≤ (ji15)) = true := decide_eq_true c16
              clear c16
              by_cases c17 : (ji15) < (y303.length : Int)
              · rw [if_pos c17] at H
                have c17b0 : decide ((ji15) < (y303.length : Int)) = true := decide_eq_true c17
                clear c17
                obtain ⟨y307, hy307⟩ : ∃ y_ : List Int, y_ = (y303.set ((ji15) : Int).toNat (Go.bits .xor .u8 (rd y303 (ji15)) a2)) := ⟨_, rfl⟩
                replace H : ((frame_Frame.f l0).bind fun bt308 => (if (bt308.1.length : Int) < (wrap64 ((l0.length : Int) + 5)) then (some false) else (if (wrap64 ((l0.length : Int) + 4)) = 0 then (none) else (if 0 ≤ (wrap64 ((wrap64 ((bt308.1.length : Int) - 1)) - (Int.tmod (wrap64 (a1)) (wrap64 ((l0.length : Int) + 4))))) then (if (wrap64 ((wrap64 ((bt308.1.length : Int) - 1)) - (Int.tmod (wrap64 (a1)) (wrap64 ((l0.length : Int) + 4))))) < (bt308.1.length : Int) then ((frame_Take.f kj3 (bt308.1.set ((wrap64 ((wrap64 ((bt308.1.length : Int) - 1)) - (Int.tmod (wrap64 (a1)) (wrap64 ((l0.length : Int) + 4))))) : Int).toNat (Go.bits .xor .u8 (rd bt308.1 (wrap64 ((wrap64 ((bt308.1.length : Int) - 1)) - (Int.tmod (wrap64 (a1)) (wrap64 ((l0.length : Int) + 4)))))) a2)) 0).bind fun bt314 => ((frame_Sum.f y307).bind fun t319 => ((frame_Sum.f l0).bind fun t320 => (if t319 = t320 then (some false) else (some (bt314.2.2 == 30)))))) else (none)) else (none))))) = some r := by first | (rw [hy307]; with_reducible exact H) | (have H2_ := (Option.bind_some _ _).symm.trans H; rw [hy307]; with_reducible exact H2_) | (have H2_ := (Option.bind_some _ _).symm.trans H; with_reducible exact H2_) | with_reducible exact H | (rw [hy307]; exact H) | exact H
                have Ny307 := Aside0.mk hy307
                clear hy307
                replace H := Option.bind_eq_some_iff.mp H
                obtain ⟨⟨t308, t311⟩, A190, H⟩ := H
                replace H : (if (t308.length : Int) < (wrap64 ((l0.length : Int) + 5)) then (some false) else (if (wrap64 ((l0.length : Int) + 4)) = 0 then (none) else (if 0 ≤ (wrap64 ((wrap64 ((t308.length : Int) - 1)) - (Int.tmod (wrap64 (a1)) (wrap64 ((l0.length : Int) + 4))))) then (if (wrap64 ((wrap64 ((t308.length : Int) - 1)) - (Int.tmod (wrap64 (a1)) (wrap64 ((l0.length : Int) + 4))))) < (t308.length : Int) then ((frame_Take.f kj3 (t308.set ((wrap64 ((wrap64 ((t308.length : Int) - 1)) - (Int.tmod (wrap64 (a1)) (wrap64 ((l0.length : Int) + 4))))) : Int).toNat (Go.bits .xor .u8 (rd t308 (wrap64 ((wrap64 ((t308.length : Int) - 1)) - (Int.tmod (wrap64 (a1)) (wrap64 ((l0.length : Int) + 4)))))) a2)) 0).bind fun bt314 => ((frame_Sum.f y307).bind fun t319 => ((frame_Sum.f l0).bind fun t320 => (if t319 = t320 then (some false) else (some (bt314.2.2 == 30)))))) else (none)) else (none)))) = some r := H
                have A19 := Aside0.mk A190
                clear A190
                by_cases c20 : (t308.length : Int) < (wrap64 ((l0.length : Int) + 5))
                · rw [if_pos c20] at H
                  have c20b0 : decide ((t308.length : Int) < (wrap64 ((l0.length : Int) + 5))) = true := decide_eq_true c20
                  clear c20
                  obtain rfl := Option.some.inj H
                  go_wp2_with (first | ((with_reducible refine gate_builtin (b := .append) (xs := #[.tmp 31, .tmp 32]) rfl ?_); (try (refine gate_guard (by rfl) ?_; dsimp only)); at_builtin; refine Kd.R_append_rows (Kd.int .u8) (w0 := w) w.heap.size rfl (.tmp 31) (.tmp 32) 23 5 (.int .u8 0) 1 rfl Try.underlying23 info5 rfl (by decide) (by omega) (.slice none 0 0) ([] : List Int) l0 _ _ _ (fun _ => True) (fun _ => False) rfl rfl ?aO ?aR (fun _ _ h => h) (fun _ h => h.elim) ?aF ?aB ?aS ?aL ?_; (case aR => repeat (first | exact (Kd.C_below HR0.out HB.out) | (with_reducible refine Kd.C_alloc ?_ _) | (with_reducible refine Kd.C_drewN ?_ _) | (with_reducible refine Kd.C_drew ?_))); (case aB => exact (by repeat (first | (with_reducible first | exact HB.out | apply below_alloc | apply pw_below_drewN | apply below_drew1) | exact HB.out))); (case aF => exact (fun _ _ => trivial)); (case aO => exact ((Kd.R_nil _ _ _ _ (fun _ => True)))); (case aS => exact (below_size (by repeat (first | (with_reducible first | exact HB.out | apply below_alloc | apply pw_below_drewN | apply below_drew1) | exact HB.out)))); (case aL => have := LMc13.out; omega); intro v304 w21 ho hb hg hat; rw [← Ny303.out] at ho; have n0_ := Aside0.mk (hb); have n1_ := Aside0.mk (ho); clear HB; have HB := n0_; have HO305 := n1_; clear n0_ n1_; clear ho hb hg hat; obtain ⟨Ao22, co22, eo22⟩ := Kd.R_slice HO305.out; subst eo22; have p306 : 0 ≤ ((ji15) : Int) := of_decide_eq_true (by first | (with_reducible assumption) | assumption); have q306 : (ji15) < (y303.length : Int) := of_decide_eq_true (by first | (with_reducible assumption) | assumption); obtain ⟨ad306, e306, hx306_0⟩ := Kd.at_int (Kd.R_reads' HO305.out).2.2 (ji15) p306 q306; cases e306; replace p306 := eq_true p306; replace q306 := eq_true q306; have p18 : 0 ≤ ((ji15) : Int) := of_decide_eq_true (by first | (with_reducible assumption) | assumption); have q18 : ((ji15) : Int) < ((y303.length : Int) : Int) := of_decide_eq_true (by first | (with_reducible assumption) | assumption); obtain ⟨go18, co18, eo18, gb18, gl18, cl18, HG18⟩ := Kd.R_form HO305.out (by omega); (first | cases eo18 | (injection eo18 with ea_ en_ ec_; (first | subst ea_ | (injection ea_ with ea_; subst ea_)); subst ec_; clear en_)); have GB18 := Aside0.mk gb18; have GG18 := Aside0.mk HG18; clear gb18 gl18 HG18; (first | simp only [add_plain] at hx306_0 | skip); obtain ⟨hx18_0, hf18_0⟩ := Kd.R_celln 0 HO305.out ((ji15) : Int) p18 q18; replace p18 := eq_true p18; replace q18 := eq_true q18; obtain ⟨hy23_, hz23_⟩ := Kd.R_celln 0 HO305.out ((ji15) : Int) (of_decide_eq_true (by first | (with_reducible assumption) | assumption)) (of_decide_eq_true (by first | (with_reducible assumption) | assumption)); have HP23 := Kd.R_putg HO305.out ((ji15) : Int) (Go.bits .xor .u8 (rd y303 (ji15)) a2)) | ((with_reducible refine gate_store (t := 5) (p := 47) rfl ?_); refine store_event (t := 5) (p := 47) (v := ?vo_w24) (w1 := (w21.setCell ⟨go18, ((ji15) : Int).toNat, none⟩ (.int .u8 (Go.bits .xor .u8 (rd y303 (ji15)) a2)))) ?hg ?ho ?hn ?hr ?_; (case ho => rfl); (case hg => rfl); (case hn => rfl); (case hr => first | (go_simp; done) | (go_simp; rfl)); intro w24 hw; have hg : w21.grownBy w24 (some go18) := (by rw [hw]; exact HP23.2); have hp_ : Kd.R (Kd.int .u8) 5 w24 w.heap.size (fun _ => True) (.slice (some ⟨go18, 0, none⟩) y303.length co22) y307 := (by rw [hw, Ny307.out]; exact HP23.1); clear HP23; have n0_ := Aside0.mk (hp_); have n1_ := Aside0.mk ((by rw [hw]; exact below_set (HB.out) GB18.out : Below w.heap.size w w24)); clear HO305; clear HB; have HO305 := n0_; have HB := n1_; clear n0_ n1_; clear hg hw hp_) | ((with_reducible refine gate_callee (f := 14) rfl ?_); refine goesL_ (some 50) rfl rfl Try.func14 (by kernel_rfl) rfl #[.slice A0 l0.length c0] rfl (by (try simp only [List.map_toArray, List.map_cons, List.map_nil]); first | done | rfl | (simp only [List.length_drop, List.length_take]; rfl)) ?_; (with_reducible refine (frame_Frame.calls (fun k_ => k_ < w.heap.size) _ _ l0 t308 t311 _ ?side1 A19.out).mono ?_); (case side1 => exact Kd.V_mk HC0.out (Kd.F_below (Kd.C_F (Kd.heap_int .u8) HR0.out) (by repeat (first | (with_reducible first | exact HB.out | apply below_alloc | apply pw_below_drewN | apply below_drew1) | exact HB.out)))); rintro e w25 ⟨v309, rfl, ho0, hb⟩; refine ⟨_, rfl, ?_⟩; have n0_ := Aside0.mk (Kd.R_elder' (by (with_reducible repeat (first | apply Kd.R_alloc | apply Kd.R_drewN | apply Kd.R_drew)); exact HO305.out) (Kd.R_base ho0) hb); have n1_ := Aside0.mk (Kd.R_lower (Kd.R_new' (Kd.R_mono (ok' := fun k_ => True) ho0 (fun _ hk_ => trivial)) (Kd.R_lt (by (with_reducible repeat (first | apply Kd.R_alloc | apply Kd.R_drewN | apply Kd.R_drew)); exact HO305.out))) (below_size (by repeat (first | (with_reducible first | exact HB.out | apply below_alloc | apply pw_below_drewN | apply below_drew1) | exact HB.out)))); have n2_ := Aside0.mk (below_step (by repeat (first | (with_reducible first | exact HB.out | apply below_alloc | apply pw_below_drewN | apply below_drew1) | exact HB.out)) hb); clear HO305; clear HB; have HO305 := n0_; have HO310 := n1_; have HB := n2_; clear n0_ n1_ n2_; (try clear hb); (try clear hb2); (try clear hk); (try clear hi); (try clear ho0); obtain ⟨Ao26, co26, eo26⟩ := Kd.R_slice HO310.out; subst eo26))
                  go_ret
                  exact ⟨by first | rfl | (simp [errW_none, errW_some] <;> rfl) | (simp only [← hji15]; first | rfl | (simp [errW_none, errW_some] <;> rfl)) | (simp [*, errW_none, errW_some] <;> rfl), by repeat (first | (with_reducible first | exact HB.out | apply below_alloc | apply pw_below_drewN | apply below_drew1) | exact HB.out)⟩
                · rw [if_neg c20] at H
                  have c20b0 : decide ((t308.length : Int) < (wrap64 ((l0.length : Int) + 5))) = false := decide_eq_false c20
                  clear c20
                  by_cases c27 : (wrap64 ((l0.length : Int) + 4)) = 0
                  · rw [if_pos c27] at H
                    exact absurd H (by simp)
                  · rw [if_neg c27] at H
                    have c27b0 : ((wrap64 ((l0.length : Int) + 4)) == 0) = false := beq_eq_false_iff_ne.mpr c27
                    have c27b1 : ((wrap64 ((l0.length : Int) + 4)) != 0) = true := bne_iff_ne.mpr c27
                    obtain ⟨ji28, hji28⟩ : ∃ j_ : Int, (wrap64 ((wrap64 ((t308.length : Int) - 1)) - (Int.tmod (wrap64 (a1)) (wrap64 ((l0.length : Int) + 4))))) = j_ := ⟨_, rfl⟩
                    replace H : (if 0 ≤ (ji28) then (if (ji28) < (t308.length : Int) then ((frame_Take.f kj3 (t308.set ((ji28) : Int).toNat (Go.bits .xor .u8 (rd t308 (ji28)) a2)) 0).bind fun bt314 => ((frame_Sum.f y307).bind fun t319 => ((frame_Sum.f l0).bind fun t320 => (if t319 = t320 then (some false) else (some (bt314.2.2 == 30)))))) else (none)) else (none)) = some r := by first | (rw [hji28] at H; exact H) | (simp only [hji28] at H ⊢; exact H)
                    (try rw [hji28] at A19)
                    have hji28w : (IntKind.i64.wrap ((wrap64 ((t308.length : Int) - 1)) - (Int.tmod (wrap64 (a1)) (wrap64 ((l0.length : Int) + 4))))) = ji28 := (i64_w _).trans hji28
                    by_cases c29 : 0 ≤ (ji28)
                    · rw [if_pos c29] at H
                      have c29b0 : decide (0 ≤ (ji28)) = true := decide_eq_true c29
                      clear c29
                      by_cases c30 : (ji28) < (t308.length : Int)
                      · rw [if_pos c30] at H
                        have c30b0 : decide ((ji28) < (t308.length : Int)) = true := decide_eq_true c30
                        clear c30
                        obtain ⟨y313, hy313⟩ : ∃ y_ : List Int, y_ = (t308.set ((ji28) : Int).toNat (Go.bits .xor .u8 (rd t308 (ji28)) a2)) := ⟨_, rfl⟩
                        replace H : ((frame_Take.f kj3 y313 0).bind fun bt314 => ((frame_Sum.f y307).bind fun t319 => ((frame_Sum.f l0).bind fun t320 => (if t319 = t320 then (some false) else (some (bt314.2.2 == 30)))))) = some r := by first | (rw [hy313]; with_reducible exact H) | (have H2_ := (Option.bind_some _ _).symm.trans H; rw [hy313]; with_reducible exact H2_) | (have H2_ := (Option.bind_some _ _).symm.trans H; with_reducible exact H2_) | with_reducible exact H | (rw [hy313]; exact H) | exact H
                        have Ny313 := Aside0.mk hy313
                        clear hy313
                        replace H := Option.bind_eq_some_iff.mp H
                        obtain ⟨⟨t314, t315, t316⟩, A320, H⟩ := H
                        replace H : ((frame_Sum.f y307).bind fun t319 => ((frame_Sum.f l0).bind fun t320 => (if t319 = t320 then (some false) else (some (t316 == 30))))) = some r := H
                        have A32 := Aside0.mk A320
                        clear A320
                        replace H := Option.bind_eq_some_iff.mp H
                        obtain ⟨t319, A330, H⟩ := H
                        replace H : ((frame_Sum.f l0).bind fun t320 => (if t319 = t320 then (some false) else (some (t316 == 30)))) = some r := H
                        have A33 := Aside0.mk A330
                        clear A330
                        replace H := Option.bind_eq_some_iff.mp H
                        obtain ⟨t320, A340, H⟩ := H
                        replace H : (if t319 = t320 then (some false) else (some (t316 == 30))) = some r := H
                        have A34 := Aside0.mk A340
                        clear A340
                        by_cases c35 : t319 = t320
                        · rw [if_pos c35] at H
                          have c35b0 : (t319 == t320) = true := beq_iff_eq.mpr c35
                          have c35b1 : (t319 != t320) = false := bne_eq_false_iff_eq.mpr c35
                          clear c35
                          obtain rfl := Option.some.inj H
                          go_wp2_with (first | ((with_reducible refine gate_builtin (b := .append) (xs := #[.tmp 31, .tmp 32]) rfl ?_); (try (refine gate_guard (by rfl) ?_; dsimp only)); at_builtin; refine Kd.R_append_rows (Kd.int .u8) (w0 := w) w.heap.size rfl (.tmp 31) (.tmp 32) 23 5 (.int .u8 0) 1 rfl Try.underlying23 info5 rfl (by decide) (by omega) (.slice none 0 0) ([] : List Int) l0 _ _ _ (fun _ => True) (fun _ => False) rfl rfl ?aO ?aR (fun _ _ h => h) (fun _ h => h.elim) ?aF ?aB ?aS ?aL ?_; (case aR => repeat (first | exact (Kd.C_below HR0.out HB.out) | (with_reducible refine Kd.C_alloc ?_ _) | (with_reducible refine Kd.C_drewN ?_ _) | (with_reducible refine Kd.C_drew ?_))); (case aB => exact (by repeat (first | (with_reducible first | exact HB.out | apply below_alloc | apply pw_below_drewN | apply below_drew1) | exact HB.out))); (case aF => exact (fun _ _ => trivial)); (case aO => exact ((Kd.R_nil _ _ _ _ (fun _ => True)))); (case aS => exact (below_size (by repeat (first | (with_reducible first | exact HB.out | apply below_alloc | apply pw_below_drewN | apply below_drew1) | exact HB.out)))); (case aL => have := LMc13.out; omega); intro v304 w36 ho hb hg hat; rw [← Ny303.out] at ho; have n0_ := Aside0.mk (hb); have n1_ := Aside0.mk (ho); clear HB; have HB := n0_; have HO305 := n1_; clear n0_ n1_; clear ho hb hg hat; obtain ⟨Ao37, co37, eo37⟩ := Kd.R_slice HO305.out; subst eo37; have p306 : 0 ≤ ((ji15) : Int) := of_decide_eq_true (by first | (with_reducible assumption) | assumption); have q306 : (ji15) < (y303.length : Int) := of_decide_eq_true (by first | (with_reducible assumption) | assumption); obtain ⟨ad306, e306, hx306_0⟩ := Kd.at_int (Kd.R_reads' HO305.out).2.2 (ji15) p306 q306; cases e306; replace p306 := eq_true p306; replace q306 := eq_true q306; have p18 : 0 ≤ ((ji15) : Int) := of_decide_eq_true (by first | (with_reducible assumption) | assumption); have q18 : ((ji15) : Int) < ((y303.length : Int) : Int) := of_decide_eq_true (by first | (with_reducible assumption) | assumption); obtain ⟨go18, co18, eo18, gb18, gl18, cl18, HG18⟩ := Kd.R_form HO305.out (by omega); (first | cases eo18 | (injection eo18 with ea_ en_ ec_; (first | subst ea_ | (injection ea_ with ea_; subst ea_)); subst ec_; clear en_)); have GB18 := Aside0.mk gb18; have GG18 := Aside0.mk HG18; clear gb18 gl18 HG18; (first | simp only [add_plain] at hx306_0 | skip); obtain ⟨hx18_0, hf18_0⟩ := Kd.R_celln 0 HO305.out ((ji15) : Int) p18 q18; replace p18 := eq_true p18; replace q18 := eq_true q18; obtain ⟨hy38_, hz38_⟩ := Kd.R_celln 0 HO305.out ((ji15) : Int) (of_decide_eq_true (by first | (with_reducible assumption) | assumption)) (of_decide_eq_true (by first | (with_reducible assumption) | assumption)); have HP38 := Kd.R_putg HO305.out ((ji15) : Int) (Go.bits .xor .u8 (rd y303 (ji15)) a2)) | ((with_reducible refine gate_store (t := 5) (p := 47) rfl ?_); refine store_event (t := 5) (p := 47) (v := ?vo_w39) (w1 := (w36.setCell ⟨go18, ((ji15) : Int).toNat, none⟩ (.int .u8 (Go.bits .xor .u8 (rd y303 (ji15)) a2)))) ?hg ?ho ?hn ?hr ?_; (case ho => rfl); (case hg => rfl); (case hn => rfl); (case hr => first | (go_simp; done) | (go_simp; rfl)); intro w39 hw; have hg : w36.grownBy w39 (some go18) := (by rw [hw]; exact HP38.2); have hp_ : Kd.R (Kd.int .u8) 5 w39 w.heap.size (fun _ => True) (.slice (some ⟨go18, 0, none⟩) y303.length co37) y307 := (by rw [hw, Ny307.out]; exact HP38.1); clear HP38; have n0_ := Aside0.mk (hp_); have n1_ := Aside0.mk ((by rw [hw]; exact below_set (HB.out) GB18.out : Below w.heap.size w w39)); clear HO305; clear HB; have HO305 := n0_; have HB := n1_; clear n0_ n1_; clear hg hw hp_) | ((with_reducible refine gate_callee (f := 14) rfl ?_); refine goesL_ (some 50) rfl rfl Try.func14 (by kernel_rfl) rfl #[.slice A0 l0.length c0] rfl (by (try simp only [List.map_toArray, List.map_cons, List.map_nil]); first | done | rfl | (simp only [List.length_drop, List.length_take]; rfl)) ?_; (with_reducible refine (frame_Frame.calls (fun k_ => k_ < w.heap.size) _ _ l0 t308 t311 _ ?side1 A19.out).mono ?_); (case side1 => exact Kd.V_mk HC0.out (Kd.F_below (Kd.C_F (Kd.heap_int .u8) HR0.out) (by repeat (first | (with_reducible first | exact HB.out | apply below_alloc | apply pw_below_drewN | apply below_drew1) | exact HB.out)))); rintro e w40 ⟨v309, rfl, ho0, hb⟩; refine ⟨_, rfl, ?_⟩; have n0_ := Aside0.mk (Kd.R_elder' (by (with_reducible repeat (first | apply Kd.R_alloc | apply Kd.R_drewN | apply Kd.R_drew)); exact HO305.out) (Kd.R_base ho0) hb); have n1_ := Aside0.mk (Kd.R_lower (Kd.R_new' (Kd.R_mono (ok' := fun k_ => True) ho0 (fun _ hk_ => trivial)) (Kd.R_lt (by (with_reducible repeat (first | apply Kd.R_alloc | apply Kd.R_drewN | apply Kd.R_drew)); exact HO305.out))) (below_size (by repeat (first | (with_reducible first | exact HB.out | apply below_alloc | apply pw_below_drewN | apply below_drew1) | exact HB.out)))); have n2_ := Aside0.mk (below_step (by repeat (first | (with_reducible first | exact HB.out | apply below_alloc | apply pw_below_drewN | apply below_drew1) | exact HB.out)) hb); clear HO305; clear HB; have HO305 := n0_; have HO310 := n1_; have HB := n2_; clear n0_ n1_ n2_; (try clear hb); (try clear hb2); (try clear hk); (try clear hi); (try clear ho0); obtain ⟨Ao41, co41, eo41⟩ := Kd.R_slice HO310.out; subst eo41; have p312 : 0 ≤ ((ji28) : Int) := of_decide_eq_true (by first | (with_reducible assumption) | assumption); have q312 : (ji28) < (t308.length : Int) := of_decide_eq_true (by first | (with_reducible assumption) | assumption); obtain ⟨ad312, e312, hx312_0⟩ := Kd.at_int (Kd.R_reads' HO310.out).2.2 (ji28) p312 q312; cases e312; replace p312 := eq_true p312; replace q312 := eq_true q312; have p31 : 0 ≤ ((ji28) : Int) := of_decide_eq_true (by first | (with_reducible assumption) | assumption); have q31 : ((ji28) : Int) < ((t308.length : Int) : Int) := of_decide_eq_true (by first | (with_reducible assumption) | assumption); obtain ⟨go31, co31, eo31, gb31, gl31, cl31, HG31⟩ := Kd.R_form HO310.out (by omega); (first | cases eo31 | (injection eo31 with ea_ en_ ec_; (first | subst ea_ | (injection ea_ with ea_; subst ea_)); subst ec_; clear en_)); have GB31 := Aside0.mk gb31; have GG31 := Aside0.mk HG31; clear gb31 gl31 HG31; (first | simp only [add_plain] at hx312_0 | skip); obtain ⟨hx31_0, hf31_0⟩ := Kd.R_celln 0 HO310.out ((ji28) : Int) p31 q31; replace p31 := eq_true p31; replace q31 := eq_true q31; have n_ := Aside0.mk (Kd.R_mono (ok' := (fun k_ => some k_ ≠ (.slice (some ⟨go18, 0, none⟩) y303.length co37 : Value).ownBlock)) HO310.out (fun k_ hk => hk.2)); clear HO310; have HO310 := n_; clear n_; obtain ⟨hy42_, hz42_⟩ := Kd.R_celln 0 HO310.out ((ji28) : Int) (of_decide_eq_true (by first | (with_reducible assumption) | assumption)) (of_decide_eq_true (by first | (with_reducible assumption) | assumption)); have HP42 := Kd.R_putg HO310.out ((ji28) : Int) (Go.bits .xor .u8 (rd t308 (ji28)) a2)) | ((with_reducible refine gate_store (t := 5) (p := 74) rfl ?_); refine store_event (t := 5) (p := 74) (v := ?vo_w43) (w1 := (w40.setCell ⟨go31, ((ji28) : Int).toNat, none⟩ (.int .u8 (Go.bits .xor .u8 (rd t308 (ji28)) a2)))) ?hg ?ho ?hn ?hr ?_; (case ho => rfl); (case hg => rfl); (case hn => rfl); (case hr => first | (go_simp; done) | (go_simp; rfl)); intro w43 hw; have hg : w40.grownBy w43 (some go31) := (by rw [hw]; exact HP42.2); have hp_ : Kd.R (Kd.int .u8) 5 w43 w.heap.size (fun k_ => some k_ ≠ (.slice (some ⟨go18, 0, none⟩) y303.length co37 : Value).ownBlock) (.slice (some ⟨go31, 0, none⟩) t308.length co41) y313 := (by rw [hw, Ny313.out]; exact HP42.1); clear HP42; have n0_ := Aside0.mk (Kd.R_after (v := (.slice (some ⟨go31, 0, none⟩) t308.length co41)) (v1 := (.slice (some ⟨go31, 0, none⟩) t308.length co41)) (ok := (fun _ => True)) (by (with_reducible repeat (first | apply Kd.R_alloc | apply Kd.R_drewN | apply Kd.R_drew)); exact HO305.out) hg (.inl rfl)); have n1_ := Aside0.mk (hp_); have n2_ := Aside0.mk ((by rw [hw]; exact below_set (HB.out) GB31.out : Below w.heap.size w w43)); clear HO305; clear HO310; clear HB; have HO305 := n0_; have HO310 := n1_; have HB := n2_; clear n0_ n1_ n2_; clear hg hw hp_) | ((with_reducible refine gate_callee (f := 15) rfl ?_); refine goesL_ (some 77) rfl rfl Try.func15 (by kernel_rfl) rfl #[.slice (some ⟨go31, 0, none⟩) y313.length co41, .int .i64 0] rfl (by (try simp only [List.map_toArray, List.map_cons, List.map_nil]); first | done | (rw [show y313.length = t308.length from (Kd.R_reads' HO310.out).1.symm] <;> rfl) | rfl | (simp only [List.length_drop, List.length_take]; rfl)) ?_; (with_reducible refine (frame_Take.calls kj3 _ _ y313 0 t314 t315 t316 _ ?side1 ?side2 A32.out).mono ?_); (case side1 => repeat (first | exact (Kd.R_reads' HO310.out).2.2 | (with_reducible refine Kd.C_alloc ?_ _) | (with_reducible refine Kd.C_drewN ?_ _) | (with_reducible refine Kd.C_drew ?_))); (case side2 => rw [show y313.length = t308.length from (Kd.R_reads' HO310.out).1.symm]; exact (Kd.R_reads' HO310.out).2.1); rintro e w44 ⟨v317, rfl, ho0, hb⟩; refine ⟨_, rfl, ?_⟩; have n0_ := Aside0.mk (Kd.R_elder' (by (with_reducible repeat (first | apply Kd.R_alloc | apply Kd.R_drewN | apply Kd.R_drew)); exact HO305.out) (Kd.R_base ho0) hb); have n1_ := Aside0.mk (Kd.R_elder' (by (with_reducible repeat (first | apply Kd.R_alloc | apply Kd.R_drewN | apply Kd.R_drew)); exact HO310.out) (Kd.R_base ho0) hb); have n2_ := Aside0.mk (Kd.R_lower (Kd.R_new' (Kd.R_new' ho0 (Kd.R_lt (by (with_reducible repeat (first | apply Kd.R_alloc | apply Kd.R_drewN | apply Kd.R_drew)); exact HO305.out))) (Kd.R_lt (by (with_reducible repeat (first | apply Kd.R_alloc | apply Kd.R_drewN | apply Kd.R_drew)); exact HO310.out))) (below_size (by repeat (first | (with_reducible first | exact HB.out | apply below_alloc | apply pw_below_drewN | apply below_drew1) | exact HB.out)))); have n3_ := Aside0.mk (below_step (by repeat (first | (with_reducible first | exact HB.out | apply below_alloc | apply pw_below_drewN | apply below_drew1) | exact HB.out)) hb); clear HO305; clear HO310; clear HB; have HO305 := n0_; have HO310 := n1_; have HO318 := n2_; have HB := n3_; clear n0_ n1_ n2_ n3_; (try clear hb); (try clear hb2); (try clear hk); (try clear hi); (try clear ho0)) | ((with_reducible refine gate_callee (f := 18) rfl ?_); refine goesL_ (some 82) rfl rfl Try.func18 (by kernel_rfl) rfl #[.slice (some ⟨go18, 0, none⟩) y307.length co37] rfl (by (try simp only [List.map_toArray, List.map_cons, List.map_nil]); first | done | (rw [show y307.length = y303.length from (Kd.R_reads' HO305.out).1.symm] <;> rfl) | rfl | (simp only [List.length_drop, List.length_take]; rfl)) ?_; (with_reducible refine (frame_Sum.calls _ _ y307 t319 _ ?side1 ?side2 A33.out).mono ?_); (case side1 => repeat (first | exact (Kd.R_reads' HO305.out).2.2 | (with_reducible refine Kd.C_alloc ?_ _) | (with_reducible refine Kd.C_drewN ?_ _) | (with_reducible refine Kd.C_drew ?_))); (case side2 => rw [show y307.length = y303.length from (Kd.R_reads' HO305.out).1.symm]; exact (Kd.R_reads' HO305.out).2.1); rintro e w' ⟨rfl, ⟨nd, rfl⟩⟩; refine ⟨_, rfl, ?_⟩) | ((with_reducible refine gate_callee (f := 18) rfl ?_); refine goesL_ (some 84) rfl rfl Try.func18 (by kernel_rfl) rfl #[.slice A0 l0.length c0] rfl (by (try simp only [List.map_toArray, List.map_cons, List.map_nil]); first | done | rfl | (simp only [List.length_drop, List.length_take]; rfl)) ?_; (with_reducible refine (frame_Sum.calls _ _ l0 t320 _ ?side1 ?side2 A34.out).mono ?_); (case side1 => repeat (first | exact (Kd.C_below HR0.out (by repeat (first | (with_reducible first | exact HB.out | apply below_alloc | apply pw_below_drewN | apply below_drew1) | exact HB.out))) | (with_reducible refine Kd.C_alloc ?_ _) | (with_reducible refine Kd.C_drewN ?_ _) | (with_reducible refine Kd.C_drew ?_))); (case side2 => exact HC0.out); rintro e w' ⟨rfl, ⟨nd, rfl⟩⟩; refine ⟨_, rfl, ?_⟩))
                          go_ret
                          exact ⟨by first | rfl | (simp [errW_none, errW_some] <;> rfl) | (simp only [← hji15, ← hji28]; first | rfl | (simp [errW_none, errW_some] <;> rfl)) | (simp [*, errW_none, errW_some] <;> rfl), by repeat (first | (with_reducible first | exact HB.out | apply below_alloc | apply pw_below_drewN | apply below_drew1) | exact HB.out)⟩
                        · rw [if_neg c35] at H
                          have c35b0 : (t319 == t320) = false := beq_eq_false_iff_ne.mpr c35
                          have c35b1 : (t319 != t320) = true := bne_iff_ne.mpr c35
                          obtain rfl := Option.some.inj H
                          go_wp2_with (first | ((with_reducible refine gate_builtin (b := .append) (xs := #[.tmp 31, .tmp 32]) rfl ?_); (try (refine gate_guard (by rfl) ?_; dsimp only)); at_builtin; refine Kd.R_append_rows (Kd.int .u8) (w0 := w) w.heap.size rfl (.tmp 31) (.tmp 32) 23 5 (.int .u8 0) 1 rfl Try.underlying23 info5 rfl (by decide) (by omega) (.slice none 0 0) ([] : List Int) l0 _ _ _ (fun _ => True) (fun _ => False) rfl rfl ?aO ?aR (fun _ _ h => h) (fun _ h => h.elim) ?aF ?aB ?aS ?aL ?_; (case aR => repeat (first | exact (Kd.C_below HR0.out HB.out) | (with_reducible refine Kd.C_alloc ?_ _) | (with_reducible refine Kd.C_drewN ?_ _) | (with_reducible refine Kd.C_drew ?_))); (case aB => exact (by repeat (first | (with_reducible first | exact HB.out | apply below_alloc | apply pw_below_drewN | apply below_drew1) | exact HB.out))); (case aF => exact (fun _ _ => trivial)); (case aO => exact ((Kd.R_nil _ _ _ _ (fun _ => True)))); (case aS => exact (below_size (by repeat (first | (with_reducible first | exact HB.out | apply below_alloc | apply pw_below_drewN | apply below_drew1) | exact HB.out)))); (case aL => have := LMc13.out; omega); intro v304 w45 ho hb hg hat; rw [← Ny303.out] at ho; have n0_ := Aside0.mk (hb); have n1_ := Aside0.mk (ho); clear HB; have HB := n0_; have HO305 := n1_; clear n0_ n1_; clear ho hb hg hat; obtain ⟨Ao46, co46, eo46⟩ := Kd.R_slice HO305.out; subst eo46; have p306 : 0 ≤ ((ji15) : Int) := of_decide_eq_true (by first | (with_reducible assumption) | assumption); have q306 : (ji15) < (y303.length : Int) := of_decide_eq_true (by first | (with_reducible assumption) | assumption); obtain ⟨ad306, e306, hx306_0⟩ := Kd.at_int (Kd.R_reads' HO305.out).2.2 (ji15) p306 q306; cases e306; replace p306 := eq_true p306; replace q306 := eq_true q306; have p18 : 0 ≤ ((ji15) : Int) := of_decide_eq_true (by first | (with_reducible assumption) | assumption); have q18 : ((ji15) : Int) < ((y303.length : Int) : Int) := of_decide_eq_true (by first | (with_reducible assumption) | assumption); obtain ⟨go18, co18, eo18, gb18, gl18, cl18, HG18⟩ := Kd.R_form HO305.out (by omega); (first | cases eo18 | (injection eo18 with ea_ en_ ec_; (first | subst ea_ | (injection ea_ with ea_; subst ea_)); subst ec_; clear en_)); have GB18 := Aside0.mk gb18; have GG18 := Aside0.mk HG18; clear gb18 gl18 HG18; (first | simp only [add_plain] at hx306_0 | skip); obtain ⟨hx18_0, hf18_0⟩ := Kd.R_celln 0 HO305.out ((ji15) : Int) p18 q18; replace p18 := eq_true p18; replace q18 := eq_true q18; obtain ⟨hy47_, hz47_⟩ := Kd.R_celln 0 HO305.out ((ji15) : Int) (of_decide_eq_true (by first | (with_reducible assumption) | assumption)) (of_decide_eq_true (by first | (with_reducible assumption) | assumption)); have HP47 := Kd.R_putg HO305.out ((ji15) : Int) (Go.bits .xor .u8 (rd y303 (ji15)) a2)) | ((with_reducible refine gate_store (t := 5) (p := 47) rfl ?_); refine store_event (t := 5) (p := 47) (v := ?vo_w48) (w1 := (w45.setCell ⟨go18, ((ji15) : Int).toNat, none⟩ (.int .u8 (Go.bits .xor .u8 (rd y303 (ji15)) a2)))) ?hg ?ho ?hn ?hr ?_; (case ho => rfl); (case hg => rfl); (case hn => rfl); (case hr => first | (go_simp; done) | (go_simp; rfl)); intro w48 hw; have hg : w45.grownBy w48 (some go18) := (by rw [hw]; exact HP47.2); have hp_ : Kd.R (Kd.int .u8) 5 w48 w.heap.size (fun _ => True) (.slice (some ⟨go18, 0, none⟩) y303.length co46) y307 := (by rw [hw, Ny307.out]; exact HP47.1); clear HP47; have n0_ := Aside0.mk (hp_); have n1_ := Aside0.mk ((by rw [hw]; exact below_set (HB.out) GB18.out : Below w.heap.size w w48)); clear HO305; clear HB; have HO305 := n0_; have HB := n1_; clear n0_ n1_; clear hg hw hp_) | ((with_reducible refine gate_callee (f := 14) rfl ?_); refine goesL_ (some 50) rfl rfl Try.func14 (by kernel_rfl) rfl #[.slice A0 l0.length c0] rfl (by (try simp only [List.map_toArray, List.map_cons, List.map_nil]); first | done | rfl | (simp only [List.length_drop, List.length_take]; rfl)) ?_; (with_reducible refine (frame_Frame.calls (fun k_ => k_ < w.heap.size) _ _ l0 t308 t311 _ ?side1 A19.out).mono ?_); (case side1 => exact Kd.V_mk HC0.out (Kd.F_below (Kd.C_F (Kd.heap_int .u8) HR0.out) (by repeat (first | (with_reducible first | exact HB.out | apply below_alloc | apply pw_below_drewN | apply below_drew1) | exact HB.out)))); rintro e w49 ⟨v309, rfl, ho0, hb⟩; refine ⟨_, rfl, ?_⟩; have n0_ := Aside0.mk (Kd.R_elder' (by (with_reducible repeat (first | apply Kd.R_alloc | apply Kd.R_drewN | apply Kd.R_drew)); exact HO305.out) (Kd.R_base ho0) hb); have n1_ := Aside0.mk (Kd.R_lower (Kd.R_new' (Kd.R_mono (ok' := fun k_ => True) ho0 (fun _ hk_ => trivial)) (Kd.R_lt (by (with_reducible repeat (first | apply Kd.R_alloc | apply Kd.R_drewN | apply Kd.R_drew)); exact HO305.out))) (below_size (by repeat (first | (with_reducible first | exact HB.out | apply below_alloc | apply pw_below_drewN | apply below_drew1) | exact HB.out)))); have n2_ := Aside0.mk (below_step (by repeat (first | (with_reducible first | exact HB.out | apply below_alloc | apply pw_below_drewN | apply below_drew1) | exact HB.out)) hb); clear HO305; clear HB; have HO305 := n0_; have HO310 := n1_; have HB := n2_; clear n0_ n1_ n2_; (try clear hb); (try clear hb2); (try clear hk); (try clear hi); (try clear ho0); obtain ⟨Ao50, co50, eo50⟩ := Kd.R_slice HO310.out; subst eo50; have p312 : 0 ≤ ((ji28) : Int) := of_decide_eq_true (by first | (with_reducible assumption) | assumption); have q312 : (ji28) < (t308.length : Int) := of_decide_eq_true (by first | (with_reducible assumption) | assumption); obtain ⟨ad312, e312, hx312_0⟩ := Kd.at_int (Kd.R_reads' HO310.out).2.2 (ji28) p312 q312; cases e312; replace p312 := eq_true p312; replace q312 := eq_true q312; have p31 : 0 ≤ ((ji28) : Int) := of_decide_eq_true (by first | (with_reducible assumption) | assumption); have q31 : ((ji28) : Int) < ((t308.length : Int) : Int) := of_decide_eq_true (by first | (with_reducible assumption) | assumption); obtain ⟨go31, co31, eo31, gb31, gl31, cl31, HG31⟩ := Kd.R_form HO310.out (by omega); (first | cases eo31 | (injection eo31 with ea_ en_ ec_; (first | subst ea_ | (injection ea_ with ea_; subst ea_)); subst ec_; clear en_)); have GB31 := Aside0.mk gb31; have GG31 := Aside0.mk HG31; clear gb31 gl31 HG31; (first | simp only [add_plain] at hx312_0 | skip); obtain ⟨hx31_0, hf31_0⟩ := Kd.R_celln 0 HO310.out ((ji28) : Int) p31 q31; replace p31 := eq_true p31; replace q31 := eq_true q31; have n_ := Aside0.mk (Kd.R_mono (ok' := (fun k_ => some k_ ≠ (.slice (some ⟨go18, 0, none⟩) y303.length co46 : Value).ownBlock)) HO310.out (fun k_ hk => hk.2)); clear HO310; have HO310 := n_; clear n_; obtain ⟨hy51_, hz51_⟩ := Kd.R_celln 0 HO310.out ((ji28) : Int) (of_decide_eq_true (by first | (with_reducible assumption) | assumption)) (of_decide_eq_true (by first | (with_reducible assumption) | assumption)); have HP51 := Kd.R_putg HO310.out ((ji28) : Int) (Go.bits .xor .u8 (rd t308 (ji28)) a2)) | ((with_reducible refine gate_store (t := 5) (p := 74) rfl ?_); refine store_event (t := 5) (p := 74) (v := ?vo_w52) (w1 := (w49.setCell ⟨go31, ((ji28) : Int).toNat, none⟩ (.int .u8 (Go.bits .xor .u8 (rd t308 (ji28)) a2)))) ?hg ?ho ?hn ?hr ?_; (case ho => rfl); (case hg => rfl); (case hn => rfl); (case hr => first | (go_simp; done) | (go_simp; rfl)); intro w52 hw; have hg : w49.grownBy w52 (some go31) := (by rw [hw]; exact HP51.2); have hp_ : Kd.R (Kd.int .u8) 5 w52 w.heap.size (fun k_ => some k_ ≠ (.slice (some ⟨go18, 0, none⟩) y303.length co46 : Value).ownBlock) (.slice (some ⟨go31, 0, none⟩) t308.length co50) y313 := (by rw [hw, Ny313.out]; exact HP51.1); clear HP51; have n0_ := Aside0.mk (Kd.R_after (v := (.slice (some ⟨go31, 0, none⟩) t308.length co50)) (v1 := (.slice (some ⟨go31, 0, none⟩) t308.length co50)) (ok := (fun _ => True)) (by (with_reducible repeat (first | apply Kd.R_alloc | apply Kd.R_drewN | apply Kd.R_drew)); exact HO305.out) hg (.inl rfl)); have n1_ := Aside0.mk (hp_); have n2_ := Aside0.mk ((by rw [hw]; exact below_set (HB.out) GB31.out : Below w.heap.size w w52)); clear HO305; clear HO310; clear HB; have HO305 := n0_; have HO310 := n1_; have HB := n2_; clear n0_ n1_ n2_; clear hg hw hp_) | ((with_reducible refine gate_callee (f := 15) rfl ?_); refine goesL_ (some 77) rfl rfl Try.func15 (by kernel_rfl) rfl #[.slice (some ⟨go31, 0, none⟩) y313.length co50, .int .i64 0] rfl (by (try simp only [List.map_toArray, List.map_cons, List.map_nil]); first | done | (rw [show y313.length = t308.length from (Kd.R_reads' HO310.out).1.symm] <;> rfl) | rfl | (simp only [List.length_drop, List.length_take]; rfl)) ?_; (with_reducible refine (frame_Take.calls kj3 _ _ y313 0 t314 t315 t316 _ ?side1 ?side2 A32.out).mono ?_); (case side1 => repeat (first | exact (Kd.R_reads' HO310.out).2.2 | (with_reducible refine Kd.C_alloc ?_ _) | (with_reducible refine Kd.C_drewN ?_ _) | (with_reducible refine Kd.C_drew ?_))); (case side2 => rw [show y313.length = t308.length from (Kd.R_reads' HO310.out).1.symm]; exact (Kd.R_reads' HO310.out).2.1); rintro e w53 ⟨v317, rfl, ho0, hb⟩; refine ⟨_, rfl, ?_⟩; have n0_ := Aside0.mk (Kd.R_elder' (by (with_reducible repeat (first | apply Kd.R_alloc | apply Kd.R_drewN | apply Kd.R_drew)); exact HO305.out) (Kd.R_base ho0) hb); have n1_ := Aside0.mk (Kd.R_elder' (by (with_reducible repeat (first | apply Kd.R_alloc | apply Kd.R_drewN | apply Kd.R_drew)); exact HO310.out) (Kd.R_base ho0) hb); have n2_ := Aside0.mk (Kd.R_lower (Kd.R_new' (Kd.R_new' ho0 (Kd.R_lt (by (with_reducible repeat (first | apply Kd.R_alloc | apply Kd.R_drewN | apply Kd.R_drew)); exact HO305.out))) (Kd.R_lt (by (with_reducible repeat (first | apply Kd.R_alloc | apply Kd.R_drewN | apply Kd.R_drew)); exact HO310.out))) (below_size (by repeat (first | (with_reducible first | exact HB.out | apply below_alloc | apply pw_below_drewN | apply below_drew1) | exact HB.out)))); have n3_ := Aside0.mk (below_step (by repeat (first | (with_reducible first | exact HB.out | apply below_alloc | apply pw_below_drewN | apply below_drew1) | exact HB.out)) hb); clear HO305; clear HO310; clear HB; have HO305 := n0_; have HO310 := n1_; have HO318 := n2_; have HB := n3_; clear n0_ n1_ n2_ n3_; (try clear hb); (try clear hb2); (try clear hk); (try clear hi); (try clear ho0)) | ((with_reducible refine gate_callee (f := 18) rfl ?_); refine goesL_ (some 82) rfl rfl Try.func18 (by kernel_rfl) rfl #[.slice (some ⟨go18, 0, none⟩) y307.length co46] rfl (by (try simp only [List.map_toArray, List.map_cons, List.map_nil]); first | done | (rw [show y307.length = y303.length from (Kd.R_reads' HO305.out).1.symm] <;> rfl) | rfl | (simp only [List.length_drop, List.length_take]; rfl)) ?_; (with_reducible refine (frame_Sum.calls _ _ y307 t319 _ ?side1 ?side2 A33.out).mono ?_); (case side1 => repeat (first | exact (Kd.R_reads' HO305.out).2.2 | (with_reducible refine Kd.C_alloc ?_ _) | (with_reducible refine Kd.C_drewN ?_ _) | (with_reducible refine Kd.C_drew ?_))); (case side2 => rw [show y307.length = y303.length from (Kd.R_reads' HO305.out).1.symm]; exact (Kd.R_reads' HO305.out).2.1); rintro e w' ⟨rfl, ⟨nd, rfl⟩⟩; refine ⟨_, rfl, ?_⟩) | ((with_reducible refine gate_callee (f := 18) rfl ?_); refine goesL_ (some 84) rfl rfl Try.func18 (by kernel_rfl) rfl #[.slice A0 l0.length c0] rfl (by (try simp only [List.map_toArray, List.map_cons, List.map_nil]); first | done | rfl | (simp only [List.length_drop, List.length_take]; rfl)) ?_; (with_reducible refine (frame_Sum.calls _ _ l0 t320 _ ?side1 ?side2 A34.out).mono ?_); (case side1 => repeat (first | exact (Kd.C_below HR0.out (by repeat (first | (with_reducible first | exact HB.out | apply below_alloc | apply pw_below_drewN | apply below_drew1) | exact HB.out))) | (with_reducible refine Kd.C_alloc ?_ _) | (with_reducible refine Kd.C_drewN ?_ _) | (with_reducible refine Kd.C_drew ?_))); (case side2 => exact HC0.out); rintro e w' ⟨rfl, ⟨nd, rfl⟩⟩; refine ⟨_, rfl, ?_⟩))
                          go_ret
                          exact ⟨by first | rfl | (simp [errW_none, errW_some] <;> rfl) | (simp only [← hji15, ← hji28]; first | rfl | (simp [errW_none, errW_some] <;> rfl)) | (simp [*, errW_none, errW_some] <;> rfl), by repeat (first | (with_reducible first | exact HB.out | apply below_alloc | apply pw_below_drewN | apply below_drew1) | exact HB.out)⟩
                      · rw [if_neg c30] at H
                        exact absurd H (by simp)
                    · rw [if_neg c29] at H
                      exact absurd H (by simp)
              · rw [if_neg c17] at H
                exact absurd H (by simp)
            · rw [if_neg c16] at H
              exact absurd H (by simp)
        · rw [if_neg c13] at H
          exact absurd H (by simp)

/-- THE ONE PURE STATEMENT of telemeterlaw02_FrameBends: yours. -/
def telemeterlaw02_FrameBends.Pure : Prop := ∀ (l0 : List Int) (a1 : Int) (a2 : Int), l0.length ≤ maxLen → l0.length * 1 ≤ 140737488351232 → (∀ x ∈ l0, (Lit.int .u8 x).wf = true) → (Lit.int .u16 a1).wf = true → (Lit.int .u8 a2).wf = true → ∃ k, telemeterlaw02_FrameBends.f k l0 a1 a2 = some true
theorem telemeterlaw02_FrameBends.walk (P : telemeterlaw02_FrameBends.Pure) (a0 : Option Addr) (len0 cap0 : Nat) (z0 : List Int) (a1 : Int) (a2 : Int) (w : World) (w0 : (a0 = none ∧ len0 = 0 ∧ cap0 = 0 ∧ z0 = []) ∨ ∃ x, a0 = some x ∧ len0 ≤ cap0 ∧ cap0 ≤ maxLen ∧ z0.length = cap0 ∧ (∀ i, i < z0.length → w.cell? (x.add i) = some (.int .u8 (z0.getD i 0))) ∧ ∀ n ∈ z0, (Lit.int .u8 n).wf = true) (y0 : len0 * 1 ≤ 140737488351232) (w1 : (Lit.int .u16 a1).wf = true) (w2 : (Lit.int .u8 a2).wf = true) :
    Calls Try.prog 5 #[.slice a0 len0 cap0, .int .u16 a1, .int .u8 a2] w fun e w' => e = .returned (.bool true) ∧ Below w.heap.size w w' := by
  obtain ⟨l0, rfl, hr0, hm0, hw0, hc0⟩ := ReadsInt.ofRowC w0
  obtain ⟨k, h⟩ := P l0 a1 a2 hm0 y0 hw0 w1 w2
  refine (telemeterlaw02_FrameBends.calls k _ _ l0 a1 a2 true w (Kd.C_of_reads (d := (0 : Int)) (h1 := fun _ => rfl) hr0) hc0 h).mono ?_
  rintro e w' ⟨rfl, hd⟩
  exact ⟨rfl, hd⟩

end Go.Proofs.Ytjnlplgefcmngaa.Px
