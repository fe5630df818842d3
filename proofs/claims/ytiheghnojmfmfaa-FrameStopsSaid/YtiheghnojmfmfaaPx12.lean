-- Laid by a program of this session (wip/xprint.py: the kit's print.py, with functions given by hand). Lean checks it.
import Derived.Test.YtiheghnojmfmfaaPx0
import Derived.Test.YtiheghnojmfmfaaPx2
import Derived.Test.YtiheghnojmfmfaaPx7
import Derived.Test.YtiheghnojmfmfaaPx9
import Derived.Test.YtiheghnojmfmfaaPx10
import Derived.Test.YtiheghnojmfmfaaPx11
namespace Go.Proofs.Ytiheghnojmfmfaa.Px
open Go.RowKit Go.Proofs.YtiheghnojmfmfaaW.PrintWords Go.Proofs.YtiheghnojmfmfaaW.PrintLast Go.Proofs.YtiheghnojmfmfaaW.PrintMore
attribute [local go_sem] max2_int min2_int max_two min_two max_three min_three max_four min_four   -- for this text's walks alone
set_option linter.unusedVariables false
set_option linter.unusedSimpArgs false

/-! ### frame_Take: function 25 -/
def frame_Take.f (k : Nat) (l0 : List Int) (a1 : Int) : Option (List Int × Int × Int) := (num_Get.f l0 a1).bind fun bt119 => (if bt119.2.2 = 0 then (if bt119.1 > 4096 then (some (([] : List Int), 0, 3)) else (if (wrap64 ((wrap64 (bt119.1)) + 4)) > (wrap64 ((l0.length : Int) - bt119.2.1)) then (some (([] : List Int), 0, 10)) else (if 0 ≤ (wrap64 (bt119.2.1 + 4)) then (if (wrap64 (bt119.2.1 + 4)) ≤ (wrap64 ((wrap64 (bt119.2.1 + 4)) + (wrap64 (bt119.1)))) then (if (wrap64 ((wrap64 (bt119.2.1 + 4)) + (wrap64 (bt119.1)))) ≤ (l0.length : Int) then ((frame_Sum.f ((l0.take ((wrap64 ((wrap64 (bt119.2.1 + 4)) + (wrap64 (bt119.1)))) : Int).toNat).drop ((wrap64 (bt119.2.1 + 4)) : Int).toNat)).bind fun t123 => ((frame_four.f t123).bind fun t124 => (if 0 ≤ bt119.2.1 then (if bt119.2.1 ≤ (wrap64 (bt119.2.1 + 4)) then (if (wrap64 (bt119.2.1 + 4)) ≤ (l0.length : Int) then ((slices_Equal_byte_byte.f k t124 ((l0.take ((wrap64 (bt119.2.1 + 4)) : Int).toNat).drop (bt119.2.1 : Int).toNat)).bind fun t128 => (if t128 = true then ((slices_Clone_byte_byte.f ((l0.take ((wrap64 ((wrap64 (bt119.2.1 + 4)) + (wrap64 (bt119.1)))) : Int).toNat).drop ((wrap64 (bt119.2.1 + 4)) : Int).toNat)).bind fun t129 => (some (t129, wrap64 ((wrap64 (bt119.2.1 + 4)) + (wrap64 (bt119.1))), 0))) else (some (([] : List Int), 0, 30)))) else (none)) else (none)) else (none)))) else (none)) else (none)) else (none)))) else (some (([] : List Int), 0, bt119.2.2)))
theorem frame_Take.mono : ∀ a0 a1 k, LeO (frame_Take.f k a0 a1) (frame_Take.f (k + 1) a0 a1) := by
  intro a0 a1 k
  unfold frame_Take.f
  repeat' first
      | (with_reducible exact slices_Equal_byte_byte.mono _ _ _)
      | (with_reducible exact LeO.refl _)
      | (with_reducible exact LeO.none _)
      | (with_reducible refine LeO.ite ?_ ?_)
      | (with_reducible refine LeO.bind ?_ (fun _ => ?_))
      | exact slices_Equal_byte_byte.mono _ _ _
      | exact LeO.none _
      | refine LeO.ite ?_ ?_
      | refine LeO.bind ?_ (fun _ => ?_)
def frame_Take.T10 : Bool × List (List Nat × List Nat) := (true, [([], []), ([0], [0]), ([1, 1], [1]), ([], []), ([], []), ([], []), ([5], [5]), ([3, 4, 6], [3, 4, 6]), ([2, 7, 2], [2, 7]), ([8], [8])])
def frame_Take.B10 : List Nat := [0, 1, 3, 0, 0, 0, 32, 120, 255, 511]
theorem frame_Take.tab10 : rtab .any (opsOf Try.f25 10) = frame_Take.T10 := by kernel_rfl
theorem frame_Take.bits10 : waitsOk frame_Take.T10.2 frame_Take.B10 = true := by kernel_rfl
set_option maxHeartbeats 8000000 in
set_option maxRecDepth 100000 in
theorem frame_Take.calls (k : Nat) (A0 : Option Addr) (c0 : Nat) (l0 : List Int) (a1 : Int) (r1 : List Int) (r2 : Int) (r3 : Int) (w : World) (hr0 : Kd.C (Kd.int .u8) w A0 l0.length l0) (hc0 : l0.length ≤ c0) (h : frame_Take.f k l0 a1 = some (r1, r2, r3)) :
    Calls Try.prog 25 #[.slice A0 l0.length c0, .int .i64 a1] w fun e w' => ∃ v0_ : Value, e = .returned (.tuple #[v0_, .int .i64 r2, .int .u16 r3]) ∧ Kd.R (Kd.int .u8) 5 w' w.heap.size (fun _ => True) v0_ r1 ∧ Below w.heap.size w w' := by
  have HR0 := Aside0.mk hr0
  have HC0 := Aside0.mk hc0
  clear hr0 hc0
  have HB := Aside0.mk (Below.refl w.heap.size w)
  have H : ((num_Get.f l0 a1).bind fun bt119 => (if bt119.2.2 = 0 then (if bt119.1 > 4096 then (some (([] : List Int), 0, 3)) else (if (wrap64 ((wrap64 (bt119.1)) + 4)) > (wrap64 ((l0.length : Int) - bt119.2.1)) then (some (([] : List Int), 0, 10)) else (if 0 ≤ (wrap64 (bt119.2.1 + 4)) then (if (wrap64 (bt119.2.1 + 4)) ≤ (wrap64 ((wrap64 (bt119.2.1 + 4)) + (wrap64 (bt119.1)))) then (if (wrap64 ((wrap64 (bt119.2.1 + 4)) + (wrap64 (bt119.1)))) ≤ (l0.length : Int) then ((frame_Sum.f ((l0.take ((wrap64 ((wrap64 (bt119.2.1 + 4)) + (wrap64 (bt119.1)))) : Int).toNat).drop ((wrap64 (bt119.2.1 + 4)) : Int).toNat)).bind fun t123 => ((frame_four.f t123).bind fun t124 => (if 0 ≤ bt119.2.1 then (if bt119.2.1 ≤ (wrap64 (bt119.2.1 + 4)) then (if (wrap64 (bt119.2.1 + 4)) ≤ (l0.length : Int) then ((slices_Equal_byte_byte.f k t124 ((l0.take ((wrap64 (bt119.2.1 + 4)) : Int).toNat).drop (bt119.2.1 : Int).toNat)).bind fun t128 => (if t128 = true then ((slices_Clone_byte_byte.f ((l0.take ((wrap64 ((wrap64 (bt119.2.1 + 4)) + (wrap64 (bt119.1)))) : Int).toNat).drop ((wrap64 (bt119.2.1 + 4)) : Int).toNat)).bind fun t129 => (some (t129, wrap64 ((wrap64 (bt119.2.1 + 4)) + (wrap64 (bt119.1))), 0))) else (some (([] : List Int), 0, 30)))) else (none)) else (none)) else (none)))) else (none)) else (none)) else (none)))) else (some (([] : List Int), 0, bt119.2.2)))) = some (r1, r2, r3) := h
  clear h
  replace H := Option.bind_eq_some_iff.mp H
  obtain ⟨⟨t119, t120, t121⟩, A30, H⟩ := H
  replace H : (if t121 = 0 then (if t119 > 4096 then (some (([] : List Int), 0, 3)) else (if (wrap64 ((wrap64 (t119)) + 4)) > (wrap64 ((l0.length : Int) - t120)) then (some (([] : List Int), 0, 10)) else (if 0 ≤ (wrap64 (t120 + 4)) then (if (wrap64 (t120 + 4)) ≤ (wrap64 ((wrap64 (t120 + 4)) + (wrap64 (t119)))) then (if (wrap64 ((wrap64 (t120 + 4)) + (wrap64 (t119)))) ≤ (l0.length : Int) then ((frame_Sum.f ((l0.take ((wrap64 ((wrap64 (t120 + 4)) + (wrap64 (t119)))) : Int).toNat).drop ((wrap64 (t120 + 4)) : Int).toNat)).bind fun t123 => ((frame_four.f t123).bind fun t124 => (if 0 ≤ t120 then (if t120 ≤ (wrap64 (t120 + 4)) then (if (wrap64 (t120 + 4)) ≤ (l0.length : Int) then ((slices_Equal_byte_byte.f k t124 ((l0.take ((wrap64 (t120 + 4)) : Int).toNat).drop (t120 : Int).toNat)).bind fun t128 => (if t128 = true then ((slices_Clone_byte_byte.f ((l0.take ((wrap64 ((wrap64 (t120 + 4)) + (wrap64 (t119)))) : Int).toNat).drop ((wrap64 (t120 + 4)) : Int).toNat)).bind fun t129 => (some (t129, wrap64 ((wrap64 (t120 + 4)) + (wrap64 (t119))), 0))) else (some (([] : List Int), 0, 30)))) else (none)) else (none)) else (none)))) else (none)) else (none)) else (none)))) else (some (([] : List Int), 0, t121))) = some (r1, r2, r3) := H
  have A3 := Aside0.mk A30
  clear A30
  by_cases c4 : t121 = 0
  · rw [if_pos c4] at H
    have c4b0 : (t121 == 0) = true := beq_iff_eq.mpr c4
    have c4b1 : (t121 != 0) = false := bne_eq_false_iff_eq.mpr c4
    clear c4
    by_cases c5 : t119 > 4096
    · rw [if_pos c5] at H
      have c5b0 : decide (4096 < t119) = true := decide_eq_true c5
      clear c5
      simp only [Option.some.injEq, Prod.mk.injEq] at H
      obtain ⟨rfl, rfl, rfl⟩ := H
      go_enter Try.func25, Try.ntmps25
      go_wp2_with (first | ((with_reducible refine gate_callee (f := 39) rfl ?_); refine goesL_ (some 15) rfl rfl Try.func39 (by kernel_rfl) rfl #[.slice A0 l0.length c0, .int .i64 a1] rfl (by (try simp only [List.map_toArray, List.map_cons, List.map_nil]); first | done | rfl | (simp only [List.length_drop, List.length_take]; rfl)) ?_; (with_reducible refine (num_Get.calls _ _ l0 a1 t119 t120 t121 _ ?side1 ?side2 A3.out).mono ?_); (case side1 => repeat (first | exact HR0.out | (with_reducible refine Kd.C_alloc ?_ _) | (with_reducible refine Kd.C_drewN ?_ _) | (with_reducible refine Kd.C_drew ?_))); (case side2 => exact HC0.out); rintro e w' ⟨rfl, ⟨nd, rfl⟩⟩; refine ⟨_, rfl, ?_⟩))
      go_ret3
      exact ⟨_, by first | rfl | (simp [errW_none, errW_some] <;> rfl) | (simp [*, errW_none, errW_some] <;> rfl), by first | exact Kd.R_nil _ _ _ _ _ | exact Kd.N_nil _ _ _ _ _ | exact Kd.V_nil _ _ _ _ _ | exact Kd.Q_nil _ _ _ _ _ | exact Kd.S_nil _ _ _ _ _, by repeat (first | (with_reducible first | exact HB.out | apply below_alloc | apply pw_below_drewN | apply below_drew1) | exact HB.out)⟩
    · rw [if_neg c5] at H
      have c5b0 : decide (4096 < t119) = false := decide_eq_false c5
      clear c5
      by_cases c6 : (wrap64 ((wrap64 (t119)) + 4)) > (wrap64 ((l0.length : Int) - t120))
      · rw [if_pos c6] at H
        have c6b0 : decide ((wrap64 ((l0.length : Int) - t120)) < (wrap64 ((wrap64 (t119)) + 4))) = true := decide_eq_true c6
        clear c6
        simp only [Option.some.injEq, Prod.mk.injEq] at H
        obtain ⟨rfl, rfl, rfl⟩ := H
        go_enter Try.func25, Try.ntmps25
        go_wp2_with (first | ((with_reducible refine gate_callee (f := 39) rfl ?_); refine goesL_ (some 15) rfl rfl Try.func39 (by kernel_rfl) rfl #[.slice A0 l0.length c0, .int .i64 a1] rfl (by (try simp only [List.map_toArray, List.map_cons, List.map_nil]); first | done | rfl | (simp only [List.length_drop, List.length_take]; rfl)) ?_; (with_reducible refine (num_Get.calls _ _ l0 a1 t119 t120 t121 _ ?side1 ?side2 A3.out).mono ?_); (case side1 => repeat (first | exact HR0.out | (with_reducible refine Kd.C_alloc ?_ _) | (with_reducible refine Kd.C_drewN ?_ _) | (with_reducible refine Kd.C_drew ?_))); (case side2 => exact HC0.out); rintro e w' ⟨rfl, ⟨nd, rfl⟩⟩; refine ⟨_, rfl, ?_⟩))
        go_ret3
        exact ⟨_, by first | rfl | (simp [errW_none, errW_some] <;> rfl) | (simp [*, errW_none, errW_some] <;> rfl), by first | exact Kd.R_nil _ _ _ _ _ | exact Kd.N_nil _ _ _ _ _ | exact Kd.V_nil _ _ _ _ _ | exact Kd.Q_nil _ _ _ _ _ | exact Kd.S_nil _ _ _ _ _, by repeat (first | (with_reducible first | exact HB.out | apply below_alloc | apply pw_below_drewN | apply below_drew1) | exact HB.out)⟩
      · rw [if_neg c6] at H
        have c6b0 : decide ((wrap64 ((l0.length : Int) - t120)) < (wrap64 ((wrap64 (t119)) + 4))) = false := decide_eq_false c6
        clear c6
        obtain ⟨ji7, hji7⟩ : ∃ j_ : Int, (wrap64 (t120 + 4)) = j_ := ⟨_, rfl⟩
        replace H : (if 0 ≤ (ji7) then (if (ji7) ≤ (wrap64 ((ji7) + (wrap64 (t119)))) then (if (wrap64 ((ji7) + (wrap64 (t119)))) ≤ (l0.length : Int) then ((frame_Sum.f ((l0.take ((wrap64 ((ji7) + (wrap64 (t119)))) : Int).toNat).drop ((ji7) : Int).toNat)).bind fun t123 => ((frame_four.f t123).bind fun t124 => (if 0 ≤ t120 then (if t120 ≤ (ji7) then (if (ji7) ≤ (l0.length : Int) then ((slices_Equal_byte_byte.f k t124 ((l0.take ((ji7) : Int).toNat).drop (t120 : Int).toNat)).bind fun t128 => (if t128 = true then ((slices_Clone_byte_byte.f ((l0.take ((wrap64 ((ji7) + (wrap64 (t119)))) : Int).toNat).drop ((ji7) : Int).toNat)).bind fun t129 => (some (t129, wrap64 ((ji7) + (wrap64 (t119))), 0))) else (some (([] : List Int), 0, 30)))) else (none)) else (none)) else (none)))) else (none)) else (none)) else (none)) = some (r1, r2, r3) := by first | (rw [hji7] at H; exact H) | (simp only [hji7] at H ⊢; exact H)
        (try rw [hji7] at A3)
        have hji7w : (IntKind.i64.wrap (t120 + 4)) = ji7 := (i64_w _).trans hji7
        by_cases c8 : 0 ≤ (ji7)
        · rw [if_pos c8] at H
          have c8b0 := eq_true c8
          have c8b1 : decide (0 ≤ (ji7)) = true := decide_eq_true c8
          clear c8
          by_cases c9 : (ji7) ≤ (wrap64 ((ji7) + (wrap64 (t119))))
          · rw [if_pos c9] at H
            have c9b0 := eq_true c9
            have c9b1 : decide ((ji7) ≤ (wrap64 ((ji7) + (wrap64 (t119))))) = true := decide_eq_true c9
            by_cases c10 : (wrap64 ((ji7) + (wrap64 (t119)))) ≤ (l0.length : Int)
            · rw [if_pos c10] at H
              have c10b0 := eq_true c10
              have c10b1 : decide ((wrap64 ((ji7) + (wrap64 (t119)))) ≤ (l0.length : Int)) = true := decide_eq_true c10
              replace H := Option.bind_eq_some_iff.mp H
              obtain ⟨t123, A110, H⟩ := H
              replace H : ((frame_four.f t123).bind fun t124 => (if 0 ≤ t120 then (if t120 ≤ (ji7) then (if (ji7) ≤ (l0.length : Int) then ((slices_Equal_byte_byte.f k t124 ((l0.take ((ji7) : Int).toNat).drop (t120 : Int).toNat)).bind fun t128 => (if t128 = true then ((slices_Clone_byte_byte.f ((l0.take ((wrap64 ((ji7) + (wrap64 (t119)))) : Int).toNat).drop ((ji7) : Int).toNat)).bind fun t129 => (some (t129, wrap64 ((ji7) + (wrap64 (t119))), 0))) else (some (([] : List Int), 0, 30)))) else (none)) else (none)) else (none))) = some (r1, r2, r3) := H
              have A11 := Aside0.mk A110
              clear A110
              replace H := Option.bind_eq_some_iff.mp H
              obtain ⟨t124, A120, H⟩ := H
              replace H : (if 0 ≤ t120 then (if t120 ≤ (ji7) then (if (ji7) ≤ (l0.length : Int) then ((slices_Equal_byte_byte.f k t124 ((l0.take ((ji7) : Int).toNat).drop (t120 : Int).toNat)).bind fun t128 => (if t128 = true then ((slices_Clone_byte_byte.f ((l0.take ((wrap64 ((ji7) + (wrap64 (t119)))) : Int).toNat).drop ((ji7) : Int).toNat)).bind fun t129 => (some (t129, wrap64 ((ji7) + (wrap64 (t119))), 0))) else (some (([] : List Int), 0, 30)))) else (none)) else (none)) else (none)) = some (r1, r2, r3) := H
              have A12 := Aside0.mk A120
              clear A120
              by_cases c13 : 0 ≤ t120
              · rw [if_pos c13] at H
                have c13b0 := eq_true c13
                have c13b1 : decide (0 ≤ t120) = true := decide_eq_true c13
                clear c13
                by_cases c14 : t120 ≤ (ji7)
                · rw [if_pos c14] at H
                  have c14b0 := eq_true c14
                  have c14b1 : decide (t120 ≤ (ji7)) = true := decide_eq_true c14
                  clear c14
                  by_cases c15 : (ji7) ≤ (l0.length : Int)
                  · rw [if_pos c15] at H
                    have c15b0 := eq_true c15
                    have c15b1 : decide ((ji7) ≤ (l0.length : Int)) = true := decide_eq_true c15
                    clear c15
                    replace H := Option.bind_eq_some_iff.mp H
                    obtain ⟨t128, A160, H⟩ := H
                    replace H : (if t128 = true then ((slices_Clone_byte_byte.f ((l0.take ((wrap64 ((ji7) + (wrap64 (t119)))) : Int).toNat).drop ((ji7) : Int).toNat)).bind fun t129 => (some (t129, wrap64 ((ji7) + (wrap64 (t119))), 0))) else (some (([] : List Int), 0, 30))) = some (r1, r2, r3) := H
                    have A16 := Aside0.mk A160
                    clear A160
                    by_cases c17 : t128 = true
                    · subst c17
                      have H1 : ((slices_Clone_byte_byte.f ((l0.take ((wrap64 ((ji7) + (wrap64 (t119)))) : Int).toNat).drop ((ji7) : Int).toNat)).bind fun t129 => (some (t129, wrap64 ((ji7) + (wrap64 (t119))), 0))) = some (r1, r2, r3) := by rw [if_pos rfl] at H; exact H
                      clear H
                      have H := H1
                      clear H1
                      replace H := Option.bind_eq_some_iff.mp H
                      obtain ⟨t129, A180, H⟩ := H
                      replace H : (some (t129, wrap64 ((ji7) + (wrap64 (t119))), 0)) = some (r1, r2, r3) := H
                      have A18 := Aside0.mk A180
                      clear A180
                      simp only [Option.some.injEq, Prod.mk.injEq] at H
                      obtain ⟨rfl, rfl, rfl⟩ := H
                      go_enter Try.func25, Try.ntmps25
                      try go_wp2_with (first | ((with_reducible refine gate_callee (f := 39) rfl ?_); refine goesL_ (some 15) rfl rfl Try.func39 (by kernel_rfl) rfl #[.slice A0 l0.length c0, .int .i64 a1] rfl (by (try simp only [List.map_toArray, List.map_cons, List.map_nil]); first | done | rfl | (simp only [List.length_drop, List.length_take]; rfl)) ?_; (with_reducible refine (num_Get.calls _ _ l0 a1 t119 t120 t121 _ ?side1 ?side2 A3.out).mono ?_); (case side1 => repeat (first | exact HR0.out | (with_reducible refine Kd.C_alloc ?_ _) | (with_reducible refine Kd.C_drewN ?_ _) | (with_reducible refine Kd.C_drew ?_))); (case side2 => exact HC0.out); rintro e w' ⟨rfl, ⟨nd, rfl⟩⟩; refine ⟨_, rfl, ?_⟩; obtain ⟨i019, hi019, _, hsz19, _⟩ := info_parts info5; obtain ⟨A19, hcut19, hA19, hC19⟩ := print_mid_of (P := Try.prog) (Value.int .u8) 0 22 5 .i64 .i64 Try.underlying22 hi019 hsz19 A0 c0 l0 (ji7) (wrap64 ((ji7) + (wrap64 (t119)))) (of_decide_eq_true (by first | (with_reducible assumption) | assumption)) (by first | omega | exact of_decide_eq_true (by first | (with_reducible assumption) | assumption)) (of_decide_eq_true (by first | (with_reducible assumption) | assumption)) HC0.out; have HR122 := Aside0.mk (Kd.C_of_reads (h1 := fun _ => rfl) (hA19 _ (Kd.reads_of_C HR0.out))); have HC122 := Aside0.mk hC19; clear hA19 hC19 hi019 hsz19))
                      try (obtain ⟨w, hX_, HB⟩ : ∃ X_ : World, w.drewN nd = X_ ∧ Aside0 (Below w.heap.size w X_) := ⟨_, rfl, ⟨pw_below_drewN HB.out nd⟩⟩; rw [hX_]; clear hX_)
                      have n0_ := Aside0.mk (below_drew1 HB.out)
                      clear HB
                      have HB := n0_
                      clear n0_
                      obtain ⟨i021, hi021, _, hsz21, _⟩ := info_parts info5
                      obtain ⟨A21, hcut21, hA21, hC21⟩ := print_mid_of (P := Try.prog) (Value.int .u8) 0 22 5 .i64 .i64 Try.underlying22 hi021 hsz21 A0 c0 l0 t120 (ji7) (of_decide_eq_true (by first | (with_reducible assumption) | assumption)) (by first | omega | exact of_decide_eq_true (by first | (with_reducible assumption) | assumption)) (of_decide_eq_true (by first | (with_reducible assumption) | assumption)) HC0.out
                      have HR127 := Aside0.mk (Kd.C_of_reads (h1 := fun _ => rfl) (hA21 _ (Kd.reads_of_C HR0.out)))
                      have HC127 := Aside0.mk hC21
                      clear hA21 hC21 hi021 hsz21
                      refine start_ (n := 10) (S := fun w' => True) (ds := []) #[false, false, false, false, false, false, false, false, false, false] (by kernel_rfl) rfl rfl trivial (fun hHeld => ?_); refine with_tabW frame_Take.tab10 frame_Take.bits10 (fun HT_ HW_ => ?_)
                      generalize w.drew = w20 at HB HR127 hHeld ⊢
                      refine pure_ (i := 0) (N := some 45) (v := ?_) (a' := ?_) #[true, false, false, false, false, false, false, false, false, false] rfl rfl (any_of HT_.out (by kernel_rfl)) (fun _ _ _ h => h) (Or.inl ⟨by rfl, ?_⟩) ?_ ?_
                      rotate_left
                      · intro w'
                        go_simp
                        with_reducible rfl
                      rotate_left
                      · simp only [Act.put, List.setIfInBounds_toArray, List.set_cons_zero, List.set_cons_succ, i64_w, i32_w]
                        rfl
                      refine pure_ (i := 3) (N := some 48) (v := ?_) (a' := ?_) #[true, false, false, true, false, false, false, false, false, false] rfl rfl (any_of HT_.out (by kernel_rfl)) (fun _ _ _ h => h) (Or.inl ⟨by rfl, ?_⟩) ?_ ?_
                      rotate_left
                      · intro w'
                        go_simp
                        with_reducible rfl
                      rotate_left
                      · simp only [Act.put, List.setIfInBounds_toArray, List.set_cons_zero, List.set_cons_succ, i64_w, i32_w]
                        rfl
                      refine pure_ (i := 4) (N := some 49) (v := ?_) (a' := ?_) #[true, false, false, true, true, false, false, false, false, false] rfl rfl (any_of HT_.out (by kernel_rfl)) (fun _ _ _ h => h) (Or.inl ⟨by rfl, ?_⟩) ?_ ?_
                      rotate_left
                      · intro w'
                        go_simp
                        with_reducible rfl
                      rotate_left
                      · simp only [Act.put, List.setIfInBounds_toArray, List.set_cons_zero, List.set_cons_succ, i64_w, i32_w]
                        rfl
                      refine pure_ (i := 5) (N := some 50) (v := ?_) (a' := ?_) #[true, false, false, true, true, true, false, false, false, false] rfl rfl (any_of HT_.out (by kernel_rfl)) (fun _ _ _ h => h) (Or.inl ⟨by rfl, ?_⟩) ?_ ?_
                      rotate_left
                      · intro w'
                        go_simp
                        with_reducible rfl
                      rotate_left
                      · simp only [Act.put, List.setIfInBounds_toArray, List.set_cons_zero, List.set_cons_succ, i64_w, i32_w]
                        rfl
                      refine pure_ (i := 6) (N := some 51) (v := ?_) (a' := ?_) #[true, false, false, true, true, true, true, false, false, false] rfl rfl (any_of HT_.out (by kernel_rfl)) (fun _ _ _ h => h) (Or.inl ⟨by rfl, ?_⟩) ?_ ?_
                      rotate_left
                      · intro w'
                        go_simp
                        with_reducible rfl
                      rotate_left
                      · simp only [Act.put, List.setIfInBounds_toArray, List.set_cons_zero, List.set_cons_succ, i64_w, i32_w]
                        rfl
                      refine pure_ (i := 7) (N := some 52) (v := ?_) (a' := ?_) #[true, false, false, true, true, true, true, true, false, false] rfl rfl (any_of HT_.out (by kernel_rfl)) (fun _ _ _ h => h) (Or.inl ⟨by rfl, ?_⟩) ?_ ?_
                      rotate_left
                      · intro w'
                        go_simp
                        with_reducible rfl
                      rotate_left
                      · simp only [Act.put, List.setIfInBounds_toArray, List.set_cons_zero, List.set_cons_succ, i64_w, i32_w]
                        rfl
                      refine one_ (i := 1) (N := some 46) #[true, true, false, true, true, true, true, true, false, false] rfl rfl (one_of HT_.out (by kernel_rfl)) (by decide) (fun K hK => ?_)
                      refine goes_ Try.func28 (by kernel_rfl) rfl #[.slice A19 ((l0.take ((wrap64 ((ji7) + (wrap64 (t119)))) : Int).toNat).drop ((ji7) : Int).toNat).length (c0 - (ji7).toNat)] (by rfl) rfl rfl (by (try simp only [List.map_toArray, List.map_cons, List.map_nil]); first | done | (rw [show ((l0.take ((wrap64 ((ji7) + (wrap64 (t119)))) : Int).toNat).drop ((ji7) : Int).toNat).length = ((wrap64 ((ji7) + (wrap64 (t119)))).toNat - (ji7).toNat) from (by rw [List.length_drop, List.length_take]; have h_ : ((wrap64 ((ji7) + (wrap64 (t119)))) : Int) ≤ (l0.length : Int) := of_decide_eq_true (by first | (with_reducible assumption) | assumption); omega)] <;> rfl) | (simp only [hji7]; rfl) | rfl | (simp only [List.length_drop, List.length_take]; rfl)) ?_
                      with_reducible refine (frame_Sum.calls _ _ ((l0.take ((wrap64 ((ji7) + (wrap64 (t119)))) : Int).toNat).drop ((ji7) : Int).toNat) t123 _ ?side1 ?side2 A11.out).mono ?_
                      (case side1 => repeat (first | exact (Kd.C_below HR122.out HB.out) | (with_reducible refine Kd.C_alloc ?_ _) | (with_reducible refine Kd.C_drewN ?_ _) | (with_reducible refine Kd.C_drew ?_)))
                      (case side2 => exact HC122.out)
                      rintro e w' ⟨rfl, ⟨nd, rfl⟩⟩
                      refine ⟨_, rfl, ?_⟩
                      refine hK.out _ _ trivial (fun hHeld => ?_)
                      clear hK K
                      refine norm_ (a' := ?_) ?_ ?_
                      rotate_left
                      · show Act.put _ (some 46) _ = _
                        simp only [Act.put, List.setIfInBounds_toArray, List.set_cons_zero, List.set_cons_succ, i64_w, i32_w]
                        rfl
                      refine one_ (i := 2) (N := some 47) #[true, true, true, true, true, true, true, true, false, false] rfl rfl (one_of HT_.out (by kernel_rfl)) (by decide) (fun K hK => ?_)
                      refine goes_ Try.func42 (by kernel_rfl) rfl #[.int .u32 t123] (by rfl) rfl rfl (by (try simp only [List.map_toArray, List.map_cons, List.map_nil]); first | done | rfl | (simp only [List.length_drop, List.length_take]; rfl)) ?_
                      with_reducible refine (frame_four.calls t123 t124 _ A12.out).mono ?_
                      rintro e w22 ⟨v125, rfl, ho0, hb⟩
                      refine ⟨_, rfl, ?_⟩
                      have n0_ := Aside0.mk (Kd.R_lower ho0 (below_size (by repeat (first | (with_reducible first | exact HB.out | apply below_alloc | apply pw_below_drewN | apply below_drew1) | exact HB.out))))
                      have n1_ := Aside0.mk (below_step (by repeat (first | (with_reducible first | exact HB.out | apply below_alloc | apply pw_below_drewN | apply below_drew1) | exact HB.out)) hb)
                      clear HB
                      have HO126 := n0_
                      have HB := n1_
                      clear n0_ n1_
                      (try clear hb)
                      (try clear hb2)
                      (try clear hk)
                      (try clear hi)
                      (try clear ho0)
                      obtain ⟨Ao23, co23, eo23⟩ := Kd.R_slice HO126.out
                      (first | subst eo23 | (injection eo23 with f1_ f2_ f3_; have f4_ := f1_.symm; have f5_ := f3_.symm; clear f1_ f2_ f3_; subst f4_; subst f5_))
                      refine hK.out _ _ trivial (fun hHeld => ?_)
                      clear hK K
                      refine norm_ (a' := ?_) ?_ ?_
                      rotate_left
                      · show Act.put _ (some 47) _ = _
                        simp only [Act.put, List.setIfInBounds_toArray, List.set_cons_zero, List.set_cons_succ, i64_w, i32_w]
                        rfl
                      refine one_ (i := 8) (N := some 53) #[true, true, true, true, true, true, true, true, true, false] rfl rfl (one_of HT_.out (by kernel_rfl)) (by decide) (fun K hK => ?_)
                      refine goes_ Try.func43 (by kernel_rfl) rfl #[.slice Ao23 t124.length co23, .slice A21 ((l0.take ((ji7) : Int).toNat).drop (t120 : Int).toNat).length (c0 - t120.toNat)] (by rfl) rfl rfl (by (try simp only [List.map_toArray, List.map_cons, List.map_nil]); first | done | (rw [show ((l0.take ((ji7) : Int).toNat).drop (t120 : Int).toNat).length = ((ji7).toNat - t120.toNat) from (by rw [List.length_drop, List.length_take]; have h_ : ((ji7) : Int) ≤ (l0.length : Int) := of_decide_eq_true (by first | (with_reducible assumption) | assumption); omega)] <;> rfl) | (simp only [hji7]; rfl) | rfl | (simp only [List.length_drop, List.length_take]; rfl)) ?_
                      with_reducible refine (slices_Equal_byte_byte.calls k _ _ t124 _ _ ((l0.take ((ji7) : Int).toNat).drop (t120 : Int).toNat) true _ ?side1 ?side2 ?side3 ?side4 A16.out).mono ?_
                      (case side1 => repeat (first | exact (Kd.R_reads' HO126.out).2.2 | (with_reducible refine Kd.C_alloc ?_ _) | (with_reducible refine Kd.C_drewN ?_ _) | (with_reducible refine Kd.C_drew ?_)))
                      (case side2 => exact (Kd.R_reads' HO126.out).2.1)
                      (case side3 => repeat (first | exact (Kd.C_below HR127.out HB.out) | (with_reducible refine Kd.C_alloc ?_ _) | (with_reducible refine Kd.C_drewN ?_ _) | (with_reducible refine Kd.C_drew ?_)))
                      (case side4 => exact HC127.out)
                      rintro e w' ⟨rfl, ⟨nd, rfl⟩⟩
                      refine ⟨_, rfl, ?_⟩
                      refine hK.out _ _ trivial (fun hHeld => ?_)
                      clear hK K
                      refine norm_ (a' := ?_) ?_ ?_
                      rotate_left
                      · show Act.put _ (some 53) _ = _
                        simp only [Act.put, List.setIfInBounds_toArray, List.set_cons_zero, List.set_cons_succ, i64_w, i32_w]
                        rfl
                      refine pure_ (i := 9) (N := some 54) (v := ?_) (a' := ?_) #[true, true, true, true, true, true, true, true, true, true] rfl rfl (any_of HT_.out (by kernel_rfl)) (fun _ _ _ h => h) (Or.inl ⟨by rfl, ?_⟩) ?_ ?_
                      rotate_left
                      · intro w'
                        go_simp
                        with_reducible rfl
                      rotate_left
                      · simp only [Act.put, List.setIfInBounds_toArray, List.set_cons_zero, List.set_cons_succ, i64_w, i32_w]
                        rfl
                      refine done_ (done_of HT_.out (by kernel_rfl)) ?_
                      try go_wp2_with (first | ((with_reducible refine gate_callee (f := 35) rfl ?_); refine goesL_ (some 56) rfl rfl Try.func35 (by kernel_rfl) rfl #[.slice A19 ((l0.take ((wrap64 ((ji7) + (wrap64 (t119)))) : Int).toNat).drop ((ji7) : Int).toNat).length (c0 - (ji7).toNat)] rfl (by (try simp only [List.map_toArray, List.map_cons, List.map_nil]); first | done | (rw [show ((l0.take ((wrap64 ((ji7) + (wrap64 (t119)))) : Int).toNat).drop ((ji7) : Int).toNat).length = ((wrap64 ((ji7) + (wrap64 (t119)))).toNat - (ji7).toNat) from (by rw [List.length_drop, List.length_take]; have h_ : ((wrap64 ((ji7) + (wrap64 (t119)))) : Int) ≤ (l0.length : Int) := of_decide_eq_true (by first | (with_reducible assumption) | assumption); omega)] <;> rfl) | (simp only [hji7]; rfl) | rfl | (simp only [List.length_drop, List.length_take]; rfl)) ?_; (with_reducible refine (slices_Clone_byte_byte.calls _ _ ((l0.take ((wrap64 ((ji7) + (wrap64 (t119)))) : Int).toNat).drop ((ji7) : Int).toNat) t129 _ ?side1 ?side2 A18.out).mono ?_); (case side1 => repeat (first | exact (Kd.C_below HR122.out (by repeat (first | (with_reducible first | exact HB.out | apply below_alloc | apply pw_below_drewN | apply below_drew1) | exact HB.out))) | (with_reducible refine Kd.C_alloc ?_ _) | (with_reducible refine Kd.C_drewN ?_ _) | (with_reducible refine Kd.C_drew ?_))); (case side2 => exact HC122.out); rintro e w24 ⟨v130, rfl, ho0, hb⟩; refine ⟨_, rfl, ?_⟩; have n0_ := Aside0.mk (Kd.R_elder' (by (with_reducible repeat (first | apply Kd.R_alloc | apply Kd.R_drewN | apply Kd.R_drew)); exact HO126.out) (Kd.R_base ho0) hb); have n1_ := Aside0.mk (Kd.R_lower (Kd.R_new' ho0 (Kd.R_lt (by (with_reducible repeat (first | apply Kd.R_alloc | apply Kd.R_drewN | apply Kd.R_drew)); exact HO126.out))) (below_size (by repeat (first | (with_reducible first | exact HB.out | apply below_alloc | apply pw_below_drewN | apply below_drew1) | exact HB.out)))); have n2_ := Aside0.mk (below_step (by repeat (first | (with_reducible first | exact HB.out | apply below_alloc | apply pw_below_drewN | apply below_drew1) | exact HB.out)) hb); clear HO126; clear HB; have HO126 := n0_; have HO131 := n1_; have HB := n2_; clear n0_ n1_ n2_; (try clear hb); (try clear hb2); (try clear hk); (try clear hi); (try clear ho0)))
                      go_ret3
                      exact ⟨_, by first | rfl | (simp [errW_none, errW_some] <;> rfl) | (simp only [← hji7]; first | rfl | (simp [errW_none, errW_some] <;> rfl)) | (simp [*, errW_none, errW_some] <;> rfl), by (with_reducible repeat (first | apply Kd.R_alloc | apply Kd.R_drewN | apply Kd.R_drew)); exact Kd.R_mono HO131.out (fun _ hk => trivial), by repeat (first | (with_reducible first | exact HB.out | apply below_alloc | apply pw_below_drewN | apply below_drew1) | exact HB.out)⟩
                    · replace c17 := Bool.eq_false_iff.mpr c17
                      subst c17
                      have H1 : (some (([] : List Int), 0, 30)) = some (r1, r2, r3) := by rw [if_neg (show ¬ (false = true) by decide)] at H; exact H
                      clear H
                      have H := H1
                      clear H1
                      simp only [Option.some.injEq, Prod.mk.injEq] at H
                      obtain ⟨rfl, rfl, rfl⟩ := H
                      go_enter Try.func25, Try.ntmps25
                      try go_wp2_with (first | ((with_reducible refine gate_callee (f := 39) rfl ?_); refine goesL_ (some 15) rfl rfl Try.func39 (by kernel_rfl) rfl #[.slice A0 l0.length c0, .int .i64 a1] rfl (by (try simp only [List.map_toArray, List.map_cons, List.map_nil]); first | done | rfl | (simp only [List.length_drop, List.length_take]; rfl)) ?_; (with_reducible refine (num_Get.calls _ _ l0 a1 t119 t120 t121 _ ?side1 ?side2 A3.out).mono ?_); (case side1 => repeat (first | exact HR0.out | (with_reducible refine Kd.C_alloc ?_ _) | (with_reducible refine Kd.C_drewN ?_ _) | (with_reducible refine Kd.C_drew ?_))); (case side2 => exact HC0.out); rintro e w' ⟨rfl, ⟨nd, rfl⟩⟩; refine ⟨_, rfl, ?_⟩; obtain ⟨i025, hi025, _, hsz25, _⟩ := info_parts info5; obtain ⟨A25, hcut25, hA25, hC25⟩ := print_mid_of (P := Try.prog) (Value.int .u8) 0 22 5 .i64 .i64 Try.underlying22 hi025 hsz25 A0 c0 l0 (ji7) (wrap64 ((ji7) + (wrap64 (t119)))) (of_decide_eq_true (by first | (with_reducible assumption) | assumption)) (by first | omega | exact of_decide_eq_true (by first | (with_reducible assumption) | assumption)) (of_decide_eq_true (by first | (with_reducible assumption) | assumption)) HC0.out; have HR122 := Aside0.mk (Kd.C_of_reads (h1 := fun _ => rfl) (hA25 _ (Kd.reads_of_C HR0.out))); have HC122 := Aside0.mk hC25; clear hA25 hC25 hi025 hsz25))
                      try (obtain ⟨w, hX_, HB⟩ : ∃ X_ : World, w.drewN nd = X_ ∧ Aside0 (Below w.heap.size w X_) := ⟨_, rfl, ⟨pw_below_drewN HB.out nd⟩⟩; rw [hX_]; clear hX_)
                      have n0_ := Aside0.mk (below_drew1 HB.out)
                      clear HB
                      have HB := n0_
                      clear n0_
                      obtain ⟨i027, hi027, _, hsz27, _⟩ := info_parts info5
                      obtain ⟨A27, hcut27, hA27, hC27⟩ := print_mid_of (P := Try.prog) (Value.int .u8) 0 22 5 .i64 .i64 Try.underlying22 hi027 hsz27 A0 c0 l0 t120 (ji7) (of_decide_eq_true (by first | (with_reducible assumption) | assumption)) (by first | omega | exact of_decide_eq_true (by first | (with_reducible assumption) | assumption)) (of_decide_eq_true (by first | (with_reducible assumption) | assumption)) HC0.out
                      have HR127 := Aside0.mk (Kd.C_of_reads (h1 := fun _ => rfl) (hA27 _ (Kd.reads_of_C HR0.out)))
                      have HC127 := Aside0.mk hC27
                      clear hA27 hC27 hi027 hsz27
                      refine start_ (n := 10) (S := fun w' => True) (ds := []) #[false, false, false, false, false, false, false, false, false, false] (by kernel_rfl) rfl rfl trivial (fun hHeld => ?_); refine with_tabW frame_Take.tab10 frame_Take.bits10 (fun HT_ HW_ => ?_)
                      generalize w.drew = w26 at HB HR127 hHeld ⊢
                      refine pure_ (i := 0) (N := some 45) (v := ?_) (a' := ?_) #[true, false, false, false, false, false, false, false, false, false] rfl rfl (any_of HT_.out (by kernel_rfl)) (fun _ _ _ h => h) (Or.inl ⟨by rfl, ?_⟩) ?_ ?_
                      rotate_left
                      · intro w'
                        go_simp
                        with_reducible rfl
                      rotate_left
                      · simp only [Act.put, List.setIfInBounds_toArray, List.set_cons_zero, List.set_cons_succ, i64_w, i32_w]
                        rfl
                      refine pure_ (i := 3) (N := some 48) (v := ?_) (a' := ?_) #[true, false, false, true, false, false, false, false, false, false] rfl rfl (any_of HT_.out (by kernel_rfl)) (fun _ _ _ h => h) (Or.inl ⟨by rfl, ?_⟩) ?_ ?_
                      rotate_left
                      · intro w'
                        go_simp
                        with_reducible rfl
                      rotate_left
                      · simp only [Act.put, List.setIfInBounds_toArray, List.set_cons_zero, List.set_cons_succ, i64_w, i32_w]
                        rfl
                      refine pure_ (i := 4) (N := some 49) (v := ?_) (a' := ?_) #[true, false, false, true, true, false, false, false, false, false] rfl rfl (any_of HT_.out (by kernel_rfl)) (fun _ _ _ h => h) (Or.inl ⟨by rfl, ?_⟩) ?_ ?_
                      rotate_left
                      · intro w'
                        go_simp
                        with_reducible rfl
                      rotate_left
                      · simp only [Act.put, List.setIfInBounds_toArray, List.set_cons_zero, List.set_cons_succ, i64_w, i32_w]
                        rfl
                      refine pure_ (i := 5) (N := some 50) (v := ?_) (a' := ?_) #[true, false, false, true, true, true, false, false, false, false] rfl rfl (any_of HT_.out (by kernel_rfl)) (fun _ _ _ h => h) (Or.inl ⟨by rfl, ?_⟩) ?_ ?_
                      rotate_left
                      · intro w'
                        go_simp
                        with_reducible rfl
                      rotate_left
                      · simp only [Act.put, List.setIfInBounds_toArray, List.set_cons_zero, List.set_cons_succ, i64_w, i32_w]
                        rfl
                      refine pure_ (i := 6) (N := some 51) (v := ?_) (a' := ?_) #[true, false, false, true, true, true, true, false, false, false] rfl rfl (any_of HT_.out (by kernel_rfl)) (fun _ _ _ h => h) (Or.inl ⟨by rfl, ?_⟩) ?_ ?_
                      rotate_left
                      · intro w'
                        go_simp
                        with_reducible rfl
                      rotate_left
                      · simp only [Act.put, List.setIfInBounds_toArray, List.set_cons_zero, List.set_cons_succ, i64_w, i32_w]
                        rfl
                      refine pure_ (i := 7) (N := some 52) (v := ?_) (a' := ?_) #[true, false, false, true, true, true, true, true, false, false] rfl rfl (any_of HT_.out (by kernel_rfl)) (fun _ _ _ h => h) (Or.inl ⟨by rfl, ?_⟩) ?_ ?_
                      rotate_left
                      · intro w'
                        go_simp
                        with_reducible rfl
                      rotate_left
                      · simp only [Act.put, List.setIfInBounds_toArray, List.set_cons_zero, List.set_cons_succ, i64_w, i32_w]
                        rfl
                      refine one_ (i := 1) (N := some 46) #[true, true, false, true, true, true, true, true, false, false] rfl rfl (one_of HT_.out (by kernel_rfl)) (by decide) (fun K hK => ?_)
                      refine goes_ Try.func28 (by kernel_rfl) rfl #[.slice A25 ((l0.take ((wrap64 ((ji7) + (wrap64 (t119)))) : Int).toNat).drop ((ji7) : Int).toNat).length (c0 - (ji7).toNat)] (by rfl) rfl rfl (by (try simp only [List.map_toArray, List.map_cons, List.map_nil]); first | done | (rw [show ((l0.take ((wrap64 ((ji7) + (wrap64 (t119)))) : Int).toNat).drop ((ji7) : Int).toNat).length = ((wrap64 ((ji7) + (wrap64 (t119)))).toNat - (ji7).toNat) from (by rw [List.length_drop, List.length_take]; have h_ : ((wrap64 ((ji7) + (wrap64 (t119)))) : Int) ≤ (l0.length : Int) := of_decide_eq_true (by first | (with_reducible assumption) | assumption); omega)] <;> rfl) | (simp only [hji7]; rfl) | rfl | (simp only [List.length_drop, List.length_take]; rfl)) ?_
                      with_reducible refine (frame_Sum.calls _ _ ((l0.take ((wrap64 ((ji7) + (wrap64 (t119)))) : Int).toNat).drop ((ji7) : Int).toNat) t123 _ ?side1 ?side2 A11.out).mono ?_
                      (case side1 => repeat (first | exact (Kd.C_below HR122.out HB.out) | (with_reducible refine Kd.C_alloc ?_ _) | (with_reducible refine Kd.C_drewN ?_ _) | (with_reducible refine Kd.C_drew ?_)))
                      (case side2 => exact HC122.out)
                      rintro e w' ⟨rfl, ⟨nd, rfl⟩⟩
                      refine ⟨_, rfl, ?_⟩
                      refine hK.out _ _ trivial (fun hHeld => ?_)
                      clear hK K
                      refine norm_ (a' := ?_) ?_ ?_
                      rotate_left
                      · show Act.put _ (some 46) _ = _
                        simp only [Act.put, List.setIfInBounds_toArray, List.set_cons_zero, List.set_cons_succ, i64_w, i32_w]
                        rfl
                      refine one_ (i := 2) (N := some 47) #[true, true, true, true, true, true, true, true, false, false] rfl rfl (one_of HT_.out (by kernel_rfl)) (by decide) (fun K hK => ?_)
                      refine goes_ Try.func42 (by kernel_rfl) rfl #[.int .u32 t123] (by rfl) rfl rfl (by (try simp only [List.map_toArray, List.map_cons, List.map_nil]); first | done | rfl | (simp only [List.length_drop, List.length_take]; rfl)) ?_
                      with_reducible refine (frame_four.calls t123 t124 _ A12.out).mono ?_
                      rintro e w28 ⟨v125, rfl, ho0, hb⟩
                      refine ⟨_, rfl, ?_⟩
                      have n0_ := Aside0.mk (Kd.R_lower ho0 (below_size (by repeat (first | (with_reducible first | exact HB.out | apply below_alloc | apply pw_below_drewN | apply below_drew1) | exact HB.out))))
                      have n1_ := Aside0.mk (below_step (by repeat (first | (with_reducible first | exact HB.out | apply below_alloc | apply pw_below_drewN | apply below_drew1) | exact HB.out)) hb)
                      clear HB
                      have HO126 := n0_
                      have HB := n1_
                      clear n0_ n1_
                      (try clear hb)
                      (try clear hb2)
                      (try clear hk)
                      (try clear hi)
                      (try clear ho0)
                      obtain ⟨Ao29, co29, eo29⟩ := Kd.R_slice HO126.out
                      (first | subst eo29 | (injection eo29 with f1_ f2_ f3_; have f4_ := f1_.symm; have f5_ := f3_.symm; clear f1_ f2_ f3_; subst f4_; subst f5_))
                      refine hK.out _ _ trivial (fun hHeld => ?_)
                      clear hK K
                      refine norm_ (a' := ?_) ?_ ?_
                      rotate_left
                      · show Act.put _ (some 47) _ = _
                        simp only [Act.put, List.setIfInBounds_toArray, List.set_cons_zero, List.set_cons_succ, i64_w, i32_w]
                        rfl
                      refine one_ (i := 8) (N := some 53) #[true, true, true, true, true, true, true, true, true, false] rfl rfl (one_of HT_.out (by kernel_rfl)) (by decide) (fun K hK => ?_)
                      refine goes_ Try.func43 (by kernel_rfl) rfl #[.slice Ao29 t124.length co29, .slice A27 ((l0.take ((ji7) : Int).toNat).drop (t120 : Int).toNat).length (c0 - t120.toNat)] (by rfl) rfl rfl (by (try simp only [List.map_toArray, List.map_cons, List.map_nil]); first | done | (rw [show ((l0.take ((ji7) : Int).toNat).drop (t120 : Int).toNat).length = ((ji7).toNat - t120.toNat) from (by rw [List.length_drop, List.length_take]; have h_ : ((ji7) : Int) ≤ (l0.length : Int) := of_decide_eq_true (by first | (with_reducible assumption) | assumption); omega)] <;> rfl) | (simp only [hji7]; rfl) | rfl | (simp only [List.length_drop, List.length_take]; rfl)) ?_
                      with_reducible refine (slices_Equal_byte_byte.calls k _ _ t124 _ _ ((l0.take ((ji7) : Int).toNat).drop (t120 : Int).toNat) false _ ?side1 ?side2 ?side3 ?side4 A16.out).mono ?_
                      (case side1 => repeat (first | exact (Kd.R_reads' HO126.out).2.2 | (with_reducible refine Kd.C_alloc ?_ _) | (with_reducible refine Kd.C_drewN ?_ _) | (with_reducible refine Kd.C_drew ?_)))
                      (case side2 => exact (Kd.R_reads' HO126.out).2.1)
                      (case side3 => repeat (first | exact (Kd.C_below HR127.out HB.out) | (with_reducible refine Kd.C_alloc ?_ _) | (with_reducible refine Kd.C_drewN ?_ _) | (with_reducible refine Kd.C_drew ?_)))
                      (case side4 => exact HC127.out)
                      rintro e w' ⟨rfl, ⟨nd, rfl⟩⟩
                      refine ⟨_, rfl, ?_⟩
                      refine hK.out _ _ trivial (fun hHeld => ?_)
                      clear hK K
                      refine norm_ (a' := ?_) ?_ ?_
                      rotate_left
                      · show Act.put _ (some 53) _ = _
                        simp only [Act.put, List.setIfInBounds_toArray, List.set_cons_zero, List.set_cons_succ, i64_w, i32_w]
                        rfl
                      refine pure_ (i := 9) (N := some 54) (v := ?_) (a' := ?_) #[true, true, true, true, true, true, true, true, true, true] rfl rfl (any_of HT_.out (by kernel_rfl)) (fun _ _ _ h => h) (Or.inl ⟨by rfl, ?_⟩) ?_ ?_
                      rotate_left
                      · intro w'
                        go_simp
                        with_reducible rfl
                      rotate_left
                      · simp only [Act.put, List.setIfInBounds_toArray, List.set_cons_zero, List.set_cons_succ, i64_w, i32_w]
                        rfl
                      refine done_ (done_of HT_.out (by kernel_rfl)) ?_
                      try go_wp2
                      go_ret3
                      exact ⟨_, by first | rfl | (simp [errW_none, errW_some] <;> rfl) | (simp only [← hji7]; first | rfl | (simp [errW_none, errW_some] <;> rfl)) | (simp [*, errW_none, errW_some] <;> rfl), by first | exact Kd.R_nil _ _ _ _ _ | exact Kd.N_nil _ _ _ _ _ | exact Kd.V_nil _ _ _ _ _ | exact Kd.Q_nil _ _ _ _ _ | exact Kd.S_nil _ _ _ _ _, by repeat (first | (with_reducible first | exact HB.out | apply below_alloc | apply pw_below_drewN | apply below_drew1) | exact HB.out)⟩
                  · rw [if_neg c15] at H
                    exact absurd H (by simp)
                · rw [if_neg c14] at H
                  exact absurd H (by simp)
              · rw [if_neg c13] at H
                exact absurd H (by simp)
            · rw [if_neg c10] at H
              exact absurd H (by simp)
          · rw [if_neg c9] at H
            exact absurd H (by simp)
        · rw [if_neg c8] at H
          exact absurd H (by simp)
  · rw [if_neg c4] at H
    have c4b0 : (t121 == 0) = false := beq_eq_false_iff_ne.mpr c4
    have c4b1 : (t121 != 0) = true := bne_iff_ne.mpr c4
    simp only [Option.some.injEq, Prod.mk.injEq] at H
    obtain ⟨rfl, rfl, rfl⟩ := H
    go_enter Try.func25, Try.ntmps25
    go_wp2_with (first | ((with_reducible refine gate_callee (f := 39) rfl ?_); refine goesL_ (some 15) rfl rfl Try.func39 (by kernel_rfl) rfl #[.slice A0 l0.length c0, .int .i64 a1] rfl (by (try simp only [List.map_toArray, List.map_cons, List.map_nil]); first | done | rfl | (simp only [List.length_drop, List.length_take]; rfl)) ?_; (with_reducible refine (num_Get.calls _ _ l0 a1 t119 t120 t121 _ ?side1 ?side2 A3.out).mono ?_); (case side1 => repeat (first | exact HR0.out | (with_reducible refine Kd.C_alloc ?_ _) | (with_reducible refine Kd.C_drewN ?_ _) | (with_reducible refine Kd.C_drew ?_))); (case side2 => exact HC0.out); rintro e w' ⟨rfl, ⟨nd, rfl⟩⟩; refine ⟨_, rfl, ?_⟩))
    go_ret3
    exact ⟨_, by first | rfl | (simp [errW_none, errW_some] <;> rfl) | (simp [*, errW_none, errW_some] <;> rfl), by first | exact Kd.R_nil _ _ _ _ _ | exact Kd.N_nil _ _ _ _ _ | exact Kd.V_nil _ _ _ _ _ | exact Kd.Q_nil _ _ _ _ _ | exact Kd.S_nil _ _ _ _ _, by repeat (first | (with_reducible first | exact HB.out | apply below_alloc | apply pw_below_drewN | apply below_drew1) | exact HB.out)⟩

end Go.Proofs.Ytiheghnojmfmfaa.Px
