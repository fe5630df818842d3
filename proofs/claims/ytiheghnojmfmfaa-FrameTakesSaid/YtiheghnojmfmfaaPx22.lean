-- Laid by a program of this session (wip/xprint.py: the kit's print.py, with functions given by hand). Lean checks it.
import Derived.Test.YtiheghnojmfmfaaPx0
import Derived.Test.YtiheghnojmfmfaaPx15
import Derived.Test.YtiheghnojmfmfaaPx17
import Derived.Test.YtiheghnojmfmfaaPx21
namespace Go.Proofs.Ytiheghnojmfmfaa.Px
open Go.RowKit Go.Proofs.YtiheghnojmfmfaaW.PrintWords Go.Proofs.YtiheghnojmfmfaaW.PrintLast Go.Proofs.YtiheghnojmfmfaaW.PrintMore
attribute [local go_sem] max2_int min2_int max_two min_two max_three min_three max_four min_four   -- for this text's walks alone
set_option linter.unusedVariables false
set_option linter.unusedSimpArgs false

/-! ### telemeterref02_Take: function 47 -/
def telemeterref02_Take.f (k : Nat) (l0 : List Int) (a1 : Int) : Option (List Int × Int × Int) := (telemeterref01_Get.f k l0 a1).bind fun bt187 => (if bt187.2.2 = 0 then (if bt187.1 > 4096 then (some (([] : List Int), 0, 3)) else (if (wrap64 ((wrap64 (bt187.1)) + 4)) > (wrap64 ((l0.length : Int) - bt187.2.1)) then (some (([] : List Int), 0, 10)) else (if 0 ≤ (wrap64 (bt187.2.1 + 4)) then (if (wrap64 (bt187.2.1 + 4)) ≤ (wrap64 ((wrap64 (bt187.2.1 + 4)) + (wrap64 (bt187.1)))) then (if (wrap64 ((wrap64 (bt187.2.1 + 4)) + (wrap64 (bt187.1)))) ≤ (l0.length : Int) then (if ([] : List Int).length + ((l0.take ((wrap64 ((wrap64 (bt187.2.1 + 4)) + (wrap64 (bt187.1)))) : Int).toNat).drop ((wrap64 (bt187.2.1 + 4)) : Int).toNat).length < 140737488355328 then ((some (([] : List Int) ++ ((l0.take ((wrap64 ((wrap64 (bt187.2.1 + 4)) + (wrap64 (bt187.1)))) : Int).toNat).drop ((wrap64 (bt187.2.1 + 4)) : Int).toNat) : List Int)).bind fun y191 => ((telemeterref02_Sum.f k y191).bind fun t194 => ((telemeterref02_four.f t194).bind fun t195 => (if 0 ≤ bt187.2.1 then (if bt187.2.1 ≤ (wrap64 (bt187.2.1 + 4)) then (if (wrap64 (bt187.2.1 + 4)) ≤ (l0.length : Int) then (if (strOfNums t195).toList = (strOfNums ((l0.take ((wrap64 (bt187.2.1 + 4)) : Int).toNat).drop (bt187.2.1 : Int).toNat)).toList then (some (y191, wrap64 ((wrap64 (bt187.2.1 + 4)) + (wrap64 (bt187.1))), 0)) else (some (([] : List Int), 0, 30))) else (none)) else (none)) else (none))))) else (none)) else (none)) else (none)) else (none)))) else (some (([] : List Int), 0, bt187.2.2)))
theorem telemeterref02_Take.mono : ∀ a0 a1 k, LeO (telemeterref02_Take.f k a0 a1) (telemeterref02_Take.f (k + 1) a0 a1) := by
  intro a0 a1 k
  unfold telemeterref02_Take.f
  repeat' first
      | (with_reducible exact telemeterref01_Get.mono _ _ _)
      | (with_reducible exact telemeterref02_Sum.mono _ _)
      | (with_reducible exact LeO.refl _)
      | (with_reducible exact LeO.none _)
      | (with_reducible refine LeO.ite ?_ ?_)
      | (with_reducible refine LeO.bind ?_ (fun _ => ?_))
      | exact telemeterref01_Get.mono _ _ _
      | exact telemeterref02_Sum.mono _ _
      | exact LeO.none _
      | refine LeO.ite ?_ ?_
      | refine LeO.bind ?_ (fun _ => ?_)
def telemeterref02_Take.T10 : Bool × List (List Nat × List Nat) := (true, [([], []), ([0], [0]), ([1, 1], [1]), ([2], [2]), ([], []), ([], []), ([], []), ([6], [6]), ([4, 5, 7], [4, 5, 7]), ([8], [8]), ([3, 9], [3, 9])])
def telemeterref02_Take.B10 : List Nat := [0, 1, 3, 7, 0, 0, 0, 64, 240, 496, 1023]
theorem telemeterref02_Take.tab10 : rtab .any (opsOf Try.f47 10) = telemeterref02_Take.T10 := by kernel_rfl
theorem telemeterref02_Take.bits10 : waitsOk telemeterref02_Take.T10.2 telemeterref02_Take.B10 = true := by kernel_rfl
set_option maxHeartbeats 8000000 in
set_option maxRecDepth 100000 in
theorem telemeterref02_Take.calls (k : Nat) (A0 : Option Addr) (c0 : Nat) (l0 : List Int) (a1 : Int) (r1 : List Int) (r2 : Int) (r3 : Int) (w : World) (hr0 : Kd.C (Kd.int .u8) w A0 l0.length l0) (hc0 : l0.length ≤ c0) (h : telemeterref02_Take.f k l0 a1 = some (r1, r2, r3)) :
    Calls Try.prog 47 #[.slice A0 l0.length c0, .int .i64 a1] w fun e w' => ∃ v0_ : Value, e = .returned (.tuple #[v0_, .int .i64 r2, .int .i64 r3]) ∧ Kd.R (Kd.int .u8) 5 w' w.heap.size (fun _ => True) v0_ r1 ∧ Below w.heap.size w w' := by
  have HR0 := Aside0.mk hr0
  have HC0 := Aside0.mk hc0
  clear hr0 hc0
  have HB := Aside0.mk (Below.refl w.heap.size w)
  have H : ((telemeterref01_Get.f k l0 a1).bind fun bt187 => (if bt187.2.2 = 0 then (if bt187.1 > 4096 then (some (([] : List Int), 0, 3)) else (if (wrap64 ((wrap64 (bt187.1)) + 4)) > (wrap64 ((l0.length : Int) - bt187.2.1)) then (some (([] : List Int), 0, 10)) else (if 0 ≤ (wrap64 (bt187.2.1 + 4)) then (if (wrap64 (bt187.2.1 + 4)) ≤ (wrap64 ((wrap64 (bt187.2.1 + 4)) + (wrap64 (bt187.1)))) then (if (wrap64 ((wrap64 (bt187.2.1 + 4)) + (wrap64 (bt187.1)))) ≤ (l0.length : Int) then (if ([] : List Int).length + ((l0.take ((wrap64 ((wrap64 (bt187.2.1 + 4)) + (wrap64 (bt187.1)))) : Int).toNat).drop ((wrap64 (bt187.2.1 + 4)) : Int).toNat).length < 140737488355328 then ((some (([] : List Int) ++ ((l0.take ((wrap64 ((wrap64 (bt187.2.1 + 4)) + (wrap64 (bt187.1)))) : Int).toNat).drop ((wrap64 (bt187.2.1 + 4)) : Int).toNat) : List Int)).bind fun y191 => ((telemeterref02_Sum.f k y191).bind fun t194 => ((telemeterref02_four.f t194).bind fun t195 => (if 0 ≤ bt187.2.1 then (if bt187.2.1 ≤ (wrap64 (bt187.2.1 + 4)) then (if (wrap64 (bt187.2.1 + 4)) ≤ (l0.length : Int) then (if (strOfNums t195).toList = (strOfNums ((l0.take ((wrap64 (bt187.2.1 + 4)) : Int).toNat).drop (bt187.2.1 : Int).toNat)).toList then (some (y191, wrap64 ((wrap64 (bt187.2.1 + 4)) + (wrap64 (bt187.1))), 0)) else (some (([] : List Int), 0, 30))) else (none)) else (none)) else (none))))) else (none)) else (none)) else (none)) else (none)))) else (some (([] : List Int), 0, bt187.2.2)))) = some (r1, r2, r3) := h
  clear h
  replace H := Option.bind_eq_some_iff.mp H
  obtain ⟨⟨t187, t188, t189⟩, A30, H⟩ := H
  replace H : (if t189 = 0 then (if t187 > 4096 then (some (([] : List Int), 0, 3)) else (if (wrap64 ((wrap64 (t187)) + 4)) > (wrap64 ((l0.length : Int) - t188)) then (some (([] : List Int), 0, 10)) else (if 0 ≤ (wrap64 (t188 + 4)) then (if (wrap64 (t188 + 4)) ≤ (wrap64 ((wrap64 (t188 + 4)) + (wrap64 (t187)))) then (if (wrap64 ((wrap64 (t188 + 4)) + (wrap64 (t187)))) ≤ (l0.length : Int) then (if ([] : List Int).length + ((l0.take ((wrap64 ((wrap64 (t188 + 4)) + (wrap64 (t187)))) : Int).toNat).drop ((wrap64 (t188 + 4)) : Int).toNat).length < 140737488355328 then ((some (([] : List Int) ++ ((l0.take ((wrap64 ((wrap64 (t188 + 4)) + (wrap64 (t187)))) : Int).toNat).drop ((wrap64 (t188 + 4)) : Int).toNat) : List Int)).bind fun y191 => ((telemeterref02_Sum.f k y191).bind fun t194 => ((telemeterref02_four.f t194).bind fun t195 => (if 0 ≤ t188 then (if t188 ≤ (wrap64 (t188 + 4)) then (if (wrap64 (t188 + 4)) ≤ (l0.length : Int) then (if (strOfNums t195).toList = (strOfNums ((l0.take ((wrap64 (t188 + 4)) : Int).toNat).drop (t188 : Int).toNat)).toList then (some (y191, wrap64 ((wrap64 (t188 + 4)) + (wrap64 (t187))), 0)) else (some (([] : List Int), 0, 30))) else (none)) else (none)) else (none))))) else (none)) else (none)) else (none)) else (none)))) else (some (([] : List Int), 0, t189))) = some (r1, r2, r3) := H
  have A3 := Aside0.mk A30
  clear A30
  by_cases c4 : t189 = 0
  · rw [if_pos c4] at H
    have c4b0 : (t189 == 0) = true := beq_iff_eq.mpr c4
    have c4b1 : (t189 != 0) = false := bne_eq_false_iff_eq.mpr c4
    clear c4
    by_cases c5 : t187 > 4096
    · rw [if_pos c5] at H
      have c5b0 : decide (4096 < t187) = true := decide_eq_true c5
      clear c5
      simp only [Option.some.injEq, Prod.mk.injEq] at H
      obtain ⟨rfl, rfl, rfl⟩ := H
      go_enter Try.func47, Try.ntmps47
      go_wp2_with (first | ((with_reducible refine gate_callee (f := 49) rfl ?_); refine goesL_ (some 14) rfl rfl Try.func49 (by kernel_rfl) rfl #[.slice A0 l0.length c0, .int .i64 a1] rfl (by (try simp only [List.map_toArray, List.map_cons, List.map_nil]); first | done | rfl | (simp only [List.length_drop, List.length_take]; rfl)) ?_; (with_reducible refine (telemeterref01_Get.calls k _ _ l0 a1 t187 t188 t189 _ ?side1 ?side2 A3.out).mono ?_); (case side1 => repeat (first | exact HR0.out | (with_reducible refine Kd.C_alloc ?_ _) | (with_reducible refine Kd.C_drewN ?_ _) | (with_reducible refine Kd.C_drew ?_))); (case side2 => exact HC0.out); rintro e w6 ⟨rfl, hb⟩; refine ⟨_, rfl, ?_⟩; have n0_ := Aside0.mk (below_step (by repeat (first | (with_reducible first | exact HB.out | apply below_alloc | apply pw_below_drewN | apply below_drew1) | exact HB.out)) hb); clear HB; have HB := n0_; clear n0_; (try clear hb); (try clear hb2); (try clear hk); (try clear hi)))
      go_ret3
      exact ⟨_, by first | rfl | (simp [errW_none, errW_some] <;> rfl) | (simp [*, errW_none, errW_some] <;> rfl), by first | exact Kd.R_nil _ _ _ _ _ | exact Kd.N_nil _ _ _ _ _ | exact Kd.V_nil _ _ _ _ _ | exact Kd.Q_nil _ _ _ _ _ | exact Kd.S_nil _ _ _ _ _, by repeat (first | (with_reducible first | exact HB.out | apply below_alloc | apply pw_below_drewN | apply below_drew1) | exact HB.out)⟩
    · rw [if_neg c5] at H
      have c5b0 : decide (4096 < t187) = false := decide_eq_false c5
      clear c5
      by_cases c7 : (wrap64 ((wrap64 (t187)) + 4)) > (wrap64 ((l0.length : Int) - t188))
      · rw [if_pos c7] at H
        have c7b0 : decide ((wrap64 ((l0.length : Int) - t188)) < (wrap64 ((wrap64 (t187)) + 4))) = true := decide_eq_true c7
        clear c7
        simp only [Option.some.injEq, Prod.mk.injEq] at H
        obtain ⟨rfl, rfl, rfl⟩ := H
        go_enter Try.func47, Try.ntmps47
        go_wp2_with (first | ((with_reducible refine gate_callee (f := 49) rfl ?_); refine goesL_ (some 14) rfl rfl Try.func49 (by kernel_rfl) rfl #[.slice A0 l0.length c0, .int .i64 a1] rfl (by (try simp only [List.map_toArray, List.map_cons, List.map_nil]); first | done | rfl | (simp only [List.length_drop, List.length_take]; rfl)) ?_; (with_reducible refine (telemeterref01_Get.calls k _ _ l0 a1 t187 t188 t189 _ ?side1 ?side2 A3.out).mono ?_); (case side1 => repeat (first | exact HR0.out | (with_reducible refine Kd.C_alloc ?_ _) | (with_reducible refine Kd.C_drewN ?_ _) | (with_reducible refine Kd.C_drew ?_))); (case side2 => exact HC0.out); rintro e w8 ⟨rfl, hb⟩; refine ⟨_, rfl, ?_⟩; have n0_ := Aside0.mk (below_step (by repeat (first | (with_reducible first | exact HB.out | apply below_alloc | apply pw_below_drewN | apply below_drew1) | exact HB.out)) hb); clear HB; have HB := n0_; clear n0_; (try clear hb); (try clear hb2); (try clear hk); (try clear hi)))
        go_ret3
        exact ⟨_, by first | rfl | (simp [errW_none, errW_some] <;> rfl) | (simp [*, errW_none, errW_some] <;> rfl), by first | exact Kd.R_nil _ _ _ _ _ | exact Kd.N_nil _ _ _ _ _ | exact Kd.V_nil _ _ _ _ _ | exact Kd.Q_nil _ _ _ _ _ | exact Kd.S_nil _ _ _ _ _, by repeat (first | (with_reducible first | exact HB.out | apply below_alloc | apply pw_below_drewN | apply below_drew1) | exact HB.out)⟩
      · rw [if_neg c7] at H
        have c7b0 : decide ((wrap64 ((l0.length : Int) - t188)) < (wrap64 ((wrap64 (t187)) + 4))) = false := decide_eq_false c7
        clear c7
        obtain ⟨ji9, hji9⟩ : ∃ j_ : Int, (wrap64 (t188 + 4)) = j_ := ⟨_, rfl⟩
        replace H : (if 0 ≤ (ji9) then (if (ji9) ≤ (wrap64 ((ji9) + (wrap64 (t187)))) then (if (wrap64 ((ji9) + (wrap64 (t187)))) ≤ (l0.length : Int) then (if ([] : List Int).length + ((l0.take ((wrap64 ((ji9) + (wrap64 (t187)))) : Int).toNat).drop ((ji9) : Int).toNat).length < 140737488355328 then ((some (([] : List Int) ++ ((l0.take ((wrap64 ((ji9) + (wrap64 (t187)))) : Int).toNat).drop ((ji9) : Int).toNat) : List Int)).bind fun y191 => ((telemeterref02_Sum.f k y191).bind fun t194 => ((telemeterref02_four.f t194).bind fun t195 => (if 0 ≤ t188 then (if t188 ≤ (ji9) then (if (ji9) ≤ (l0.length : Int) then (if (strOfNums t195).toList = (strOfNums ((l0.take ((ji9) : Int).toNat).drop (t188 : Int).toNat)).toList then (some (y191, wrap64 ((ji9) + (wrap64 (t187))), 0)) else (some (([] : List Int), 0, 30))) else (none)) else (none)) else (none))))) else (none)) else (none)) else (none)) else (none)) = some (r1, r2, r3) := by first | (rw [hji9] at H; exact H) | (simp only [hji9] at H ⊢; exact H)
        (try rw [hji9] at A3)
        have hji9w : (IntKind.i64.wrap (t188 + 4)) = ji9 := (i64_w _).trans hji9
        by_cases c10 : 0 ≤ (ji9)
        · rw [if_pos c10] at H
          have c10b0 := eq_true c10
          have c10b1 : decide (0 ≤ (ji9)) = true := decide_eq_true c10
          clear c10
          by_cases c11 : (ji9) ≤ (wrap64 ((ji9) + (wrap64 (t187))))
          · rw [if_pos c11] at H
            have c11b0 := eq_true c11
            have c11b1 : decide ((ji9) ≤ (wrap64 ((ji9) + (wrap64 (t187))))) = true := decide_eq_true c11
            by_cases c12 : (wrap64 ((ji9) + (wrap64 (t187)))) ≤ (l0.length : Int)
            · rw [if_pos c12] at H
              have c12b0 := eq_true c12
              have c12b1 : decide ((wrap64 ((ji9) + (wrap64 (t187)))) ≤ (l0.length : Int)) = true := decide_eq_true c12
              by_cases c13 : ([] : List Int).length + ((l0.take ((wrap64 ((ji9) + (wrap64 (t187)))) : Int).toNat).drop ((ji9) : Int).toNat).length < 140737488355328
              · rw [if_pos c13] at H
                have LMc13 := Aside0.mk c13
                clear c13
                obtain ⟨y191, hy191⟩ : ∃ y_ : List Int, y_ = (([] : List Int) ++ ((l0.take ((wrap64 ((ji9) + (wrap64 (t187)))) : Int).toNat).drop ((ji9) : Int).toNat)) := ⟨_, rfl⟩
                replace H : ((telemeterref02_Sum.f k y191).bind fun t194 => ((telemeterref02_four.f t194).bind fun t195 => (if 0 ≤ t188 then (if t188 ≤ (ji9) then (if (ji9) ≤ (l0.length : Int) then (if (strOfNums t195).toList = (strOfNums ((l0.take ((ji9) : Int).toNat).drop (t188 : Int).toNat)).toList then (some (y191, wrap64 ((ji9) + (wrap64 (t187))), 0)) else (some (([] : List Int), 0, 30))) else (none)) else (none)) else (none)))) = some (r1, r2, r3) := by first | (rw [hy191]; with_reducible exact H) | (have H2_ := (Option.bind_some _ _).symm.trans H; rw [hy191]; with_reducible exact H2_) | (have H2_ := (Option.bind_some _ _).symm.trans H; with_reducible exact H2_) | with_reducible exact H | (rw [hy191]; exact H) | exact H
                have Ny191 := Aside0.mk hy191
                clear hy191
                replace H := Option.bind_eq_some_iff.mp H
                obtain ⟨t194, A140, H⟩ := H
                replace H : ((telemeterref02_four.f t194).bind fun t195 => (if 0 ≤ t188 then (if t188 ≤ (ji9) then (if (ji9) ≤ (l0.length : Int) then (if (strOfNums t195).toList = (strOfNums ((l0.take ((ji9) : Int).toNat).drop (t188 : Int).toNat)).toList then (some (y191, wrap64 ((ji9) + (wrap64 (t187))), 0)) else (some (([] : List Int), 0, 30))) else (none)) else (none)) else (none))) = some (r1, r2, r3) := H
                have A14 := Aside0.mk A140
                clear A140
                replace H := Option.bind_eq_some_iff.mp H
                obtain ⟨t195, A150, H⟩ := H
                replace H : (if 0 ≤ t188 then (if t188 ≤ (ji9) then (if (ji9) ≤ (l0.length : Int) then (if (strOfNums t195).toList = (strOfNums ((l0.take ((ji9) : Int).toNat).drop (t188 : Int).toNat)).toList then (some (y191, wrap64 ((ji9) + (wrap64 (t187))), 0)) else (some (([] : List Int), 0, 30))) else (none)) else (none)) else (none)) = some (r1, r2, r3) := H
                have A15 := Aside0.mk A150
                clear A150
                by_cases c16 : 0 ≤ t188
                · rw [if_pos c16] at H
                  have c16b0 := eq_true c16
                  have c16b1 : decide (0 ≤ t188) = true := decide_eq_true c16
                  clear c16
                  by_cases c17 : t188 ≤ (ji9)
                  · rw [if_pos c17] at H
                    have c17b0 := eq_true c17
                    have c17b1 : decide (t188 ≤ (ji9)) = true := decide_eq_true c17
                    clear c17
                    by_cases c18 : (ji9) ≤ (l0.length : Int)
                    · rw [if_pos c18] at H
                      have c18b0 := eq_true c18
                      have c18b1 : decide ((ji9) ≤ (l0.length : Int)) = true := decide_eq_true c18
                      clear c18
                      by_cases c19 : (strOfNums t195).toList = (strOfNums ((l0.take ((ji9) : Int).toNat).drop (t188 : Int).toNat)).toList
                      · rw [if_pos c19] at H
                        have c19b0 : ((strOfNums t195).toList == (strOfNums ((l0.take ((ji9) : Int).toNat).drop (t188 : Int).toNat)).toList) = true := beq_iff_eq.mpr c19
                        have c19b1 : ((strOfNums t195).toList != (strOfNums ((l0.take ((ji9) : Int).toNat).drop (t188 : Int).toNat)).toList) = false := bne_eq_false_iff_eq.mpr c19
                        clear c19
                        simp only [Option.some.injEq, Prod.mk.injEq] at H
                        obtain ⟨rfl, rfl, rfl⟩ := H
                        go_enter Try.func47, Try.ntmps47
                        try go_wp2_with (first | ((with_reducible refine gate_callee (f := 49) rfl ?_); refine goesL_ (some 14) rfl rfl Try.func49 (by kernel_rfl) rfl #[.slice A0 l0.length c0, .int .i64 a1] rfl (by (try simp only [List.map_toArray, List.map_cons, List.map_nil]); first | done | rfl | (simp only [List.length_drop, List.length_take]; rfl)) ?_; (with_reducible refine (telemeterref01_Get.calls k _ _ l0 a1 t187 t188 t189 _ ?side1 ?side2 A3.out).mono ?_); (case side1 => repeat (first | exact HR0.out | (with_reducible refine Kd.C_alloc ?_ _) | (with_reducible refine Kd.C_drewN ?_ _) | (with_reducible refine Kd.C_drew ?_))); (case side2 => exact HC0.out); rintro e w20 ⟨rfl, hb⟩; refine ⟨_, rfl, ?_⟩; have n0_ := Aside0.mk (below_step (by repeat (first | (with_reducible first | exact HB.out | apply below_alloc | apply pw_below_drewN | apply below_drew1) | exact HB.out)) hb); clear HB; have HB := n0_; clear n0_; (try clear hb); (try clear hb2); (try clear hk); (try clear hi); obtain ⟨i021, hi021, _, hsz21, _⟩ := info_parts info5; obtain ⟨A21, hcut21, hA21, hC21⟩ := print_mid_of (P := Try.prog) (Value.int .u8) 0 22 5 .i64 .i64 Try.underlying22 hi021 hsz21 A0 c0 l0 (ji9) (wrap64 ((ji9) + (wrap64 (t187)))) (of_decide_eq_true (by first | (with_reducible assumption) | assumption)) (by first | omega | exact of_decide_eq_true (by first | (with_reducible assumption) | assumption)) (of_decide_eq_true (by first | (with_reducible assumption) | assumption)) HC0.out; have HR190 := Aside0.mk (Kd.C_of_reads (h1 := fun _ => rfl) (hA21 _ (Kd.reads_of_C HR0.out))); have HC190 := Aside0.mk hC21; clear hA21 hC21 hi021 hsz21) | ((with_reducible refine gate_builtin (b := .append) (xs := #[.tmp 31, .tmp 40]) rfl ?_); at_builtin; refine Kd.R_append_rows (Kd.int .u8) (w0 := w) w.heap.size rfl (.tmp 31) (.tmp 40) 22 5 (.int .u8 0) 1 rfl Try.underlying22 info5 rfl (by decide) (by omega) (.slice none 0 0) ([] : List Int) ((l0.take ((wrap64 ((ji9) + (wrap64 (t187)))) : Int).toNat).drop ((ji9) : Int).toNat) _ _ _ (fun _ => True) (fun _ => False) rfl rfl ?aO ?aR (fun _ _ h => h) (fun _ h => h.elim) ?aF ?aB ?aS ?aL ?_; (case aR => first | (rw [← show ((l0.take ((wrap64 ((ji9) + (wrap64 (t187)))) : Int).toNat).drop ((ji9) : Int).toNat).length = ((wrap64 ((ji9) + (wrap64 (t187)))).toNat - (ji9).toNat) from (by rw [List.length_drop, List.length_take]; have h_ : ((wrap64 ((ji9) + (wrap64 (t187)))) : Int) ≤ (l0.length : Int) := of_decide_eq_true (by first | (with_reducible assumption) | assumption); omega)]; repeat (first | exact (Kd.C_below HR190.out HB.out) | (with_reducible refine Kd.C_alloc ?_ _) | (with_reducible refine Kd.C_drewN ?_ _) | (with_reducible refine Kd.C_drew ?_))) | (repeat (first | exact (Kd.C_below HR190.out HB.out) | (with_reducible refine Kd.C_alloc ?_ _) | (with_reducible refine Kd.C_drewN ?_ _) | (with_reducible refine Kd.C_drew ?_)))); (case aB => exact (by repeat (first | (with_reducible first | exact HB.out | apply below_alloc | apply pw_below_drewN | apply below_drew1) | exact HB.out))); (case aF => exact (fun _ _ => trivial)); (case aO => exact ((Kd.R_nil _ _ _ _ (fun _ => True)))); (case aS => exact (below_size (by repeat (first | (with_reducible first | exact HB.out | apply below_alloc | apply pw_below_drewN | apply below_drew1) | exact HB.out)))); (case aL => have := LMc13.out; have hlx_ := (show ((l0.take ((wrap64 ((ji9) + (wrap64 (t187)))) : Int).toNat).drop ((ji9) : Int).toNat).length = ((wrap64 ((ji9) + (wrap64 (t187)))).toNat - (ji9).toNat) from (by rw [List.length_drop, List.length_take]; have h_ : ((wrap64 ((ji9) + (wrap64 (t187)))) : Int) ≤ (l0.length : Int) := of_decide_eq_true (by first | (with_reducible assumption) | assumption); omega)); omega); intro v192 w22 ho hb hg hat; rw [← Ny191.out] at ho; have n0_ := Aside0.mk (hb); have n1_ := Aside0.mk (ho); clear HB; have HB := n0_; have HO193 := n1_; clear n0_ n1_; clear ho hb hg hat; obtain ⟨Ao23, co23, eo23⟩ := Kd.R_slice HO193.out; subst eo23))
                        have n0_ := Aside0.mk (Kd.R_drew HO193.out)
                        have n1_ := Aside0.mk (below_drew1 HB.out)
                        clear HO193
                        clear HB
                        have HO193 := n0_
                        have HB := n1_
                        clear n0_ n1_
                        obtain ⟨i025, hi025, _, hsz25, _⟩ := info_parts info5
                        obtain ⟨A25, hcut25, hA25, hC25⟩ := print_mid_of (P := Try.prog) (Value.int .u8) 0 22 5 .i64 .i64 Try.underlying22 hi025 hsz25 A0 c0 l0 t188 (ji9) (of_decide_eq_true (by first | (with_reducible assumption) | assumption)) (by first | omega | exact of_decide_eq_true (by first | (with_reducible assumption) | assumption)) (of_decide_eq_true (by first | (with_reducible assumption) | assumption)) HC0.out
                        have HR198 := Aside0.mk (Kd.C_of_reads (h1 := fun _ => rfl) (hA25 _ (Kd.reads_of_C HR0.out)))
                        have HC198 := Aside0.mk hC25
                        clear hA25 hC25 hi025 hsz25
                        refine start_ (n := 11) (S := fun w' => True) (ds := []) #[false, false, false, false, false, false, false, false, false, false, false] (by kernel_rfl) rfl rfl trivial (fun hHeld => ?_); refine with_tabW telemeterref02_Take.tab10 telemeterref02_Take.bits10 (fun HT_ HW_ => ?_)
                        generalize w22.drew = w24 at HO193 HB HR198 hHeld ⊢
                        refine pure_ (i := 0) (N := some 42) (v := ?_) (a' := ?_) #[true, false, false, false, false, false, false, false, false, false, false] rfl rfl (any_of HT_.out (by kernel_rfl)) (fun _ _ _ h => h) (Or.inl ⟨by rfl, ?_⟩) ?_ ?_
                        rotate_left
                        · intro w'
                          go_simp
                          with_reducible rfl
                        rotate_left
                        · simp only [Act.put, List.setIfInBounds_toArray, List.set_cons_zero, List.set_cons_succ, i64_w, i32_w]
                          rfl
                        refine pure_ (i := 4) (N := some 46) (v := ?_) (a' := ?_) #[true, false, false, false, true, false, false, false, false, false, false] rfl rfl (any_of HT_.out (by kernel_rfl)) (fun _ _ _ h => h) (Or.inl ⟨by rfl, ?_⟩) ?_ ?_
                        rotate_left
                        · intro w'
                          go_simp
                          with_reducible rfl
                        rotate_left
                        · simp only [Act.put, List.setIfInBounds_toArray, List.set_cons_zero, List.set_cons_succ, i64_w, i32_w]
                          rfl
                        refine pure_ (i := 5) (N := some 47) (v := ?_) (a' := ?_) #[true, false, false, false, true, true, false, false, false, false, false] rfl rfl (any_of HT_.out (by kernel_rfl)) (fun _ _ _ h => h) (Or.inl ⟨by rfl, ?_⟩) ?_ ?_
                        rotate_left
                        · intro w'
                          go_simp
                          with_reducible rfl
                        rotate_left
                        · simp only [Act.put, List.setIfInBounds_toArray, List.set_cons_zero, List.set_cons_succ, i64_w, i32_w]
                          rfl
                        refine pure_ (i := 6) (N := some 48) (v := ?_) (a' := ?_) #[true, false, false, false, true, true, true, false, false, false, false] rfl rfl (any_of HT_.out (by kernel_rfl)) (fun _ _ _ h => h) (Or.inl ⟨by rfl, ?_⟩) ?_ ?_
                        rotate_left
                        · intro w'
                          go_simp
                          with_reducible rfl
                        rotate_left
                        · simp only [Act.put, List.setIfInBounds_toArray, List.set_cons_zero, List.set_cons_succ, i64_w, i32_w]
                          rfl
                        refine pure_ (i := 7) (N := some 49) (v := ?_) (a' := ?_) #[true, false, false, false, true, true, true, true, false, false, false] rfl rfl (any_of HT_.out (by kernel_rfl)) (fun _ _ _ h => h) (Or.inl ⟨by rfl, ?_⟩) ?_ ?_
                        rotate_left
                        · intro w'
                          go_simp
                          with_reducible rfl
                        rotate_left
                        · simp only [Act.put, List.setIfInBounds_toArray, List.set_cons_zero, List.set_cons_succ, i64_w, i32_w]
                          rfl
                        refine pure_ (i := 8) (N := some 50) (v := ?_) (a' := ?_) #[true, false, false, false, true, true, true, true, true, false, false] rfl rfl (any_of HT_.out (by kernel_rfl)) (fun _ _ _ h => h) (Or.inl ⟨by rfl, ?_⟩) ?_ ?_
                        rotate_left
                        · intro w'
                          go_simp
                          with_reducible rfl
                        rotate_left
                        · simp only [Act.put, List.setIfInBounds_toArray, List.set_cons_zero, List.set_cons_succ, i64_w, i32_w]
                          rfl
                        refine join_ (σ := Value) 1 #[true, true, true, true, true, true, true, true, true, true, false] (fun s_ => [(43, .int .u32 t194), (44, s_), (45, .string (strOfNums t195)), (51, .string (strOfNums ((l0.take ((ji9) : Int).toNat).drop (t188 : Int).toNat)))]) (fun s_ w' => (Kd.R (Kd.int .u8) 5 w' w.heap.size (fun k_ => some k_ ≠ (s_ : Value).ownBlock) (.slice Ao23 y191.length co23) y191) ∧ (Kd.R (Kd.int .u8) 5 w' w.heap.size (fun k_ => some k_ ≠ (.slice Ao23 y191.length co23 : Value).ownBlock) s_ t195) ∧ (Below w.heap.size w w')) ?_ ?_
                        rotate_left
                        · intro hCont
                          refine two_ (i := 1) (j := 9) (Ni := some 43) (Nj := some 51) #[true, true, false, false, true, true, true, true, true, false, false] #[true, false, false, false, true, true, true, true, true, true, false] rfl rfl rfl rfl (two_of HT_.out (by kernel_rfl)) (by decide) (by decide) (fun K hK => ?_) (fun K hK => ?_)
                          · skip
                            refine goes_ Try.func29 (by kernel_rfl) rfl #[.slice Ao23 y191.length co23] (by rfl) rfl rfl (by (try simp only [List.map_toArray, List.map_cons, List.map_nil]); first | done | rfl | (simp only [List.length_drop, List.length_take]; rfl)) ?_
                            with_reducible refine (telemeterref02_Sum.calls k _ _ y191 t194 _ ?side1 ?side2 A14.out).mono ?_
                            (case side1 => repeat (first | exact (Kd.R_reads' HO193.out).2.2 | (with_reducible refine Kd.C_alloc ?_ _) | (with_reducible refine Kd.C_drewN ?_ _) | (with_reducible refine Kd.C_drew ?_)))
                            (case side2 => exact (Kd.R_reads' HO193.out).2.1)
                            rintro e w' ⟨rfl, ⟨nd, rfl⟩⟩
                            refine ⟨_, rfl, ?_⟩
                            refine hK.out _ _ trivial (fun hHeld => ?_)
                            clear hK K
                            refine norm_ (a' := ?_) ?_ ?_
                            rotate_left
                            · show Act.put _ (some 43) _ = _
                              simp only [Act.put, List.setIfInBounds_toArray, List.set_cons_zero, List.set_cons_succ, i64_w, i32_w]
                              rfl
                            refine two_ (i := 2) (j := 9) (Ni := some 44) (Nj := some 51) #[true, true, true, false, true, true, true, true, true, false, false] #[true, true, false, false, true, true, true, true, true, true, false] rfl rfl rfl rfl (two_of HT_.out (by kernel_rfl)) (by decide) (by decide) (fun K hK => ?_) (fun K hK => ?_)
                            · skip
                              refine goes_ Try.func44 (by kernel_rfl) rfl #[.int .u32 t194] (by rfl) rfl rfl (by (try simp only [List.map_toArray, List.map_cons, List.map_nil]); first | done | rfl | (simp only [List.length_drop, List.length_take]; rfl)) ?_
                              with_reducible refine (telemeterref02_four.calls t194 t195 _ A15.out).mono ?_
                              rintro e w26 ⟨v196, rfl, ho0, hb⟩
                              refine ⟨_, rfl, ?_⟩
                              have n0_ := Aside0.mk (Kd.R_elder' (by (with_reducible repeat (first | apply Kd.R_alloc | apply Kd.R_drewN | apply Kd.R_drew)); exact HO193.out) (Kd.R_base ho0) hb)
                              have n1_ := Aside0.mk (Kd.R_lower (Kd.R_new' ho0 (Kd.R_lt (by (with_reducible repeat (first | apply Kd.R_alloc | apply Kd.R_drewN | apply Kd.R_drew)); exact HO193.out))) (below_size (by repeat (first | (with_reducible first | exact HB.out | apply below_alloc | apply pw_below_drewN | apply below_drew1) | exact HB.out))))
                              have n2_ := Aside0.mk (below_step (by repeat (first | (with_reducible first | exact HB.out | apply below_alloc | apply pw_below_drewN | apply below_drew1) | exact HB.out)) hb)
                              clear HO193
                              clear HB
                              have HO193 := n0_
                              have HO197 := n1_
                              have HB := n2_
                              clear n0_ n1_ n2_
                              (try clear hb)
                              (try clear hb2)
                              (try clear hk)
                              (try clear hi)
                              (try clear ho0)
                              refine hK.out _ _ trivial (fun hHeld => ?_)
                              clear hK K
                              refine norm_ (a' := ?_) ?_ ?_
                              rotate_left
                              · show Act.put _ (some 44) _ = _
                                simp only [Act.put, List.setIfInBounds_toArray, List.set_cons_zero, List.set_cons_succ, i64_w, i32_w]
                                rfl
                              refine two_ (i := 3) (j := 9) (Ni := some 45) (Nj := some 51) #[true, true, true, true, true, true, true, true, true, false, false] #[true, true, true, false, true, true, true, true, true, true, false] rfl rfl rfl rfl (two_of HT_.out (by kernel_rfl)) (by decide) (by decide) (fun K hK => ?_) (fun K hK => ?_)
                              · skip
                                have hcv27 := own_string (P := Try.prog) Try.underlying22 Try.underlying5 Try.underlying9 (Kd.own_of_R HO197.out)
                                try (have hcv27d := fun m_ => own_string (P := Try.prog) Try.underlying22 Try.underlying5 Try.underlying9 (pw_own_drewN ((Kd.own_of_R HO197.out)) m_))
                                refine value_ (w1 := ?_) (v := ?_) (by rfl) rfl ?_ ?_
                                rotate_left 2
                                · go_simp
                                  constructor
                                  · rfl
                                  · rfl
                                clear hcv27
                                try clear hcv27n
                                try clear hcv27d
                                try clear hcv27e
                                refine hK.out _ _ trivial (fun hHeld => ?_)
                                clear hK K
                                refine norm_ (a' := ?_) ?_ ?_
                                rotate_left
                                · show Act.put _ (some 45) _ = _
                                  simp only [Act.put, List.setIfInBounds_toArray, List.set_cons_zero, List.set_cons_succ, i64_w, i32_w]
                                  rfl
                                refine one_ (i := 9) (N := some 51) #[true, true, true, true, true, true, true, true, true, true, false] rfl rfl (one_of HT_.out (by kernel_rfl)) (by decide) (fun K hK => ?_)
                                have hcv28 := Kd.C_string (P := Try.prog) (A := A25) (c := (c0 - t188.toNat)) Try.underlying22 Try.underlying5 Try.underlying9 (by first | exact Kd.C_below HR198.out HB.out | exact (Kd.C_below HR198.out HB.out))
                                try (have hcv28n := hcv28; simp only [List.length_take, List.length_drop] at hcv28n; (try rw [Nat.min_eq_left (by simp only [decide_eq_true_eq, decide_eq_false_iff_not, eq_iff_iff, iff_true] at *; omega)] at hcv28n))
                                try (have hcv28d := fun m_ => Kd.C_string (P := Try.prog) (A := A25) (c := (c0 - t188.toNat)) Try.underlying22 Try.underlying5 Try.underlying9 (Kd.C_drewN ((by first | exact Kd.C_below HR198.out HB.out | exact (Kd.C_below HR198.out HB.out))) m_))
                                try (have hcv28e := fun m_ => Kd.C_string (P := Try.prog) (A := A25) (c := (c0 - t188.toNat)) Try.underlying22 Try.underlying5 Try.underlying9 (Kd.C_drewN ((by first | exact Kd.C_below HR198.out HB.out | exact (Kd.C_below HR198.out HB.out))) m_); simp only [List.length_take, List.length_drop] at hcv28e; (try rw [Nat.min_eq_left (by simp only [decide_eq_true_eq, decide_eq_false_iff_not, eq_iff_iff, iff_true] at *; omega)] at hcv28e))
                                refine value_ (w1 := ?_) (v := ?_) (by rfl) rfl ?_ ?_
                                rotate_left 2
                                · go_simp
                                  constructor
                                  · rfl
                                  · rfl
                                clear hcv28
                                try clear hcv28n
                                try clear hcv28d
                                try clear hcv28e
                                refine hK.out _ _ trivial (fun hHeld => ?_)
                                clear hK K
                                refine norm_ (a' := ?_) ?_ ?_
                                rotate_left
                                · show Act.put _ (some 51) _ = _
                                  simp only [Act.put, List.setIfInBounds_toArray, List.set_cons_zero, List.set_cons_succ, i64_w, i32_w]
                                  rfl
                                exact norm_ (by simp only [putAll, Act.put, List.setIfInBounds_toArray, List.set_cons_zero, List.set_cons_succ]) (hCont (v196) _ ⟨(by (with_reducible repeat (first | apply Kd.R_alloc | apply Kd.R_drewN | apply Kd.R_drew)); exact Kd.R_mono HO193.out (fun _ hk => hk.2)), (by (with_reducible repeat (first | apply Kd.R_alloc | apply Kd.R_drewN | apply Kd.R_drew)); exact Kd.R_mono HO197.out (fun _ hk => hk.2)), (by repeat (first | (with_reducible first | exact HB.out | apply below_alloc | apply pw_below_drewN | apply below_drew1) | exact HB.out))⟩)
                              · skip
                                have hcv27 := Kd.C_string (P := Try.prog) (A := A25) (c := (c0 - t188.toNat)) Try.underlying22 Try.underlying5 Try.underlying9 (by first | exact Kd.C_below HR198.out HB.out | exact (Kd.C_below HR198.out HB.out))
                                try (have hcv27n := hcv27; simp only [List.length_take, List.length_drop] at hcv27n; (try rw [Nat.min_eq_left (by simp only [decide_eq_true_eq, decide_eq_false_iff_not, eq_iff_iff, iff_true] at *; omega)] at hcv27n))
                                try (have hcv27d := fun m_ => Kd.C_string (P := Try.prog) (A := A25) (c := (c0 - t188.toNat)) Try.underlying22 Try.underlying5 Try.underlying9 (Kd.C_drewN ((by first | exact Kd.C_below HR198.out HB.out | exact (Kd.C_below HR198.out HB.out))) m_))
                                try (have hcv27e := fun m_ => Kd.C_string (P := Try.prog) (A := A25) (c := (c0 - t188.toNat)) Try.underlying22 Try.underlying5 Try.underlying9 (Kd.C_drewN ((by first | exact Kd.C_below HR198.out HB.out | exact (Kd.C_below HR198.out HB.out))) m_); simp only [List.length_take, List.length_drop] at hcv27e; (try rw [Nat.min_eq_left (by simp only [decide_eq_true_eq, decide_eq_false_iff_not, eq_iff_iff, iff_true] at *; omega)] at hcv27e))
                                refine value_ (w1 := ?_) (v := ?_) (by rfl) rfl ?_ ?_
                                rotate_left 2
                                · go_simp
                                  constructor
                                  · rfl
                                  · rfl
                                clear hcv27
                                try clear hcv27n
                                try clear hcv27d
                                try clear hcv27e
                                refine hK.out _ _ trivial (fun hHeld => ?_)
                                clear hK K
                                refine norm_ (a' := ?_) ?_ ?_
                                rotate_left
                                · show Act.put _ (some 51) _ = _
                                  simp only [Act.put, List.setIfInBounds_toArray, List.set_cons_zero, List.set_cons_succ, i64_w, i32_w]
                                  rfl
                                refine one_ (i := 3) (N := some 45) #[true, true, true, true, true, true, true, true, true, true, false] rfl rfl (one_of HT_.out (by kernel_rfl)) (by decide) (fun K hK => ?_)
                                have hcv28 := own_string (P := Try.prog) Try.underlying22 Try.underlying5 Try.underlying9 (Kd.own_of_R HO197.out)
                                try (have hcv28d := fun m_ => own_string (P := Try.prog) Try.underlying22 Try.underlying5 Try.underlying9 (pw_own_drewN ((Kd.own_of_R HO197.out)) m_))
                                refine value_ (w1 := ?_) (v := ?_) (by rfl) rfl ?_ ?_
                                rotate_left 2
                                · go_simp
                                  constructor
                                  · rfl
                                  · rfl
                                clear hcv28
                                try clear hcv28n
                                try clear hcv28d
                                try clear hcv28e
                                refine hK.out _ _ trivial (fun hHeld => ?_)
                                clear hK K
                                refine norm_ (a' := ?_) ?_ ?_
                                rotate_left
                                · show Act.put _ (some 45) _ = _
                                  simp only [Act.put, List.setIfInBounds_toArray, List.set_cons_zero, List.set_cons_succ, i64_w, i32_w]
                                  rfl
                                exact norm_ (by simp only [putAll, Act.put, List.setIfInBounds_toArray, List.set_cons_zero, List.set_cons_succ]) (hCont (v196) _ ⟨(by (with_reducible repeat (first | apply Kd.R_alloc | apply Kd.R_drewN | apply Kd.R_drew)); exact Kd.R_mono HO193.out (fun _ hk => hk.2)), (by (with_reducible repeat (first | apply Kd.R_alloc | apply Kd.R_drewN | apply Kd.R_drew)); exact Kd.R_mono HO197.out (fun _ hk => hk.2)), (by repeat (first | (with_reducible first | exact HB.out | apply below_alloc | apply pw_below_drewN | apply below_drew1) | exact HB.out))⟩)
                            · skip
                              have hcv26 := Kd.C_string (P := Try.prog) (A := A25) (c := (c0 - t188.toNat)) Try.underlying22 Try.underlying5 Try.underlying9 (by first | exact Kd.C_below HR198.out HB.out | exact (Kd.C_below HR198.out HB.out))
                              try (have hcv26n := hcv26; simp only [List.length_take, List.length_drop] at hcv26n; (try rw [Nat.min_eq_left (by simp only [decide_eq_true_eq, decide_eq_false_iff_not, eq_iff_iff, iff_true] at *; omega)] at hcv26n))
                              try (have hcv26d := fun m_ => Kd.C_string (P := Try.prog) (A := A25) (c := (c0 - t188.toNat)) Try.underlying22 Try.underlying5 Try.underlying9 (Kd.C_drewN ((by first | exact Kd.C_below HR198.out HB.out | exact (Kd.C_below HR198.out HB.out))) m_))
                              try (have hcv26e := fun m_ => Kd.C_string (P := Try.prog) (A := A25) (c := (c0 - t188.toNat)) Try.underlying22 Try.underlying5 Try.underlying9 (Kd.C_drewN ((by first | exact Kd.C_below HR198.out HB.out | exact (Kd.C_below HR198.out HB.out))) m_); simp only [List.length_take, List.length_drop] at hcv26e; (try rw [Nat.min_eq_left (by simp only [decide_eq_true_eq, decide_eq_false_iff_not, eq_iff_iff, iff_true] at *; omega)] at hcv26e))
                              refine value_ (w1 := ?_) (v := ?_) (by rfl) rfl ?_ ?_
                              rotate_left 2
                              · go_simp
                                constructor
                                · rfl
                                · rfl
                              clear hcv26
                              try clear hcv26n
                              try clear hcv26d
                              try clear hcv26e
                              refine hK.out _ _ trivial (fun hHeld => ?_)
                              clear hK K
                              refine norm_ (a' := ?_) ?_ ?_
                              rotate_left
                              · show Act.put _ (some 51) _ = _
                                simp only [Act.put, List.setIfInBounds_toArray, List.set_cons_zero, List.set_cons_succ, i64_w, i32_w]
                                rfl
                              refine one_ (i := 2) (N := some 44) #[true, true, true, false, true, true, true, true, true, true, false] rfl rfl (one_of HT_.out (by kernel_rfl)) (by decide) (fun K hK => ?_)
                              refine goes_ Try.func44 (by kernel_rfl) rfl #[.int .u32 t194] (by rfl) rfl rfl (by (try simp only [List.map_toArray, List.map_cons, List.map_nil]); first | done | rfl | (simp only [List.length_drop, List.length_take]; rfl)) ?_
                              with_reducible refine (telemeterref02_four.calls t194 t195 _ A15.out).mono ?_
                              rintro e w27 ⟨v196, rfl, ho0, hb⟩
                              refine ⟨_, rfl, ?_⟩
                              have n0_ := Aside0.mk (Kd.R_elder' (by (with_reducible repeat (first | apply Kd.R_alloc | apply Kd.R_drewN | apply Kd.R_drew)); exact HO193.out) (Kd.R_base ho0) hb)
                              have n1_ := Aside0.mk (Kd.R_lower (Kd.R_new' ho0 (Kd.R_lt (by (with_reducible repeat (first | apply Kd.R_alloc | apply Kd.R_drewN | apply Kd.R_drew)); exact HO193.out))) (below_size (by repeat (first | (with_reducible first | exact HB.out | apply below_alloc | apply pw_below_drewN | apply below_drew1) | exact HB.out))))
                              have n2_ := Aside0.mk (below_step (by repeat (first | (with_reducible first | exact HB.out | apply below_alloc | apply pw_below_drewN | apply below_drew1) | exact HB.out)) hb)
                              clear HO193
                              clear HB
                              have HO193 := n0_
                              have HO197 := n1_
                              have HB := n2_
                              clear n0_ n1_ n2_
                              (try clear hb)
                              (try clear hb2)
                              (try clear hk)
                              (try clear hi)
                              (try clear ho0)
                              refine hK.out _ _ trivial (fun hHeld => ?_)
                              clear hK K
                              refine norm_ (a' := ?_) ?_ ?_
                              rotate_left
                              · show Act.put _ (some 44) _ = _
                                simp only [Act.put, List.setIfInBounds_toArray, List.set_cons_zero, List.set_cons_succ, i64_w, i32_w]
                                rfl
                              refine one_ (i := 3) (N := some 45) #[true, true, true, true, true, true, true, true, true, true, false] rfl rfl (one_of HT_.out (by kernel_rfl)) (by decide) (fun K hK => ?_)
                              have hcv28 := own_string (P := Try.prog) Try.underlying22 Try.underlying5 Try.underlying9 (Kd.own_of_R HO197.out)
                              try (have hcv28d := fun m_ => own_string (P := Try.prog) Try.underlying22 Try.underlying5 Try.underlying9 (pw_own_drewN ((Kd.own_of_R HO197.out)) m_))
                              refine value_ (w1 := ?_) (v := ?_) (by rfl) rfl ?_ ?_
                              rotate_left 2
                              · go_simp
                                constructor
                                · rfl
                                · rfl
                              clear hcv28
                              try clear hcv28n
                              try clear hcv28d
                              try clear hcv28e
                              refine hK.out _ _ trivial (fun hHeld => ?_)
                              clear hK K
                              refine norm_ (a' := ?_) ?_ ?_
                              rotate_left
                              · show Act.put _ (some 45) _ = _
                                simp only [Act.put, List.setIfInBounds_toArray, List.set_cons_zero, List.set_cons_succ, i64_w, i32_w]
                                rfl
                              exact norm_ (by simp only [putAll, Act.put, List.setIfInBounds_toArray, List.set_cons_zero, List.set_cons_succ]) (hCont (v196) _ ⟨(by (with_reducible repeat (first | apply Kd.R_alloc | apply Kd.R_drewN | apply Kd.R_drew)); exact Kd.R_mono HO193.out (fun _ hk => hk.2)), (by (with_reducible repeat (first | apply Kd.R_alloc | apply Kd.R_drewN | apply Kd.R_drew)); exact Kd.R_mono HO197.out (fun _ hk => hk.2)), (by repeat (first | (with_reducible first | exact HB.out | apply below_alloc | apply pw_below_drewN | apply below_drew1) | exact HB.out))⟩)
                          · skip
                            have hcv26 := Kd.C_string (P := Try.prog) (A := A25) (c := (c0 - t188.toNat)) Try.underlying22 Try.underlying5 Try.underlying9 (by first | exact Kd.C_below HR198.out HB.out | exact (Kd.C_below HR198.out HB.out))
                            try (have hcv26n := hcv26; simp only [List.length_take, List.length_drop] at hcv26n; (try rw [Nat.min_eq_left (by simp only [decide_eq_true_eq, decide_eq_false_iff_not, eq_iff_iff, iff_true] at *; omega)] at hcv26n))
                            try (have hcv26d := fun m_ => Kd.C_string (P := Try.prog) (A := A25) (c := (c0 - t188.toNat)) Try.underlying22 Try.underlying5 Try.underlying9 (Kd.C_drewN ((by first | exact Kd.C_below HR198.out HB.out | exact (Kd.C_below HR198.out HB.out))) m_))
                            try (have hcv26e := fun m_ => Kd.C_string (P := Try.prog) (A := A25) (c := (c0 - t188.toNat)) Try.underlying22 Try.underlying5 Try.underlying9 (Kd.C_drewN ((by first | exact Kd.C_below HR198.out HB.out | exact (Kd.C_below HR198.out HB.out))) m_); simp only [List.length_take, List.length_drop] at hcv26e; (try rw [Nat.min_eq_left (by simp only [decide_eq_true_eq, decide_eq_false_iff_not, eq_iff_iff, iff_true] at *; omega)] at hcv26e))
                            refine value_ (w1 := ?_) (v := ?_) (by rfl) rfl ?_ ?_
                            rotate_left 2
                            · go_simp
                              constructor
                              · rfl
                              · rfl
                            clear hcv26
                            try clear hcv26n
                            try clear hcv26d
                            try clear hcv26e
                            refine hK.out _ _ trivial (fun hHeld => ?_)
                            clear hK K
                            refine norm_ (a' := ?_) ?_ ?_
                            rotate_left
                            · show Act.put _ (some 51) _ = _
                              simp only [Act.put, List.setIfInBounds_toArray, List.set_cons_zero, List.set_cons_succ, i64_w, i32_w]
                              rfl
                            refine one_ (i := 1) (N := some 43) #[true, true, false, false, true, true, true, true, true, true, false] rfl rfl (one_of HT_.out (by kernel_rfl)) (by decide) (fun K hK => ?_)
                            refine goes_ Try.func29 (by kernel_rfl) rfl #[.slice Ao23 y191.length co23] (by rfl) rfl rfl (by (try simp only [List.map_toArray, List.map_cons, List.map_nil]); first | done | rfl | (simp only [List.length_drop, List.length_take]; rfl)) ?_
                            with_reducible refine (telemeterref02_Sum.calls k _ _ y191 t194 _ ?side1 ?side2 A14.out).mono ?_
                            (case side1 => repeat (first | exact (Kd.R_reads' HO193.out).2.2 | (with_reducible refine Kd.C_alloc ?_ _) | (with_reducible refine Kd.C_drewN ?_ _) | (with_reducible refine Kd.C_drew ?_)))
                            (case side2 => exact (Kd.R_reads' HO193.out).2.1)
                            rintro e w' ⟨rfl, ⟨nd, rfl⟩⟩
                            refine ⟨_, rfl, ?_⟩
                            refine hK.out _ _ trivial (fun hHeld => ?_)
                            clear hK K
                            refine norm_ (a' := ?_) ?_ ?_
                            rotate_left
                            · show Act.put _ (some 43) _ = _
                              simp only [Act.put, List.setIfInBounds_toArray, List.set_cons_zero, List.set_cons_succ, i64_w, i32_w]
                              rfl
                            refine one_ (i := 2) (N := some 44) #[true, true, true, false, true, true, true, true, true, true, false] rfl rfl (one_of HT_.out (by kernel_rfl)) (by decide) (fun K hK => ?_)
                            refine goes_ Try.func44 (by kernel_rfl) rfl #[.int .u32 t194] (by rfl) rfl rfl (by (try simp only [List.map_toArray, List.map_cons, List.map_nil]); first | done | rfl | (simp only [List.length_drop, List.length_take]; rfl)) ?_
                            with_reducible refine (telemeterref02_four.calls t194 t195 _ A15.out).mono ?_
                            rintro e w27 ⟨v196, rfl, ho0, hb⟩
                            refine ⟨_, rfl, ?_⟩
                            have n0_ := Aside0.mk (Kd.R_elder' (by (with_reducible repeat (first | apply Kd.R_alloc | apply Kd.R_drewN | apply Kd.R_drew)); exact HO193.out) (Kd.R_base ho0) hb)
                            have n1_ := Aside0.mk (Kd.R_lower (Kd.R_new' ho0 (Kd.R_lt (by (with_reducible repeat (first | apply Kd.R_alloc | apply Kd.R_drewN | apply Kd.R_drew)); exact HO193.out))) (below_size (by repeat (first | (with_reducible first | exact HB.out | apply below_alloc | apply pw_below_drewN | apply below_drew1) | exact HB.out))))
                            have n2_ := Aside0.mk (below_step (by repeat (first | (with_reducible first | exact HB.out | apply below_alloc | apply pw_below_drewN | apply below_drew1) | exact HB.out)) hb)
                            clear HO193
                            clear HB
                            have HO193 := n0_
                            have HO197 := n1_
                            have HB := n2_
                            clear n0_ n1_ n2_
                            (try clear hb)
                            (try clear hb2)
                            (try clear hk)
                            (try clear hi)
                            (try clear ho0)
                            refine hK.out _ _ trivial (fun hHeld => ?_)
                            clear hK K
                            refine norm_ (a' := ?_) ?_ ?_
                            rotate_left
                            · show Act.put _ (some 44) _ = _
                              simp only [Act.put, List.setIfInBounds_toArray, List.set_cons_zero, List.set_cons_succ, i64_w, i32_w]
                              rfl
                            refine one_ (i := 3) (N := some 45) #[true, true, true, true, true, true, true, true, true, true, false] rfl rfl (one_of HT_.out (by kernel_rfl)) (by decide) (fun K hK => ?_)
                            have hcv28 := own_string (P := Try.prog) Try.underlying22 Try.underlying5 Try.underlying9 (Kd.own_of_R HO197.out)
                            try (have hcv28d := fun m_ => own_string (P := Try.prog) Try.underlying22 Try.underlying5 Try.underlying9 (pw_own_drewN ((Kd.own_of_R HO197.out)) m_))
                            refine value_ (w1 := ?_) (v := ?_) (by rfl) rfl ?_ ?_
                            rotate_left 2
                            · go_simp
                              constructor
                              · rfl
                              · rfl
                            clear hcv28
                            try clear hcv28n
                            try clear hcv28d
                            try clear hcv28e
                            refine hK.out _ _ trivial (fun hHeld => ?_)
                            clear hK K
                            refine norm_ (a' := ?_) ?_ ?_
                            rotate_left
                            · show Act.put _ (some 45) _ = _
                              simp only [Act.put, List.setIfInBounds_toArray, List.set_cons_zero, List.set_cons_succ, i64_w, i32_w]
                              rfl
                            exact norm_ (by simp only [putAll, Act.put, List.setIfInBounds_toArray, List.set_cons_zero, List.set_cons_succ]) (hCont (v196) _ ⟨(by (with_reducible repeat (first | apply Kd.R_alloc | apply Kd.R_drewN | apply Kd.R_drew)); exact Kd.R_mono HO193.out (fun _ hk => hk.2)), (by (with_reducible repeat (first | apply Kd.R_alloc | apply Kd.R_drewN | apply Kd.R_drew)); exact Kd.R_mono HO197.out (fun _ hk => hk.2)), (by repeat (first | (with_reducible first | exact HB.out | apply below_alloc | apply pw_below_drewN | apply below_drew1) | exact HB.out))⟩)
                        rintro v196 w29 ⟨h0_, h1_, h2_⟩
                        have n0_ : Aside0 (Kd.R (Kd.int .u8) 5 w29 w.heap.size (fun k_ => some k_ ≠ (v196 : Value).ownBlock) (.slice Ao23 y191.length co23) y191) := ⟨h0_⟩
                        have n1_ : Aside0 (Kd.R (Kd.int .u8) 5 w29 w.heap.size (fun k_ => some k_ ≠ (.slice Ao23 y191.length co23 : Value).ownBlock) v196 t195) := ⟨h1_⟩
                        have n2_ : Aside0 (Below w.heap.size w w29) := ⟨h2_⟩
                        clear HO193
                        clear HB
                        clear h0_ h1_ h2_
                        have HO193 := n0_
                        have HO197 := n1_
                        have HB := n2_
                        clear n0_ n1_ n2_
                        have hHeld := trivial
                        refine norm_ (a' := ?_) ?_ ?_
                        rotate_left
                        · simp only [putAll, Act.put, List.setIfInBounds_toArray, List.set_cons_zero, List.set_cons_succ]
                          rfl
                        refine pure_ (i := 10) (N := some 52) (v := ?_) (a' := ?_) #[true, true, true, true, true, true, true, true, true, true, true] rfl rfl (any_of HT_.out (by kernel_rfl)) (fun _ _ _ h => h) (Or.inl ⟨by rfl, ?_⟩) ?_ ?_
                        rotate_left
                        · intro w'
                          go_simp
                          with_reducible rfl
                        rotate_left
                        · simp only [Act.put, List.setIfInBounds_toArray, List.set_cons_zero, List.set_cons_succ, i64_w, i32_w]
                          rfl
                        refine done_ (done_of HT_.out (by kernel_rfl)) ?_
                        try go_wp2
                        go_ret3
                        exact ⟨_, by first | rfl | (simp [errW_none, errW_some] <;> rfl) | (simp only [← hji9]; first | rfl | (simp [errW_none, errW_some] <;> rfl)) | (simp [*, errW_none, errW_some] <;> rfl), by (with_reducible repeat (first | apply Kd.R_alloc | apply Kd.R_drewN | apply Kd.R_drew)); exact Kd.R_mono HO193.out (fun _ hk => trivial), by repeat (first | (with_reducible first | exact HB.out | apply below_alloc | apply pw_below_drewN | apply below_drew1) | exact HB.out)⟩
                      · rw [if_neg c19] at H
                        have c19b0 : ((strOfNums t195).toList == (strOfNums ((l0.take ((ji9) : Int).toNat).drop (t188 : Int).toNat)).toList) = false := beq_eq_false_iff_ne.mpr c19
                        have c19b1 : ((strOfNums t195).toList != (strOfNums ((l0.take ((ji9) : Int).toNat).drop (t188 : Int).toNat)).toList) = true := bne_iff_ne.mpr c19
                        simp only [Option.some.injEq, Prod.mk.injEq] at H
                        obtain ⟨rfl, rfl, rfl⟩ := H
                        go_enter Try.func47, Try.ntmps47
                        try go_wp2_with (first | ((with_reducible refine gate_callee (f := 49) rfl ?_); refine goesL_ (some 14) rfl rfl Try.func49 (by kernel_rfl) rfl #[.slice A0 l0.length c0, .int .i64 a1] rfl (by (try simp only [List.map_toArray, List.map_cons, List.map_nil]); first | done | rfl | (simp only [List.length_drop, List.length_take]; rfl)) ?_; (with_reducible refine (telemeterref01_Get.calls k _ _ l0 a1 t187 t188 t189 _ ?side1 ?side2 A3.out).mono ?_); (case side1 => repeat (first | exact HR0.out | (with_reducible refine Kd.C_alloc ?_ _) | (with_reducible refine Kd.C_drewN ?_ _) | (with_reducible refine Kd.C_drew ?_))); (case side2 => exact HC0.out); rintro e w30 ⟨rfl, hb⟩; refine ⟨_, rfl, ?_⟩; have n0_ := Aside0.mk (below_step (by repeat (first | (with_reducible first | exact HB.out | apply below_alloc | apply pw_below_drewN | apply below_drew1) | exact HB.out)) hb); clear HB; have HB := n0_; clear n0_; (try clear hb); (try clear hb2); (try clear hk); (try clear hi); obtain ⟨i031, hi031, _, hsz31, _⟩ := info_parts info5; obtain ⟨A31, hcut31, hA31, hC31⟩ := print_mid_of (P := Try.prog) (Value.int .u8) 0 22 5 .i64 .i64 Try.underlying22 hi031 hsz31 A0 c0 l0 (ji9) (wrap64 ((ji9) + (wrap64 (t187)))) (of_decide_eq_true (by first | (with_reducible assumption) | assumption)) (by first | omega | exact of_decide_eq_true (by first | (with_reducible assumption) | assumption)) (of_decide_eq_true (by first | (with_reducible assumption) | assumption)) HC0.out; have HR190 := Aside0.mk (Kd.C_of_reads (h1 := fun _ => rfl) (hA31 _ (Kd.reads_of_C HR0.out))); have HC190 := Aside0.mk hC31; clear hA31 hC31 hi031 hsz31) | ((with_reducible refine gate_builtin (b := .append) (xs := #[.tmp 31, .tmp 40]) rfl ?_); at_builtin; refine Kd.R_append_rows (Kd.int .u8) (w0 := w) w.heap.size rfl (.tmp 31) (.tmp 40) 22 5 (.int .u8 0) 1 rfl Try.underlying22 info5 rfl (by decide) (by omega) (.slice none 0 0) ([] : List Int) ((l0.take ((wrap64 ((ji9) + (wrap64 (t187)))) : Int).toNat).drop ((ji9) : Int).toNat) _ _ _ (fun _ => True) (fun _ => False) rfl rfl ?aO ?aR (fun _ _ h => h) (fun _ h => h.elim) ?aF ?aB ?aS ?aL ?_; (case aR => first | (rw [← show ((l0.take ((wrap64 ((ji9) + (wrap64 (t187)))) : Int).toNat).drop ((ji9) : Int).toNat).length = ((wrap64 ((ji9) + (wrap64 (t187)))).toNat - (ji9).toNat) from (by rw [List.length_drop, List.length_take]; have h_ : ((wrap64 ((ji9) + (wrap64 (t187)))) : Int) ≤ (l0.length : Int) := of_decide_eq_true (by first | (with_reducible assumption) | assumption); omega)]; repeat (first | exact (Kd.C_below HR190.out HB.out) | (with_reducible refine Kd.C_alloc ?_ _) | (with_reducible refine Kd.C_drewN ?_ _) | (with_reducible refine Kd.C_drew ?_))) | (repeat (first | exact (Kd.C_below HR190.out HB.out) | (with_reducible refine Kd.C_alloc ?_ _) | (with_reducible refine Kd.C_drewN ?_ _) | (with_reducible refine Kd.C_drew ?_)))); (case aB => exact (by repeat (first | (with_reducible first | exact HB.out | apply below_alloc | apply pw_below_drewN | apply below_drew1) | exact HB.out))); (case aF => exact (fun _ _ => trivial)); (case aO => exact ((Kd.R_nil _ _ _ _ (fun _ => True)))); (case aS => exact (below_size (by repeat (first | (with_reducible first | exact HB.out | apply below_alloc | apply pw_below_drewN | apply below_drew1) | exact HB.out)))); (case aL => have := LMc13.out; have hlx_ := (show ((l0.take ((wrap64 ((ji9) + (wrap64 (t187)))) : Int).toNat).drop ((ji9) : Int).toNat).length = ((wrap64 ((ji9) + (wrap64 (t187)))).toNat - (ji9).toNat) from (by rw [List.length_drop, List.length_take]; have h_ : ((wrap64 ((ji9) + (wrap64 (t187)))) : Int) ≤ (l0.length : Int) := of_decide_eq_true (by first | (with_reducible assumption) | assumption); omega)); omega); intro v192 w32 ho hb hg hat; rw [← Ny191.out] at ho; have n0_ := Aside0.mk (hb); have n1_ := Aside0.mk (ho); clear HB; have HB := n0_; have HO193 := n1_; clear n0_ n1_; clear ho hb hg hat; obtain ⟨Ao33, co33, eo33⟩ := Kd.R_slice HO193.out; subst eo33))
                        have n0_ := Aside0.mk (Kd.R_drew HO193.out)
                        have n1_ := Aside0.mk (below_drew1 HB.out)
                        clear HO193
                        clear HB
                        have HO193 := n0_
                        have HB := n1_
                        clear n0_ n1_
                        obtain ⟨i035, hi035, _, hsz35, _⟩ := info_parts info5
                        obtain ⟨A35, hcut35, hA35, hC35⟩ := print_mid_of (P := Try.prog) (Value.int .u8) 0 22 5 .i64 .i64 Try.underlying22 hi035 hsz35 A0 c0 l0 t188 (ji9) (of_decide_eq_true (by first | (with_reducible assumption) | assumption)) (by first | omega | exact of_decide_eq_true (by first | (with_reducible assumption) | assumption)) (of_decide_eq_true (by first | (with_reducible assumption) | assumption)) HC0.out
                        have HR198 := Aside0.mk (Kd.C_of_reads (h1 := fun _ => rfl) (hA35 _ (Kd.reads_of_C HR0.out)))
                        have HC198 := Aside0.mk hC35
                        clear hA35 hC35 hi035 hsz35
                        refine start_ (n := 11) (S := fun w' => True) (ds := []) #[false, false, false, false, false, false, false, false, false, false, false] (by kernel_rfl) rfl rfl trivial (fun hHeld => ?_); refine with_tabW telemeterref02_Take.tab10 telemeterref02_Take.bits10 (fun HT_ HW_ => ?_)
                        generalize w32.drew = w34 at HO193 HB HR198 hHeld ⊢
                        refine pure_ (i := 0) (N := some 42) (v := ?_) (a' := ?_) #[true, false, false, false, false, false, false, false, false, false, false] rfl rfl (any_of HT_.out (by kernel_rfl)) (fun _ _ _ h => h) (Or.inl ⟨by rfl, ?_⟩) ?_ ?_
                        rotate_left
                        · intro w'
                          go_simp
                          with_reducible rfl
                        rotate_left
                        · simp only [Act.put, List.setIfInBounds_toArray, List.set_cons_zero, List.set_cons_succ, i64_w, i32_w]
                          rfl
                        refine pure_ (i := 4) (N := some 46) (v := ?_) (a' := ?_) #[true, false, false, false, true, false, false, false, false, false, false] rfl rfl (any_of HT_.out (by kernel_rfl)) (fun _ _ _ h => h) (Or.inl ⟨by rfl, ?_⟩) ?_ ?_
                        rotate_left
                        · intro w'
                          go_simp
                          with_reducible rfl
                        rotate_left
                        · simp only [Act.put, List.setIfInBounds_toArray, List.set_cons_zero, List.set_cons_succ, i64_w, i32_w]
                          rfl
                        refine pure_ (i := 5) (N := some 47) (v := ?_) (a' := ?_) #[true, false, false, false, true, true, false, false, false, false, false] rfl rfl (any_of HT_.out (by kernel_rfl)) (fun _ _ _ h => h) (Or.inl ⟨by rfl, ?_⟩) ?_ ?_
                        rotate_left
                        · intro w'
                          go_simp
                          with_reducible rfl
                        rotate_left
                        · simp only [Act.put, List.setIfInBounds_toArray, List.set_cons_zero, List.set_cons_succ, i64_w, i32_w]
                          rfl
                        refine pure_ (i := 6) (N := some 48) (v := ?_) (a' := ?_) #[true, false, false, false, true, true, true, false, false, false, false] rfl rfl (any_of HT_.out (by kernel_rfl)) (fun _ _ _ h => h) (Or.inl ⟨by rfl, ?_⟩) ?_ ?_
                        rotate_left
                        · intro w'
                          go_simp
                          with_reducible rfl
                        rotate_left
                        · simp only [Act.put, List.setIfInBounds_toArray, List.set_cons_zero, List.set_cons_succ, i64_w, i32_w]
                          rfl
                        refine pure_ (i := 7) (N := some 49) (v := ?_) (a' := ?_) #[true, false, false, false, true, true, true, true, false, false, false] rfl rfl (any_of HT_.out (by kernel_rfl)) (fun _ _ _ h => h) (Or.inl ⟨by rfl, ?_⟩) ?_ ?_
                        rotate_left
                        · intro w'
                          go_simp
                          with_reducible rfl
                        rotate_left
                        · simp only [Act.put, List.setIfInBounds_toArray, List.set_cons_zero, List.set_cons_succ, i64_w, i32_w]
                          rfl
                        refine pure_ (i := 8) (N := some 50) (v := ?_) (a' := ?_) #[true, false, false, false, true, true, true, true, true, false, false] rfl rfl (any_of HT_.out (by kernel_rfl)) (fun _ _ _ h => h) (Or.inl ⟨by rfl, ?_⟩) ?_ ?_
                        rotate_left
                        · intro w'
                          go_simp
                          with_reducible rfl
                        rotate_left
                        · simp only [Act.put, List.setIfInBounds_toArray, List.set_cons_zero, List.set_cons_succ, i64_w, i32_w]
                          rfl
                        refine join_ (σ := Value) 1 #[true, true, true, true, true, true, true, true, true, true, false] (fun s_ => [(43, .int .u32 t194), (44, s_), (45, .string (strOfNums t195)), (51, .string (strOfNums ((l0.take ((ji9) : Int).toNat).drop (t188 : Int).toNat)))]) (fun s_ w' => (Kd.R (Kd.int .u8) 5 w' w.heap.size (fun k_ => some k_ ≠ (s_ : Value).ownBlock) (.slice Ao33 y191.length co33) y191) ∧ (Kd.R (Kd.int .u8) 5 w' w.heap.size (fun k_ => some k_ ≠ (.slice Ao33 y191.length co33 : Value).ownBlock) s_ t195) ∧ (Below w.heap.size w w')) ?_ ?_
                        rotate_left
                        · intro hCont
                          refine two_ (i := 1) (j := 9) (Ni := some 43) (Nj := some 51) #[true, true, false, false, true, true, true, true, true, false, false] #[true, false, false, false, true, true, true, true, true, true, false] rfl rfl rfl rfl (two_of HT_.out (by kernel_rfl)) (by decide) (by decide) (fun K hK => ?_) (fun K hK => ?_)
                          · skip
                            refine goes_ Try.func29 (by kernel_rfl) rfl #[.slice Ao33 y191.length co33] (by rfl) rfl rfl (by (try simp only [List.map_toArray, List.map_cons, List.map_nil]); first | done | rfl | (simp only [List.length_drop, List.length_take]; rfl)) ?_
                            with_reducible refine (telemeterref02_Sum.calls k _ _ y191 t194 _ ?side1 ?side2 A14.out).mono ?_
                            (case side1 => repeat (first | exact (Kd.R_reads' HO193.out).2.2 | (with_reducible refine Kd.C_alloc ?_ _) | (with_reducible refine Kd.C_drewN ?_ _) | (with_reducible refine Kd.C_drew ?_)))
                            (case side2 => exact (Kd.R_reads' HO193.out).2.1)
                            rintro e w' ⟨rfl, ⟨nd, rfl⟩⟩
                            refine ⟨_, rfl, ?_⟩
                            refine hK.out _ _ trivial (fun hHeld => ?_)
                            clear hK K
                            refine norm_ (a' := ?_) ?_ ?_
                            rotate_left
                            · show Act.put _ (some 43) _ = _
                              simp only [Act.put, List.setIfInBounds_toArray, List.set_cons_zero, List.set_cons_succ, i64_w, i32_w]
                              rfl
                            refine two_ (i := 2) (j := 9) (Ni := some 44) (Nj := some 51) #[true, true, true, false, true, true, true, true, true, false, false] #[true, true, false, false, true, true, true, true, true, true, false] rfl rfl rfl rfl (two_of HT_.out (by kernel_rfl)) (by decide) (by decide) (fun K hK => ?_) (fun K hK => ?_)
                            · skip
                              refine goes_ Try.func44 (by kernel_rfl) rfl #[.int .u32 t194] (by rfl) rfl rfl (by (try simp only [List.map_toArray, List.map_cons, List.map_nil]); first | done | rfl | (simp only [List.length_drop, List.length_take]; rfl)) ?_
                              with_reducible refine (telemeterref02_four.calls t194 t195 _ A15.out).mono ?_
                              rintro e w36 ⟨v196, rfl, ho0, hb⟩
                              refine ⟨_, rfl, ?_⟩
                              have n0_ := Aside0.mk (Kd.R_elder' (by (with_reducible repeat (first | apply Kd.R_alloc | apply Kd.R_drewN | apply Kd.R_drew)); exact HO193.out) (Kd.R_base ho0) hb)
                              have n1_ := Aside0.mk (Kd.R_lower (Kd.R_new' ho0 (Kd.R_lt (by (with_reducible repeat (first | apply Kd.R_alloc | apply Kd.R_drewN | apply Kd.R_drew)); exact HO193.out))) (below_size (by repeat (first | (with_reducible first | exact HB.out | apply below_alloc | apply pw_below_drewN | apply below_drew1) | exact HB.out))))
                              have n2_ := Aside0.mk (below_step (by repeat (first | (with_reducible first | exact HB.out | apply below_alloc | apply pw_below_drewN | apply below_drew1) | exact HB.out)) hb)
                              clear HO193
                              clear HB
                              have HO193 := n0_
                              have HO197 := n1_
                              have HB := n2_
                              clear n0_ n1_ n2_
                              (try clear hb)
                              (try clear hb2)
                              (try clear hk)
                              (try clear hi)
                              (try clear ho0)
                              refine hK.out _ _ trivial (fun hHeld => ?_)
                              clear hK K
                              refine norm_ (a' := ?_) ?_ ?_
                              rotate_left
                              · show Act.put _ (some 44) _ = _
                                simp only [Act.put, List.setIfInBounds_toArray, List.set_cons_zero, List.set_cons_succ, i64_w, i32_w]
                                rfl
                              refine two_ (i := 3) (j := 9) (Ni := some 45) (Nj := some 51) #[true, true, true, true, true, true, true, true, true, false, false] #[true, true, true, false, true, true, true, true, true, true, false] rfl rfl rfl rfl (two_of HT_.out (by kernel_rfl)) (by decide) (by decide) (fun K hK => ?_) (fun K hK => ?_)
                              · skip
                                have hcv37 := own_string (P := Try.prog) Try.underlying22 Try.underlying5 Try.underlying9 (Kd.own_of_R HO197.out)
                                try (have hcv37d := fun m_ => own_string (P := Try.prog) Try.underlying22 Try.underlying5 Try.underlying9 (pw_own_drewN ((Kd.own_of_R HO197.out)) m_))
                                refine value_ (w1 := ?_) (v := ?_) (by rfl) rfl ?_ ?_
                                rotate_left 2
                                · go_simp
                                  constructor
                                  · rfl
                                  · rfl
                                clear hcv37
                                try clear hcv37n
                                try clear hcv37d
                                try clear hcv37e
                                refine hK.out _ _ trivial (fun hHeld => ?_)
                                clear hK K
                                refine norm_ (a' := ?_) ?_ ?_
                                rotate_left
                                · show Act.put _ (some 45) _ = _
                                  simp only [Act.put, List.setIfInBounds_toArray, List.set_cons_zero, List.set_cons_succ, i64_w, i32_w]
                                  rfl
                                refine one_ (i := 9) (N := some 51) #[true, true, true, true, true, true, true, true, true, true, false] rfl rfl (one_of HT_.out (by kernel_rfl)) (by decide) (fun K hK => ?_)
                                have hcv38 := Kd.C_string (P := Try.prog) (A := A35) (c := (c0 - t188.toNat)) Try.underlying22 Try.underlying5 Try.underlying9 (by first | exact Kd.C_below HR198.out HB.out | exact (Kd.C_below HR198.out HB.out))
                                try (have hcv38n := hcv38; simp only [List.length_take, List.length_drop] at hcv38n; (try rw [Nat.min_eq_left (by simp only [decide_eq_true_eq, decide_eq_false_iff_not, eq_iff_iff, iff_true] at *; omega)] at hcv38n))
                                try (have hcv38d := fun m_ => Kd.C_string (P := Try.prog) (A := A35) (c := (c0 - t188.toNat)) Try.underlying22 Try.underlying5 Try.underlying9 (Kd.C_drewN ((by first | exact Kd.C_below HR198.out HB.out | exact (Kd.C_below HR198.out HB.out))) m_))
                                try (have hcv38e := fun m_ => Kd.C_string (P := Try.prog) (A := A35) (c := (c0 - t188.toNat)) Try.underlying22 Try.underlying5 Try.underlying9 (Kd.C_drewN ((by first | exact Kd.C_below HR198.out HB.out | exact (Kd.C_below HR198.out HB.out))) m_); simp only [List.length_take, List.length_drop] at hcv38e; (try rw [Nat.min_eq_left (by simp only [decide_eq_true_eq, decide_eq_false_iff_not, eq_iff_iff, iff_true] at *; omega)] at hcv38e))
                                refine value_ (w1 := ?_) (v := ?_) (by rfl) rfl ?_ ?_
                                rotate_left 2
                                · go_simp
                                  constructor
                                  · rfl
                                  · rfl
                                clear hcv38
                                try clear hcv38n
                                try clear hcv38d
                                try clear hcv38e
                                refine hK.out _ _ trivial (fun hHeld => ?_)
                                clear hK K
                                refine norm_ (a' := ?_) ?_ ?_
                                rotate_left
                                · show Act.put _ (some 51) _ = _
                                  simp only [Act.put, List.setIfInBounds_toArray, List.set_cons_zero, List.set_cons_succ, i64_w, i32_w]
                                  rfl
                                exact norm_ (by simp only [putAll, Act.put, List.setIfInBounds_toArray, List.set_cons_zero, List.set_cons_succ]) (hCont (v196) _ ⟨(by (with_reducible repeat (first | apply Kd.R_alloc | apply Kd.R_drewN | apply Kd.R_drew)); exact Kd.R_mono HO193.out (fun _ hk => hk.2)), (by (with_reducible repeat (first | apply Kd.R_alloc | apply Kd.R_drewN | apply Kd.R_drew)); exact Kd.R_mono HO197.out (fun _ hk => hk.2)), (by repeat (first | (with_reducible first | exact HB.out | apply below_alloc | apply pw_below_drewN | apply below_drew1) | exact HB.out))⟩)
                              · skip
                                have hcv37 := Kd.C_string (P := Try.prog) (A := A35) (c := (c0 - t188.toNat)) Try.underlying22 Try.underlying5 Try.underlying9 (by first | exact Kd.C_below HR198.out HB.out | exact (Kd.C_below HR198.out HB.out))
                                try (have hcv37n := hcv37; simp only [List.length_take, List.length_drop] at hcv37n; (try rw [Nat.min_eq_left (by simp only [decide_eq_true_eq, decide_eq_false_iff_not, eq_iff_iff, iff_true] at *; omega)] at hcv37n))
                                try (have hcv37d := fun m_ => Kd.C_string (P := Try.prog) (A := A35) (c := (c0 - t188.toNat)) Try.underlying22 Try.underlying5 Try.underlying9 (Kd.C_drewN ((by first | exact Kd.C_below HR198.out HB.out | exact (Kd.C_below HR198.out HB.out))) m_))
                                try (have hcv37e := fun m_ => Kd.C_string (P := Try.prog) (A := A35) (c := (c0 - t188.toNat)) Try.underlying22 Try.underlying5 Try.underlying9 (Kd.C_drewN ((by first | exact Kd.C_below HR198.out HB.out | exact (Kd.C_below HR198.out HB.out))) m_); simp only [List.length_take, List.length_drop] at hcv37e; (try rw [Nat.min_eq_left (by simp only [decide_eq_true_eq, decide_eq_false_iff_not, eq_iff_iff, iff_true] at *; omega)] at hcv37e))
                                refine value_ (w1 := ?_) (v := ?_) (by rfl) rfl ?_ ?_
                                rotate_left 2
                                · go_simp
                                  constructor
                                  · rfl
                                  · rfl
                                clear hcv37
                                try clear hcv37n
                                try clear hcv37d
                                try clear hcv37e
                                refine hK.out _ _ trivial (fun hHeld => ?_)
                                clear hK K
                                refine norm_ (a' := ?_) ?_ ?_
                                rotate_left
                                · show Act.put _ (some 51) _ = _
                                  simp only [Act.put, List.setIfInBounds_toArray, List.set_cons_zero, List.set_cons_succ, i64_w, i32_w]
                                  rfl
                                refine one_ (i := 3) (N := some 45) #[true, true, true, true, true, true, true, true, true, true, false] rfl rfl (one_of HT_.out (by kernel_rfl)) (by decide) (fun K hK => ?_)
                                have hcv38 := own_string (P := Try.prog) Try.underlying22 Try.underlying5 Try.underlying9 (Kd.own_of_R HO197.out)
                                try (have hcv38d := fun m_ => own_string (P := Try.prog) Try.underlying22 Try.underlying5 Try.underlying9 (pw_own_drewN ((Kd.own_of_R HO197.out)) m_))
                                refine value_ (w1 := ?_) (v := ?_) (by rfl) rfl ?_ ?_
                                rotate_left 2
                                · go_simp
                                  constructor
                                  · rfl
                                  · rfl
                                clear hcv38
                                try clear hcv38n
                                try clear hcv38d
                                try clear hcv38e
                                refine hK.out _ _ trivial (fun hHeld => ?_)
                                clear hK K
                                refine norm_ (a' := ?_) ?_ ?_
                                rotate_left
                                · show Act.put _ (some 45) _ = _
                                  simp only [Act.put, List.setIfInBounds_toArray, List.set_cons_zero, List.set_cons_succ, i64_w, i32_w]
                                  rfl
                                exact norm_ (by simp only [putAll, Act.put, List.setIfInBounds_toArray, List.set_cons_zero, List.set_cons_succ]) (hCont (v196) _ ⟨(by (with_reducible repeat (first | apply Kd.R_alloc | apply Kd.R_drewN | apply Kd.R_drew)); exact Kd.R_mono HO193.out (fun _ hk => hk.2)), (by (with_reducible repeat (first | apply Kd.R_alloc | apply Kd.R_drewN | apply Kd.R_drew)); exact Kd.R_mono HO197.out (fun _ hk => hk.2)), (by repeat (first | (with_reducible first | exact HB.out | apply below_alloc | apply pw_below_drewN | apply below_drew1) | exact HB.out))⟩)
                            · skip
                              have hcv36 := Kd.C_string (P := Try.prog) (A := A35) (c := (c0 - t188.toNat)) Try.underlying22 Try.underlying5 Try.underlying9 (by first | exact Kd.C_below HR198.out HB.out | exact (Kd.C_below HR198.out HB.out))
                              try (have hcv36n := hcv36; simp only [List.length_take, List.length_drop] at hcv36n; (try rw [Nat.min_eq_left (by simp only [decide_eq_true_eq, decide_eq_false_iff_not, eq_iff_iff, iff_true] at *; omega)] at hcv36n))
                              try (have hcv36d := fun m_ => Kd.C_string (P := Try.prog) (A := A35) (c := (c0 - t188.toNat)) Try.underlying22 Try.underlying5 Try.underlying9 (Kd.C_drewN ((by first | exact Kd.C_below HR198.out HB.out | exact (Kd.C_below HR198.out HB.out))) m_))
                              try (have hcv36e := fun m_ => Kd.C_string (P := Try.prog) (A := A35) (c := (c0 - t188.toNat)) Try.underlying22 Try.underlying5 Try.underlying9 (Kd.C_drewN ((by first | exact Kd.C_below HR198.out HB.out | exact (Kd.C_below HR198.out HB.out))) m_); simp only [List.length_take, List.length_drop] at hcv36e; (try rw [Nat.min_eq_left (by simp only [decide_eq_true_eq, decide_eq_false_iff_not, eq_iff_iff, iff_true] at *; omega)] at hcv36e))
                              refine value_ (w1 := ?_) (v := ?_) (by rfl) rfl ?_ ?_
                              rotate_left 2
                              · go_simp
                                constructor
                                · rfl
                                · rfl
                              clear hcv36
                              try clear hcv36n
                              try clear hcv36d
                              try clear hcv36e
                              refine hK.out _ _ trivial (fun hHeld => ?_)
                              clear hK K
                              refine norm_ (a' := ?_) ?_ ?_
                              rotate_left
                              · show Act.put _ (some 51) _ = _
                                simp only [Act.put, List.setIfInBounds_toArray, List.set_cons_zero, List.set_cons_succ, i64_w, i32_w]
                                rfl
                              refine one_ (i := 2) (N := some 44) #[true, true, true, false, true, true, true, true, true, true, false] rfl rfl (one_of HT_.out (by kernel_rfl)) (by decide) (fun K hK => ?_)
                              refine goes_ Try.func44 (by kernel_rfl) rfl #[.int .u32 t194] (by rfl) rfl rfl (by (try simp only [List.map_toArray, List.map_cons, List.map_nil]); first | done | rfl | (simp only [List.length_drop, List.length_take]; rfl)) ?_
                              with_reducible refine (telemeterref02_four.calls t194 t195 _ A15.out).mono ?_
                              rintro e w37 ⟨v196, rfl, ho0, hb⟩
                              refine ⟨_, rfl, ?_⟩
                              have n0_ := Aside0.mk (Kd.R_elder' (by (with_reducible repeat (first | apply Kd.R_alloc | apply Kd.R_drewN | apply Kd.R_drew)); exact HO193.out) (Kd.R_base ho0) hb)
                              have n1_ := Aside0.mk (Kd.R_lower (Kd.R_new' ho0 (Kd.R_lt (by (with_reducible repeat (first | apply Kd.R_alloc | apply Kd.R_drewN | apply Kd.R_drew)); exact HO193.out))) (below_size (by repeat (first | (with_reducible first | exact HB.out | apply below_alloc | apply pw_below_drewN | apply below_drew1) | exact HB.out))))
                              have n2_ := Aside0.mk (below_step (by repeat (first | (with_reducible first | exact HB.out | apply below_alloc | apply pw_below_drewN | apply below_drew1) | exact HB.out)) hb)
                              clear HO193
                              clear HB
                              have HO193 := n0_
                              have HO197 := n1_
                              have HB := n2_
                              clear n0_ n1_ n2_
                              (try clear hb)
                              (try clear hb2)
                              (try clear hk)
                              (try clear hi)
                              (try clear ho0)
                              refine hK.out _ _ trivial (fun hHeld => ?_)
                              clear hK K
                              refine norm_ (a' := ?_) ?_ ?_
                              rotate_left
                              · show Act.put _ (some 44) _ = _
                                simp only [Act.put, List.setIfInBounds_toArray, List.set_cons_zero, List.set_cons_succ, i64_w, i32_w]
                                rfl
                              refine one_ (i := 3) (N := some 45) #[true, true, true, true, true, true, true, true, true, true, false] rfl rfl (one_of HT_.out (by kernel_rfl)) (by decide) (fun K hK => ?_)
                              have hcv38 := own_string (P := Try.prog) Try.underlying22 Try.underlying5 Try.underlying9 (Kd.own_of_R HO197.out)
                              try (have hcv38d := fun m_ => own_string (P := Try.prog) Try.underlying22 Try.underlying5 Try.underlying9 (pw_own_drewN ((Kd.own_of_R HO197.out)) m_))
                              refine value_ (w1 := ?_) (v := ?_) (by rfl) rfl ?_ ?_
                              rotate_left 2
                              · go_simp
                                constructor
                                · rfl
                                · rfl
                              clear hcv38
                              try clear hcv38n
                              try clear hcv38d
                              try clear hcv38e
                              refine hK.out _ _ trivial (fun hHeld => ?_)
                              clear hK K
                              refine norm_ (a' := ?_) ?_ ?_
                              rotate_left
                              · show Act.put _ (some 45) _ = _
                                simp only [Act.put, List.setIfInBounds_toArray, List.set_cons_zero, List.set_cons_succ, i64_w, i32_w]
                                rfl
                              exact norm_ (by simp only [putAll, Act.put, List.setIfInBounds_toArray, List.set_cons_zero, List.set_cons_succ]) (hCont (v196) _ ⟨(by (with_reducible repeat (first | apply Kd.R_alloc | apply Kd.R_drewN | apply Kd.R_drew)); exact Kd.R_mono HO193.out (fun _ hk => hk.2)), (by (with_reducible repeat (first | apply Kd.R_alloc | apply Kd.R_drewN | apply Kd.R_drew)); exact Kd.R_mono HO197.out (fun _ hk => hk.2)), (by repeat (first | (with_reducible first | exact HB.out | apply below_alloc | apply pw_below_drewN | apply below_drew1) | exact HB.out))⟩)
                          · skip
                            have hcv36 := Kd.C_string (P := Try.prog) (A := A35) (c := (c0 - t188.toNat)) Try.underlying22 Try.underlying5 Try.underlying9 (by first | exact Kd.C_below HR198.out HB.out | exact (Kd.C_below HR198.out HB.out))
                            try (have hcv36n := hcv36; simp only [List.length_take, List.length_drop] at hcv36n; (try rw [Nat.min_eq_left (by simp only [decide_eq_true_eq, decide_eq_false_iff_not, eq_iff_iff, iff_true] at *; omega)] at hcv36n))
                            try (have hcv36d := fun m_ => Kd.C_string (P := Try.prog) (A := A35) (c := (c0 - t188.toNat)) Try.underlying22 Try.underlying5 Try.underlying9 (Kd.C_drewN ((by first | exact Kd.C_below HR198.out HB.out | exact (Kd.C_below HR198.out HB.out))) m_))
                            try (have hcv36e := fun m_ => Kd.C_string (P := Try.prog) (A := A35) (c := (c0 - t188.toNat)) Try.underlying22 Try.underlying5 Try.underlying9 (Kd.C_drewN ((by first | exact Kd.C_below HR198.out HB.out | exact (Kd.C_below HR198.out HB.out))) m_); simp only [List.length_take, List.length_drop] at hcv36e; (try rw [Nat.min_eq_left (by simp only [decide_eq_true_eq, decide_eq_false_iff_not, eq_iff_iff, iff_true] at *; omega)] at hcv36e))
                            refine value_ (w1 := ?_) (v := ?_) (by rfl) rfl ?_ ?_
                            rotate_left 2
                            · go_simp
                              constructor
                              · rfl
                              · rfl
                            clear hcv36
                            try clear hcv36n
                            try clear hcv36d
                            try clear hcv36e
                            refine hK.out _ _ trivial (fun hHeld => ?_)
                            clear hK K
                            refine norm_ (a' := ?_) ?_ ?_
                            rotate_left
                            · show Act.put _ (some 51) _ = _
                              simp only [Act.put, List.setIfInBounds_toArray, List.set_cons_zero, List.set_cons_succ, i64_w, i32_w]
                              rfl
                            refine one_ (i := 1) (N := some 43) #[true, true, false, false, true, true, true, true, true, true, false] rfl rfl (one_of HT_.out (by kernel_rfl)) (by decide) (fun K hK => ?_)
                            refine goes_ Try.func29 (by kernel_rfl) rfl #[.slice Ao33 y191.length co33] (by rfl) rfl rfl (by (try simp only [List.map_toArray, List.map_cons, List.map_nil]); first | done | rfl | (simp only [List.length_drop, List.length_take]; rfl)) ?_
                            with_reducible refine (telemeterref02_Sum.calls k _ _ y191 t194 _ ?side1 ?side2 A14.out).mono ?_
                            (case side1 => repeat (first | exact (Kd.R_reads' HO193.out).2.2 | (with_reducible refine Kd.C_alloc ?_ _) | (with_reducible refine Kd.C_drewN ?_ _) | (with_reducible refine Kd.C_drew ?_)))
                            (case side2 => exact (Kd.R_reads' HO193.out).2.1)
                            rintro e w' ⟨rfl, ⟨nd, rfl⟩⟩
                            refine ⟨_, rfl, ?_⟩
                            refine hK.out _ _ trivial (fun hHeld => ?_)
                            clear hK K
                            refine norm_ (a' := ?_) ?_ ?_
                            rotate_left
                            · show Act.put _ (some 43) _ = _
                              simp only [Act.put, List.setIfInBounds_toArray, List.set_cons_zero, List.set_cons_succ, i64_w, i32_w]
                              rfl
                            refine one_ (i := 2) (N := some 44) #[true, true, true, false, true, true, true, true, true, true, false] rfl rfl (one_of HT_.out (by kernel_rfl)) (by decide) (fun K hK => ?_)
                            refine goes_ Try.func44 (by kernel_rfl) rfl #[.int .u32 t194] (by rfl) rfl rfl (by (try simp only [List.map_toArray, List.map_cons, List.map_nil]); first | done | rfl | (simp only [List.length_drop, List.length_take]; rfl)) ?_
                            with_reducible refine (telemeterref02_four.calls t194 t195 _ A15.out).mono ?_
                            rintro e w37 ⟨v196, rfl, ho0, hb⟩
                            refine ⟨_, rfl, ?_⟩
                            have n0_ := Aside0.mk (Kd.R_elder' (by (with_reducible repeat (first | apply Kd.R_alloc | apply Kd.R_drewN | apply Kd.R_drew)); exact HO193.out) (Kd.R_base ho0) hb)
                            have n1_ := Aside0.mk (Kd.R_lower (Kd.R_new' ho0 (Kd.R_lt (by (with_reducible repeat (first | apply Kd.R_alloc | apply Kd.R_drewN | apply Kd.R_drew)); exact HO193.out))) (below_size (by repeat (first | (with_reducible first | exact HB.out | apply below_alloc | apply pw_below_drewN | apply below_drew1) | exact HB.out))))
                            have n2_ := Aside0.mk (below_step (by repeat (first | (with_reducible first | exact HB.out | apply below_alloc | apply pw_below_drewN | apply below_drew1) | exact HB.out)) hb)
                            clear HO193
                            clear HB
                            have HO193 := n0_
                            have HO197 := n1_
                            have HB := n2_
                            clear n0_ n1_ n2_
                            (try clear hb)
                            (try clear hb2)
                            (try clear hk)
                            (try clear hi)
                            (try clear ho0)
                            refine hK.out _ _ trivial (fun hHeld => ?_)
                            clear hK K
                            refine norm_ (a' := ?_) ?_ ?_
                            rotate_left
                            · show Act.put _ (some 44) _ = _
                              simp only [Act.put, List.setIfInBounds_toArray, List.set_cons_zero, List.set_cons_succ, i64_w, i32_w]
                              rfl
                            refine one_ (i := 3) (N := some 45) #[true, true, true, true, true, true, true, true, true, true, false] rfl rfl (one_of HT_.out (by kernel_rfl)) (by decide) (fun K hK => ?_)
                            have hcv38 := own_string (P := Try.prog) Try.underlying22 Try.underlying5 Try.underlying9 (Kd.own_of_R HO197.out)
                            try (have hcv38d := fun m_ => own_string (P := Try.prog) Try.underlying22 Try.underlying5 Try.underlying9 (pw_own_drewN ((Kd.own_of_R HO197.out)) m_))
                            refine value_ (w1 := ?_) (v := ?_) (by rfl) rfl ?_ ?_
                            rotate_left 2
                            · go_simp
                              constructor
                              · rfl
                              · rfl
                            clear hcv38
                            try clear hcv38n
                            try clear hcv38d
                            try clear hcv38e
                            refine hK.out _ _ trivial (fun hHeld => ?_)
                            clear hK K
                            refine norm_ (a' := ?_) ?_ ?_
                            rotate_left
                            · show Act.put _ (some 45) _ = _
                              simp only [Act.put, List.setIfInBounds_toArray, List.set_cons_zero, List.set_cons_succ, i64_w, i32_w]
                              rfl
                            exact norm_ (by simp only [putAll, Act.put, List.setIfInBounds_toArray, List.set_cons_zero, List.set_cons_succ]) (hCont (v196) _ ⟨(by (with_reducible repeat (first | apply Kd.R_alloc | apply Kd.R_drewN | apply Kd.R_drew)); exact Kd.R_mono HO193.out (fun _ hk => hk.2)), (by (with_reducible repeat (first | apply Kd.R_alloc | apply Kd.R_drewN | apply Kd.R_drew)); exact Kd.R_mono HO197.out (fun _ hk => hk.2)), (by repeat (first | (with_reducible first | exact HB.out | apply below_alloc | apply pw_below_drewN | apply below_drew1) | exact HB.out))⟩)
                        rintro v196 w39 ⟨h0_, h1_, h2_⟩
                        have n0_ : Aside0 (Kd.R (Kd.int .u8) 5 w39 w.heap.size (fun k_ => some k_ ≠ (v196 : Value).ownBlock) (.slice Ao33 y191.length co33) y191) := ⟨h0_⟩
                        have n1_ : Aside0 (Kd.R (Kd.int .u8) 5 w39 w.heap.size (fun k_ => some k_ ≠ (.slice Ao33 y191.length co33 : Value).ownBlock) v196 t195) := ⟨h1_⟩
                        have n2_ : Aside0 (Below w.heap.size w w39) := ⟨h2_⟩
                        clear HO193
                        clear HB
                        clear h0_ h1_ h2_
                        have HO193 := n0_
                        have HO197 := n1_
                        have HB := n2_
                        clear n0_ n1_ n2_
                        have hHeld := trivial
                        refine norm_ (a' := ?_) ?_ ?_
                        rotate_left
                        · simp only [putAll, Act.put, List.setIfInBounds_toArray, List.set_cons_zero, List.set_cons_succ]
                          rfl
                        refine pure_ (i := 10) (N := some 52) (v := ?_) (a' := ?_) #[true, true, true, true, true, true, true, true, true, true, true] rfl rfl (any_of HT_.out (by kernel_rfl)) (fun _ _ _ h => h) (Or.inl ⟨by rfl, ?_⟩) ?_ ?_
                        rotate_left
                        · intro w'
                          go_simp
                          with_reducible rfl
                        rotate_left
                        · simp only [Act.put, List.setIfInBounds_toArray, List.set_cons_zero, List.set_cons_succ, i64_w, i32_w]
                          rfl
                        refine done_ (done_of HT_.out (by kernel_rfl)) ?_
                        try go_wp2
                        go_ret3
                        exact ⟨_, by first | rfl | (simp [errW_none, errW_some] <;> rfl) | (simp only [← hji9]; first | rfl | (simp [errW_none, errW_some] <;> rfl)) | (simp [*, errW_none, errW_some] <;> rfl), by first | exact Kd.R_nil _ _ _ _ _ | exact Kd.N_nil _ _ _ _ _ | exact Kd.V_nil _ _ _ _ _ | exact Kd.Q_nil _ _ _ _ _ | exact Kd.S_nil _ _ _ _ _, by repeat (first | (with_reducible first | exact HB.out | apply below_alloc | apply pw_below_drewN | apply below_drew1) | exact HB.out)⟩
                    · rw [if_neg c18] at H
                      exact absurd H (by simp)
                  · rw [if_neg c17] at H
                    exact absurd H (by simp)
                · rw [if_neg c16] at H
                  exact absurd H (by simp)
              · rw [if_neg c13] at H
                exact absurd H (by simp)
            · rw [if_neg c12] at H
              exact absurd H (by simp)
          · rw [if_neg c11] at H
            exact absurd H (by simp)
        · rw [if_neg c10] at H
          exact absurd H (by simp)
  · rw [if_neg c4] at H
    have c4b0 : (t189 == 0) = false := beq_eq_false_iff_ne.mpr c4
    have c4b1 : (t189 != 0) = true := bne_iff_ne.mpr c4
    simp only [Option.some.injEq, Prod.mk.injEq] at H
    obtain ⟨rfl, rfl, rfl⟩ := H
    go_enter Try.func47, Try.ntmps47
    go_wp2_with (first | ((with_reducible refine gate_callee (f := 49) rfl ?_); refine goesL_ (some 14) rfl rfl Try.func49 (by kernel_rfl) rfl #[.slice A0 l0.length c0, .int .i64 a1] rfl (by (try simp only [List.map_toArray, List.map_cons, List.map_nil]); first | done | rfl | (simp only [List.length_drop, List.length_take]; rfl)) ?_; (with_reducible refine (telemeterref01_Get.calls k _ _ l0 a1 t187 t188 t189 _ ?side1 ?side2 A3.out).mono ?_); (case side1 => repeat (first | exact HR0.out | (with_reducible refine Kd.C_alloc ?_ _) | (with_reducible refine Kd.C_drewN ?_ _) | (with_reducible refine Kd.C_drew ?_))); (case side2 => exact HC0.out); rintro e w40 ⟨rfl, hb⟩; refine ⟨_, rfl, ?_⟩; have n0_ := Aside0.mk (below_step (by repeat (first | (with_reducible first | exact HB.out | apply below_alloc | apply pw_below_drewN | apply below_drew1) | exact HB.out)) hb); clear HB; have HB := n0_; clear n0_; (try clear hb); (try clear hb2); (try clear hk); (try clear hi)))
    go_ret3
    exact ⟨_, by first | rfl | (simp [errW_none, errW_some] <;> rfl) | (simp [*, errW_none, errW_some] <;> rfl), by first | exact Kd.R_nil _ _ _ _ _ | exact Kd.N_nil _ _ _ _ _ | exact Kd.V_nil _ _ _ _ _ | exact Kd.Q_nil _ _ _ _ _ | exact Kd.S_nil _ _ _ _ _, by repeat (first | (with_reducible first | exact HB.out | apply below_alloc | apply pw_below_drewN | apply below_drew1) | exact HB.out)⟩

end Go.Proofs.Ytiheghnojmfmfaa.Px
