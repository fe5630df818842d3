-- Laid by a program of this session (wip/xprint.py: the kit's print.py, with functions given by hand). Lean checks it.
import Derived.Test.YtihihobeaghbkaaPx0
import Derived.Test.YtihihobeaghbkaaPx3
import Derived.Test.YtihihobeaghbkaaPx5
import Derived.Test.YtihihobeaghbkaaPx8
namespace Go.Proofs.Ytihihobeaghbkaa.Px
open Go.RowKit Go.Proofs.YtihihobeaghbkaaW.PrintWords Go.Proofs.YtihihobeaghbkaaW.PrintLast Go.Proofs.YtihihobeaghbkaaW.PrintMore
attribute [local go_sem] max2_int min2_int max_two min_two max_three min_three max_four min_four   -- for this text's walks alone
set_option linter.unusedVariables false
set_option linter.unusedSimpArgs false

/-! ### telemeterlaw01_NumLong: function 3 -/
def telemeterlaw01_NumLong.j0 : Nat → ByteArray → Int → Bool → Option (Bool)
  | 0, _, _, _ => none
  | k + 1, x0, x1, x21 => if x21 = true then ((telemeterlaw01_known.f).bind fun t130 => (some t130)) else ((num_PutText.f x0).bind fun t131 => ((num_GetText.f t131 0 (wrap64 ((x0.size : Int) + (wrap64 (x1))))).bind fun bt134 => ((num_GetText.f t131 0 (wrap64 ((wrap64 ((x0.size : Int) - 1)) - (wrap64 (Int.tmod x1 3))))).bind fun bt137 => (if 0 ≤ (wrap64 ((t131.length : Int) - (mn (x0.size : Int) 1))) then (if (wrap64 ((t131.length : Int) - (mn (x0.size : Int) 1))) ≤ (t131.length : Int) then ((num_GetText.f (t131.take ((wrap64 ((t131.length : Int) - (mn (x0.size : Int) 1))) : Int).toNat) 0 300).bind fun bt144 => (if bt134.2.2 = 0 then (if bt137.2.2 = 3 then (if (x0.size : Int) = 0 then (some true) else (some (bt144.2.2 == 10))) else (some false)) else (some false))) else (none)) else (none)))))
def telemeterlaw01_NumLong.f (k : Nat) (a0 : ByteArray) (a1 : Int) : Option (Bool) := if (a0.size : Int) > 200 then (telemeterlaw01_NumLong.j0 k a0 a1 true) else ((telemeterlaw01_known.f).bind fun t129 => (telemeterlaw01_NumLong.j0 k a0 a1 (!t129)))
theorem telemeterlaw01_NumLong.mono_l : ∀ k, (∀ y0 y1 y2, LeO (telemeterlaw01_NumLong.j0 k y0 y1 y2) (telemeterlaw01_NumLong.j0 (k + 1) y0 y1 y2))
  | 0 => fun _ _ _ r h => by simp [telemeterlaw01_NumLong.j0] at h
  | k + 1 => by
    have ih0 := telemeterlaw01_NumLong.mono_l k
    · intro y0 y1 y2
      unfold telemeterlaw01_NumLong.j0
      repeat' first
      | (with_reducible exact ih0 _ _ _)
      | (with_reducible exact LeO.refl _)
      | (with_reducible exact LeO.none _)
      | (with_reducible refine LeO.ite ?_ ?_)
      | (with_reducible refine LeO.bind ?_ (fun _ => ?_))
      | exact ih0 _ _ _
      | exact LeO.none _
      | refine LeO.ite ?_ ?_
      | refine LeO.bind ?_ (fun _ => ?_)
theorem telemeterlaw01_NumLong.mono : ∀ a0 a1 k, LeO (telemeterlaw01_NumLong.f k a0 a1) (telemeterlaw01_NumLong.f (k + 1) a0 a1) := by
  intro a0 a1 k
  have ih0 := telemeterlaw01_NumLong.mono_l k
  unfold telemeterlaw01_NumLong.f
  repeat' first
      | (with_reducible exact ih0 _ _ _)
      | (with_reducible exact LeO.refl _)
      | (with_reducible exact LeO.none _)
      | (with_reducible refine LeO.ite ?_ ?_)
      | (with_reducible refine LeO.bind ?_ (fun _ => ?_))
      | exact ih0 _ _ _
      | exact LeO.none _
      | refine LeO.ite ?_ ?_
      | refine LeO.bind ?_ (fun _ => ?_)
set_option maxHeartbeats 8000000 in
set_option maxRecDepth 100000 in
theorem telemeterlaw01_NumLong.calls (k : Nat) (a0 : ByteArray) (a1 : Int) (r : Bool) (w : World) (h : telemeterlaw01_NumLong.f k a0 a1 = some r) :
    Calls Try.prog 3 #[.string a0, .int .u8 a1] w fun e w' => e = .returned (.bool r) ∧ Below w.heap.size w w' := by
  have HB := Aside0.mk (Below.refl w.heap.size w)
  have H : (if (a0.size : Int) > 200 then (telemeterlaw01_NumLong.j0 k a0 a1 true) else ((telemeterlaw01_known.f).bind fun t129 => (telemeterlaw01_NumLong.j0 k a0 a1 (!t129)))) = some r := h
  clear h
  have HC3 := Aside0.mk H
  clear H
  go_enter Try.func3, Try.ntmps3
  go_upto_region 1 with (fail)
  go_cut [21] (fun v21 wc => ∃ (kq : Nat) (x21_2 : Bool), v21 = .bool x21_2 ∧ Aside0 (telemeterlaw01_NumLong.j0 kq a0 a1 x21_2 = some r) ∧ Aside0 (kq ≤ k) ∧ Aside0 (Below w.heap.size w wc))
  case first =>
    have H := HC3.out
    clear HC3
    by_cases c4 : (a0.size : Int) > 200
    · rw [if_pos c4] at H
      have c4b0 : decide (200 < (a0.size : Int)) = true := decide_eq_true c4
      have c4b1 : decide (200 < a0.size) = true := decide_eq_true (by omega)
      clear c4
      (first | rw [c4b0] | (simp only [i64_w, i32_w]; rw [c4b0]) | skip)
      have H' := Aside0.mk H
      clear H
      go_wp2
      go_meet
      case rel => exact ⟨_, (true), (by first | rfl | (simp; done) | (simp [*]; done)), H', ⟨by first | omega | exact Nat.le_refl _⟩, ⟨by repeat (first | (with_reducible first | exact HB.out | apply below_alloc | apply pw_below_drewN | apply below_drew1) | exact HB.out)⟩⟩
    · rw [if_neg c4] at H
      have c4b0 : decide (200 < (a0.size : Int)) = false := decide_eq_false c4
      have c4b1 : decide (200 < a0.size) = false := decide_eq_false (by omega)
      clear c4
      (first | rw [c4b0] | (simp only [i64_w, i32_w]; rw [c4b0]) | skip)
      replace H := Option.bind_eq_some_iff.mp H
      obtain ⟨t129, A50, H⟩ := H
      replace H : (telemeterlaw01_NumLong.j0 k a0 a1 (!t129)) = some r := H
      have A5 := Aside0.mk A50
      clear A50
      have H' := Aside0.mk H
      clear H
      go_wp2_with (first | (go_at_call 11; (with_reducible refine (telemeterlaw01_known.calls  t129 _ A5.out).mono ?_); rintro e w6 ⟨rfl, hb⟩; have n0_ := Aside0.mk (below_step (by repeat (first | (with_reducible first | exact HB.out | apply below_alloc | apply pw_below_drewN | apply below_drew1) | exact HB.out)) hb); clear HB; have HB := n0_; clear n0_; (try clear hb); (try clear hb2); (try clear hk); (try clear hi)))
      go_meet
      case rel => exact ⟨_, (!t129), (by first | rfl | (simp; done) | (simp [*]; done)), H', ⟨by first | omega | exact Nat.le_refl _⟩, ⟨by repeat (first | (with_reducible first | exact HB.out | apply below_alloc | apply pw_below_drewN | apply below_drew1) | exact HB.out)⟩⟩
  case rest =>
    clear HC3
    try clear p2
    try clear c3
    try clear c4
    try clear c4b0
    try clear c4b1
    obtain ⟨kq, x21_2, rfl, HA, HJ2, HB⟩ := hcut
    cases kq with
    | zero => exact absurd HA.out (by simp [telemeterlaw01_NumLong.j0])
    | succ kj2 =>
      have H := HA.out
      clear HA
      simp only [telemeterlaw01_NumLong.j0] at H
      by_cases c7 : x21_2 = true
      · subst c7
        have H1 : ((telemeterlaw01_known.f).bind fun t130 => (some t130)) = some r := by rw [if_pos rfl] at H; exact H
        clear H
        have H := H1
        clear H1
        replace H := Option.bind_eq_some_iff.mp H
        obtain ⟨t130, A80, H⟩ := H
        replace H : (some t130) = some r := H
        have A8 := Aside0.mk A80
        clear A80
        obtain rfl := Option.some.inj H
        go_wp2_with (first | ((with_reducible refine gate_callee (f := 11) rfl ?_); refine goesL_ (some 22) rfl rfl Try.func11 (by kernel_rfl) rfl #[] rfl (by (try simp only [List.map_toArray, List.map_cons, List.map_nil]); first | done | rfl | (simp only [List.length_drop, List.length_take]; rfl)) ?_; (with_reducible refine (telemeterlaw01_known.calls  t130 _ A8.out).mono ?_); rintro e w9 ⟨rfl, hb⟩; refine ⟨_, rfl, ?_⟩; have n0_ := Aside0.mk (below_step (by repeat (first | (with_reducible first | exact HB.out | apply below_alloc | apply pw_below_drewN | apply below_drew1) | exact HB.out)) hb); clear HB; have HB := n0_; clear n0_; (try clear hb); (try clear hb2); (try clear hk); (try clear hi)))
        go_ret
        exact ⟨by first | rfl | (simp [errW_none, errW_some] <;> rfl) | (simp [*, errW_none, errW_some] <;> rfl), by repeat (first | (with_reducible first | exact HB.out | apply below_alloc | apply pw_below_drewN | apply below_drew1) | exact HB.out)⟩
      · replace c7 := Bool.eq_false_iff.mpr c7
        subst c7
        have H1 : ((num_PutText.f a0).bind fun t131 => ((num_GetText.f t131 0 (wrap64 ((a0.size : Int) + (wrap64 (a1))))).bind fun bt134 => ((num_GetText.f t131 0 (wrap64 ((wrap64 ((a0.size : Int) - 1)) - (wrap64 (Int.tmod a1 3))))).bind fun bt137 => (if 0 ≤ (wrap64 ((t131.length : Int) - (mn (a0.size : Int) 1))) then (if (wrap64 ((t131.length : Int) - (mn (a0.size : Int) 1))) ≤ (t131.length : Int) then ((num_GetText.f (t131.take ((wrap64 ((t131.length : Int) - (mn (a0.size : Int) 1))) : Int).toNat) 0 300).bind fun bt144 => (if bt134.2.2 = 0 then (if bt137.2.2 = 3 then (if (a0.size : Int) = 0 then (some true) else (some (bt144.2.2 == 10))) else (some false)) else (some false))) else (none)) else (none))))) = some r := by rw [if_neg (show ¬ (false = true) by decide)] at H; exact H
        clear H
        have H := H1
        clear H1
        replace H := Option.bind_eq_some_iff.mp H
        obtain ⟨t131, A100, H⟩ := H
        replace H : ((num_GetText.f t131 0 (wrap64 ((a0.size : Int) + (wrap64 (a1))))).bind fun bt134 => ((num_GetText.f t131 0 (wrap64 ((wrap64 ((a0.size : Int) - 1)) - (wrap64 (Int.tmod a1 3))))).bind fun bt137 => (if 0 ≤ (wrap64 ((t131.length : Int) - (mn (a0.size : Int) 1))) then (if (wrap64 ((t131.length : Int) - (mn (a0.size : Int) 1))) ≤ (t131.length : Int) then ((num_GetText.f (t131.take ((wrap64 ((t131.length : Int) - (mn (a0.size : Int) 1))) : Int).toNat) 0 300).bind fun bt144 => (if bt134.2.2 = 0 then (if bt137.2.2 = 3 then (if (a0.size : Int) = 0 then (some true) else (some (bt144.2.2 == 10))) else (some false)) else (some false))) else (none)) else (none)))) = some r := H
        have A10 := Aside0.mk A100
        clear A100
        replace H := Option.bind_eq_some_iff.mp H
        obtain ⟨⟨t134, t135, t136⟩, A110, H⟩ := H
        replace H : ((num_GetText.f t131 0 (wrap64 ((wrap64 ((a0.size : Int) - 1)) - (wrap64 (Int.tmod a1 3))))).bind fun bt137 => (if 0 ≤ (wrap64 ((t131.length : Int) - (mn (a0.size : Int) 1))) then (if (wrap64 ((t131.length : Int) - (mn (a0.size : Int) 1))) ≤ (t131.length : Int) then ((num_GetText.f (t131.take ((wrap64 ((t131.length : Int) - (mn (a0.size : Int) 1))) : Int).toNat) 0 300).bind fun bt144 => (if t136 = 0 then (if bt137.2.2 = 3 then (if (a0.size : Int) = 0 then (some true) else (some (bt144.2.2 == 10))) else (some false)) else (some false))) else (none)) else (none))) = some r := H
        have A11 := Aside0.mk A110
        clear A110
        replace H := Option.bind_eq_some_iff.mp H
        obtain ⟨⟨t137, t138, t139⟩, A120, H⟩ := H
        replace H : (if 0 ≤ (wrap64 ((t131.length : Int) - (mn (a0.size : Int) 1))) then (if (wrap64 ((t131.length : Int) - (mn (a0.size : Int) 1))) ≤ (t131.length : Int) then ((num_GetText.f (t131.take ((wrap64 ((t131.length : Int) - (mn (a0.size : Int) 1))) : Int).toNat) 0 300).bind fun bt144 => (if t136 = 0 then (if t139 = 3 then (if (a0.size : Int) = 0 then (some true) else (some (bt144.2.2 == 10))) else (some false)) else (some false))) else (none)) else (none)) = some r := H
        have A12 := Aside0.mk A120
        clear A120
        obtain ⟨ji13, hji13⟩ : ∃ j_ : Int, (mn (a0.size : Int) 1) = j_ := ⟨_, rfl⟩
        replace H : (if 0 ≤ (wrap64 ((t131.length : Int) - (ji13))) then (if (wrap64 ((t131.length : Int) - (ji13))) ≤ (t131.length : Int) then ((num_GetText.f (t131.take ((wrap64 ((t131.length : Int) - (ji13))) : Int).toNat) 0 300).bind fun bt144 => (if t136 = 0 then (if t139 = 3 then (if (a0.size : Int) = 0 then (some true) else (some (bt144.2.2 == 10))) else (some false)) else (some false))) else (none)) else (none)) = some r := by first | (rw [hji13] at H; exact H) | (simp only [hji13] at H ⊢; exact H)
        (try rw [hji13] at A10)
        (try rw [hji13] at A11)
        (try rw [hji13] at A12)
        have hji13_ : (if 1 < (a0.size : Int) then 1 else (a0.size : Int)) = ji13 := hji13
        obtain ⟨ji14, hji14⟩ : ∃ j_ : Int, (wrap64 ((t131.length : Int) - (ji13))) = j_ := ⟨_, rfl⟩
        replace H : (if 0 ≤ (ji14) then (if (ji14) ≤ (t131.length : Int) then ((num_GetText.f (t131.take ((ji14) : Int).toNat) 0 300).bind fun bt144 => (if t136 = 0 then (if t139 = 3 then (if (a0.size : Int) = 0 then (some true) else (some (bt144.2.2 == 10))) else (some false)) else (some false))) else (none)) else (none)) = some r := by first | (rw [hji14] at H; exact H) | (simp only [hji14] at H ⊢; exact H)
        (try rw [hji14] at A10)
        (try rw [hji14] at A11)
        (try rw [hji14] at A12)
        have hji14w : (IntKind.i64.wrap ((t131.length : Int) - (ji13))) = ji14 := (i64_w _).trans hji14
        by_cases c15 : 0 ≤ (ji14)
        · rw [if_pos c15] at H
          have c15b0 := eq_true c15
          have c15b1 : decide (0 ≤ (ji14)) = true := decide_eq_true c15
          clear c15
          by_cases c16 : (ji14) ≤ (t131.length : Int)
          · rw [if_pos c16] at H
            have c16b0 := eq_true c16
            have c16b1 : decide ((ji14) ≤ (t131.length : Int)) = true := decide_eq_true c16
            clear c16
            obtain ⟨y140, hy140⟩ : ∃ y_ : List Int, y_ = (t131.take ((ji14) : Int).toNat) := ⟨_, rfl⟩
            replace H : ((num_GetText.f y140 0 300).bind fun bt144 => (if t136 = 0 then (if t139 = 3 then (if (a0.size : Int) = 0 then (some true) else (some (bt144.2.2 == 10))) else (some false)) else (some false))) = some r := by first | (rw [hy140]; with_reducible exact H) | (have H2_ := (Option.bind_some _ _).symm.trans H; rw [hy140]; with_reducible exact H2_) | (have H2_ := (Option.bind_some _ _).symm.trans H; with_reducible exact H2_) | with_reducible exact H | (rw [hy140]; exact H) | exact H
            have Ny140 := Aside0.mk hy140
            clear hy140
            replace H := Option.bind_eq_some_iff.mp H
            obtain ⟨⟨t144, t145, t146⟩, A170, H⟩ := H
            replace H : (if t136 = 0 then (if t139 = 3 then (if (a0.size : Int) = 0 then (some true) else (some (t146 == 10))) else (some false)) else (some false)) = some r := H
            have A17 := Aside0.mk A170
            clear A170
            by_cases c18 : t136 = 0
            · rw [if_pos c18] at H
              have c18b0 : (t136 == 0) = true := beq_iff_eq.mpr c18
              have c18b1 : (t136 != 0) = false := bne_eq_false_iff_eq.mpr c18
              clear c18
              by_cases c19 : t139 = 3
              · rw [if_pos c19] at H
                have c19b0 : (t139 == 3) = true := beq_iff_eq.mpr c19
                have c19b1 : (t139 != 3) = false := bne_eq_false_iff_eq.mpr c19
                clear c19
                by_cases c20 : (a0.size : Int) = 0
                · rw [if_pos c20] at H
                  have c20b0 : ((a0.size : Int) == 0) = true := beq_iff_eq.mpr c20
                  have c20b1 : ((a0.size : Int) != 0) = false := bne_eq_false_iff_eq.mpr c20
                  clear c20
                  obtain rfl := Option.some.inj H
                  go_wp2_with (first | ((with_reducible refine gate_callee (f := 12) rfl ?_); refine goesL_ (some 24) rfl rfl Try.func12 (by kernel_rfl) rfl #[.string a0] rfl (by (try simp only [List.map_toArray, List.map_cons, List.map_nil]); first | done | rfl | (simp only [List.length_drop, List.length_take]; rfl)) ?_; (with_reducible refine (num_PutText.calls a0 t131 _ A10.out).mono ?_); rintro e w21 ⟨v132, rfl, ho0, hb⟩; refine ⟨_, rfl, ?_⟩; have n0_ := Aside0.mk (Kd.R_lower ho0 (below_size (by repeat (first | (with_reducible first | exact HB.out | apply below_alloc | apply pw_below_drewN | apply below_drew1) | exact HB.out)))); have n1_ := Aside0.mk (below_step (by repeat (first | (with_reducible first | exact HB.out | apply below_alloc | apply pw_below_drewN | apply below_drew1) | exact HB.out)) hb); clear HB; have HO133 := n0_; have HB := n1_; clear n0_ n1_; (try clear hb); (try clear hb2); (try clear hk); (try clear hi); (try clear ho0); obtain ⟨Ao22, co22, eo22⟩ := Kd.R_slice HO133.out; subst eo22) | ((with_reducible refine gate_callee (f := 13) rfl ?_); refine goesL_ (some 32) rfl rfl Try.func13 (by kernel_rfl) rfl #[.slice Ao22 t131.length co22, .int .i64 0, .int .i64 (wrap64 ((a0.size : Int) + (wrap64 (a1))))] rfl (by (try simp only [List.map_toArray, List.map_cons, List.map_nil]); first | done | rfl | (simp only [List.length_drop, List.length_take]; rfl)) ?_; (with_reducible refine (num_GetText.calls _ _ t131 0 (wrap64 ((a0.size : Int) + (wrap64 (a1)))) t134 t135 t136 _ ?side1 ?side2 A11.out).mono ?_); (case side1 => repeat (first | exact (Kd.R_reads' HO133.out).2.2 | (with_reducible refine Kd.C_alloc ?_ _) | (with_reducible refine Kd.C_drewN ?_ _) | (with_reducible refine Kd.C_drew ?_))); (case side2 => exact (Kd.R_reads' HO133.out).2.1); rintro e w' ⟨rfl, ⟨nd, rfl⟩⟩; refine ⟨_, rfl, ?_⟩) | ((with_reducible refine gate_callee (f := 13) rfl ?_); refine goesL_ (some 45) rfl rfl Try.func13 (by kernel_rfl) rfl #[.slice Ao22 t131.length co22, .int .i64 0, .int .i64 (wrap64 ((wrap64 ((a0.size : Int) - 1)) - (wrap64 (Int.tmod a1 3))))] rfl (by (try simp only [List.map_toArray, List.map_cons, List.map_nil]); first | done | rfl | (simp only [List.length_drop, List.length_take]; rfl)) ?_; (with_reducible refine (num_GetText.calls _ _ t131 0 (wrap64 ((wrap64 ((a0.size : Int) - 1)) - (wrap64 (Int.tmod a1 3)))) t137 t138 t139 _ ?side1 ?side2 A12.out).mono ?_); (case side1 => repeat (first | exact (Kd.R_reads' HO133.out).2.2 | (with_reducible refine Kd.C_alloc ?_ _) | (with_reducible refine Kd.C_drewN ?_ _) | (with_reducible refine Kd.C_drew ?_))); (case side2 => exact (Kd.R_reads' HO133.out).2.1); rintro e w' ⟨rfl, ⟨nd, rfl⟩⟩; refine ⟨_, rfl, ?_⟩; have q23 : ((ji14) : Int) ≤ ((t131.length : Int) : Int) := of_decide_eq_true (by first | (with_reducible assumption) | assumption); obtain ⟨i023, hi023, _, hsz23, _⟩ := info_parts info5; have hroom23 : t131.length ≤ co22 := (Kd.R_reads' HO133.out).2.1; have hC23 : Kd.C (Kd.int .u8) _ Ao22 t131.length t131 := (Kd.R_reads' HO133.out).2.2; have hcut23 := cut_to (P := Try.prog) 23 5 .i64 Try.underlying23 hi023 Ao22 t131.length co22 (ji14) (of_decide_eq_true (by first | (with_reducible assumption) | assumption)) q23 hroom23; have hr23 := Kd.C_take (m := ((ji14) : Int).toNat) hC23 (by omega); have hy23 : y140.length = ((ji14) : Int).toNat := (by rw [Ny140.out, List.length_take]; omega); rw [← Ny140.out] at hr23; rw [← hy23] at hcut23; have HR143 := Aside0.mk hr23; have HC143 := Aside0.mk (show y140.length ≤ co22 from by omega); clear hr23 hC23 hroom23 hi023 hsz23; have KY23 := Aside0.mk hy23; clear hy23; have KL23 := Aside0.mk (show ((ji14) : Int).toNat ≤ t131.length from by omega); replace q23 := eq_true q23) | ((with_reducible refine gate_callee (f := 13) rfl ?_); refine goesL_ (some 58) rfl rfl Try.func13 (by kernel_rfl) rfl #[.slice Ao22 y140.length co22, .int .i64 0, .int .i64 300] rfl (by (try simp only [List.map_toArray, List.map_cons, List.map_nil]); first | done | rfl | (simp only [List.length_drop, List.length_take]; rfl)) ?_; (with_reducible refine (num_GetText.calls _ _ y140 0 300 t144 t145 t146 _ ?side1 ?side2 A17.out).mono ?_); (case side1 => repeat (first | exact (by repeat (first | (with_reducible exact HR143.out) | (with_reducible refine Kd.C_alloc ?_ _) | (with_reducible refine Kd.C_drewN ?_ _) | (with_reducible refine Kd.C_drew ?_) | exact HR143.out)) | (with_reducible refine Kd.C_alloc ?_ _) | (with_reducible refine Kd.C_drewN ?_ _) | (with_reducible refine Kd.C_drew ?_))); (case side2 => exact HC143.out); rintro e w' ⟨rfl, ⟨nd, rfl⟩⟩; refine ⟨_, rfl, ?_⟩))
                  go_ret
                  exact ⟨by first | rfl | (simp [errW_none, errW_some] <;> rfl) | (simp only [← hji13, ← hji14]; first | rfl | (simp [errW_none, errW_some] <;> rfl)) | (simp [*, errW_none, errW_some] <;> rfl), by repeat (first | (with_reducible first | exact HB.out | apply below_alloc | apply pw_below_drewN | apply below_drew1) | exact HB.out)⟩
                · rw [if_neg c20] at H
                  have c20b0 : ((a0.size : Int) == 0) = false := beq_eq_false_iff_ne.mpr c20
                  have c20b1 : ((a0.size : Int) != 0) = true := bne_iff_ne.mpr c20
                  obtain rfl := Option.some.inj H
                  go_wp2_with (first | ((with_reducible refine gate_callee (f := 12) rfl ?_); refine goesL_ (some 24) rfl rfl Try.func12 (by kernel_rfl) rfl #[.string a0] rfl (by (try simp only [List.map_toArray, List.map_cons, List.map_nil]); first | done | rfl | (simp only [List.length_drop, List.length_take]; rfl)) ?_; (with_reducible refine (num_PutText.calls a0 t131 _ A10.out).mono ?_); rintro e w24 ⟨v132, rfl, ho0, hb⟩; refine ⟨_, rfl, ?_⟩; have n0_ := Aside0.mk (Kd.R_lower ho0 (below_size (by repeat (first | (with_reducible first | exact HB.out | apply below_alloc | apply pw_below_drewN | apply below_drew1) | exact HB.out)))); have n1_ := Aside0.mk (below_step (by repeat (first | (with_reducible first | exact HB.out | apply below_alloc | apply pw_below_drewN | apply below_drew1) | exact HB.out)) hb); clear HB; have HO133 := n0_; have HB := n1_; clear n0_ n1_; (try clear hb); (try clear hb2); (try clear hk); (try clear hi); (try clear ho0); obtain ⟨Ao25, co25, eo25⟩ := Kd.R_slice HO133.out; subst eo25) | ((with_reducible refine gate_callee (f := 13) rfl ?_); refine goesL_ (some 32) rfl rfl Try.func13 (by kernel_rfl) rfl #[.slice Ao25 t131.length co25, .int .i64 0, .int .i64 (wrap64 ((a0.size : Int) + (wrap64 (a1))))] rfl (by (try simp only [List.map_toArray, List.map_cons, List.map_nil]); first | done | rfl | (simp only [List.length_drop, List.length_take]; rfl)) ?_; (with_reducible refine (num_GetText.calls _ _ t131 0 (wrap64 ((a0.size : Int) + (wrap64 (a1)))) t134 t135 t136 _ ?side1 ?side2 A11.out).mono ?_); (case side1 => repeat (first | exact (Kd.R_reads' HO133.out).2.2 | (with_reducible refine Kd.C_alloc ?_ _) | (with_reducible refine Kd.C_drewN ?_ _) | (with_reducible refine Kd.C_drew ?_))); (case side2 => exact (Kd.R_reads' HO133.out).2.1); rintro e w' ⟨rfl, ⟨nd, rfl⟩⟩; refine ⟨_, rfl, ?_⟩) | ((with_reducible refine gate_callee (f := 13) rfl ?_); refine goesL_ (some 45) rfl rfl Try.func13 (by kernel_rfl) rfl #[.slice Ao25 t131.length co25, .int .i64 0, .int .i64 (wrap64 ((wrap64 ((a0.size : Int) - 1)) - (wrap64 (Int.tmod a1 3))))] rfl (by (try simp only [List.map_toArray, List.map_cons, List.map_nil]); first | done | rfl | (simp only [List.length_drop, List.length_take]; rfl)) ?_; (with_reducible refine (num_GetText.calls _ _ t131 0 (wrap64 ((wrap64 ((a0.size : Int) - 1)) - (wrap64 (Int.tmod a1 3)))) t137 t138 t139 _ ?side1 ?side2 A12.out).mono ?_); (case side1 => repeat (first | exact (Kd.R_reads' HO133.out).2.2 | (with_reducible refine Kd.C_alloc ?_ _) | (with_reducible refine Kd.C_drewN ?_ _) | (with_reducible refine Kd.C_drew ?_))); (case side2 => exact (Kd.R_reads' HO133.out).2.1); rintro e w' ⟨rfl, ⟨nd, rfl⟩⟩; refine ⟨_, rfl, ?_⟩; have q26 : ((ji14) : Int) ≤ ((t131.length : Int) : Int) := of_decide_eq_true (by first | (with_reducible assumption) | assumption); obtain ⟨i026, hi026, _, hsz26, _⟩ := info_parts info5; have hroom26 : t131.length ≤ co25 := (Kd.R_reads' HO133.out).2.1; have hC26 : Kd.C (Kd.int .u8) _ Ao25 t131.length t131 := (Kd.R_reads' HO133.out).2.2; have hcut26 := cut_to (P := Try.prog) 23 5 .i64 Try.underlying23 hi026 Ao25 t131.length co25 (ji14) (of_decide_eq_true (by first | (with_reducible assumption) | assumption)) q26 hroom26; have hr26 := Kd.C_take (m := ((ji14) : Int).toNat) hC26 (by omega); have hy26 : y140.length = ((ji14) : Int).toNat := (by rw [Ny140.out, List.length_take]; omega); rw [← Ny140.out] at hr26; rw [← hy26] at hcut26; have HR143 := Aside0.mk hr26; have HC143 := Aside0.mk (show y140.length ≤ co25 from by omega); clear hr26 hC26 hroom26 hi026 hsz26; have KY26 := Aside0.mk hy26; clear hy26; have KL26 := Aside0.mk (show ((ji14) : Int).toNat ≤ t131.length from by omega); replace q26 := eq_true q26) | ((with_reducible refine gate_callee (f := 13) rfl ?_); refine goesL_ (some 58) rfl rfl Try.func13 (by kernel_rfl) rfl #[.slice Ao25 y140.length co25, .int .i64 0, .int .i64 300] rfl (by (try simp only [List.map_toArray, List.map_cons, List.map_nil]); first | done | rfl | (simp only [List.length_drop, List.length_take]; rfl)) ?_; (with_reducible refine (num_GetText.calls _ _ y140 0 300 t144 t145 t146 _ ?side1 ?side2 A17.out).mono ?_); (case side1 => repeat (first | exact (by repeat (first | (with_reducible exact HR143.out) | (with_reducible refine Kd.C_alloc ?_ _) | (with_reducible refine Kd.C_drewN ?_ _) | (with_reducible refine Kd.C_drew ?_) | exact HR143.out)) | (with_reducible refine Kd.C_alloc ?_ _) | (with_reducible refine Kd.C_drewN ?_ _) | (with_reducible refine Kd.C_drew ?_))); (case side2 => exact HC143.out); rintro e w' ⟨rfl, ⟨nd, rfl⟩⟩; refine ⟨_, rfl, ?_⟩))
                  go_ret
                  exact ⟨by first | rfl | (simp [errW_none, errW_some] <;> rfl) | (simp only [← hji13, ← hji14]; first | rfl | (simp [errW_none, errW_some] <;> rfl)) | (simp [*, errW_none, errW_some] <;> rfl), by repeat (first | (with_reducible first | exact HB.out | apply below_alloc | apply pw_below_drewN | apply below_drew1) | exact HB.out)⟩
              · rw [if_neg c19] at H
                have c19b0 : (t139 == 3) = false := beq_eq_false_iff_ne.mpr c19
                have c19b1 : (t139 != 3) = true := bne_iff_ne.mpr c19
                obtain rfl := Option.some.inj H
                go_wp2_with (first | ((with_reducible refine gate_callee (f := 12) rfl ?_); refine goesL_ (some 24) rfl rfl Try.func12 (by kernel_rfl) rfl #[.string a0] rfl (by (try simp only [List.map_toArray, List.map_cons, List.map_nil]); first | done | rfl | (simp only [List.length_drop, List.length_take]; rfl)) ?_; (with_reducible refine (num_PutText.calls a0 t131 _ A10.out).mono ?_); rintro e w27 ⟨v132, rfl, ho0, hb⟩; refine ⟨_, rfl, ?_⟩; have n0_ := Aside0.mk (Kd.R_lower ho0 (below_size (by repeat (first | (with_reducible first | exact HB.out | apply below_alloc | apply pw_below_drewN | apply below_drew1) | exact HB.out)))); have n1_ := Aside0.mk (below_step (by repeat (first | (with_reducible first | exact HB.out | apply below_alloc | apply pw_below_drewN | apply below_drew1) | exact HB.out)) hb); clear HB; have HO133 := n0_; have HB := n1_; clear n0_ n1_; (try clear hb); (try clear hb2); (try clear hk); (try clear hi); (try clear ho0); obtain ⟨Ao28, co28, eo28⟩ := Kd.R_slice HO133.out; subst eo28) | ((with_reducible refine gate_callee (f := 13) rfl ?_); refine goesL_ (some 32) rfl rfl Try.func13 (by kernel_rfl) rfl #[.slice Ao28 t131.length co28, .int .i64 0, .int .i64 (wrap64 ((a0.size : Int) + (wrap64 (a1))))] rfl (by (try simp only [List.map_toArray, List.map_cons, List.map_nil]); first | done | rfl | (simp only [List.length_drop, List.length_take]; rfl)) ?_; (with_reducible refine (num_GetText.calls _ _ t131 0 (wrap64 ((a0.size : Int) + (wrap64 (a1)))) t134 t135 t136 _ ?side1 ?side2 A11.out).mono ?_); (case side1 => repeat (first | exact (Kd.R_reads' HO133.out).2.2 | (with_reducible refine Kd.C_alloc ?_ _) | (with_reducible refine Kd.C_drewN ?_ _) | (with_reducible refine Kd.C_drew ?_))); (case side2 => exact (Kd.R_reads' HO133.out).2.1); rintro e w' ⟨rfl, ⟨nd, rfl⟩⟩; refine ⟨_, rfl, ?_⟩) | ((with_reducible refine gate_callee (f := 13) rfl ?_); refine goesL_ (some 45) rfl rfl Try.func13 (by kernel_rfl) rfl #[.slice Ao28 t131.length co28, .int .i64 0, .int .i64 (wrap64 ((wrap64 ((a0.size : Int) - 1)) - (wrap64 (Int.tmod a1 3))))] rfl (by (try simp only [List.map_toArray, List.map_cons, List.map_nil]); first | done | rfl | (simp only [List.length_drop, List.length_take]; rfl)) ?_; (with_reducible refine (num_GetText.calls _ _ t131 0 (wrap64 ((wrap64 ((a0.size : Int) - 1)) - (wrap64 (Int.tmod a1 3)))) t137 t138 t139 _ ?side1 ?side2 A12.out).mono ?_); (case side1 => repeat (first | exact (Kd.R_reads' HO133.out).2.2 | (with_reducible refine Kd.C_alloc ?_ _) | (with_reducible refine Kd.C_drewN ?_ _) | (with_reducible refine Kd.C_drew ?_))); (case side2 => exact (Kd.R_reads' HO133.out).2.1); rintro e w' ⟨rfl, ⟨nd, rfl⟩⟩; refine ⟨_, rfl, ?_⟩; have q29 : ((ji14) : Int) ≤ ((t131.length : Int) : Int) := of_decide_eq_true (by first | (with_reducible assumption) | assumption); obtain ⟨i029, hi029, _, hsz29, _⟩ := info_parts info5; have hroom29 : t131.length ≤ co28 := (Kd.R_reads' HO133.out).2.1; have hC29 : Kd.C (Kd.int .u8) _ Ao28 t131.length t131 := (Kd.R_reads' HO133.out).2.2; have hcut29 := cut_to (P := Try.prog) 23 5 .i64 Try.underlying23 hi029 Ao28 t131.length co28 (ji14) (of_decide_eq_true (by first | (with_reducible assumption) | assumption)) q29 hroom29; have hr29 := Kd.C_take (m := ((ji14) : Int).toNat) hC29 (by omega); have hy29 : y140.length = ((ji14) : Int).toNat := (by rw [Ny140.out, List.length_take]; omega); rw [← Ny140.out] at hr29; rw [← hy29] at hcut29; have HR143 := Aside0.mk hr29; have HC143 := Aside0.mk (show y140.length ≤ co28 from by omega); clear hr29 hC29 hroom29 hi029 hsz29; have KY29 := Aside0.mk hy29; clear hy29; have KL29 := Aside0.mk (show ((ji14) : Int).toNat ≤ t131.length from by omega); replace q29 := eq_true q29) | ((with_reducible refine gate_callee (f := 13) rfl ?_); refine goesL_ (some 58) rfl rfl Try.func13 (by kernel_rfl) rfl #[.slice Ao28 y140.length co28, .int .i64 0, .int .i64 300] rfl (by (try simp only [List.map_toArray, List.map_cons, List.map_nil]); first | done | rfl | (simp only [List.length_drop, List.length_take]; rfl)) ?_; (with_reducible refine (num_GetText.calls _ _ y140 0 300 t144 t145 t146 _ ?side1 ?side2 A17.out).mono ?_); (case side1 => repeat (first | exact (by repeat (first | (with_reducible exact HR143.out) | (with_reducible refine Kd.C_alloc ?_ _) | (with_reducible refine Kd.C_drewN ?_ _) | (with_reducible refine Kd.C_drew ?_) | exact HR143.out)) | (with_reducible refine Kd.C_alloc ?_ _) | (with_reducible refine Kd.C_drewN ?_ _) | (with_reducible refine Kd.C_drew ?_))); (case side2 => exact HC143.out); rintro e w' ⟨rfl, ⟨nd, rfl⟩⟩; refine ⟨_, rfl, ?_⟩))
                go_ret
                exact ⟨by first | rfl | (simp [errW_none, errW_some] <;> rfl) | (simp only [← hji13, ← hji14]; first | rfl | (simp [errW_none, errW_some] <;> rfl)) | (simp [*, errW_none, errW_some] <;> rfl), by repeat (first | (with_reducible first | exact HB.out | apply below_alloc | apply pw_below_drewN | apply below_drew1) | exact HB.out)⟩
            · rw [if_neg c18] at H
              have c18b0 : (t136 == 0) = false := beq_eq_false_iff_ne.mpr c18
              have c18b1 : (t136 != 0) = true := bne_iff_ne.mpr c18
              obtain rfl := Option.some.inj H
              go_wp2_with (first | ((with_reducible refine gate_callee (f := 12) rfl ?_); refine goesL_ (some 24) rfl rfl Try.func12 (by kernel_rfl) rfl #[.string a0] rfl (by (try simp only [List.map_toArray, List.map_cons, List.map_nil]); first | done | rfl | (simp only [List.length_drop, List.length_take]; rfl)) ?_; (with_reducible refine (num_PutText.calls a0 t131 _ A10.out).mono ?_); rintro e w30 ⟨v132, rfl, ho0, hb⟩; refine ⟨_, rfl, ?_⟩; have n0_ := Aside0.mk (Kd.R_lower ho0 (below_size (by repeat (first | (with_reducible first | exact HB.out | apply below_alloc | apply pw_below_drewN | apply below_drew1) | exact HB.out)))); have n1_ := Aside0.mk (below_step (by repeat (first | (with_reducible first | exact HB.out | apply below_alloc | apply pw_below_drewN | apply below_drew1) | exact HB.out)) hb); clear HB; have HO133 := n0_; have HB := n1_; clear n0_ n1_; (try clear hb); (try clear hb2); (try clear hk); (try clear hi); (try clear ho0); obtain ⟨Ao31, co31, eo31⟩ := Kd.R_slice HO133.out; subst eo31) | ((with_reducible refine gate_callee (f := 13) rfl ?_); refine goesL_ (some 32) rfl rfl Try.func13 (by kernel_rfl) rfl #[.slice Ao31 t131.length co31, .int .i64 0, .int .i64 (wrap64 ((a0.size : Int) + (wrap64 (a1))))] rfl (by (try simp only [List.map_toArray, List.map_cons, List.map_nil]); first | done | rfl | (simp only [List.length_drop, List.length_take]; rfl)) ?_; (with_reducible refine (num_GetText.calls _ _ t131 0 (wrap64 ((a0.size : Int) + (wrap64 (a1)))) t134 t135 t136 _ ?side1 ?side2 A11.out).mono ?_); (case side1 => repeat (first | exact (Kd.R_reads' HO133.out).2.2 | (with_reducible refine Kd.C_alloc ?_ _) | (with_reducible refine Kd.C_drewN ?_ _) | (with_reducible refine Kd.C_drew ?_))); (case side2 => exact (Kd.R_reads' HO133.out).2.1); rintro e w' ⟨rfl, ⟨nd, rfl⟩⟩; refine ⟨_, rfl, ?_⟩) | ((with_reducible refine gate_callee (f := 13) rfl ?_); refine goesL_ (some 45) rfl rfl Try.func13 (by kernel_rfl) rfl #[.slice Ao31 t131.length co31, .int .i64 0, .int .i64 (wrap64 ((wrap64 ((a0.size : Int) - 1)) - (wrap64 (Int.tmod a1 3))))] rfl (by (try simp only [List.map_toArray, List.map_cons, List.map_nil]); first | done | rfl | (simp only [List.length_drop, List.length_take]; rfl)) ?_; (with_reducible refine (num_GetText.calls _ _ t131 0 (wrap64 ((wrap64 ((a0.size : Int) - 1)) - (wrap64 (Int.tmod a1 3)))) t137 t138 t139 _ ?side1 ?side2 A12.out).mono ?_); (case side1 => repeat (first | exact (Kd.R_reads' HO133.out).2.2 | (with_reducible refine Kd.C_alloc ?_ _) | (with_reducible refine Kd.C_drewN ?_ _) | (with_reducible refine Kd.C_drew ?_))); (case side2 => exact (Kd.R_reads' HO133.out).2.1); rintro e w' ⟨rfl, ⟨nd, rfl⟩⟩; refine ⟨_, rfl, ?_⟩; have q32 : ((ji14) : Int) ≤ ((t131.length : Int) : Int) := of_decide_eq_true (by first | (with_reducible assumption) | assumption); obtain ⟨i032, hi032, _, hsz32, _⟩ := info_parts info5; have hroom32 : t131.length ≤ co31 := (Kd.R_reads' HO133.out).2.1; have hC32 : Kd.C (Kd.int .u8) _ Ao31 t131.length t131 := (Kd.R_reads' HO133.out).2.2; have hcut32 := cut_to (P := Try.prog) 23 5 .i64 Try.underlying23 hi032 Ao31 t131.length co31 (ji14) (of_decide_eq_true (by first | (with_reducible assumption) | assumption)) q32 hroom32; have hr32 := Kd.C_take (m := ((ji14) : Int).toNat) hC32 (by omega); have hy32 : y140.length = ((ji14) : Int).toNat := (by rw [Ny140.out, List.length_take]; omega); rw [← Ny140.out] at hr32; rw [← hy32] at hcut32; have HR143 := Aside0.mk hr32; have HC143 := Aside0.mk (show y140.length ≤ co31 from by omega); clear hr32 hC32 hroom32 hi032 hsz32; have KY32 := Aside0.mk hy32; clear hy32; have KL32 := Aside0.mk (show ((ji14) : Int).toNat ≤ t131.length from by omega); replace q32 := eq_true q32) | ((with_reducible refine gate_callee (f := 13) rfl ?_); refine goesL_ (some 58) rfl rfl Try.func13 (by kernel_rfl) rfl #[.slice Ao31 y140.length co31, .int .i64 0, .int .i64 300] rfl (by (try simp only [List.map_toArray, List.map_cons, List.map_nil]); first | done | rfl | (simp only [List.length_drop, List.length_take]; rfl)) ?_; (with_reducible refine (num_GetText.calls _ _ y140 0 300 t144 t145 t146 _ ?side1 ?side2 A17.out).mono ?_); (case side1 => repeat (first | exact (by repeat (first | (with_reducible exact HR143.out) | (with_reducible refine Kd.C_alloc ?_ _) | (with_reducible refine Kd.C_drewN ?_ _) | (with_reducible refine Kd.C_drew ?_) | exact HR143.out)) | (with_reducible refine Kd.C_alloc ?_ _) | (with_reducible refine Kd.C_drewN ?_ _) | (with_reducible refine Kd.C_drew ?_))); (case side2 => exact HC143.out); rintro e w' ⟨rfl, ⟨nd, rfl⟩⟩; refine ⟨_, rfl, ?_⟩))
              go_ret
              exact ⟨by first | rfl | (simp [errW_none, errW_some] <;> rfl) | (simp only [← hji13, ← hji14]; first | rfl | (simp [errW_none, errW_some] <;> rfl)) | (simp [*, errW_none, errW_some] <;> rfl), by repeat (first | (with_reducible first | exact HB.out | apply below_alloc | apply pw_below_drewN | apply below_drew1) | exact HB.out)⟩
          · rw [if_neg c16] at H
            exact absurd H (by simp)
        · rw [if_neg c15] at H
          exact absurd H (by simp)

/-- THE ONE PURE STATEMENT of telemeterlaw01_NumLong: yours. -/
def telemeterlaw01_NumLong.Pure : Prop := ∀ (a0 : ByteArray) (a1 : Int), a0.size ≤ 140737488351232 → (Lit.int .u8 a1).wf = true → ∃ k, telemeterlaw01_NumLong.f k a0 a1 = some true
theorem telemeterlaw01_NumLong.walk (P : telemeterlaw01_NumLong.Pure) (a0 : ByteArray) (a1 : Int) (w : World) (w0 : a0.size ≤ 140737488351232) (w1 : (Lit.int .u8 a1).wf = true) :
    Calls Try.prog 3 #[.string a0, .int .u8 a1] w fun e w' => e = .returned (.bool true) ∧ Below w.heap.size w w' := by
  obtain ⟨k, h⟩ := P a0 a1 w0 w1
  refine (telemeterlaw01_NumLong.calls k a0 a1 true w h).mono ?_
  rintro e w' ⟨rfl, hd⟩
  exact ⟨rfl, hd⟩

end Go.Proofs.Ytihihobeaghbkaa.Px
