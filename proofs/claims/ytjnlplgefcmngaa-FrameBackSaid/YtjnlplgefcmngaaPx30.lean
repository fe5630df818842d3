-- Laid by a program of this session (wip/xprint.py: the kit's print.py, with functions given by hand). Lean checks it.
import Derived.Test.YtjnlplgefcmngaaPx0
import Derived.Test.YtjnlplgefcmngaaPx8
import Derived.Test.YtjnlplgefcmngaaPx13
import Derived.Test.YtjnlplgefcmngaaPx19
import Derived.Test.YtjnlplgefcmngaaPx20
namespace Go.Proofs.Ytjnlplgefcmngaa.Px
open Go.RowKit Go.Proofs.YtjnlplgefcmngaaW.PrintWords Go.Proofs.YtjnlplgefcmngaaW.PrintLast Go.Proofs.YtjnlplgefcmngaaW.PrintMore
attribute [local go_sem] max2_int min2_int max_two min_two max_three min_three max_four min_four   -- for this text's walks alone
set_option linter.unusedVariables false
set_option linter.unusedSimpArgs false

/-! ### telemeterlaw02_FrameBack: function 9 -/
mutual
def telemeterlaw02_FrameBack.l0 : Nat → List (List Int) → Int → List Int → Int → Int → Option (Bool)
  | 0, _, _, _, _, _ => none
  | k + 1, x0, x1, x5, x6, x7 => if x7 < (x0.length : Int) then (if 0 ≤ x7 then (if ((rd_L1 x0 x7).length : Int) > 60 then ((telemeterlaw02_known.f).bind fun t341 => (some t341)) else ((frame_Frame.f (rd_L1 x0 x7)).bind fun bt343 => (if x5.length + bt343.1.length < 140737488355328 then (telemeterlaw02_FrameBack.l0 k x0 x1 (x5 ++ bt343.1) (x5.length : Int) (wrap64 (x7 + 1))) else (none)))) else (none)) else ((frame_Scan.f k x5).bind fun bt350 => ((telemeterref02_Same.f k bt350.1 x0).bind fun t355 => (if t355 = true then (if bt350.2.1 = (x5.length : Int) then (if bt350.2.2 = 0 then (telemeterlaw02_FrameBack.j1 k x0 x1 x5 x6 bt350.2.1 bt350.2.2 t355 ((x0.length : Int) == 0)) else (telemeterlaw02_FrameBack.j1 k x0 x1 x5 x6 bt350.2.1 bt350.2.2 t355 true)) else (telemeterlaw02_FrameBack.j1 k x0 x1 x5 x6 bt350.2.1 bt350.2.2 t355 true)) else (telemeterlaw02_FrameBack.j1 k x0 x1 x5 x6 bt350.2.1 bt350.2.2 t355 true))))
def telemeterlaw02_FrameBack.j1 : Nat → List (List Int) → Int → List Int → Int → Int → Int → Bool → Bool → Option (Bool)
  | 0, _, _, _, _, _, _, _, _ => none
  | k + 1, x0, x1, x5, x6, x11, x12, x13, x74 => if x74 = true then ((telemeterlaw02_known.f).bind fun t356 => (if t356 = true then (if x13 = true then (if x11 = (x5.length : Int) then (some (x12 == 0)) else (some false)) else (some false)) else (some false))) else (if (wrap64 ((x5.length : Int) - x6)) = 0 then (none) else (if 0 ≤ (wrap64 ((x5.length : Int) - (wrap64 (1 + (Int.tmod (wrap64 (x1)) (wrap64 ((x5.length : Int) - x6))))))) then (if (wrap64 ((x5.length : Int) - (wrap64 (1 + (Int.tmod (wrap64 (x1)) (wrap64 ((x5.length : Int) - x6))))))) ≤ (x5.length : Int) then ((frame_Scan.f k (x5.take ((wrap64 ((x5.length : Int) - (wrap64 (1 + (Int.tmod (wrap64 (x1)) (wrap64 ((x5.length : Int) - x6))))))) : Int).toNat)).bind fun bt361 => (if 0 ≤ (wrap64 ((x0.length : Int) - 1)) then (if (wrap64 ((x0.length : Int) - 1)) ≤ (x0.length : Int) then ((telemeterref02_Same.f k bt361.1 (x0.take ((wrap64 ((x0.length : Int) - 1)) : Int).toNat)).bind fun t370 => ((telemeterlaw02_known.f).bind fun t371 => (if t371 = true then (if t370 = true then (if bt361.2.1 = x6 then (if bt361.2.2 = 10 then (some true) else (if (wrap64 (1 + (Int.tmod (wrap64 (x1)) (wrap64 ((x5.length : Int) - x6))))) = (wrap64 ((x5.length : Int) - x6)) then (some (bt361.2.2 == 0)) else (some false))) else (some false)) else (some false)) else (some false)))) else (none)) else (none))) else (none)) else (none)))
end
def telemeterlaw02_FrameBack.f (k : Nat) (l0 : List (List Int)) (a1 : Int) : Option (Bool) := if (l0.length : Int) > 8 then ((telemeterlaw02_known.f).bind fun t339 => (some t339)) else (telemeterlaw02_FrameBack.l0 k l0 a1 ([] : List Int) 0 0)
theorem telemeterlaw02_FrameBack.mono_l : ∀ k, (∀ y0 y1 y2 y3 y4, LeO (telemeterlaw02_FrameBack.l0 k y0 y1 y2 y3 y4) (telemeterlaw02_FrameBack.l0 (k + 1) y0 y1 y2 y3 y4)) ∧ (∀ y0 y1 y2 y3 y4 y5 y6 y7, LeO (telemeterlaw02_FrameBack.j1 k y0 y1 y2 y3 y4 y5 y6 y7) (telemeterlaw02_FrameBack.j1 (k + 1) y0 y1 y2 y3 y4 y5 y6 y7))
  | 0 => ⟨fun _ _ _ _ _ r h => by simp [telemeterlaw02_FrameBack.l0] at h, fun _ _ _ _ _ _ _ _ r h => by simp [telemeterlaw02_FrameBack.j1] at h⟩
  | k + 1 => by
    obtain ⟨ih0, ih1⟩ := telemeterlaw02_FrameBack.mono_l k
    refine ⟨?_, ?_⟩
    · intro y0 y1 y2 y3 y4
      unfold telemeterlaw02_FrameBack.l0
      repeat' first
      | (with_reducible exact ih0 _ _ _ _ _)
      | (with_reducible exact ih1 _ _ _ _ _ _ _ _)
      | (with_reducible exact frame_Scan.mono _ _)
      | (with_reducible exact telemeterref02_Same.mono _ _ _)
      | (with_reducible exact LeO.refl _)
      | (with_reducible exact LeO.none _)
      | (with_reducible refine LeO.ite ?_ ?_)
      | (with_reducible refine LeO.bind ?_ (fun _ => ?_))
      | exact ih0 _ _ _ _ _
      | exact ih1 _ _ _ _ _ _ _ _
      | exact frame_Scan.mono _ _
      | exact telemeterref02_Same.mono _ _ _
      | exact LeO.none _
      | refine LeO.ite ?_ ?_
      | refine LeO.bind ?_ (fun _ => ?_)
    · intro y0 y1 y2 y3 y4 y5 y6 y7
      unfold telemeterlaw02_FrameBack.j1
      repeat' first
      | (with_reducible exact ih0 _ _ _ _ _)
      | (with_reducible exact ih1 _ _ _ _ _ _ _ _)
      | (with_reducible exact frame_Scan.mono _ _)
      | (with_reducible exact telemeterref02_Same.mono _ _ _)
      | (with_reducible exact LeO.refl _)
      | (with_reducible exact LeO.none _)
      | (with_reducible refine LeO.ite ?_ ?_)
      | (with_reducible refine LeO.bind ?_ (fun _ => ?_))
      | exact ih0 _ _ _ _ _
      | exact ih1 _ _ _ _ _ _ _ _
      | exact frame_Scan.mono _ _
      | exact telemeterref02_Same.mono _ _ _
      | exact LeO.none _
      | refine LeO.ite ?_ ?_
      | refine LeO.bind ?_ (fun _ => ?_)
theorem telemeterlaw02_FrameBack.mono : ∀ a0 a1 k, LeO (telemeterlaw02_FrameBack.f k a0 a1) (telemeterlaw02_FrameBack.f (k + 1) a0 a1) := by
  intro a0 a1 k
  obtain ⟨ih0, ih1⟩ := telemeterlaw02_FrameBack.mono_l k
  unfold telemeterlaw02_FrameBack.f
  repeat' first
      | (with_reducible exact ih0 _ _ _ _ _)
      | (with_reducible exact ih1 _ _ _ _ _ _ _ _)
      | (with_reducible exact frame_Scan.mono _ _)
      | (with_reducible exact telemeterref02_Same.mono _ _ _)
      | (with_reducible exact LeO.refl _)
      | (with_reducible exact LeO.none _)
      | (with_reducible refine LeO.ite ?_ ?_)
      | (with_reducible refine LeO.bind ?_ (fun _ => ?_))
      | exact ih0 _ _ _ _ _
      | exact ih1 _ _ _ _ _ _ _ _
      | exact frame_Scan.mono _ _
      | exact telemeterref02_Same.mono _ _ _
      | exact LeO.none _
      | refine LeO.ite ?_ ?_
      | refine LeO.bind ?_ (fun _ => ?_)
set_option maxHeartbeats 8000000 in
set_option maxRecDepth 100000 in
theorem telemeterlaw02_FrameBack.calls (k : Nat) (A0 : Option Addr) (c0 : Nat) (l0 : List (List Int)) (a1 : Int) (r : Bool) (w : World) (hr0 : Kd.C (Kd.slice 5 (Kd.int .u8)) w A0 l0.length l0) (hc0 : l0.length ≤ c0) (h : telemeterlaw02_FrameBack.f k l0 a1 = some r) :
    Calls Try.prog 9 #[.slice A0 l0.length c0, .int .u8 a1] w fun e w' => e = .returned (.bool r) ∧ Below w.heap.size w w' := by
  have HR0 := Aside0.mk hr0
  have HC0 := Aside0.mk hc0
  clear hr0 hc0
  have HB := Aside0.mk (Below.refl w.heap.size w)
  have H : (if (l0.length : Int) > 8 then ((telemeterlaw02_known.f).bind fun t339 => (some t339)) else (telemeterlaw02_FrameBack.l0 k l0 a1 ([] : List Int) 0 0)) = some r := h
  clear h
  by_cases c3 : (l0.length : Int) > 8
  · rw [if_pos c3] at H
    have c3b0 : decide (8 < (l0.length : Int)) = true := decide_eq_true c3
    have c3b1 : decide (8 < l0.length) = true := decide_eq_true (by omega)
    clear c3
    replace H := Option.bind_eq_some_iff.mp H
    obtain ⟨t339, A40, H⟩ := H
    replace H : (some t339) = some r := H
    have A4 := Aside0.mk A40
    clear A40
    obtain rfl := Option.some.inj H
    go_enter Try.func9, Try.ntmps9
    go_wp2_with (first | ((with_reducible refine gate_callee (f := 16) rfl ?_); refine goesL_ (some 22) rfl rfl Try.func16 (by kernel_rfl) rfl #[] rfl (by (try simp only [List.map_toArray, List.map_cons, List.map_nil]); first | done | rfl | (simp only [List.length_drop, List.length_take]; rfl)) ?_; (with_reducible refine (telemeterlaw02_known.calls  t339 _ A4.out).mono ?_); rintro e w5 ⟨rfl, hb⟩; refine ⟨_, rfl, ?_⟩; have n0_ := Aside0.mk (below_step (by repeat (first | (with_reducible first | exact HB.out | apply below_alloc | apply pw_below_drewN | apply below_drew1) | exact HB.out)) hb); clear HB; have HB := n0_; clear n0_; (try clear hb); (try clear hb2); (try clear hk); (try clear hi)))
    go_ret
    exact ⟨by first | rfl | (simp [errW_none, errW_some] <;> rfl) | (simp [*, errW_none, errW_some] <;> rfl), by repeat (first | (with_reducible first | exact HB.out | apply below_alloc | apply pw_below_drewN | apply below_drew1) | exact HB.out)⟩
  · rw [if_neg c3] at H
    have c3b0 : decide (8 < (l0.length : Int)) = false := decide_eq_false c3
    have c3b1 : decide (8 < l0.length) = false := decide_eq_false (by omega)
    clear c3
    have H' := Aside0.mk H
    clear H
    go_enter Try.func9, Try.ntmps9
    go_wp2
    go_loopg [5, 6, 7] k (fun kq v5 v6 v7 w' => ∃ (x5_1 : List Int) (x6_1 : Int) (x7_1 : Int), v6 = .int .i64 x6_1 ∧ v7 = .int .i64 x7_1 ∧ Aside0 (telemeterlaw02_FrameBack.l0 kq l0 a1 x5_1 x6_1 x7_1 = some r) ∧ Aside0 (kq ≤ k) ∧ Aside0 (Kd.R (Kd.int .u8) 5 w' w.heap.size (fun _ => True) v5 x5_1) ∧ Aside0 (Below w.heap.size w w'))
    case atStart => exact ⟨(([] : List Int)), (0), (0), (by first | rfl | (simp; done) | (simp [*]; done)), (by first | rfl | (simp; done) | (simp [*]; done)), H', ⟨Nat.le_refl _⟩, ⟨by first | exact Kd.R_nil _ _ _ _ _ | exact Kd.N_nil _ _ _ _ _ | exact Kd.V_nil _ _ _ _ _ | exact Kd.Q_nil _ _ _ _ _ | exact Kd.S_nil _ _ _ _ _⟩, ⟨by repeat (first | (with_reducible first | exact HB.out | apply below_alloc | apply pw_below_drewN | apply below_drew1) | exact HB.out)⟩⟩
    case round =>
      clear H'
      try clear c1
      try clear p2
      try clear c3
      try clear c3b0
      try clear c3b1
      obtain ⟨x5_1, x6_1, x7_1, rfl, rfl, HA, HK1, HO_5, HB⟩ := hrel
      cases gk with
      | zero => exact absurd HA.out (by simp [telemeterlaw02_FrameBack.l0])
      | succ k1 =>
        have H := HA.out
        clear HA
        simp only [telemeterlaw02_FrameBack.l0] at H
        by_cases c6 : x7_1 < (l0.length : Int)
        · rw [if_pos c6] at H
          have c6b0 : decide (x7_1 < (l0.length : Int)) = true := decide_eq_true c6
          clear c6
          by_cases c7 : 0 ≤ x7_1
          · rw [if_pos c7] at H
            have c7b0 : decide (0 ≤ x7_1) = true := decide_eq_true c7
            clear c7
            by_cases c8 : ((rd_L1 l0 x7_1).length : Int) > 60
            · rw [if_pos c8] at H
              have c8b0 : decide (60 < ((rd_L1 l0 x7_1).length : Int)) = true := decide_eq_true c8
              have c8b1 : decide (60 < (rd_L1 l0 x7_1).length) = true := decide_eq_true (by omega)
              clear c8
              replace H := Option.bind_eq_some_iff.mp H
              obtain ⟨t341, A90, H⟩ := H
              replace H : (some t341) = some r := H
              have A9 := Aside0.mk A90
              clear A90
              obtain rfl := Option.some.inj H
              have p340 : 0 ≤ (x7_1 : Int) := of_decide_eq_true (by first | (with_reducible assumption) | assumption)
              have q340 : x7_1 < (l0.length : Int) := of_decide_eq_true (by first | (with_reducible assumption) | assumption)
              obtain ⟨ad340, A340_0, c340_0, e340, hx340_0, hl340_0, hi340_0⟩ := at_L1 HR0.out x7_1 p340 q340
              cases e340
              replace hx340_0 := (HB.out.cell (World.block_lt_of_cell? w _ hx340_0)).trans hx340_0
              have HR340_0 := Aside0.mk hi340_0
              have HC340_0 := Aside0.mk hl340_0
              clear hi340_0 hl340_0
              replace p340 := eq_true p340
              replace q340 := eq_true q340
              go_wp2_with (first | ((with_reducible refine gate_callee (f := 16) rfl ?_); refine goesL_ (some 35) rfl rfl Try.func16 (by kernel_rfl) rfl #[] rfl (by (try simp only [List.map_toArray, List.map_cons, List.map_nil]); first | done | rfl | (simp only [List.length_drop, List.length_take]; rfl)) ?_; (with_reducible refine (telemeterlaw02_known.calls  t341 _ A9.out).mono ?_); rintro e w10 ⟨rfl, hb⟩; refine ⟨_, rfl, ?_⟩; have n0_ := Aside0.mk (Kd.R_below (by (with_reducible repeat (first | apply Kd.R_alloc | apply Kd.R_drewN | apply Kd.R_drew)); exact HO_5.out) hb); have n1_ := Aside0.mk (below_step (by repeat (first | (with_reducible first | exact HB.out | apply below_alloc | apply pw_below_drewN | apply below_drew1) | exact HB.out)) hb); clear HO_5; clear HB; have HO_5 := n0_; have HB := n1_; clear n0_ n1_; (try clear hb); (try clear hb2); (try clear hk); (try clear hi)))
              go_ret
              exact ⟨by first | rfl | (simp [errW_none, errW_some] <;> rfl) | (simp [*, errW_none, errW_some] <;> rfl), by repeat (first | (with_reducible first | exact HB.out | apply below_alloc | apply pw_below_drewN | apply below_drew1) | exact HB.out)⟩
            · rw [if_neg c8] at H
              have c8b0 : decide (60 < ((rd_L1 l0 x7_1).length : Int)) = false := decide_eq_false c8
              have c8b1 : decide (60 < (rd_L1 l0 x7_1).length) = false := decide_eq_false (by omega)
              clear c8
              replace H := Option.bind_eq_some_iff.mp H
              obtain ⟨⟨t343, t346⟩, A110, H⟩ := H
              replace H : (if x5_1.length + t343.length < 140737488355328 then (telemeterlaw02_FrameBack.l0 k1 l0 a1 (x5_1 ++ t343) (x5_1.length : Int) (wrap64 (x7_1 + 1))) else (none)) = some r := H
              have A11 := Aside0.mk A110
              clear A110
              by_cases c12 : x5_1.length + t343.length < 140737488355328
              · rw [if_pos c12] at H
                have LMc12 := Aside0.mk c12
                clear c12
                obtain ⟨y347, hy347⟩ : ∃ y_ : List Int, y_ = (x5_1 ++ t343) := ⟨_, rfl⟩
                replace H : (telemeterlaw02_FrameBack.l0 k1 l0 a1 y347 (x5_1.length : Int) (wrap64 (x7_1 + 1))) = some r := by first | (rw [hy347]; with_reducible exact H) | (have H2_ := (Option.bind_some _ _).symm.trans H; rw [hy347]; with_reducible exact H2_) | (have H2_ := (Option.bind_some _ _).symm.trans H; with_reducible exact H2_) | with_reducible exact H | (rw [hy347]; exact H) | exact H
                have Ny347 := Aside0.mk hy347
                clear hy347
                have H' := Aside0.mk H
                clear H
                have p340 : 0 ≤ (x7_1 : Int) := of_decide_eq_true (by first | (with_reducible assumption) | assumption)
                have q340 : x7_1 < (l0.length : Int) := of_decide_eq_true (by first | (with_reducible assumption) | assumption)
                obtain ⟨ad340, A340_0, c340_0, e340, hx340_0, hl340_0, hi340_0⟩ := at_L1 HR0.out x7_1 p340 q340
                cases e340
                replace hx340_0 := (HB.out.cell (World.block_lt_of_cell? w _ hx340_0)).trans hx340_0
                have HR340_0 := Aside0.mk hi340_0
                have HC340_0 := Aside0.mk hl340_0
                clear hi340_0 hl340_0
                replace p340 := eq_true p340
                replace q340 := eq_true q340
                have p342 : 0 ≤ (x7_1 : Int) := of_decide_eq_true (by first | (with_reducible assumption) | assumption)
                have q342 : x7_1 < (l0.length : Int) := of_decide_eq_true (by first | (with_reducible assumption) | assumption)
                obtain ⟨ad342, A342_0, c342_0, e342, hx342_0, hl342_0, hi342_0⟩ := at_L1 HR0.out x7_1 p342 q342
                obtain rfl : ad340 = ad342 := (by injection e342)
                replace hx342_0 := (HB.out.cell (World.block_lt_of_cell? w _ hx342_0)).trans hx342_0
                have HR342_0 := Aside0.mk hi342_0
                have HC342_0 := Aside0.mk hl342_0
                clear hi342_0 hl342_0
                replace p342 := eq_true p342
                replace q342 := eq_true q342
                have ea_ := Option.some.inj (hx340_0.symm.trans hx342_0)
                injection ea_ with ea_ en_ ec_
                subst ea_
                subst ec_
                clear en_
                go_wp2_with (first | ((with_reducible refine gate_callee (f := 14) rfl ?_); refine goesL_ (some 41) rfl rfl Try.func14 (by kernel_rfl) rfl #[.slice A340_0 (rd_L1 l0 x7_1).length c340_0] rfl (by (try simp only [List.map_toArray, List.map_cons, List.map_nil]); first | done | rfl | (simp only [List.length_drop, List.length_take]; rfl)) ?_; (with_reducible refine (frame_Frame.calls (fun k_ => k_ < w.heap.size) _ _ (rd_L1 l0 x7_1) t343 t346 _ ?side1 A11.out).mono ?_); (case side1 => exact Kd.V_mk HC342_0.out (Kd.F_below (Kd.C_F (Kd.heap_int .u8) HR342_0.out) (by repeat (first | (with_reducible first | exact HB.out | apply below_alloc | apply pw_below_drewN | apply below_drew1) | exact HB.out)))); rintro e w13 ⟨v344, rfl, ho0, hb⟩; refine ⟨_, rfl, ?_⟩; have n0_ := Aside0.mk (Kd.R_elder' (by (with_reducible repeat (first | apply Kd.R_alloc | apply Kd.R_drewN | apply Kd.R_drew)); exact HO_5.out) (Kd.R_base ho0) hb); have n1_ := Aside0.mk (Kd.R_lower (Kd.R_new' (Kd.R_mono (ok' := fun k_ => True) ho0 (fun _ hk_ => trivial)) (Kd.R_lt (by (with_reducible repeat (first | apply Kd.R_alloc | apply Kd.R_drewN | apply Kd.R_drew)); exact HO_5.out))) (below_size (by repeat (first | (with_reducible first | exact HB.out | apply below_alloc | apply pw_below_drewN | apply below_drew1) | exact HB.out)))); have n2_ := Aside0.mk (below_step (by repeat (first | (with_reducible first | exact HB.out | apply below_alloc | apply pw_below_drewN | apply below_drew1) | exact HB.out)) hb); clear HO_5; clear HB; have HO_5 := n0_; have HO345 := n1_; have HB := n2_; clear n0_ n1_ n2_; (try clear hb); (try clear hb2); (try clear hk); (try clear hi); (try clear ho0); obtain ⟨Ao14, co14, eo14⟩ := Kd.R_slice HO_5.out; subst eo14; obtain ⟨Ao16, co16, eo16⟩ := Kd.R_slice HO345.out; subst eo16) | ((with_reducible refine gate_builtin (b := .append) (xs := #[.tmp 46, .tmp 47]) rfl ?_); (try (refine gate_guard (by rfl) ?_; dsimp only)); at_builtin; refine Kd.R_append_rows (Kd.int .u8) (w0 := w) w.heap.size rfl (.tmp 46) (.tmp 47) 23 5 (.int .u8 0) 1 rfl Try.underlying23 info5 rfl (by decide) (by omega) (.slice Ao14 x5_1.length co14) x5_1 t343 _ _ _ (fun k_ => some k_ ≠ (.slice Ao16 t343.length co16 : Value).ownBlock) (fun _ => False) rfl rfl ?aO ?aR (fun _ _ h => h) (fun _ h => h.elim) ?aF ?aB ?aS ?aL ?_; (case aR => repeat (first | exact (Kd.R_reads' HO345.out).2.2 | (with_reducible refine Kd.C_alloc ?_ _) | (with_reducible refine Kd.C_drewN ?_ _) | (with_reducible refine Kd.C_drew ?_))); (case aB => exact (by repeat (first | (with_reducible first | exact HB.out | apply below_alloc | apply pw_below_drewN | apply below_drew1) | exact HB.out))); (case aF => exact (fun k_ hk => Kd.fresh' (Kd.R_lt (by (with_reducible repeat (first | apply Kd.R_alloc | apply Kd.R_drewN | apply Kd.R_drew)); exact HO345.out)) k_ hk)); (case aO => exact (by (with_reducible repeat (first | apply Kd.R_alloc | apply Kd.R_drewN | apply Kd.R_drew)); exact Kd.R_mono HO_5.out (fun _ hk => hk.2))); (case aS => exact (below_size (by repeat (first | (with_reducible first | exact HB.out | apply below_alloc | apply pw_below_drewN | apply below_drew1) | exact HB.out)))); (case aL => have := LMc12.out; omega); intro v348 w15 ho hb hg hat; rw [← Ny347.out] at ho; have n0_ := Aside0.mk (Kd.R_after (ok := (fun _ => True)) (by (with_reducible repeat (first | apply Kd.R_alloc | apply Kd.R_drewN | apply Kd.R_drew)); exact HO345.out) hg hat); have n1_ := Aside0.mk (hb); have n2_ := Aside0.mk (ho); clear HO345; clear HB; clear HO_5; have HO345 := n0_; have HB := n1_; have HO349 := n2_; clear n0_ n1_ n2_; clear ho hb hg hat))
                go_roundg k1
                case measure => have := HK1.out; omega
                case rel => exact ⟨(y347), ((x5_1.length : Int)), (wrap64 (x7_1 + 1)), (by first | rfl | (simp; done) | (simp [*]; done)), (by first | rfl | (simp; done) | (simp [*]; done)), H', ⟨by have := HK1.out; omega⟩, ⟨by (with_reducible repeat (first | apply Kd.R_alloc | apply Kd.R_drewN | apply Kd.R_drew)); exact Kd.R_mono HO349.out (fun _ hk => trivial)⟩, ⟨by repeat (first | (with_reducible first | exact HB.out | apply below_alloc | apply pw_below_drewN | apply below_drew1) | exact HB.out)⟩⟩
              · rw [if_neg c12] at H
                exact absurd H (by simp)
          · rw [if_neg c7] at H
            exact absurd H (by simp)
        · rw [if_neg c6] at H
          have c6b0 : decide (x7_1 < (l0.length : Int)) = false := decide_eq_false c6
          clear c6
          replace H := Option.bind_eq_some_iff.mp H
          obtain ⟨⟨t350, t351, t352⟩, A170, H⟩ := H
          replace H : ((telemeterref02_Same.f k1 t350 l0).bind fun t355 => (if t355 = true then (if t351 = (x5_1.length : Int) then (if t352 = 0 then (telemeterlaw02_FrameBack.j1 k1 l0 a1 x5_1 x6_1 t351 t352 t355 ((l0.length : Int) == 0)) else (telemeterlaw02_FrameBack.j1 k1 l0 a1 x5_1 x6_1 t351 t352 t355 true)) else (telemeterlaw02_FrameBack.j1 k1 l0 a1 x5_1 x6_1 t351 t352 t355 true)) else (telemeterlaw02_FrameBack.j1 k1 l0 a1 x5_1 x6_1 t351 t352 t355 true))) = some r := H
          have A17 := Aside0.mk A170
          clear A170
          replace H := Option.bind_eq_some_iff.mp H
          obtain ⟨t355, A180, H⟩ := H
          replace H : (if t355 = true then (if t351 = (x5_1.length : Int) then (if t352 = 0 then (telemeterlaw02_FrameBack.j1 k1 l0 a1 x5_1 x6_1 t351 t352 t355 ((l0.length : Int) == 0)) else (telemeterlaw02_FrameBack.j1 k1 l0 a1 x5_1 x6_1 t351 t352 t355 true)) else (telemeterlaw02_FrameBack.j1 k1 l0 a1 x5_1 x6_1 t351 t352 t355 true)) else (telemeterlaw02_FrameBack.j1 k1 l0 a1 x5_1 x6_1 t351 t352 t355 true)) = some r := H
          have A18 := Aside0.mk A180
          clear A180
          have HC19 := Aside0.mk H
          clear H
          obtain ⟨Ao20, co20, eo20⟩ := Kd.R_slice HO_5.out
          subst eo20
          go_upto_region 15 with (first | ((with_reducible refine gate_callee (f := 20) rfl ?_); refine goesL_ (some 51) rfl rfl Try.func20 (by kernel_rfl) rfl #[.slice Ao20 x5_1.length co20] rfl (by (try simp only [List.map_toArray, List.map_cons, List.map_nil]); first | done | rfl | (simp only [List.length_drop, List.length_take]; rfl)) ?_; (with_reducible refine (frame_Scan.calls k1 _ _ x5_1 t350 t351 t352 _ ?side1 ?side2 A17.out).mono ?_); (case side1 => repeat (first | exact (Kd.R_reads' HO_5.out).2.2 | (with_reducible refine Kd.C_alloc ?_ _) | (with_reducible refine Kd.C_drewN ?_ _) | (with_reducible refine Kd.C_drew ?_))); (case side2 => exact (Kd.R_reads' HO_5.out).2.1); rintro e w21 ⟨v353, rfl, ho0, hb⟩; refine ⟨_, rfl, ?_⟩; have n0_ := Aside0.mk (Kd.R_below (by (with_reducible repeat (first | apply Kd.R_alloc | apply Kd.R_drewN | apply Kd.R_drew)); exact HO_5.out) hb); have n1_ := Aside0.mk (Kd.S_lower (Kd.S_new' ho0 (Kd.R_lt (by (with_reducible repeat (first | apply Kd.R_alloc | apply Kd.R_drewN | apply Kd.R_drew)); exact HO_5.out))) (below_size (by repeat (first | (with_reducible first | exact HB.out | apply below_alloc | apply pw_below_drewN | apply below_drew1) | exact HB.out)))); have n2_ := Aside0.mk (below_step (by repeat (first | (with_reducible first | exact HB.out | apply below_alloc | apply pw_below_drewN | apply below_drew1) | exact HB.out)) hb); clear HO_5; clear HB; have HO_5 := n0_; have HO354 := n1_; have HB := n2_; clear n0_ n1_ n2_; (try clear hb); (try clear hb2); (try clear hk); (try clear hi); (try clear ho0); obtain ⟨Ao22, co22, eo22⟩ := Kd.S_slice HO354.out; subst eo22) | ((with_reducible refine gate_callee (f := 22) rfl ?_); refine goesL_ (some 57) rfl rfl Try.func22 (by kernel_rfl) rfl #[.slice Ao22 t350.length co22, .slice A0 l0.length c0] rfl (by (try simp only [List.map_toArray, List.map_cons, List.map_nil]); first | done | rfl | (simp only [List.length_drop, List.length_take]; rfl)) ?_; (with_reducible refine (telemeterref02_Same.calls k1 _ _ t350 _ _ l0 t355 _ ?side1 ?side2 ?side3 ?side4 A18.out).mono ?_); (case side1 => repeat (first | exact (Kd.S_reads' HO354.out).2.2 | (with_reducible refine Kd.C_alloc ?_ _) | (with_reducible refine Kd.C_drewN ?_ _) | (with_reducible refine Kd.C_drew ?_))); (case side2 => exact (Kd.S_reads' HO354.out).2.1); (case side3 => repeat (first | exact (Kd.C_below HR0.out HB.out) | (with_reducible refine Kd.C_alloc ?_ _) | (with_reducible refine Kd.C_drewN ?_ _) | (with_reducible refine Kd.C_drew ?_))); (case side4 => exact HC0.out); rintro e w' ⟨rfl, ⟨nd, rfl⟩⟩; refine ⟨_, rfl, ?_⟩))
          (try simp only [Act.put, List.setIfInBounds_toArray, List.set_cons_zero, List.set_cons_succ])
          go_cut [74] (fun v74 wc => ∃ (kq : Nat) (x74_18 : Bool), v74 = .bool x74_18 ∧ Aside0 (telemeterlaw02_FrameBack.j1 kq l0 a1 x5_1 x6_1 t351 t352 t355 x74_18 = some r) ∧ Aside0 (kq ≤ k1) ∧ Aside0 (Kd.R (Kd.int .u8) 5 wc w.heap.size (fun _ => True) (.slice Ao20 x5_1.length co20) x5_1) ∧ Aside0 (Below w.heap.size w wc))
          case first =>
            have H := HC19.out
            clear HC19
            by_cases c23 : t355 = true
            · subst c23
              have H1 : (if t351 = (x5_1.length : Int) then (if t352 = 0 then (telemeterlaw02_FrameBack.j1 k1 l0 a1 x5_1 x6_1 t351 t352 true ((l0.length : Int) == 0)) else (telemeterlaw02_FrameBack.j1 k1 l0 a1 x5_1 x6_1 t351 t352 true true)) else (telemeterlaw02_FrameBack.j1 k1 l0 a1 x5_1 x6_1 t351 t352 true true)) = some r := by rw [if_pos rfl] at H; exact H
              clear H
              have H := H1
              clear H1
              by_cases c24 : t351 = (x5_1.length : Int)
              · rw [if_pos c24] at H
                have c24b0 : (t351 == (x5_1.length : Int)) = true := beq_iff_eq.mpr c24
                have c24b1 : (t351 != (x5_1.length : Int)) = false := bne_eq_false_iff_eq.mpr c24
                clear c24
                (first | rw [c24b0] | (simp only [i64_w, i32_w]; rw [c24b0]) | skip)
                by_cases c25 : t352 = 0
                · rw [if_pos c25] at H
                  have c25b0 : (t352 == 0) = true := beq_iff_eq.mpr c25
                  have c25b1 : (t352 != 0) = false := bne_eq_false_iff_eq.mpr c25
                  clear c25
                  have H' := Aside0.mk H
                  clear H
                  go_wp2
                  go_meet
                  case rel => exact ⟨_, (((l0.length : Int) == 0)), (by first | rfl | (simp; done) | (simp [*]; done)), H', ⟨by have := HK1.out; first | omega | exact Nat.le_refl _⟩, ⟨by (with_reducible repeat (first | apply Kd.R_alloc | apply Kd.R_drewN | apply Kd.R_drew)); exact HO_5.out⟩, ⟨by repeat (first | (with_reducible first | exact HB.out | apply below_alloc | apply pw_below_drewN | apply below_drew1) | exact HB.out)⟩⟩
                · rw [if_neg c25] at H
                  have c25b0 : (t352 == 0) = false := beq_eq_false_iff_ne.mpr c25
                  have c25b1 : (t352 != 0) = true := bne_iff_ne.mpr c25
                  have H' := Aside0.mk H
                  clear H
                  go_wp2
                  go_meet
                  case rel => exact ⟨_, (true), (by first | rfl | (simp; done) | (simp [*]; done)), H', ⟨by have := HK1.out; first | omega | exact Nat.le_refl _⟩, ⟨by (with_reducible repeat (first | apply Kd.R_alloc | apply Kd.R_drewN | apply Kd.R_drew)); exact HO_5.out⟩, ⟨by repeat (first | (with_reducible first | exact HB.out | apply below_alloc | apply pw_below_drewN | apply below_drew1) | exact HB.out)⟩⟩
              · rw [if_neg c24] at H
                have c24b0 : (t351 == (x5_1.length : Int)) = false := beq_eq_false_iff_ne.mpr c24
                have c24b1 : (t351 != (x5_1.length : Int)) = true := bne_iff_ne.mpr c24
                (first | rw [c24b0] | (simp only [i64_w, i32_w]; rw [c24b0]) | skip)
                have H' := Aside0.mk H
                clear H
                go_wp2
                go_meet
                case rel => exact ⟨_, (true), (by first | rfl | (simp; done) | (simp [*]; done)), H', ⟨by have := HK1.out; first | omega | exact Nat.le_refl _⟩, ⟨by (with_reducible repeat (first | apply Kd.R_alloc | apply Kd.R_drewN | apply Kd.R_drew)); exact HO_5.out⟩, ⟨by repeat (first | (with_reducible first | exact HB.out | apply below_alloc | apply pw_below_drewN | apply below_drew1) | exact HB.out)⟩⟩
            · replace c23 := Bool.eq_false_iff.mpr c23
              subst c23
              have H1 : (telemeterlaw02_FrameBack.j1 k1 l0 a1 x5_1 x6_1 t351 t352 false true) = some r := by rw [if_neg (show ¬ (false = true) by decide)] at H; exact H
              clear H
              have H := H1
              clear H1
              have H' := Aside0.mk H
              clear H
              go_wp2
              go_meet
              case rel => exact ⟨_, (true), (by first | rfl | (simp; done) | (simp [*]; done)), H', ⟨by have := HK1.out; first | omega | exact Nat.le_refl _⟩, ⟨by (with_reducible repeat (first | apply Kd.R_alloc | apply Kd.R_drewN | apply Kd.R_drew)); exact HO_5.out⟩, ⟨by repeat (first | (with_reducible first | exact HB.out | apply below_alloc | apply pw_below_drewN | apply below_drew1) | exact HB.out)⟩⟩
          case rest =>
            clear HC19
            try clear c1
            try clear c2
            try clear p2
            try clear c3
            try clear c3b0
            try clear c3b1
            try clear p3
            try clear q3
            try clear hx3
            try clear c6
            try clear c6b0
            try clear p6
            try clear c7
            try clear c7b0
            try clear c8
            try clear c8b0
            try clear c8b1
            try clear c9
            try clear c12
            try clear c14
            try clear c16
            try clear c20
            try clear c22
            try clear c23
            try clear c24
            try clear c24b0
            try clear c24b1
            try clear c25
            try clear c25b0
            try clear c25b1
            try clear hx340_0
            try clear hx342_0
            try clear p2
            try clear p340
            try clear p342
            try clear q340
            try clear q342
            obtain ⟨kq, x74_18, rfl, HA, HJ18, HO_5, HB⟩ := hcut
            cases kq with
            | zero => exact absurd HA.out (by simp [telemeterlaw02_FrameBack.j1])
            | succ kj18 =>
              have H := HA.out
              clear HA
              simp only [telemeterlaw02_FrameBack.j1] at H
              by_cases c26 : x74_18 = true
              · subst c26
                have H1 : ((telemeterlaw02_known.f).bind fun t356 => (if t356 = true then (if t355 = true then (if t351 = (x5_1.length : Int) then (some (t352 == 0)) else (some false)) else (some false)) else (some false))) = some r := by rw [if_pos rfl] at H; exact H
                clear H
                have H := H1
                clear H1
                replace H := Option.bind_eq_some_iff.mp H
                obtain ⟨t356, A270, H⟩ := H
                replace H : (if t356 = true then (if t355 = true then (if t351 = (x5_1.length : Int) then (some (t352 == 0)) else (some false)) else (some false)) else (some false)) = some r := H
                have A27 := Aside0.mk A270
                clear A270
                by_cases c28 : t356 = true
                · subst c28
                  have H1 : (if t355 = true then (if t351 = (x5_1.length : Int) then (some (t352 == 0)) else (some false)) else (some false)) = some r := by rw [if_pos rfl] at H; exact H
                  clear H
                  have H := H1
                  clear H1
                  by_cases c29 : t355 = true
                  · subst c29
                    have H1 : (if t351 = (x5_1.length : Int) then (some (t352 == 0)) else (some false)) = some r := by rw [if_pos rfl] at H; exact H
                    clear H
                    have H := H1
                    clear H1
                    by_cases c30 : t351 = (x5_1.length : Int)
                    · rw [if_pos c30] at H
                      have c30b0 : (t351 == (x5_1.length : Int)) = true := beq_iff_eq.mpr c30
                      have c30b1 : (t351 != (x5_1.length : Int)) = false := bne_eq_false_iff_eq.mpr c30
                      clear c30
                      obtain rfl := Option.some.inj H
                      go_wp2_with (first | ((with_reducible refine gate_callee (f := 16) rfl ?_); refine goesL_ (some 75) rfl rfl Try.func16 (by kernel_rfl) rfl #[] rfl (by (try simp only [List.map_toArray, List.map_cons, List.map_nil]); first | done | rfl | (simp only [List.length_drop, List.length_take]; rfl)) ?_; (with_reducible refine (telemeterlaw02_known.calls  true _ A27.out).mono ?_); rintro e w31 ⟨rfl, hb⟩; refine ⟨_, rfl, ?_⟩; have n0_ := Aside0.mk (Kd.R_below (by (with_reducible repeat (first | apply Kd.R_alloc | apply Kd.R_drewN | apply Kd.R_drew)); exact HO_5.out) hb); have n1_ := Aside0.mk (below_step (by repeat (first | (with_reducible first | exact HB.out | apply below_alloc | apply pw_below_drewN | apply below_drew1) | exact HB.out)) hb); clear HO_5; clear HB; have HO_5 := n0_; have HB := n1_; clear n0_ n1_; (try clear hb); (try clear hb2); (try clear hk); (try clear hi)))
                      go_ret
                      exact ⟨by first | rfl | (simp [errW_none, errW_some] <;> rfl) | (simp [*, errW_none, errW_some] <;> rfl), by repeat (first | (with_reducible first | exact HB.out | apply below_alloc | apply pw_below_drewN | apply below_drew1) | exact HB.out)⟩
                    · rw [if_neg c30] at H
                      have c30b0 : (t351 == (x5_1.length : Int)) = false := beq_eq_false_iff_ne.mpr c30
                      have c30b1 : (t351 != (x5_1.length : Int)) = true := bne_iff_ne.mpr c30
                      obtain rfl := Option.some.inj H
                      go_wp2_with (first | ((with_reducible refine gate_callee (f := 16) rfl ?_); refine goesL_ (some 75) rfl rfl Try.func16 (by kernel_rfl) rfl #[] rfl (by (try simp only [List.map_toArray, List.map_cons, List.map_nil]); first | done | rfl | (simp only [List.length_drop, List.length_take]; rfl)) ?_; (with_reducible refine (telemeterlaw02_known.calls  true _ A27.out).mono ?_); rintro e w32 ⟨rfl, hb⟩; refine ⟨_, rfl, ?_⟩; have n0_ := Aside0.mk (Kd.R_below (by (with_reducible repeat (first | apply Kd.R_alloc | apply Kd.R_drewN | apply Kd.R_drew)); exact HO_5.out) hb); have n1_ := Aside0.mk (below_step (by repeat (first | (with_reducible first | exact HB.out | apply below_alloc | apply pw_below_drewN | apply below_drew1) | exact HB.out)) hb); clear HO_5; clear HB; have HO_5 := n0_; have HB := n1_; clear n0_ n1_; (try clear hb); (try clear hb2); (try clear hk); (try clear hi)))
                      go_ret
                      exact ⟨by first | rfl | (simp [errW_none, errW_some] <;> rfl) | (simp [*, errW_none, errW_some] <;> rfl), by repeat (first | (with_reducible first | exact HB.out | apply below_alloc | apply pw_below_drewN | apply below_drew1) | exact HB.out)⟩
                  · replace c29 := Bool.eq_false_iff.mpr c29
                    subst c29
                    have H1 : (some false) = some r := by rw [if_neg (show ¬ (false = true) by decide)] at H; exact H
                    clear H
                    have H := H1
                    clear H1
                    obtain rfl := Option.some.inj H
                    go_wp2_with (first | ((with_reducible refine gate_callee (f := 16) rfl ?_); refine goesL_ (some 75) rfl rfl Try.func16 (by kernel_rfl) rfl #[] rfl (by (try simp only [List.map_toArray, List.map_cons, List.map_nil]); first | done | rfl | (simp only [List.length_drop, List.length_take]; rfl)) ?_; (with_reducible refine (telemeterlaw02_known.calls  true _ A27.out).mono ?_); rintro e w33 ⟨rfl, hb⟩; refine ⟨_, rfl, ?_⟩; have n0_ := Aside0.mk (Kd.R_below (by (with_reducible repeat (first | apply Kd.R_alloc | apply Kd.R_drewN | apply Kd.R_drew)); exact HO_5.out) hb); have n1_ := Aside0.mk (below_step (by repeat (first | (with_reducible first | exact HB.out | apply below_alloc | apply pw_below_drewN | apply below_drew1) | exact HB.out)) hb); clear HO_5; clear HB; have HO_5 := n0_; have HB := n1_; clear n0_ n1_; (try clear hb); (try clear hb2); (try clear hk); (try clear hi)))
                    go_ret
                    exact ⟨by first | rfl | (simp [errW_none, errW_some] <;> rfl) | (simp [*, errW_none, errW_some] <;> rfl), by repeat (first | (with_reducible first | exact HB.out | apply below_alloc | apply pw_below_drewN | apply below_drew1) | exact HB.out)⟩
                · replace c28 := Bool.eq_false_iff.mpr c28
                  subst c28
                  have H1 : (some false) = some r := by rw [if_neg (show ¬ (false = true) by decide)] at H; exact H
                  clear H
                  have H := H1
                  clear H1
                  obtain rfl := Option.some.inj H
                  go_wp2_with (first | ((with_reducible refine gate_callee (f := 16) rfl ?_); refine goesL_ (some 75) rfl rfl Try.func16 (by kernel_rfl) rfl #[] rfl (by (try simp only [List.map_toArray, List.map_cons, List.map_nil]); first | done | rfl | (simp only [List.length_drop, List.length_take]; rfl)) ?_; (with_reducible refine (telemeterlaw02_known.calls  false _ A27.out).mono ?_); rintro e w34 ⟨rfl, hb⟩; refine ⟨_, rfl, ?_⟩; have n0_ := Aside0.mk (Kd.R_below (by (with_reducible repeat (first | apply Kd.R_alloc | apply Kd.R_drewN | apply Kd.R_drew)); exact HO_5.out) hb); have n1_ := Aside0.mk (below_step (by repeat (first | (with_reducible first | exact HB.out | apply below_alloc | apply pw_below_drewN | apply below_drew1) | exact HB.out)) hb); clear HO_5; clear HB; have HO_5 := n0_; have HB := n1_; clear n0_ n1_; (try clear hb); (try clear hb2); (try clear hk); (try clear hi)))
                  go_ret
                  exact ⟨by first | rfl | (simp [errW_none, errW_some] <;> rfl) | (simp [*, errW_none, errW_some] <;> rfl), by repeat (first | (with_reducible first | exact HB.out | apply below_alloc | apply pw_below_drewN | apply below_drew1) | exact HB.out)⟩
              · replace c26 := Bool.eq_false_iff.mpr c26
                subst c26
                have H1 : (if (wrap64 ((x5_1.length : Int) - x6_1)) = 0 then (none) else (if 0 ≤ (wrap64 ((x5_1.length : Int) - (wrap64 (1 + (Int.tmod (wrap64 (a1)) (wrap64 ((x5_1.length : Int) - x6_1))))))) then (if (wrap64 ((x5_1.length : Int) - (wrap64 (1 + (Int.tmod (wrap64 (a1)) (wrap64 ((x5_1.length : Int) - x6_1))))))) ≤ (x5_1.length : Int) then ((frame_Scan.f kj18 (x5_1.take ((wrap64 ((x5_1.length : Int) - (wrap64 (1 + (Int.tmod (wrap64 (a1)) (wrap64 ((x5_1.length : Int) - x6_1))))))) : Int).toNat)).bind fun bt361 => (if 0 ≤ (wrap64 ((l0.length : Int) - 1)) then (if (wrap64 ((l0.length : Int) - 1)) ≤ (l0.length : Int) then ((telemeterref02_Same.f kj18 bt361.1 (l0.take ((wrap64 ((l0.length : Int) - 1)) : Int).toNat)).bind fun t370 => ((telemeterlaw02_known.f).bind fun t371 => (if t371 = true then (if t370 = true then (if bt361.2.1 = x6_1 then (if bt361.2.2 = 10 then (some true) else (if (wrap64 (1 + (Int.tmod (wrap64 (a1)) (wrap64 ((x5_1.length : Int) - x6_1))))) = (wrap64 ((x5_1.length : Int) - x6_1)) then (some (bt361.2.2 == 0)) else (some false))) else (some false)) else (some false)) else (some false)))) else (none)) else (none))) else (none)) else (none))) = some r := by rw [if_neg (show ¬ (false = true) by decide)] at H; exact H
                clear H
                have H := H1
                clear H1
                by_cases c35 : (wrap64 ((x5_1.length : Int) - x6_1)) = 0
                · rw [if_pos c35] at H
                  exact absurd H (by simp)
                · rw [if_neg c35] at H
                  have c35b0 : ((wrap64 ((x5_1.length : Int) - x6_1)) == 0) = false := beq_eq_false_iff_ne.mpr c35
                  have c35b1 : ((wrap64 ((x5_1.length : Int) - x6_1)) != 0) = true := bne_iff_ne.mpr c35
                  obtain ⟨ji36, hji36⟩ : ∃ j_ : Int, (wrap64 ((x5_1.length : Int) - (wrap64 (1 + (Int.tmod (wrap64 (a1)) (wrap64 ((x5_1.length : Int) - x6_1))))))) = j_ := ⟨_, rfl⟩
                  replace H : (if 0 ≤ (ji36) then (if (ji36) ≤ (x5_1.length : Int) then ((frame_Scan.f kj18 (x5_1.take ((ji36) : Int).toNat)).bind fun bt361 => (if 0 ≤ (wrap64 ((l0.length : Int) - 1)) then (if (wrap64 ((l0.length : Int) - 1)) ≤ (l0.length : Int) then ((telemeterref02_Same.f kj18 bt361.1 (l0.take ((wrap64 ((l0.length : Int) - 1)) : Int).toNat)).bind fun t370 => ((telemeterlaw02_known.f).bind fun t371 => (if t371 = true then (if t370 = true then (if bt361.2.1 = x6_1 then (if bt361.2.2 = 10 then (some true) else (if (wrap64 (1 + (Int.tmod (wrap64 (a1)) (wrap64 ((x5_1.length : Int) - x6_1))))) = (wrap64 ((x5_1.length : Int) - x6_1)) then (some (bt361.2.2 == 0)) else (some false))) else (some false)) else (some false)) else (some false)))) else (none)) else (none))) else (none)) else (none)) = some r := by first | (rw [hji36] at H; exact H) | (simp only [hji36] at H ⊢; exact H)
                  have hji36w : (IntKind.i64.wrap ((x5_1.length : Int) - (wrap64 (1 + (Int.tmod (wrap64 (a1)) (wrap64 ((x5_1.length : Int) - x6_1))))))) = ji36 := (i64_w _).trans hji36
                  by_cases c37 : 0 ≤ (ji36)
                  · rw [if_pos c37] at H
                    have c37b0 := eq_true c37
                    have c37b1 : decide (0 ≤ (ji36)) = true := decide_eq_true c37
                    clear c37
                    by_cases c38 : (ji36) ≤ (x5_1.length : Int)
                    · rw [if_pos c38] at H
                      have c38b0 := eq_true c38
                      have c38b1 : decide ((ji36) ≤ (x5_1.length : Int)) = true := decide_eq_true c38
                      clear c38
                      obtain ⟨y357, hy357⟩ : ∃ y_ : List Int, y_ = (x5_1.take ((ji36) : Int).toNat) := ⟨_, rfl⟩
                      replace H : ((frame_Scan.f kj18 y357).bind fun bt361 => (if 0 ≤ (wrap64 ((l0.length : Int) - 1)) then (if (wrap64 ((l0.length : Int) - 1)) ≤ (l0.length : Int) then ((telemeterref02_Same.f kj18 bt361.1 (l0.take ((wrap64 ((l0.length : Int) - 1)) : Int).toNat)).bind fun t370 => ((telemeterlaw02_known.f).bind fun t371 => (if t371 = true then (if t370 = true then (if bt361.2.1 = x6_1 then (if bt361.2.2 = 10 then (some true) else (if (wrap64 (1 + (Int.tmod (wrap64 (a1)) (wrap64 ((x5_1.length : Int) - x6_1))))) = (wrap64 ((x5_1.length : Int) - x6_1)) then (some (bt361.2.2 == 0)) else (some false))) else (some false)) else (some false)) else (some false)))) else (none)) else (none))) = some r := by first | (rw [hy357]; with_reducible exact H) | (have H2_ := (Option.bind_some _ _).symm.trans H; rw [hy357]; with_reducible exact H2_) | (have H2_ := (Option.bind_some _ _).symm.trans H; with_reducible exact H2_) | with_reducible exact H | (rw [hy357]; exact H) | exact H
                      have Ny357 := Aside0.mk hy357
                      clear hy357
                      replace H := Option.bind_eq_some_iff.mp H
                      obtain ⟨⟨t361, t362, t363⟩, A390, H⟩ := H
                      replace H : (if 0 ≤ (wrap64 ((l0.length : Int) - 1)) then (if (wrap64 ((l0.length : Int) - 1)) ≤ (l0.length : Int) then ((telemeterref02_Same.f kj18 t361 (l0.take ((wrap64 ((l0.length : Int) - 1)) : Int).toNat)).bind fun t370 => ((telemeterlaw02_known.f).bind fun t371 => (if t371 = true then (if t370 = true then (if t362 = x6_1 then (if t363 = 10 then (some true) else (if (wrap64 (1 + (Int.tmod (wrap64 (a1)) (wrap64 ((x5_1.length : Int) - x6_1))))) = (wrap64 ((x5_1.length : Int) - x6_1)) then (some (t363 == 0)) else (some false))) else (some false)) else (some false)) else (some false)))) else (none)) else (none)) = some r := H
                      have A39 := Aside0.mk A390
                      clear A390
                      obtain ⟨ji40, hji40⟩ : ∃ j_ : Int, (wrap64 ((l0.length : Int) - 1)) = j_ := ⟨_, rfl⟩
                      replace H : (if 0 ≤ (ji40) then (if (ji40) ≤ (l0.length : Int) then ((telemeterref02_Same.f kj18 t361 (l0.take ((ji40) : Int).toNat)).bind fun t370 => ((telemeterlaw02_known.f).bind fun t371 => (if t371 = true then (if t370 = true then (if t362 = x6_1 then (if t363 = 10 then (some true) else (if (wrap64 (1 + (Int.tmod (wrap64 (a1)) (wrap64 ((x5_1.length : Int) - x6_1))))) = (wrap64 ((x5_1.length : Int) - x6_1)) then (some (t363 == 0)) else (some false))) else (some false)) else (some false)) else (some false)))) else (none)) else (none)) = some r := by first | (rw [hji40] at H; exact H) | (simp only [hji40] at H ⊢; exact H)
                      (try rw [hji40] at A39)
                      have hji40w : (IntKind.i64.wrap ((l0.length : Int) - 1)) = ji40 := (i64_w _).trans hji40
                      by_cases c41 : 0 ≤ (ji40)
                      · rw [if_pos c41] at H
                        have c41b0 := eq_true c41
                        have c41b1 : decide (0 ≤ (ji40)) = true := decide_eq_true c41
                        clear c41
                        by_cases c42 : (ji40) ≤ (l0.length : Int)
                        · rw [if_pos c42] at H
                          have c42b0 := eq_true c42
                          have c42b1 : decide ((ji40) ≤ (l0.length : Int)) = true := decide_eq_true c42
                          clear c42
                          obtain ⟨y366, hy366⟩ : ∃ y_ : List (List Int), y_ = (l0.take ((ji40) : Int).toNat) := ⟨_, rfl⟩
                          replace H : ((telemeterref02_Same.f kj18 t361 y366).bind fun t370 => ((telemeterlaw02_known.f).bind fun t371 => (if t371 = true then (if t370 = true then (if t362 = x6_1 then (if t363 = 10 then (some true) else (if (wrap64 (1 + (Int.tmod (wrap64 (a1)) (wrap64 ((x5_1.length : Int) - x6_1))))) = (wrap64 ((x5_1.length : Int) - x6_1)) then (some (t363 == 0)) else (some false))) else (some false)) else (some false)) else (some false)))) = some r := by first | (rw [hy366]; with_reducible exact H) | (have H2_ := (Option.bind_some _ _).symm.trans H; rw [hy366]; with_reducible exact H2_) | (have H2_ := (Option.bind_some _ _).symm.trans H; with_reducible exact H2_) | with_reducible exact H | (rw [hy366]; exact H) | exact H
                          have Ny366 := Aside0.mk hy366
                          clear hy366
                          replace H := Option.bind_eq_some_iff.mp H
                          obtain ⟨t370, A430, H⟩ := H
                          replace H : ((telemeterlaw02_known.f).bind fun t371 => (if t371 = true then (if t370 = true then (if t362 = x6_1 then (if t363 = 10 then (some true) else (if (wrap64 (1 + (Int.tmod (wrap64 (a1)) (wrap64 ((x5_1.length : Int) - x6_1))))) = (wrap64 ((x5_1.length : Int) - x6_1)) then (some (t363 == 0)) else (some false))) else (some false)) else (some false)) else (some false))) = some r := H
                          have A43 := Aside0.mk A430
                          clear A430
                          replace H := Option.bind_eq_some_iff.mp H
                          obtain ⟨t371, A440, H⟩ := H
                          replace H : (if t371 = true then (if t370 = true then (if t362 = x6_1 then (if t363 = 10 then (some true) else (if (wrap64 (1 + (Int.tmod (wrap64 (a1)) (wrap64 ((x5_1.length : Int) - x6_1))))) = (wrap64 ((x5_1.length : Int) - x6_1)) then (some (t363 == 0)) else (some false))) else (some false)) else (some false)) else (some false)) = some r := H
                          have A44 := Aside0.mk A440
                          clear A440
                          by_cases c45 : t371 = true
                          · subst c45
                            have H1 : (if t370 = true then (if t362 = x6_1 then (if t363 = 10 then (some true) else (if (wrap64 (1 + (Int.tmod (wrap64 (a1)) (wrap64 ((x5_1.length : Int) - x6_1))))) = (wrap64 ((x5_1.length : Int) - x6_1)) then (some (t363 == 0)) else (some false))) else (some false)) else (some false)) = some r := by rw [if_pos rfl] at H; exact H
                            clear H
                            have H := H1
                            clear H1
                            by_cases c46 : t370 = true
                            · subst c46
                              have H1 : (if t362 = x6_1 then (if t363 = 10 then (some true) else (if (wrap64 (1 + (Int.tmod (wrap64 (a1)) (wrap64 ((x5_1.length : Int) - x6_1))))) = (wrap64 ((x5_1.length : Int) - x6_1)) then (some (t363 == 0)) else (some false))) else (some false)) = some r := by rw [if_pos rfl] at H; exact H
                              clear H
                              have H := H1
                              clear H1
                              by_cases c47 : t362 = x6_1
                              · rw [if_pos c47] at H
                                have c47b0 : (t362 == x6_1) = true := beq_iff_eq.mpr c47
                                have c47b1 : (t362 != x6_1) = false := bne_eq_false_iff_eq.mpr c47
                                clear c47
                                by_cases c48 : t363 = 10
                                · rw [if_pos c48] at H
                                  have c48b0 : (t363 == 10) = true := beq_iff_eq.mpr c48
                                  have c48b1 : (t363 != 10) = false := bne_eq_false_iff_eq.mpr c48
                                  clear c48
                                  obtain rfl := Option.some.inj H
                                  have q49 : ((ji36) : Int) ≤ ((x5_1.length : Int) : Int) := of_decide_eq_true (by first | (with_reducible assumption) | assumption)
                                  obtain ⟨i049, hi049, _, hsz49, _⟩ := info_parts info5
                                  have hroom49 : x5_1.length ≤ co20 := (Kd.R_reads' HO_5.out).2.1
                                  have hC49 : Kd.C (Kd.int .u8) _ Ao20 x5_1.length x5_1 := (Kd.R_reads' HO_5.out).2.2
                                  have hcut49 := cut_to (P := Try.prog) 23 5 .i64 Try.underlying23 hi049 Ao20 x5_1.length co20 (ji36) (of_decide_eq_true (by first | (with_reducible assumption) | assumption)) q49 hroom49
                                  have hr49 := Kd.C_take (m := ((ji36) : Int).toNat) hC49 (by omega)
                                  have hy49 : y357.length = ((ji36) : Int).toNat := (by rw [Ny357.out, List.length_take]; omega)
                                  rw [← Ny357.out] at hr49
                                  rw [← hy49] at hcut49
                                  have HR360 := Aside0.mk hr49
                                  have HC360 := Aside0.mk (show y357.length ≤ co20 from by omega)
                                  clear hr49 hC49 hroom49 hi049 hsz49
                                  have KY49 := Aside0.mk hy49
                                  clear hy49
                                  have KL49 := Aside0.mk (show ((ji36) : Int).toNat ≤ x5_1.length from by omega)
                                  replace q49 := eq_true q49
                                  go_wp2_with (first | ((with_reducible refine gate_callee (f := 20) rfl ?_); refine goesL_ (some 104) rfl rfl Try.func20 (by kernel_rfl) rfl #[.slice Ao20 y357.length co20] rfl (by (try simp only [List.map_toArray, List.map_cons, List.map_nil]); first | done | rfl | (simp only [List.length_drop, List.length_take]; rfl)) ?_; (with_reducible refine (frame_Scan.calls kj18 _ _ y357 t361 t362 t363 _ ?side1 ?side2 A39.out).mono ?_); (case side1 => repeat (first | exact (by repeat (first | (with_reducible exact HR360.out) | (with_reducible refine Kd.C_alloc ?_ _) | (with_reducible refine Kd.C_drewN ?_ _) | (with_reducible refine Kd.C_drew ?_) | exact HR360.out)) | (with_reducible refine Kd.C_alloc ?_ _) | (with_reducible refine Kd.C_drewN ?_ _) | (with_reducible refine Kd.C_drew ?_))); (case side2 => exact HC360.out); rintro e w50 ⟨v364, rfl, ho0, hb⟩; refine ⟨_, rfl, ?_⟩; have n0_ := Aside0.mk (Kd.R_below (by (with_reducible repeat (first | apply Kd.R_alloc | apply Kd.R_drewN | apply Kd.R_drew)); exact HO_5.out) hb); have n1_ := Aside0.mk (Kd.S_lower (Kd.S_new' ho0 (Kd.R_lt (by (with_reducible repeat (first | apply Kd.R_alloc | apply Kd.R_drewN | apply Kd.R_drew)); exact HO_5.out))) (below_size (by repeat (first | (with_reducible first | exact HB.out | apply below_alloc | apply pw_below_drewN | apply below_drew1) | exact HB.out)))); have n2_ := Aside0.mk (Kd.C_below (by repeat (first | (with_reducible exact HR360.out) | (with_reducible refine Kd.C_alloc ?_ _) | (with_reducible refine Kd.C_drewN ?_ _) | (with_reducible refine Kd.C_drew ?_) | exact HR360.out)) hb); have n3_ := Aside0.mk (below_step (by repeat (first | (with_reducible first | exact HB.out | apply below_alloc | apply pw_below_drewN | apply below_drew1) | exact HB.out)) hb); clear HO_5; clear HR360; clear HB; have HO_5 := n0_; have HO365 := n1_; have HR360 := n2_; have HB := n3_; clear n0_ n1_ n2_ n3_; (try clear hb); (try clear hb2); (try clear hk); (try clear hi); (try clear ho0); have q51 : ((ji40) : Int) ≤ ((l0.length : Int) : Int) := of_decide_eq_true (by first | (with_reducible assumption) | assumption); obtain ⟨i051, hi051, _, hsz51, _⟩ := info_parts info23; have hroom51 : l0.length ≤ c0 := HC0.out; have hC51 : Kd.C (Kd.slice 5 (Kd.int .u8)) _ A0 l0.length l0 := HR0.out; have hcut51 := cut_to (P := Try.prog) 38 23 .i64 Try.underlying38 hi051 A0 l0.length c0 (ji40) (of_decide_eq_true (by first | (with_reducible assumption) | assumption)) q51 hroom51; have hr51 := Kd.C_take (m := ((ji40) : Int).toNat) hC51 (by omega); have hy51 : y366.length = ((ji40) : Int).toNat := (by rw [Ny366.out, List.length_take]; omega); rw [← Ny366.out] at hr51; rw [← hy51] at hcut51; have HR369 := Aside0.mk hr51; have HC369 := Aside0.mk (show y366.length ≤ c0 from by omega); clear hr51 hC51 hroom51 hi051 hsz51; have KY51 := Aside0.mk hy51; clear hy51; replace q51 := eq_true q51; obtain ⟨Ao52, co52, eo52⟩ := Kd.S_slice HO365.out; subst eo52) | ((with_reducible refine gate_callee (f := 22) rfl ?_); refine goesL_ (some 114) rfl rfl Try.func22 (by kernel_rfl) rfl #[.slice Ao52 t361.length co52, .slice A0 y366.length c0] rfl (by (try simp only [List.map_toArray, List.map_cons, List.map_nil]); first | done | rfl | (simp only [List.length_drop, List.length_take]; rfl)) ?_; (with_reducible refine (telemeterref02_Same.calls kj18 _ _ t361 _ _ y366 true _ ?side1 ?side2 ?side3 ?side4 A43.out).mono ?_); (case side1 => repeat (first | exact (Kd.S_reads' HO365.out).2.2 | (with_reducible refine Kd.C_alloc ?_ _) | (with_reducible refine Kd.C_drewN ?_ _) | (with_reducible refine Kd.C_drew ?_))); (case side2 => exact (Kd.S_reads' HO365.out).2.1); (case side3 => repeat (first | exact (Kd.C_below HR369.out HB.out) | (with_reducible refine Kd.C_alloc ?_ _) | (with_reducible refine Kd.C_drewN ?_ _) | (with_reducible refine Kd.C_drew ?_))); (case side4 => exact HC369.out); rintro e w' ⟨rfl, ⟨nd, rfl⟩⟩; refine ⟨_, rfl, ?_⟩) | ((with_reducible refine gate_callee (f := 16) rfl ?_); refine goesL_ (some 115) rfl rfl Try.func16 (by kernel_rfl) rfl #[] rfl (by (try simp only [List.map_toArray, List.map_cons, List.map_nil]); first | done | rfl | (simp only [List.length_drop, List.length_take]; rfl)) ?_; (with_reducible refine (telemeterlaw02_known.calls  true _ A44.out).mono ?_); rintro e w53 ⟨rfl, hb⟩; refine ⟨_, rfl, ?_⟩; have n0_ := Aside0.mk (Kd.R_below (by (with_reducible repeat (first | apply Kd.R_alloc | apply Kd.R_drewN | apply Kd.R_drew)); exact HO_5.out) hb); have n1_ := Aside0.mk (Kd.S_below (by (with_reducible repeat (first | apply Kd.S_alloc | apply Kd.S_drewN | apply Kd.S_drew)); exact HO365.out) hb); have n2_ := Aside0.mk (Kd.C_below (by repeat (first | (with_reducible exact HR360.out) | (with_reducible refine Kd.C_alloc ?_ _) | (with_reducible refine Kd.C_drewN ?_ _) | (with_reducible refine Kd.C_drew ?_) | exact HR360.out)) hb); have n3_ := Aside0.mk (below_step (by repeat (first | (with_reducible first | exact HB.out | apply below_alloc | apply pw_below_drewN | apply below_drew1) | exact HB.out)) hb); clear HO_5; clear HO365; clear HR360; clear HB; have HO_5 := n0_; have HO365 := n1_; have HR360 := n2_; have HB := n3_; clear n0_ n1_ n2_ n3_; (try clear hb); (try clear hb2); (try clear hk); (try clear hi)))
                                  go_ret
                                  exact ⟨by first | rfl | (simp [errW_none, errW_some] <;> rfl) | (simp only [← hji36, ← hji40]; first | rfl | (simp [errW_none, errW_some] <;> rfl)) | (simp [*, errW_none, errW_some] <;> rfl), by repeat (first | (with_reducible first | exact HB.out | apply below_alloc | apply pw_below_drewN | apply below_drew1) | exact HB.out)⟩
                                · rw [if_neg c48] at H
                                  have c48b0 : (t363 == 10) = false := beq_eq_false_iff_ne.mpr c48
                                  have c48b1 : (t363 != 10) = true := bne_iff_ne.mpr c48
                                  by_cases c54 : (wrap64 (1 + (Int.tmod (wrap64 (a1)) (wrap64 ((x5_1.length : Int) - x6_1))))) = (wrap64 ((x5_1.length : Int) - x6_1))
                                  · rw [if_pos c54] at H
                                    have c54b0 : ((wrap64 (1 + (Int.tmod (wrap64 (a1)) (wrap64 ((x5_1.length : Int) - x6_1))))) == (wrap64 ((x5_1.length : Int) - x6_1))) = true := beq_iff_eq.mpr c54
                                    have c54b1 : ((wrap64 (1 + (Int.tmod (wrap64 (a1)) (wrap64 ((x5_1.length : Int) - x6_1))))) != (wrap64 ((x5_1.length : Int) - x6_1))) = false := bne_eq_false_iff_eq.mpr c54
                                    clear c54
                                    obtain rfl := Option.some.inj H
                                    have q55 : ((ji36) : Int) ≤ ((x5_1.length : Int) : Int) := of_decide_eq_true (by first | (with_reducible assumption) | assumption)
                                    obtain ⟨i055, hi055, _, hsz55, _⟩ := info_parts info5
                                    have hroom55 : x5_1.length ≤ co20 := (Kd.R_reads' HO_5.out).2.1
                                    have hC55 : Kd.C (Kd.int .u8) _ Ao20 x5_1.length x5_1 := (Kd.R_reads' HO_5.out).2.2
                                    have hcut55 := cut_to (P := Try.prog) 23 5 .i64 Try.underlying23 hi055 Ao20 x5_1.length co20 (ji36) (of_decide_eq_true (by first | (with_reducible assumption) | assumption)) q55 hroom55
                                    have hr55 := Kd.C_take (m := ((ji36) : Int).toNat) hC55 (by omega)
                                    have hy55 : y357.length = ((ji36) : Int).toNat := (by rw [Ny357.out, List.length_take]; omega)
                                    rw [← Ny357.out] at hr55
                                    rw [← hy55] at hcut55
                                    have HR360 := Aside0.mk hr55
                                    have HC360 := Aside0.mk (show y357.length ≤ co20 from by omega)
                                    clear hr55 hC55 hroom55 hi055 hsz55
                                    have KY55 := Aside0.mk hy55
                                    clear hy55
                                    have KL55 := Aside0.mk (show ((ji36) : Int).toNat ≤ x5_1.length from by omega)
                                    replace q55 := eq_true q55
                                    go_wp2_with (first | ((with_reducible refine gate_callee (f := 20) rfl ?_); refine goesL_ (some 104) rfl rfl Try.func20 (by kernel_rfl) rfl #[.slice Ao20 y357.length co20] rfl (by (try simp only [List.map_toArray, List.map_cons, List.map_nil]); first | done | rfl | (simp only [List.length_drop, List.length_take]; rfl)) ?_; (with_reducible refine (frame_Scan.calls kj18 _ _ y357 t361 t362 t363 _ ?side1 ?side2 A39.out).mono ?_); (case side1 => repeat (first | exact (by repeat (first | (with_reducible exact HR360.out) | (with_reducible refine Kd.C_alloc ?_ _) | (with_reducible refine Kd.C_drewN ?_ _) | (with_reducible refine Kd.C_drew ?_) | exact HR360.out)) | (with_reducible refine Kd.C_alloc ?_ _) | (with_reducible refine Kd.C_drewN ?_ _) | (with_reducible refine Kd.C_drew ?_))); (case side2 => exact HC360.out); rintro e w56 ⟨v364, rfl, ho0, hb⟩; refine ⟨_, rfl, ?_⟩; have n0_ := Aside0.mk (Kd.R_below (by (with_reducible repeat (first | apply Kd.R_alloc | apply Kd.R_drewN | apply Kd.R_drew)); exact HO_5.out) hb); have n1_ := Aside0.mk (Kd.S_lower (Kd.S_new' ho0 (Kd.R_lt (by (with_reducible repeat (first | apply Kd.R_alloc | apply Kd.R_drewN | apply Kd.R_drew)); exact HO_5.out))) (below_size (by repeat (first | (with_reducible first | exact HB.out | apply below_alloc | apply pw_below_drewN | apply below_drew1) | exact HB.out)))); have n2_ := Aside0.mk (Kd.C_below (by repeat (first | (with_reducible exact HR360.out) | (with_reducible refine Kd.C_alloc ?_ _) | (with_reducible refine Kd.C_drewN ?_ _) | (with_reducible refine Kd.C_drew ?_) | exact HR360.out)) hb); have n3_ := Aside0.mk (below_step (by repeat (first | (with_reducible first | exact HB.out | apply below_alloc | apply pw_below_drewN | apply below_drew1) | exact HB.out)) hb); clear HO_5; clear HR360; clear HB; have HO_5 := n0_; have HO365 := n1_; have HR360 := n2_; have HB := n3_; clear n0_ n1_ n2_ n3_; (try clear hb); (try clear hb2); (try clear hk); (try clear hi); (try clear ho0); have q57 : ((ji40) : Int) ≤ ((l0.length : Int) : Int) := of_decide_eq_true (by first | (with_reducible assumption) | assumption); obtain ⟨i057, hi057, _, hsz57, _⟩ := info_parts info23; have hroom57 : l0.length ≤ c0 := HC0.out; have hC57 : Kd.C (Kd.slice 5 (Kd.int .u8)) _ A0 l0.length l0 := HR0.out; have hcut57 := cut_to (P := Try.prog) 38 23 .i64 Try.underlying38 hi057 A0 l0.length c0 (ji40) (of_decide_eq_true (by first | (with_reducible assumption) | assumption)) q57 hroom57; have hr57 := Kd.C_take (m := ((ji40) : Int).toNat) hC57 (by omega); have hy57 : y366.length = ((ji40) : Int).toNat := (by rw [Ny366.out, List.length_take]; omega); rw [← Ny366.out] at hr57; rw [← hy57] at hcut57; have HR369 := Aside0.mk hr57; have HC369 := Aside0.mk (show y366.length ≤ c0 from by omega); clear hr57 hC57 hroom57 hi057 hsz57; have KY57 := Aside0.mk hy57; clear hy57; replace q57 := eq_true q57; obtain ⟨Ao58, co58, eo58⟩ := Kd.S_slice HO365.out; subst eo58) | ((with_reducible refine gate_callee (f := 22) rfl ?_); refine goesL_ (some 114) rfl rfl Try.func22 (by kernel_rfl) rfl #[.slice Ao58 t361.length co58, .slice A0 y366.length c0] rfl (by (try simp only [List.map_toArray, List.map_cons, List.map_nil]); first | done | rfl | (simp only [List.length_drop, List.length_take]; rfl)) ?_; (with_reducible refine (telemeterref02_Same.calls kj18 _ _ t361 _ _ y366 true _ ?side1 ?side2 ?side3 ?side4 A43.out).mono ?_); (case side1 => repeat (first | exact (Kd.S_reads' HO365.out).2.2 | (with_reducible refine Kd.C_alloc ?_ _) | (with_reducible refine Kd.C_drewN ?_ _) | (with_reducible refine Kd.C_drew ?_))); (case side2 => exact (Kd.S_reads' HO365.out).2.1); (case side3 => repeat (first | exact (Kd.C_below HR369.out HB.out) | (with_reducible refine Kd.C_alloc ?_ _) | (with_reducible refine Kd.C_drewN ?_ _) | (with_reducible refine Kd.C_drew ?_))); (case side4 => exact HC369.out); rintro e w' ⟨rfl, ⟨nd, rfl⟩⟩; refine ⟨_, rfl, ?_⟩) | ((with_reducible refine gate_callee (f := 16) rfl ?_); refine goesL_ (some 115) rfl rfl Try.func16 (by kernel_rfl) rfl #[] rfl (by (try simp only [List.map_toArray, List.map_cons, List.map_nil]); first | done | rfl | (simp only [List.length_drop, List.length_take]; rfl)) ?_; (with_reducible refine (telemeterlaw02_known.calls  true _ A44.out).mono ?_); rintro e w59 ⟨rfl, hb⟩; refine ⟨_, rfl, ?_⟩; have n0_ := Aside0.mk (Kd.R_below (by (with_reducible repeat (first | apply Kd.R_alloc | apply Kd.R_drewN | apply Kd.R_drew)); exact HO_5.out) hb); have n1_ := Aside0.mk (Kd.S_below (by (with_reducible repeat (first | apply Kd.S_alloc | apply Kd.S_drewN | apply Kd.S_drew)); exact HO365.out) hb); have n2_ := Aside0.mk (Kd.C_below (by repeat (first | (with_reducible exact HR360.out) | (with_reducible refine Kd.C_alloc ?_ _) | (with_reducible refine Kd.C_drewN ?_ _) | (with_reducible refine Kd.C_drew ?_) | exact HR360.out)) hb); have n3_ := Aside0.mk (below_step (by repeat (first | (with_reducible first | exact HB.out | apply below_alloc | apply pw_below_drewN | apply below_drew1) | exact HB.out)) hb); clear HO_5; clear HO365; clear HR360; clear HB; have HO_5 := n0_; have HO365 := n1_; have HR360 := n2_; have HB := n3_; clear n0_ n1_ n2_ n3_; (try clear hb); (try clear hb2); (try clear hk); (try clear hi)))
                                    go_ret
                                    exact ⟨by first | rfl | (simp [errW_none, errW_some] <;> rfl) | (simp only [← hji36, ← hji40]; first | rfl | (simp [errW_none, errW_some] <;> rfl)) | (simp [*, errW_none, errW_some] <;> rfl), by repeat (first | (with_reducible first | exact HB.out | apply below_alloc | apply pw_below_drewN | apply below_drew1) | exact HB.out)⟩
                                  · rw [if_neg c54] at H
                                    have c54b0 : ((wrap64 (1 + (Int.tmod (wrap64 (a1)) (wrap64 ((x5_1.length : Int) - x6_1))))) == (wrap64 ((x5_1.length : Int) - x6_1))) = false := beq_eq_false_iff_ne.mpr c54
                                    have c54b1 : ((wrap64 (1 + (Int.tmod (wrap64 (a1)) (wrap64 ((x5_1.length : Int) - x6_1))))) != (wrap64 ((x5_1.length : Int) - x6_1))) = true := bne_iff_ne.mpr c54
                                    obtain rfl := Option.some.inj H
                                    have q60 : ((ji36) : Int) ≤ ((x5_1.length : Int) : Int) := of_decide_eq_true (by first | (with_reducible assumption) | assumption)
                                    obtain ⟨i060, hi060, _, hsz60, _⟩ := info_parts info5
                                    have hroom60 : x5_1.length ≤ co20 := (Kd.R_reads' HO_5.out).2.1
                                    have hC60 : Kd.C (Kd.int .u8) _ Ao20 x5_1.length x5_1 := (Kd.R_reads' HO_5.out).2.2
                                    have hcut60 := cut_to (P := Try.prog) 23 5 .i64 Try.underlying23 hi060 Ao20 x5_1.length co20 (ji36) (of_decide_eq_true (by first | (with_reducible assumption) | assumption)) q60 hroom60
                                    have hr60 := Kd.C_take (m := ((ji36) : Int).toNat) hC60 (by omega)
                                    have hy60 : y357.length = ((ji36) : Int).toNat := (by rw [Ny357.out, List.length_take]; omega)
                                    rw [← Ny357.out] at hr60
                                    rw [← hy60] at hcut60
                                    have HR360 := Aside0.mk hr60
                                    have HC360 := Aside0.mk (show y357.length ≤ co20 from by omega)
                                    clear hr60 hC60 hroom60 hi060 hsz60
                                    have KY60 := Aside0.mk hy60
                                    clear hy60
                                    have KL60 := Aside0.mk (show ((ji36) : Int).toNat ≤ x5_1.length from by omega)
                                    replace q60 := eq_true q60
                                    go_wp2_with (first | ((with_reducible refine gate_callee (f := 20) rfl ?_); refine goesL_ (some 104) rfl rfl Try.func20 (by kernel_rfl) rfl #[.slice Ao20 y357.length co20] rfl (by (try simp only [List.map_toArray, List.map_cons, List.map_nil]); first | done | rfl | (simp only [List.length_drop, List.length_take]; rfl)) ?_; (with_reducible refine (frame_Scan.calls kj18 _ _ y357 t361 t362 t363 _ ?side1 ?side2 A39.out).mono ?_); (case side1 => repeat (first | exact (by repeat (first | (with_reducible exact HR360.out) | (with_reducible refine Kd.C_alloc ?_ _) | (with_reducible refine Kd.C_drewN ?_ _) | (with_reducible refine Kd.C_drew ?_) | exact HR360.out)) | (with_reducible refine Kd.C_alloc ?_ _) | (with_reducible refine Kd.C_drewN ?_ _) | (with_reducible refine Kd.C_drew ?_))); (case side2 => exact HC360.out); rintro e w61 ⟨v364, rfl, ho0, hb⟩; refine ⟨_, rfl, ?_⟩; have n0_ := Aside0.mk (Kd.R_below (by (with_reducible repeat (first | apply Kd.R_alloc | apply Kd.R_drewN | apply Kd.R_drew)); exact HO_5.out) hb); have n1_ := Aside0.mk (Kd.S_lower (Kd.S_new' ho0 (Kd.R_lt (by (with_reducible repeat (first | apply Kd.R_alloc | apply Kd.R_drewN | apply Kd.R_drew)); exact HO_5.out))) (below_size (by repeat (first | (with_reducible first | exact HB.out | apply below_alloc | apply pw_below_drewN | apply below_drew1) | exact HB.out)))); have n2_ := Aside0.mk (Kd.C_below (by repeat (first | (with_reducible exact HR360.out) | (with_reducible refine Kd.C_alloc ?_ _) | (with_reducible refine Kd.C_drewN ?_ _) | (with_reducible refine Kd.C_drew ?_) | exact HR360.out)) hb); have n3_ := Aside0.mk (below_step (by repeat (first | (with_reducible first | exact HB.out | apply below_alloc | apply pw_below_drewN | apply below_drew1) | exact HB.out)) hb); clear HO_5; clear HR360; clear HB; have HO_5 := n0_; have HO365 := n1_; have HR360 := n2_; have HB := n3_; clear n0_ n1_ n2_ n3_; (try clear hb); (try clear hb2); (try clear hk); (try clear hi); (try clear ho0); have q62 : ((ji40) : Int) ≤ ((l0.length : Int) : Int) := of_decide_eq_true (by first | (with_reducible assumption) | assumption); obtain ⟨i062, hi062, _, hsz62, _⟩ := info_parts info23; have hroom62 : l0.length ≤ c0 := HC0.out; have hC62 : Kd.C (Kd.slice 5 (Kd.int .u8)) _ A0 l0.length l0 := HR0.out; have hcut62 := cut_to (P := Try.prog) 38 23 .i64 Try.underlying38 hi062 A0 l0.length c0 (ji40) (of_decide_eq_true (by first | (with_reducible assumption) | assumption)) q62 hroom62; have hr62 := Kd.C_take (m := ((ji40) : Int).toNat) hC62 (by omega); have hy62 : y366.length = ((ji40) : Int).toNat := (by rw [Ny366.out, List.length_take]; omega); rw [← Ny366.out] at hr62; rw [← hy62] at hcut62; have HR369 := Aside0.mk hr62; have HC369 := Aside0.mk (show y366.length ≤ c0 from by omega); clear hr62 hC62 hroom62 hi062 hsz62; have KY62 := Aside0.mk hy62; clear hy62; replace q62 := eq_true q62; obtain ⟨Ao63, co63, eo63⟩ := Kd.S_slice HO365.out; subst eo63) | ((with_reducible refine gate_callee (f := 22) rfl ?_); refine goesL_ (some 114) rfl rfl Try.func22 (by kernel_rfl) rfl #[.slice Ao63 t361.length co63, .slice A0 y366.length c0] rfl (by (try simp only [List.map_toArray, List.map_cons, List.map_nil]); first | done | rfl | (simp only [List.length_drop, List.length_take]; rfl)) ?_; (with_reducible refine (telemeterref02_Same.calls kj18 _ _ t361 _ _ y366 true _ ?side1 ?side2 ?side3 ?side4 A43.out).mono ?_); (case side1 => repeat (first | exact (Kd.S_reads' HO365.out).2.2 | (with_reducible refine Kd.C_alloc ?_ _) | (with_reducible refine Kd.C_drewN ?_ _) | (with_reducible refine Kd.C_drew ?_))); (case side2 => exact (Kd.S_reads' HO365.out).2.1); (case side3 => repeat (first | exact (Kd.C_below HR369.out HB.out) | (with_reducible refine Kd.C_alloc ?_ _) | (with_reducible refine Kd.C_drewN ?_ _) | (with_reducible refine Kd.C_drew ?_))); (case side4 => exact HC369.out); rintro e w' ⟨rfl, ⟨nd, rfl⟩⟩; refine ⟨_, rfl, ?_⟩) | ((with_reducible refine gate_callee (f := 16) rfl ?_); refine goesL_ (some 115) rfl rfl Try.func16 (by kernel_rfl) rfl #[] rfl (by (try simp only [List.map_toArray, List.map_cons, List.map_nil]); first | done | rfl | (simp only [List.length_drop, List.length_take]; rfl)) ?_; (with_reducible refine (telemeterlaw02_known.calls  true _ A44.out).mono ?_); rintro e w64 ⟨rfl, hb⟩; refine ⟨_, rfl, ?_⟩; have n0_ := Aside0.mk (Kd.R_below (by (with_reducible repeat (first | apply Kd.R_alloc | apply Kd.R_drewN | apply Kd.R_drew)); exact HO_5.out) hb); have n1_ := Aside0.mk (Kd.S_below (by (with_reducible repeat (first | apply Kd.S_alloc | apply Kd.S_drewN | apply Kd.S_drew)); exact HO365.out) hb); have n2_ := Aside0.mk (Kd.C_below (by repeat (first | (with_reducible exact HR360.out) | (with_reducible refine Kd.C_alloc ?_ _) | (with_reducible refine Kd.C_drewN ?_ _) | (with_reducible refine Kd.C_drew ?_) | exact HR360.out)) hb); have n3_ := Aside0.mk (below_step (by repeat (first | (with_reducible first | exact HB.out | apply below_alloc | apply pw_below_drewN | apply below_drew1) | exact HB.out)) hb); clear HO_5; clear HO365; clear HR360; clear HB; have HO_5 := n0_; have HO365 := n1_; have HR360 := n2_; have HB := n3_; clear n0_ n1_ n2_ n3_; (try clear hb); (try clear hb2); (try clear hk); (try clear hi)))
                                    go_ret
                                    exact ⟨by first | rfl | (simp [errW_none, errW_some] <;> rfl) | (simp only [← hji36, ← hji40]; first | rfl | (simp [errW_none, errW_some] <;> rfl)) | (simp [*, errW_none, errW_some] <;> rfl), by repeat (first | (with_reducible first | exact HB.out | apply below_alloc | apply pw_below_drewN | apply below_drew1) | exact HB.out)⟩
                              · rw [if_neg c47] at H
                                have c47b0 : (t362 == x6_1) = false := beq_eq_false_iff_ne.mpr c47
                                have c47b1 : (t362 != x6_1) = true := bne_iff_ne.mpr c47
                                obtain rfl := Option.some.inj H
                                have q65 : ((ji36) : Int) ≤ ((x5_1.length : Int) : Int) := of_decide_eq_true (by first | (with_reducible assumption) | assumption)
                                obtain ⟨i065, hi065, _, hsz65, _⟩ := info_parts info5
                                have hroom65 : x5_1.length ≤ co20 := (Kd.R_reads' HO_5.out).2.1
                                have hC65 : Kd.C (Kd.int .u8) _ Ao20 x5_1.length x5_1 := (Kd.R_reads' HO_5.out).2.2
                                have hcut65 := cut_to (P := Try.prog) 23 5 .i64 Try.underlying23 hi065 Ao20 x5_1.length co20 (ji36) (of_decide_eq_true (by first | (with_reducible assumption) | assumption)) q65 hroom65
                                have hr65 := Kd.C_take (m := ((ji36) : Int).toNat) hC65 (by omega)
                                have hy65 : y357.length = ((ji36) : Int).toNat := (by rw [Ny357.out, List.length_take]; omega)
                                rw [← Ny357.out] at hr65
                                rw [← hy65] at hcut65
                                have HR360 := Aside0.mk hr65
                                have HC360 := Aside0.mk (show y357.length ≤ co20 from by omega)
                                clear hr65 hC65 hroom65 hi065 hsz65
                                have KY65 := Aside0.mk hy65
                                clear hy65
                                have KL65 := Aside0.mk (show ((ji36) : Int).toNat ≤ x5_1.length from by omega)
                                replace q65 := eq_true q65
                                go_wp2_with (first | ((with_reducible refine gate_callee (f := 20) rfl ?_); refine goesL_ (some 104) rfl rfl Try.func20 (by kernel_rfl) rfl #[.slice Ao20 y357.length co20] rfl (by (try simp only [List.map_toArray, List.map_cons, List.map_nil]); first | done | rfl | (simp only [List.length_drop, List.length_take]; rfl)) ?_; (with_reducible refine (frame_Scan.calls kj18 _ _ y357 t361 t362 t363 _ ?side1 ?side2 A39.out).mono ?_); (case side1 => repeat (first | exact (by repeat (first | (with_reducible exact HR360.out) | (with_reducible refine Kd.C_alloc ?_ _) | (with_reducible refine Kd.C_drewN ?_ _) | (with_reducible refine Kd.C_drew ?_) | exact HR360.out)) | (with_reducible refine Kd.C_alloc ?_ _) | (with_reducible refine Kd.C_drewN ?_ _) | (with_reducible refine Kd.C_drew ?_))); (case side2 => exact HC360.out); rintro e w66 ⟨v364, rfl, ho0, hb⟩; refine ⟨_, rfl, ?_⟩; have n0_ := Aside0.mk (Kd.R_below (by (with_reducible repeat (first | apply Kd.R_alloc | apply Kd.R_drewN | apply Kd.R_drew)); exact HO_5.out) hb); have n1_ := Aside0.mk (Kd.S_lower (Kd.S_new' ho0 (Kd.R_lt (by (with_reducible repeat (first | apply Kd.R_alloc | apply Kd.R_drewN | apply Kd.R_drew)); exact HO_5.out))) (below_size (by repeat (first | (with_reducible first | exact HB.out | apply below_alloc | apply pw_below_drewN | apply below_drew1) | exact HB.out)))); have n2_ := Aside0.mk (Kd.C_below (by repeat (first | (with_reducible exact HR360.out) | (with_reducible refine Kd.C_alloc ?_ _) | (with_reducible refine Kd.C_drewN ?_ _) | (with_reducible refine Kd.C_drew ?_) | exact HR360.out)) hb); have n3_ := Aside0.mk (below_step (by repeat (first | (with_reducible first | exact HB.out | apply below_alloc | apply pw_below_drewN | apply below_drew1) | exact HB.out)) hb); clear HO_5; clear HR360; clear HB; have HO_5 := n0_; have HO365 := n1_; have HR360 := n2_; have HB := n3_; clear n0_ n1_ n2_ n3_; (try clear hb); (try clear hb2); (try clear hk); (try clear hi); (try clear ho0); have q67 : ((ji40) : Int) ≤ ((l0.length : Int) : Int) := of_decide_eq_true (by first | (with_reducible assumption) | assumption); obtain ⟨i067, hi067, _, hsz67, _⟩ := info_parts info23; have hroom67 : l0.length ≤ c0 := HC0.out; have hC67 : Kd.C (Kd.slice 5 (Kd.int .u8)) _ A0 l0.length l0 := HR0.out; have hcut67 := cut_to (P := Try.prog) 38 23 .i64 Try.underlying38 hi067 A0 l0.length c0 (ji40) (of_decide_eq_true (by first | (with_reducible assumption) | assumption)) q67 hroom67; have hr67 := Kd.C_take (m := ((ji40) : Int).toNat) hC67 (by omega); have hy67 : y366.length = ((ji40) : Int).toNat := (by rw [Ny366.out, List.length_take]; omega); rw [← Ny366.out] at hr67; rw [← hy67] at hcut67; have HR369 := Aside0.mk hr67; have HC369 := Aside0.mk (show y366.length ≤ c0 from by omega); clear hr67 hC67 hroom67 hi067 hsz67; have KY67 := Aside0.mk hy67; clear hy67; replace q67 := eq_true q67; obtain ⟨Ao68, co68, eo68⟩ := Kd.S_slice HO365.out; subst eo68) | ((with_reducible refine gate_callee (f := 22) rfl ?_); refine goesL_ (some 114) rfl rfl Try.func22 (by kernel_rfl) rfl #[.slice Ao68 t361.length co68, .slice A0 y366.length c0] rfl (by (try simp only [List.map_toArray, List.map_cons, List.map_nil]); first | done | rfl | (simp only [List.length_drop, List.length_take]; rfl)) ?_; (with_reducible refine (telemeterref02_Same.calls kj18 _ _ t361 _ _ y366 true _ ?side1 ?side2 ?side3 ?side4 A43.out).mono ?_); (case side1 => repeat (first | exact (Kd.S_reads' HO365.out).2.2 | (with_reducible refine Kd.C_alloc ?_ _) | (with_reducible refine Kd.C_drewN ?_ _) | (with_reducible refine Kd.C_drew ?_))); (case side2 => exact (Kd.S_reads' HO365.out).2.1); (case side3 => repeat (first | exact (Kd.C_below HR369.out HB.out) | (with_reducible refine Kd.C_alloc ?_ _) | (with_reducible refine Kd.C_drewN ?_ _) | (with_reducible refine Kd.C_drew ?_))); (case side4 => exact HC369.out); rintro e w' ⟨rfl, ⟨nd, rfl⟩⟩; refine ⟨_, rfl, ?_⟩) | ((with_reducible refine gate_callee (f := 16) rfl ?_); refine goesL_ (some 115) rfl rfl Try.func16 (by kernel_rfl) rfl #[] rfl (by (try simp only [List.map_toArray, List.map_cons, List.map_nil]); first | done | rfl | (simp only [List.length_drop, List.length_take]; rfl)) ?_; (with_reducible refine (telemeterlaw02_known.calls  true _ A44.out).mono ?_); rintro e w69 ⟨rfl, hb⟩; refine ⟨_, rfl, ?_⟩; have n0_ := Aside0.mk (Kd.R_below (by (with_reducible repeat (first | apply Kd.R_alloc | apply Kd.R_drewN | apply Kd.R_drew)); exact HO_5.out) hb); have n1_ := Aside0.mk (Kd.S_below (by (with_reducible repeat (first | apply Kd.S_alloc | apply Kd.S_drewN | apply Kd.S_drew)); exact HO365.out) hb); have n2_ := Aside0.mk (Kd.C_below (by repeat (first | (with_reducible exact HR360.out) | (with_reducible refine Kd.C_alloc ?_ _) | (with_reducible refine Kd.C_drewN ?_ _) | (with_reducible refine Kd.C_drew ?_) | exact HR360.out)) hb); have n3_ := Aside0.mk (below_step (by repeat (first | (with_reducible first | exact HB.out | apply below_alloc | apply pw_below_drewN | apply below_drew1) | exact HB.out)) hb); clear HO_5; clear HO365; clear HR360; clear HB; have HO_5 := n0_; have HO365 := n1_; have HR360 := n2_; have HB := n3_; clear n0_ n1_ n2_ n3_; (try clear hb); (try clear hb2); (try clear hk); (try clear hi)))
                                go_ret
                                exact ⟨by first | rfl | (simp [errW_none, errW_some] <;> rfl) | (simp only [← hji36, ← hji40]; first | rfl | (simp [errW_none, errW_some] <;> rfl)) | (simp [*, errW_none, errW_some] <;> rfl), by repeat (first | (with_reducible first | exact HB.out | apply below_alloc | apply pw_below_drewN | apply below_drew1) | exact HB.out)⟩
                            · replace c46 := Bool.eq_false_iff.mpr c46
                              subst c46
                              have H1 : (some false) = some r := by rw [if_neg (show ¬ (false = true) by decide)] at H; exact H
                              clear H
                              have H := H1
                              clear H1
                              obtain rfl := Option.some.inj H
                              have q70 : ((ji36) : Int) ≤ ((x5_1.length : Int) : Int) := of_decide_eq_true (by first | (with_reducible assumption) | assumption)
                              obtain ⟨i070, hi070, _, hsz70, _⟩ := info_parts info5
                              have hroom70 : x5_1.length ≤ co20 := (Kd.R_reads' HO_5.out).2.1
                              have hC70 : Kd.C (Kd.int .u8) _ Ao20 x5_1.length x5_1 := (Kd.R_reads' HO_5.out).2.2
                              have hcut70 := cut_to (P := Try.prog) 23 5 .i64 Try.underlying23 hi070 Ao20 x5_1.length co20 (ji36) (of_decide_eq_true (by first | (with_reducible assumption) | assumption)) q70 hroom70
                              have hr70 := Kd.C_take (m := ((ji36) : Int).toNat) hC70 (by omega)
                              have hy70 : y357.length = ((ji36) : Int).toNat := (by rw [Ny357.out, List.length_take]; omega)
                              rw [← Ny357.out] at hr70
                              rw [← hy70] at hcut70
                              have HR360 := Aside0.mk hr70
                              have HC360 := Aside0.mk (show y357.length ≤ co20 from by omega)
                              clear hr70 hC70 hroom70 hi070 hsz70
                              have KY70 := Aside0.mk hy70
                              clear hy70
                              have KL70 := Aside0.mk (show ((ji36) : Int).toNat ≤ x5_1.length from by omega)
                              replace q70 := eq_true q70
                              go_wp2_with (first | ((with_reducible refine gate_callee (f := 20) rfl ?_); refine goesL_ (some 104) rfl rfl Try.func20 (by kernel_rfl) rfl #[.slice Ao20 y357.length co20] rfl (by (try simp only [List.map_toArray, List.map_cons, List.map_nil]); first | done | rfl | (simp only [List.length_drop, List.length_take]; rfl)) ?_; (with_reducible refine (frame_Scan.calls kj18 _ _ y357 t361 t362 t363 _ ?side1 ?side2 A39.out).mono ?_); (case side1 => repeat (first | exact (by repeat (first | (with_reducible exact HR360.out) | (with_reducible refine Kd.C_alloc ?_ _) | (with_reducible refine Kd.C_drewN ?_ _) | (with_reducible refine Kd.C_drew ?_) | exact HR360.out)) | (with_reducible refine Kd.C_alloc ?_ _) | (with_reducible refine Kd.C_drewN ?_ _) | (with_reducible refine Kd.C_drew ?_))); (case side2 => exact HC360.out); rintro e w71 ⟨v364, rfl, ho0, hb⟩; refine ⟨_, rfl, ?_⟩; have n0_ := Aside0.mk (Kd.R_below (by (with_reducible repeat (first | apply Kd.R_alloc | apply Kd.R_drewN | apply Kd.R_drew)); exact HO_5.out) hb); have n1_ := Aside0.mk (Kd.S_lower (Kd.S_new' ho0 (Kd.R_lt (by (with_reducible repeat (first | apply Kd.R_alloc | apply Kd.R_drewN | apply Kd.R_drew)); exact HO_5.out))) (below_size (by repeat (first | (with_reducible first | exact HB.out | apply below_alloc | apply pw_below_drewN | apply below_drew1) | exact HB.out)))); have n2_ := Aside0.mk (Kd.C_below (by repeat (first | (with_reducible exact HR360.out) | (with_reducible refine Kd.C_alloc ?_ _) | (with_reducible refine Kd.C_drewN ?_ _) | (with_reducible refine Kd.C_drew ?_) | exact HR360.out)) hb); have n3_ := Aside0.mk (below_step (by repeat (first | (with_reducible first | exact HB.out | apply below_alloc | apply pw_below_drewN | apply below_drew1) | exact HB.out)) hb); clear HO_5; clear HR360; clear HB; have HO_5 := n0_; have HO365 := n1_; have HR360 := n2_; have HB := n3_; clear n0_ n1_ n2_ n3_; (try clear hb); (try clear hb2); (try clear hk); (try clear hi); (try clear ho0); have q72 : ((ji40) : Int) ≤ ((l0.length : Int) : Int) := of_decide_eq_true (by first | (with_reducible assumption) | assumption); obtain ⟨i072, hi072, _, hsz72, _⟩ := info_parts info23; have hroom72 : l0.length ≤ c0 := HC0.out; have hC72 : Kd.C (Kd.slice 5 (Kd.int .u8)) _ A0 l0.length l0 := HR0.out; have hcut72 := cut_to (P := Try.prog) 38 23 .i64 Try.underlying38 hi072 A0 l0.length c0 (ji40) (of_decide_eq_true (by first | (with_reducible assumption) | assumption)) q72 hroom72; have hr72 := Kd.C_take (m := ((ji40) : Int).toNat) hC72 (by omega); have hy72 : y366.length = ((ji40) : Int).toNat := (by rw [Ny366.out, List.length_take]; omega); rw [← Ny366.out] at hr72; rw [← hy72] at hcut72; have HR369 := Aside0.mk hr72; have HC369 := Aside0.mk (show y366.length ≤ c0 from by omega); clear hr72 hC72 hroom72 hi072 hsz72; have KY72 := Aside0.mk hy72; clear hy72; replace q72 := eq_true q72; obtain ⟨Ao73, co73, eo73⟩ := Kd.S_slice HO365.out; subst eo73) | ((with_reducible refine gate_callee (f := 22) rfl ?_); refine goesL_ (some 114) rfl rfl Try.func22 (by kernel_rfl) rfl #[.slice Ao73 t361.length co73, .slice A0 y366.length c0] rfl (by (try simp only [List.map_toArray, List.map_cons, List.map_nil]); first | done | rfl | (simp only [List.length_drop, List.length_take]; rfl)) ?_; (with_reducible refine (telemeterref02_Same.calls kj18 _ _ t361 _ _ y366 false _ ?side1 ?side2 ?side3 ?side4 A43.out).mono ?_); (case side1 => repeat (first | exact (Kd.S_reads' HO365.out).2.2 | (with_reducible refine Kd.C_alloc ?_ _) | (with_reducible refine Kd.C_drewN ?_ _) | (with_reducible refine Kd.C_drew ?_))); (case side2 => exact (Kd.S_reads' HO365.out).2.1); (case side3 => repeat (first | exact (Kd.C_below HR369.out HB.out) | (with_reducible refine Kd.C_alloc ?_ _) | (with_reducible refine Kd.C_drewN ?_ _) | (with_reducible refine Kd.C_drew ?_))); (case side4 => exact HC369.out); rintro e w' ⟨rfl, ⟨nd, rfl⟩⟩; refine ⟨_, rfl, ?_⟩) | ((with_reducible refine gate_callee (f := 16) rfl ?_); refine goesL_ (some 115) rfl rfl Try.func16 (by kernel_rfl) rfl #[] rfl (by (try simp only [List.map_toArray, List.map_cons, List.map_nil]); first | done | rfl | (simp only [List.length_drop, List.length_take]; rfl)) ?_; (with_reducible refine (telemeterlaw02_known.calls  true _ A44.out).mono ?_); rintro e w74 ⟨rfl, hb⟩; refine ⟨_, rfl, ?_⟩; have n0_ := Aside0.mk (Kd.R_below (by (with_reducible repeat (first | apply Kd.R_alloc | apply Kd.R_drewN | apply Kd.R_drew)); exact HO_5.out) hb); have n1_ := Aside0.mk (Kd.S_below (by (with_reducible repeat (first | apply Kd.S_alloc | apply Kd.S_drewN | apply Kd.S_drew)); exact HO365.out) hb); have n2_ := Aside0.mk (Kd.C_below (by repeat (first | (with_reducible exact HR360.out) | (with_reducible refine Kd.C_alloc ?_ _) | (with_reducible refine Kd.C_drewN ?_ _) | (with_reducible refine Kd.C_drew ?_) | exact HR360.out)) hb); have n3_ := Aside0.mk (below_step (by repeat (first | (with_reducible first | exact HB.out | apply below_alloc | apply pw_below_drewN | apply below_drew1) | exact HB.out)) hb); clear HO_5; clear HO365; clear HR360; clear HB; have HO_5 := n0_; have HO365 := n1_; have HR360 := n2_; have HB := n3_; clear n0_ n1_ n2_ n3_; (try clear hb); (try clear hb2); (try clear hk); (try clear hi)))
                              go_ret
                              exact ⟨by first | rfl | (simp [errW_none, errW_some] <;> rfl) | (simp only [← hji36, ← hji40]; first | rfl | (simp [errW_none, errW_some] <;> rfl)) | (simp [*, errW_none, errW_some] <;> rfl), by repeat (first | (with_reducible first | exact HB.out | apply below_alloc | apply pw_below_drewN | apply below_drew1) | exact HB.out)⟩
                          · replace c45 := Bool.eq_false_iff.mpr c45
                            subst c45
                            have H1 : (some false) = some r := by rw [if_neg (show ¬ (false = true) by decide)] at H; exact H
                            clear H
                            have H := H1
                            clear H1
                            obtain rfl := Option.some.inj H
                            have q75 : ((ji36) : Int) ≤ ((x5_1.length : Int) : Int) := of_decide_eq_true (by first | (with_reducible assumption) | assumption)
                            obtain ⟨i075, hi075, _, hsz75, _⟩ := info_parts info5
                            have hroom75 : x5_1.length ≤ co20 := (Kd.R_reads' HO_5.out).2.1
                            have hC75 : Kd.C (Kd.int .u8) _ Ao20 x5_1.length x5_1 := (Kd.R_reads' HO_5.out).2.2
                            have hcut75 := cut_to (P := Try.prog) 23 5 .i64 Try.underlying23 hi075 Ao20 x5_1.length co20 (ji36) (of_decide_eq_true (by first | (with_reducible assumption) | assumption)) q75 hroom75
                            have hr75 := Kd.C_take (m := ((ji36) : Int).toNat) hC75 (by omega)
                            have hy75 : y357.length = ((ji36) : Int).toNat := (by rw [Ny357.out, List.length_take]; omega)
                            rw [← Ny357.out] at hr75
                            rw [← hy75] at hcut75
                            have HR360 := Aside0.mk hr75
                            have HC360 := Aside0.mk (show y357.length ≤ co20 from by omega)
                            clear hr75 hC75 hroom75 hi075 hsz75
                            have KY75 := Aside0.mk hy75
                            clear hy75
                            have KL75 := Aside0.mk (show ((ji36) : Int).toNat ≤ x5_1.length from by omega)
                            replace q75 := eq_true q75
                            go_wp2_with (first | ((with_reducible refine gate_callee (f := 20) rfl ?_); refine goesL_ (some 104) rfl rfl Try.func20 (by kernel_rfl) rfl #[.slice Ao20 y357.length co20] rfl (by (try simp only [List.map_toArray, List.map_cons, List.map_nil]); first | done | rfl | (simp only [List.length_drop, List.length_take]; rfl)) ?_; (with_reducible refine (frame_Scan.calls kj18 _ _ y357 t361 t362 t363 _ ?side1 ?side2 A39.out).mono ?_); (case side1 => repeat (first | exact (by repeat (first | (with_reducible exact HR360.out) | (with_reducible refine Kd.C_alloc ?_ _) | (with_reducible refine Kd.C_drewN ?_ _) | (with_reducible refine Kd.C_drew ?_) | exact HR360.out)) | (with_reducible refine Kd.C_alloc ?_ _) | (with_reducible refine Kd.C_drewN ?_ _) | (with_reducible refine Kd.C_drew ?_))); (case side2 => exact HC360.out); rintro e w76 ⟨v364, rfl, ho0, hb⟩; refine ⟨_, rfl, ?_⟩; have n0_ := Aside0.mk (Kd.R_below (by (with_reducible repeat (first | apply Kd.R_alloc | apply Kd.R_drewN | apply Kd.R_drew)); exact HO_5.out) hb); have n1_ := Aside0.mk (Kd.S_lower (Kd.S_new' ho0 (Kd.R_lt (by (with_reducible repeat (first | apply Kd.R_alloc | apply Kd.R_drewN | apply Kd.R_drew)); exact HO_5.out))) (below_size (by repeat (first | (with_reducible first | exact HB.out | apply below_alloc | apply pw_below_drewN | apply below_drew1) | exact HB.out)))); have n2_ := Aside0.mk (Kd.C_below (by repeat (first | (with_reducible exact HR360.out) | (with_reducible refine Kd.C_alloc ?_ _) | (with_reducible refine Kd.C_drewN ?_ _) | (with_reducible refine Kd.C_drew ?_) | exact HR360.out)) hb); have n3_ := Aside0.mk (below_step (by repeat (first | (with_reducible first | exact HB.out | apply below_alloc | apply pw_below_drewN | apply below_drew1) | exact HB.out)) hb); clear HO_5; clear HR360; clear HB; have HO_5 := n0_; have HO365 := n1_; have HR360 := n2_; have HB := n3_; clear n0_ n1_ n2_ n3_; (try clear hb); (try clear hb2); (try clear hk); (try clear hi); (try clear ho0); have q77 : ((ji40) : Int) ≤ ((l0.length : Int) : Int) := of_decide_eq_true (by first | (with_reducible assumption) | assumption); obtain ⟨i077, hi077, _, hsz77, _⟩ := info_parts info23; have hroom77 : l0.length ≤ c0 := HC0.out; have hC77 : Kd.C (Kd.slice 5 (Kd.int .u8)) _ A0 l0.length l0 := HR0.out; have hcut77 := cut_to (P := Try.prog) 38 23 .i64 Try.underlying38 hi077 A0 l0.length c0 (ji40) (of_decide_eq_true (by first | (with_reducible assumption) | assumption)) q77 hroom77; have hr77 := Kd.C_take (m := ((ji40) : Int).toNat) hC77 (by omega); have hy77 : y366.length = ((ji40) : Int).toNat := (by rw [Ny366.out, List.length_take]; omega); rw [← Ny366.out] at hr77; rw [← hy77] at hcut77; have HR369 := Aside0.mk hr77; have HC369 := Aside0.mk (show y366.length ≤ c0 from by omega); clear hr77 hC77 hroom77 hi077 hsz77; have KY77 := Aside0.mk hy77; clear hy77; replace q77 := eq_true q77; obtain ⟨Ao78, co78, eo78⟩ := Kd.S_slice HO365.out; subst eo78) | ((with_reducible refine gate_callee (f := 22) rfl ?_); refine goesL_ (some 114) rfl rfl Try.func22 (by kernel_rfl) rfl #[.slice Ao78 t361.length co78, .slice A0 y366.length c0] rfl (by (try simp only [List.map_toArray, List.map_cons, List.map_nil]); first | done | rfl | (simp only [List.length_drop, List.length_take]; rfl)) ?_; (with_reducible refine (telemeterref02_Same.calls kj18 _ _ t361 _ _ y366 t370 _ ?side1 ?side2 ?side3 ?side4 A43.out).mono ?_); (case side1 => repeat (first | exact (Kd.S_reads' HO365.out).2.2 | (with_reducible refine Kd.C_alloc ?_ _) | (with_reducible refine Kd.C_drewN ?_ _) | (with_reducible refine Kd.C_drew ?_))); (case side2 => exact (Kd.S_reads' HO365.out).2.1); (case side3 => repeat (first | exact (Kd.C_below HR369.out HB.out) | (with_reducible refine Kd.C_alloc ?_ _) | (with_reducible refine Kd.C_drewN ?_ _) | (with_reducible refine Kd.C_drew ?_))); (case side4 => exact HC369.out); rintro e w' ⟨rfl, ⟨nd, rfl⟩⟩; refine ⟨_, rfl, ?_⟩) | ((with_reducible refine gate_callee (f := 16) rfl ?_); refine goesL_ (some 115) rfl rfl Try.func16 (by kernel_rfl) rfl #[] rfl (by (try simp only [List.map_toArray, List.map_cons, List.map_nil]); first | done | rfl | (simp only [List.length_drop, List.length_take]; rfl)) ?_; (with_reducible refine (telemeterlaw02_known.calls  false _ A44.out).mono ?_); rintro e w79 ⟨rfl, hb⟩; refine ⟨_, rfl, ?_⟩; have n0_ := Aside0.mk (Kd.R_below (by (with_reducible repeat (first | apply Kd.R_alloc | apply Kd.R_drewN | apply Kd.R_drew)); exact HO_5.out) hb); have n1_ := Aside0.mk (Kd.S_below (by (with_reducible repeat (first | apply Kd.S_alloc | apply Kd.S_drewN | apply Kd.S_drew)); exact HO365.out) hb); have n2_ := Aside0.mk (Kd.C_below (by repeat (first | (with_reducible exact HR360.out) | (with_reducible refine Kd.C_alloc ?_ _) | (with_reducible refine Kd.C_drewN ?_ _) | (with_reducible refine Kd.C_drew ?_) | exact HR360.out)) hb); have n3_ := Aside0.mk (below_step (by repeat (first | (with_reducible first | exact HB.out | apply below_alloc | apply pw_below_drewN | apply below_drew1) | exact HB.out)) hb); clear HO_5; clear HO365; clear HR360; clear HB; have HO_5 := n0_; have HO365 := n1_; have HR360 := n2_; have HB := n3_; clear n0_ n1_ n2_ n3_; (try clear hb); (try clear hb2); (try clear hk); (try clear hi)))
                            go_ret
                            exact ⟨by first | rfl | (simp [errW_none, errW_some] <;> rfl) | (simp only [← hji36, ← hji40]; first | rfl | (simp [errW_none, errW_some] <;> rfl)) | (simp [*, errW_none, errW_some] <;> rfl), by repeat (first | (with_reducible first | exact HB.out | apply below_alloc | apply pw_below_drewN | apply below_drew1) | exact HB.out)⟩
                        · rw [if_neg c42] at H
                          exact absurd H (by simp)
                      · rw [if_neg c41] at H
                        exact absurd H (by simp)
                    · rw [if_neg c38] at H
                      exact absurd H (by simp)
                  · rw [if_neg c37] at H
                    exact absurd H (by simp)

end Go.Proofs.Ytjnlplgefcmngaa.Px
