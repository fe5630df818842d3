-- Laid by a program of this session (wip/xprint.py: the kit's print.py, with functions given by hand). Lean checks it.
import Derived.Test.YtiheghnojmfmfaaPx0
import Derived.Test.YtiheghnojmfmfaaPx13
import Derived.Test.YtiheghnojmfmfaaPx18
import Derived.Test.YtiheghnojmfmfaaPx24
namespace Go.Proofs.Ytiheghnojmfmfaa.Px
open Go.RowKit Go.Proofs.YtiheghnojmfmfaaW.PrintWords Go.Proofs.YtiheghnojmfmfaaW.PrintLast Go.Proofs.YtiheghnojmfmfaaW.PrintMore
attribute [local go_sem] max2_int min2_int max_two min_two max_three min_three max_four min_four   -- for this text's walks alone
set_option linter.unusedVariables false
set_option linter.unusedSimpArgs false

/-! ### telemeterlaw02_FrameTakes: function 12 -/
mutual
def telemeterlaw02_FrameTakes.j0 : Nat → List Int → List (List Int) → Int → Int → Int → Int → Bool → Option (Bool)
  | 0, _, _, _, _, _, _, _ => none
  | k + 1, x0, x1, x2, x3, x4, x5, x29 => if x29 = true then ((telemeterlaw02_known.f).bind fun t229 => (some t229)) else (telemeterlaw02_FrameTakes.l0 k x0 x1 x2 x3 x4 x5 ([] : List Int) 0)
def telemeterlaw02_FrameTakes.l0 : Nat → List Int → List (List Int) → Int → Int → Int → Int → List Int → Int → Option (Bool)
  | 0, _, _, _, _, _, _, _, _ => none
  | k + 1, x0, x1, x2, x3, x4, x5, x13, x14 => if x14 < (x1.length : Int) then (if 0 ≤ x14 then (if ((rd_L1 x1 x14).length : Int) > 60 then (some true) else ((telemeterref02_Frame.f k (rd_L1 x1 x14)).bind fun bt232 => (if x13.length + bt232.1.length < 140737488355328 then (telemeterlaw02_FrameTakes.l0 k x0 x1 x2 x3 x4 x5 (x13 ++ bt232.1) (wrap64 (x14 + 1))) else (none)))) else (none)) else (if (x13.length : Int) > 0 then (if (x13.length : Int) = 0 then (none) else (if 0 ≤ (Int.tmod (wrap64 (x3)) (x13.length : Int)) then (if (Int.tmod (wrap64 (x3)) (x13.length : Int)) < (x13.length : Int) then (if (mn (x13.length : Int) 9) = 0 then (none) else (if 0 ≤ (wrap64 ((x13.length : Int) - (Int.tmod (wrap64 (x4)) (mn (x13.length : Int) 9)))) then (if (wrap64 ((x13.length : Int) - (Int.tmod (wrap64 (x4)) (mn (x13.length : Int) 9)))) ≤ (x13.length : Int) then ((some ((x13.set ((Int.tmod (wrap64 (x3)) (x13.length : Int)) : Int).toNat x5).take ((wrap64 ((x13.length : Int) - (Int.tmod (wrap64 (x4)) (mn (x13.length : Int) 9)))) : Int).toNat : List Int)).bind fun y240 => ((telemeterlaw02_tells.f k x0 x2).bind fun t243 => (if t243 = true then (if (wrap64 ((y240.length : Int) + 1)) = 0 then (none) else ((telemeterlaw02_tells.f k y240 (Int.tmod (wrap64 (x3)) (wrap64 ((y240.length : Int) + 1)))).bind fun t244 => (some t244))) else (some false)))) else (none)) else (none))) else (none)) else (none))) else ((telemeterlaw02_tells.f k x0 x2).bind fun t245 => (if t245 = true then (if (wrap64 ((x13.length : Int) + 1)) = 0 then (none) else ((telemeterlaw02_tells.f k x13 (Int.tmod (wrap64 (x3)) (wrap64 ((x13.length : Int) + 1)))).bind fun t246 => (some t246))) else (some false))))
end
def telemeterlaw02_FrameTakes.f (k : Nat) (l0 : List Int) (l1 : List (List Int)) (a2 : Int) (a3 : Int) (a4 : Int) (a5 : Int) : Option (Bool) := if (l0.length : Int) > 300 then (telemeterlaw02_FrameTakes.j0 k l0 l1 a2 a3 a4 a5 true) else (if (l1.length : Int) > 6 then (telemeterlaw02_FrameTakes.j0 k l0 l1 a2 a3 a4 a5 true) else ((telemeterlaw02_known.f).bind fun t228 => (telemeterlaw02_FrameTakes.j0 k l0 l1 a2 a3 a4 a5 (!t228))))
theorem telemeterlaw02_FrameTakes.mono_l : ∀ k, (∀ y0 y1 y2 y3 y4 y5 y6, LeO (telemeterlaw02_FrameTakes.j0 k y0 y1 y2 y3 y4 y5 y6) (telemeterlaw02_FrameTakes.j0 (k + 1) y0 y1 y2 y3 y4 y5 y6)) ∧ (∀ y0 y1 y2 y3 y4 y5 y6 y7, LeO (telemeterlaw02_FrameTakes.l0 k y0 y1 y2 y3 y4 y5 y6 y7) (telemeterlaw02_FrameTakes.l0 (k + 1) y0 y1 y2 y3 y4 y5 y6 y7))
  | 0 => ⟨fun _ _ _ _ _ _ _ r h => by simp [telemeterlaw02_FrameTakes.j0] at h, fun _ _ _ _ _ _ _ _ r h => by simp [telemeterlaw02_FrameTakes.l0] at h⟩
  | k + 1 => by
    obtain ⟨ih0, ih1⟩ := telemeterlaw02_FrameTakes.mono_l k
    refine ⟨?_, ?_⟩
    · intro y0 y1 y2 y3 y4 y5 y6
      unfold telemeterlaw02_FrameTakes.j0
      repeat' first
      | (with_reducible exact ih0 _ _ _ _ _ _ _)
      | (with_reducible exact ih1 _ _ _ _ _ _ _ _)
      | (with_reducible exact telemeterlaw02_tells.mono _ _ _)
      | (with_reducible exact telemeterref02_Frame.mono _ _)
      | (with_reducible exact LeO.refl _)
      | (with_reducible exact LeO.none _)
      | (with_reducible refine LeO.ite ?_ ?_)
      | (with_reducible refine LeO.bind ?_ (fun _ => ?_))
      | exact ih0 _ _ _ _ _ _ _
      | exact ih1 _ _ _ _ _ _ _ _
      | exact telemeterlaw02_tells.mono _ _ _
      | exact telemeterref02_Frame.mono _ _
      | exact LeO.none _
      | refine LeO.ite ?_ ?_
      | refine LeO.bind ?_ (fun _ => ?_)
    · intro y0 y1 y2 y3 y4 y5 y6 y7
      unfold telemeterlaw02_FrameTakes.l0
      repeat' first
      | (with_reducible exact ih0 _ _ _ _ _ _ _)
      | (with_reducible exact ih1 _ _ _ _ _ _ _ _)
      | (with_reducible exact telemeterlaw02_tells.mono _ _ _)
      | (with_reducible exact telemeterref02_Frame.mono _ _)
      | (with_reducible exact LeO.refl _)
      | (with_reducible exact LeO.none _)
      | (with_reducible refine LeO.ite ?_ ?_)
      | (with_reducible refine LeO.bind ?_ (fun _ => ?_))
      | exact ih0 _ _ _ _ _ _ _
      | exact ih1 _ _ _ _ _ _ _ _
      | exact telemeterlaw02_tells.mono _ _ _
      | exact telemeterref02_Frame.mono _ _
      | exact LeO.none _
      | refine LeO.ite ?_ ?_
      | refine LeO.bind ?_ (fun _ => ?_)
theorem telemeterlaw02_FrameTakes.mono : ∀ a0 a1 a2 a3 a4 a5 k, LeO (telemeterlaw02_FrameTakes.f k a0 a1 a2 a3 a4 a5) (telemeterlaw02_FrameTakes.f (k + 1) a0 a1 a2 a3 a4 a5) := by
  intro a0 a1 a2 a3 a4 a5 k
  obtain ⟨ih0, ih1⟩ := telemeterlaw02_FrameTakes.mono_l k
  unfold telemeterlaw02_FrameTakes.f
  repeat' first
      | (with_reducible exact ih0 _ _ _ _ _ _ _)
      | (with_reducible exact ih1 _ _ _ _ _ _ _ _)
      | (with_reducible exact telemeterlaw02_tells.mono _ _ _)
      | (with_reducible exact telemeterref02_Frame.mono _ _)
      | (with_reducible exact LeO.refl _)
      | (with_reducible exact LeO.none _)
      | (with_reducible refine LeO.ite ?_ ?_)
      | (with_reducible refine LeO.bind ?_ (fun _ => ?_))
      | exact ih0 _ _ _ _ _ _ _
      | exact ih1 _ _ _ _ _ _ _ _
      | exact telemeterlaw02_tells.mono _ _ _
      | exact telemeterref02_Frame.mono _ _
      | exact LeO.none _
      | refine LeO.ite ?_ ?_
      | refine LeO.bind ?_ (fun _ => ?_)
set_option maxHeartbeats 8000000 in
set_option maxRecDepth 100000 in
theorem telemeterlaw02_FrameTakes.calls (k : Nat) (A0 : Option Addr) (c0 : Nat) (l0 : List Int) (A1 : Option Addr) (c1 : Nat) (l1 : List (List Int)) (a2 : Int) (a3 : Int) (a4 : Int) (a5 : Int) (r : Bool) (w : World) (hr0 : Kd.C (Kd.int .u8) w A0 l0.length l0) (hc0 : l0.length ≤ c0) (hr1 : Kd.C (Kd.slice 5 (Kd.int .u8)) w A1 l1.length l1) (hc1 : l1.length ≤ c1) (h : telemeterlaw02_FrameTakes.f k l0 l1 a2 a3 a4 a5 = some r) :
    Calls Try.prog 12 #[.slice A0 l0.length c0, .slice A1 l1.length c1, .int .i64 a2, .int .u16 a3, .int .u16 a4, .int .u8 a5] w fun e w' => e = .returned (.bool r) ∧ Below w.heap.size w w' := by
  have HR0 := Aside0.mk hr0
  have HC0 := Aside0.mk hc0
  clear hr0 hc0
  have HR1 := Aside0.mk hr1
  have HC1 := Aside0.mk hc1
  clear hr1 hc1
  have HB := Aside0.mk (Below.refl w.heap.size w)
  have H : (if (l0.length : Int) > 300 then (telemeterlaw02_FrameTakes.j0 k l0 l1 a2 a3 a4 a5 true) else (if (l1.length : Int) > 6 then (telemeterlaw02_FrameTakes.j0 k l0 l1 a2 a3 a4 a5 true) else ((telemeterlaw02_known.f).bind fun t228 => (telemeterlaw02_FrameTakes.j0 k l0 l1 a2 a3 a4 a5 (!t228))))) = some r := h
  clear h
  have HC7 := Aside0.mk H
  clear H
  go_enter Try.func12, Try.ntmps12
  go_upto_region 1 with (fail)
  go_cut [29] (fun v29 wc => ∃ (kq : Nat) (x29_6 : Bool), v29 = .bool x29_6 ∧ Aside0 (telemeterlaw02_FrameTakes.j0 kq l0 l1 a2 a3 a4 a5 x29_6 = some r) ∧ Aside0 (kq ≤ k) ∧ Aside0 (Below w.heap.size w wc))
  case first =>
    have H := HC7.out
    clear HC7
    by_cases c8 : (l0.length : Int) > 300
    · rw [if_pos c8] at H
      have c8b0 : decide (300 < (l0.length : Int)) = true := decide_eq_true c8
      have c8b1 : decide (300 < l0.length) = true := decide_eq_true (by omega)
      clear c8
      (first | rw [c8b0] | (simp only [i64_w, i32_w]; rw [c8b0]) | skip)
      have H' := Aside0.mk H
      clear H
      go_wp2
      go_meet
      case rel => exact ⟨_, (true), (by first | rfl | (simp; done) | (simp [*]; done)), H', ⟨by first | omega | exact Nat.le_refl _⟩, ⟨by repeat (first | (with_reducible first | exact HB.out | apply below_alloc | apply pw_below_drewN | apply below_drew1) | exact HB.out)⟩⟩
    · rw [if_neg c8] at H
      have c8b0 : decide (300 < (l0.length : Int)) = false := decide_eq_false c8
      have c8b1 : decide (300 < l0.length) = false := decide_eq_false (by omega)
      clear c8
      (first | rw [c8b0] | (simp only [i64_w, i32_w]; rw [c8b0]) | skip)
      by_cases c9 : (l1.length : Int) > 6
      · rw [if_pos c9] at H
        have c9b0 : decide (6 < (l1.length : Int)) = true := decide_eq_true c9
        have c9b1 : decide (6 < l1.length) = true := decide_eq_true (by omega)
        clear c9
        have H' := Aside0.mk H
        clear H
        go_wp2
        go_meet
        case rel => exact ⟨_, (true), (by first | rfl | (simp; done) | (simp [*]; done)), H', ⟨by first | omega | exact Nat.le_refl _⟩, ⟨by repeat (first | (with_reducible first | exact HB.out | apply below_alloc | apply pw_below_drewN | apply below_drew1) | exact HB.out)⟩⟩
      · rw [if_neg c9] at H
        have c9b0 : decide (6 < (l1.length : Int)) = false := decide_eq_false c9
        have c9b1 : decide (6 < l1.length) = false := decide_eq_false (by omega)
        clear c9
        replace H := Option.bind_eq_some_iff.mp H
        obtain ⟨t228, A100, H⟩ := H
        replace H : (telemeterlaw02_FrameTakes.j0 k l0 l1 a2 a3 a4 a5 (!t228)) = some r := H
        have A10 := Aside0.mk A100
        clear A100
        have H' := Aside0.mk H
        clear H
        go_wp2_with (first | (go_at_call 26; (with_reducible refine (telemeterlaw02_known.calls  t228 _ A10.out).mono ?_); rintro e w11 ⟨rfl, hb⟩; have n0_ := Aside0.mk (below_step (by repeat (first | (with_reducible first | exact HB.out | apply below_alloc | apply pw_below_drewN | apply below_drew1) | exact HB.out)) hb); clear HB; have HB := n0_; clear n0_; (try clear hb); (try clear hb2); (try clear hk); (try clear hi)))
        go_meet
        case rel => exact ⟨_, (!t228), (by first | rfl | (simp; done) | (simp [*]; done)), H', ⟨by first | omega | exact Nat.le_refl _⟩, ⟨by repeat (first | (with_reducible first | exact HB.out | apply below_alloc | apply pw_below_drewN | apply below_drew1) | exact HB.out)⟩⟩
  case rest =>
    clear HC7
    try clear c1
    try clear p2
    try clear c8
    try clear c8b0
    try clear c8b1
    try clear c9
    try clear c9b0
    try clear c9b1
    obtain ⟨kq, x29_6, rfl, HA, HJ6, HB⟩ := hcut
    cases kq with
    | zero => exact absurd HA.out (by simp [telemeterlaw02_FrameTakes.j0])
    | succ kj6 =>
      have H := HA.out
      clear HA
      simp only [telemeterlaw02_FrameTakes.j0] at H
      by_cases c12 : x29_6 = true
      · subst c12
        have H1 : ((telemeterlaw02_known.f).bind fun t229 => (some t229)) = some r := by rw [if_pos rfl] at H; exact H
        clear H
        have H := H1
        clear H1
        replace H := Option.bind_eq_some_iff.mp H
        obtain ⟨t229, A130, H⟩ := H
        replace H : (some t229) = some r := H
        have A13 := Aside0.mk A130
        clear A130
        obtain rfl := Option.some.inj H
        go_wp2_with (first | ((with_reducible refine gate_callee (f := 26) rfl ?_); refine goesL_ (some 30) rfl rfl Try.func26 (by kernel_rfl) rfl #[] rfl (by (try simp only [List.map_toArray, List.map_cons, List.map_nil]); first | done | rfl | (simp only [List.length_drop, List.length_take]; rfl)) ?_; (with_reducible refine (telemeterlaw02_known.calls  t229 _ A13.out).mono ?_); rintro e w14 ⟨rfl, hb⟩; refine ⟨_, rfl, ?_⟩; have n0_ := Aside0.mk (below_step (by repeat (first | (with_reducible first | exact HB.out | apply below_alloc | apply pw_below_drewN | apply below_drew1) | exact HB.out)) hb); clear HB; have HB := n0_; clear n0_; (try clear hb); (try clear hb2); (try clear hk); (try clear hi)))
        go_ret
        exact ⟨by first | rfl | (simp [errW_none, errW_some] <;> rfl) | (simp [*, errW_none, errW_some] <;> rfl), by repeat (first | (with_reducible first | exact HB.out | apply below_alloc | apply pw_below_drewN | apply below_drew1) | exact HB.out)⟩
      · replace c12 := Bool.eq_false_iff.mpr c12
        subst c12
        have H1 : (telemeterlaw02_FrameTakes.l0 kj6 l0 l1 a2 a3 a4 a5 ([] : List Int) 0) = some r := by rw [if_neg (show ¬ (false = true) by decide)] at H; exact H
        clear H
        have H := H1
        clear H1
        have H' := Aside0.mk H
        clear H
        go_wp2
        go_loopg [13, 14] kj6 (fun kq v13 v14 w' => ∃ (x13_2 : List Int) (x14_2 : Int), v14 = .int .i64 x14_2 ∧ Aside0 (telemeterlaw02_FrameTakes.l0 kq l0 l1 a2 a3 a4 a5 x13_2 x14_2 = some r) ∧ Aside0 (kq ≤ kj6) ∧ Aside0 (Kd.R (Kd.int .u8) 5 w' w.heap.size (fun _ => True) v13 x13_2) ∧ Aside0 (Below w.heap.size w w'))
        case atStart => exact ⟨(([] : List Int)), (0), (by first | rfl | (simp; done) | (simp [*]; done)), H', ⟨Nat.le_refl _⟩, ⟨by first | exact Kd.R_nil _ _ _ _ _ | exact Kd.N_nil _ _ _ _ _ | exact Kd.V_nil _ _ _ _ _ | exact Kd.Q_nil _ _ _ _ _ | exact Kd.S_nil _ _ _ _ _⟩, ⟨by repeat (first | (with_reducible first | exact HB.out | apply below_alloc | apply pw_below_drewN | apply below_drew1) | exact HB.out)⟩⟩
        case round =>
          clear H'
          try clear c1
          try clear c2
          try clear p2
          try clear c8
          try clear c8b0
          try clear c8b1
          try clear c9
          try clear c9b0
          try clear c9b1
          try clear c12
          try clear p2
          obtain ⟨x13_2, x14_2, rfl, HA, HK2, HO_13, HB⟩ := hrel
          cases gk with
          | zero => exact absurd HA.out (by simp [telemeterlaw02_FrameTakes.l0])
          | succ k2 =>
            have H := HA.out
            clear HA
            simp only [telemeterlaw02_FrameTakes.l0] at H
            by_cases c15 : x14_2 < (l1.length : Int)
            · rw [if_pos c15] at H
              have c15b0 : decide (x14_2 < (l1.length : Int)) = true := decide_eq_true c15
              clear c15
              by_cases c16 : 0 ≤ x14_2
              · rw [if_pos c16] at H
                have c16b0 : decide (0 ≤ x14_2) = true := decide_eq_true c16
                clear c16
                by_cases c17 : ((rd_L1 l1 x14_2).length : Int) > 60
                · rw [if_pos c17] at H
                  have c17b0 : decide (60 < ((rd_L1 l1 x14_2).length : Int)) = true := decide_eq_true c17
                  have c17b1 : decide (60 < (rd_L1 l1 x14_2).length) = true := decide_eq_true (by omega)
                  clear c17
                  obtain rfl := Option.some.inj H
                  have p230 : 0 ≤ (x14_2 : Int) := of_decide_eq_true (by first | (with_reducible assumption) | assumption)
                  have q230 : x14_2 < (l1.length : Int) := of_decide_eq_true (by first | (with_reducible assumption) | assumption)
                  obtain ⟨ad230, A230_0, c230_0, e230, hx230_0, hl230_0, hi230_0⟩ := at_L1 HR1.out x14_2 p230 q230
                  cases e230
                  replace hx230_0 := (HB.out.cell (World.block_lt_of_cell? w _ hx230_0)).trans hx230_0
                  have HR230_0 := Aside0.mk hi230_0
                  have HC230_0 := Aside0.mk hl230_0
                  clear hi230_0 hl230_0
                  replace p230 := eq_true p230
                  replace q230 := eq_true q230
                  go_wp2
                  go_ret
                  exact ⟨by first | rfl | (simp [errW_none, errW_some] <;> rfl) | (simp [*, errW_none, errW_some] <;> rfl), by repeat (first | (with_reducible first | exact HB.out | apply below_alloc | apply pw_below_drewN | apply below_drew1) | exact HB.out)⟩
                · rw [if_neg c17] at H
                  have c17b0 : decide (60 < ((rd_L1 l1 x14_2).length : Int)) = false := decide_eq_false c17
                  have c17b1 : decide (60 < (rd_L1 l1 x14_2).length) = false := decide_eq_false (by omega)
                  clear c17
                  replace H := Option.bind_eq_some_iff.mp H
                  obtain ⟨⟨t232, t233⟩, A180, H⟩ := H
                  replace H : (if x13_2.length + t232.length < 140737488355328 then (telemeterlaw02_FrameTakes.l0 k2 l0 l1 a2 a3 a4 a5 (x13_2 ++ t232) (wrap64 (x14_2 + 1))) else (none)) = some r := H
                  have A18 := Aside0.mk A180
                  clear A180
                  by_cases c19 : x13_2.length + t232.length < 140737488355328
                  · rw [if_pos c19] at H
                    have LMc19 := Aside0.mk c19
                    clear c19
                    obtain ⟨y236, hy236⟩ : ∃ y_ : List Int, y_ = (x13_2 ++ t232) := ⟨_, rfl⟩
                    replace H : (telemeterlaw02_FrameTakes.l0 k2 l0 l1 a2 a3 a4 a5 y236 (wrap64 (x14_2 + 1))) = some r := by first | (rw [hy236]; with_reducible exact H) | (have H2_ := (Option.bind_some _ _).symm.trans H; rw [hy236]; with_reducible exact H2_) | (have H2_ := (Option.bind_some _ _).symm.trans H; with_reducible exact H2_) | with_reducible exact H | (rw [hy236]; exact H) | exact H
                    have Ny236 := Aside0.mk hy236
                    clear hy236
                    have H' := Aside0.mk H
                    clear H
                    have p230 : 0 ≤ (x14_2 : Int) := of_decide_eq_true (by first | (with_reducible assumption) | assumption)
                    have q230 : x14_2 < (l1.length : Int) := of_decide_eq_true (by first | (with_reducible assumption) | assumption)
                    obtain ⟨ad230, A230_0, c230_0, e230, hx230_0, hl230_0, hi230_0⟩ := at_L1 HR1.out x14_2 p230 q230
                    cases e230
                    replace hx230_0 := (HB.out.cell (World.block_lt_of_cell? w _ hx230_0)).trans hx230_0
                    have HR230_0 := Aside0.mk hi230_0
                    have HC230_0 := Aside0.mk hl230_0
                    clear hi230_0 hl230_0
                    replace p230 := eq_true p230
                    replace q230 := eq_true q230
                    have p231 : 0 ≤ (x14_2 : Int) := of_decide_eq_true (by first | (with_reducible assumption) | assumption)
                    have q231 : x14_2 < (l1.length : Int) := of_decide_eq_true (by first | (with_reducible assumption) | assumption)
                    obtain ⟨ad231, A231_0, c231_0, e231, hx231_0, hl231_0, hi231_0⟩ := at_L1 HR1.out x14_2 p231 q231
                    obtain rfl : ad230 = ad231 := (by injection e231)
                    replace hx231_0 := (HB.out.cell (World.block_lt_of_cell? w _ hx231_0)).trans hx231_0
                    have HR231_0 := Aside0.mk hi231_0
                    have HC231_0 := Aside0.mk hl231_0
                    clear hi231_0 hl231_0
                    replace p231 := eq_true p231
                    replace q231 := eq_true q231
                    have ea_ := Option.some.inj (hx230_0.symm.trans hx231_0)
                    injection ea_ with ea_ en_ ec_
                    subst ea_
                    subst ec_
                    clear en_
                    go_wp2_with (first | ((with_reducible refine gate_callee (f := 27) rfl ?_); refine goesL_ (some 48) rfl rfl Try.func27 (by kernel_rfl) rfl #[.slice A230_0 (rd_L1 l1 x14_2).length c230_0] rfl (by (try simp only [List.map_toArray, List.map_cons, List.map_nil]); first | done | rfl | (simp only [List.length_drop, List.length_take]; rfl)) ?_; (with_reducible refine (telemeterref02_Frame.calls k2 _ _ (rd_L1 l1 x14_2) t232 t233 _ ?side1 ?side2 A18.out).mono ?_); (case side1 => repeat (first | exact (Kd.C_below HR231_0.out HB.out) | (with_reducible refine Kd.C_alloc ?_ _) | (with_reducible refine Kd.C_drewN ?_ _) | (with_reducible refine Kd.C_drew ?_))); (case side2 => exact HC231_0.out); rintro e w20 ⟨v234, rfl, ho0, hb⟩; refine ⟨_, rfl, ?_⟩; have n0_ := Aside0.mk (Kd.R_elder' (by (with_reducible repeat (first | apply Kd.R_alloc | apply Kd.R_drewN | apply Kd.R_drew)); exact HO_13.out) (Kd.R_base ho0) hb); have n1_ := Aside0.mk (Kd.R_lower (Kd.R_new' ho0 (Kd.R_lt (by (with_reducible repeat (first | apply Kd.R_alloc | apply Kd.R_drewN | apply Kd.R_drew)); exact HO_13.out))) (below_size (by repeat (first | (with_reducible first | exact HB.out | apply below_alloc | apply pw_below_drewN | apply below_drew1) | exact HB.out)))); have n2_ := Aside0.mk (below_step (by repeat (first | (with_reducible first | exact HB.out | apply below_alloc | apply pw_below_drewN | apply below_drew1) | exact HB.out)) hb); clear HO_13; clear HB; have HO_13 := n0_; have HO235 := n1_; have HB := n2_; clear n0_ n1_ n2_; (try clear hb); (try clear hb2); (try clear hk); (try clear hi); (try clear ho0); obtain ⟨Ao22, co22, eo22⟩ := Kd.R_slice HO235.out; subst eo22) | ((with_reducible refine gate_builtin (b := .append) (xs := #[.tmp 51, .tmp 52]) rfl ?_); (try (refine gate_guard (by rfl) ?_; dsimp only)); at_builtin; refine Kd.R_append_rows (Kd.int .u8) (w0 := w) w.heap.size rfl (.tmp 51) (.tmp 52) 22 5 (.int .u8 0) 1 rfl Try.underlying22 info5 rfl (by decide) (by omega) u13 x13_2 t232 _ _ _ (fun k_ => some k_ ≠ (.slice Ao22 t232.length co22 : Value).ownBlock) (fun _ => False) rfl rfl ?aO ?aR (fun _ _ h => h) (fun _ h => h.elim) ?aF ?aB ?aS ?aL ?_; (case aR => repeat (first | exact (Kd.R_reads' HO235.out).2.2 | (with_reducible refine Kd.C_alloc ?_ _) | (with_reducible refine Kd.C_drewN ?_ _) | (with_reducible refine Kd.C_drew ?_))); (case aB => exact (by repeat (first | (with_reducible first | exact HB.out | apply below_alloc | apply pw_below_drewN | apply below_drew1) | exact HB.out))); (case aF => exact (fun k_ hk => Kd.fresh' (Kd.R_lt (by (with_reducible repeat (first | apply Kd.R_alloc | apply Kd.R_drewN | apply Kd.R_drew)); exact HO235.out)) k_ hk)); (case aO => exact (by (with_reducible repeat (first | apply Kd.R_alloc | apply Kd.R_drewN | apply Kd.R_drew)); exact Kd.R_mono HO_13.out (fun _ hk => hk.2))); (case aS => exact (below_size (by repeat (first | (with_reducible first | exact HB.out | apply below_alloc | apply pw_below_drewN | apply below_drew1) | exact HB.out)))); (case aL => have := LMc19.out; omega); intro v237 w21 ho hb hg hat; rw [← Ny236.out] at ho; have n0_ := Aside0.mk (Kd.R_after (ok := (fun _ => True)) (by (with_reducible repeat (first | apply Kd.R_alloc | apply Kd.R_drewN | apply Kd.R_drew)); exact HO235.out) hg hat); have n1_ := Aside0.mk (hb); have n2_ := Aside0.mk (ho); clear HO235; clear HB; clear HO_13; have HO235 := n0_; have HB := n1_; have HO238 := n2_; clear n0_ n1_ n2_; clear ho hb hg hat))
                    go_roundg k2
                    case measure => have := HJ6.out; have := HK2.out; omega
                    case rel => exact ⟨(y236), (wrap64 (x14_2 + 1)), (by first | rfl | (simp; done) | (simp [*]; done)), H', ⟨by have := HJ6.out; have := HK2.out; omega⟩, ⟨by (with_reducible repeat (first | apply Kd.R_alloc | apply Kd.R_drewN | apply Kd.R_drew)); exact Kd.R_mono HO238.out (fun _ hk => trivial)⟩, ⟨by repeat (first | (with_reducible first | exact HB.out | apply below_alloc | apply pw_below_drewN | apply below_drew1) | exact HB.out)⟩⟩
                  · rw [if_neg c19] at H
                    exact absurd H (by simp)
              · rw [if_neg c16] at H
                exact absurd H (by simp)
            · rw [if_neg c15] at H
              have c15b0 : decide (x14_2 < (l1.length : Int)) = false := decide_eq_false c15
              clear c15
              by_cases c23 : (x13_2.length : Int) > 0
              · rw [if_pos c23] at H
                have c23b0 : decide (0 < (x13_2.length : Int)) = true := decide_eq_true c23
                have c23b1 : decide (0 < x13_2.length) = true := decide_eq_true (by omega)
                clear c23
                by_cases c24 : (x13_2.length : Int) = 0
                · rw [if_pos c24] at H
                  exact absurd H (by simp)
                · rw [if_neg c24] at H
                  have c24b0 : ((x13_2.length : Int) == 0) = false := beq_eq_false_iff_ne.mpr c24
                  have c24b1 : ((x13_2.length : Int) != 0) = true := bne_iff_ne.mpr c24
                  have c24b2 : ¬ (x13_2 = []) := fun h_ => c24 (by rw [h_]; rfl)
                  obtain ⟨ji25, hji25⟩ : ∃ j_ : Int, (Int.tmod (wrap64 (a3)) (x13_2.length : Int)) = j_ := ⟨_, rfl⟩
                  replace H : (if 0 ≤ (ji25) then (if (ji25) < (x13_2.length : Int) then (if (mn (x13_2.length : Int) 9) = 0 then (none) else (if 0 ≤ (wrap64 ((x13_2.length : Int) - (Int.tmod (wrap64 (a4)) (mn (x13_2.length : Int) 9)))) then (if (wrap64 ((x13_2.length : Int) - (Int.tmod (wrap64 (a4)) (mn (x13_2.length : Int) 9)))) ≤ (x13_2.length : Int) then ((some ((x13_2.set ((ji25) : Int).toNat a5).take ((wrap64 ((x13_2.length : Int) - (Int.tmod (wrap64 (a4)) (mn (x13_2.length : Int) 9)))) : Int).toNat : List Int)).bind fun y240 => ((telemeterlaw02_tells.f k2 l0 a2).bind fun t243 => (if t243 = true then (if (wrap64 ((y240.length : Int) + 1)) = 0 then (none) else ((telemeterlaw02_tells.f k2 y240 (Int.tmod (wrap64 (a3)) (wrap64 ((y240.length : Int) + 1)))).bind fun t244 => (some t244))) else (some false)))) else (none)) else (none))) else (none)) else (none)) = some r := by first | (rw [hji25] at H; exact H) | (simp only [hji25] at H ⊢; exact H)
                  by_cases c26 : 0 ≤ (ji25)
                  · rw [if_pos c26] at H
                    have c26b0 : decide (0 ≤ (ji25)) = true := decide_eq_true c26
                    clear c26
                    by_cases c27 : (ji25) < (x13_2.length : Int)
                    · rw [if_pos c27] at H
                      have c27b0 : decide ((ji25) < (x13_2.length : Int)) = true := decide_eq_true c27
                      clear c27
                      obtain ⟨y239, hy239⟩ : ∃ y_ : List Int, y_ = (x13_2.set ((ji25) : Int).toNat a5) := ⟨_, rfl⟩
                      replace H : (if (mn (x13_2.length : Int) 9) = 0 then (none) else (if 0 ≤ (wrap64 ((x13_2.length : Int) - (Int.tmod (wrap64 (a4)) (mn (x13_2.length : Int) 9)))) then (if (wrap64 ((x13_2.length : Int) - (Int.tmod (wrap64 (a4)) (mn (x13_2.length : Int) 9)))) ≤ (x13_2.length : Int) then ((some (y239.take ((wrap64 ((x13_2.length : Int) - (Int.tmod (wrap64 (a4)) (mn (x13_2.length : Int) 9)))) : Int).toNat : List Int)).bind fun y240 => ((telemeterlaw02_tells.f k2 l0 a2).bind fun t243 => (if t243 = true then (if (wrap64 ((y240.length : Int) + 1)) = 0 then (none) else ((telemeterlaw02_tells.f k2 y240 (Int.tmod (wrap64 (a3)) (wrap64 ((y240.length : Int) + 1)))).bind fun t244 => (some t244))) else (some false)))) else (none)) else (none))) = some r := by first | (rw [hy239]; with_reducible exact H) | (have H2_ := (Option.bind_some _ _).symm.trans H; rw [hy239]; with_reducible exact H2_) | (have H2_ := (Option.bind_some _ _).symm.trans H; with_reducible exact H2_) | with_reducible exact H | (rw [hy239]; exact H) | exact H
                      have Ny239 := Aside0.mk hy239
                      clear hy239
                      obtain ⟨ji29, hji29⟩ : ∃ j_ : Int, (mn (x13_2.length : Int) 9) = j_ := ⟨_, rfl⟩
                      replace H : (if (ji29) = 0 then (none) else (if 0 ≤ (wrap64 ((x13_2.length : Int) - (Int.tmod (wrap64 (a4)) (ji29)))) then (if (wrap64 ((x13_2.length : Int) - (Int.tmod (wrap64 (a4)) (ji29)))) ≤ (x13_2.length : Int) then ((some (y239.take ((wrap64 ((x13_2.length : Int) - (Int.tmod (wrap64 (a4)) (ji29)))) : Int).toNat : List Int)).bind fun y240 => ((telemeterlaw02_tells.f k2 l0 a2).bind fun t243 => (if t243 = true then (if (wrap64 ((y240.length : Int) + 1)) = 0 then (none) else ((telemeterlaw02_tells.f k2 y240 (Int.tmod (wrap64 (a3)) (wrap64 ((y240.length : Int) + 1)))).bind fun t244 => (some t244))) else (some false)))) else (none)) else (none))) = some r := by first | (rw [hji29] at H; exact H) | (simp only [hji29] at H ⊢; exact H)
                      have hji29_ : (if 9 < (x13_2.length : Int) then 9 else (x13_2.length : Int)) = ji29 := hji29
                      by_cases c30 : (ji29) = 0
                      · rw [if_pos c30] at H
                        exact absurd H (by simp)
                      · rw [if_neg c30] at H
                        have c30b0 : ((ji29) == 0) = false := beq_eq_false_iff_ne.mpr c30
                        have c30b1 : ((ji29) != 0) = true := bne_iff_ne.mpr c30
                        obtain ⟨ji31, hji31⟩ : ∃ j_ : Int, (wrap64 ((x13_2.length : Int) - (Int.tmod (wrap64 (a4)) (ji29)))) = j_ := ⟨_, rfl⟩
                        replace H : (if 0 ≤ (ji31) then (if (ji31) ≤ (x13_2.length : Int) then ((some (y239.take ((ji31) : Int).toNat : List Int)).bind fun y240 => ((telemeterlaw02_tells.f k2 l0 a2).bind fun t243 => (if t243 = true then (if (wrap64 ((y240.length : Int) + 1)) = 0 then (none) else ((telemeterlaw02_tells.f k2 y240 (Int.tmod (wrap64 (a3)) (wrap64 ((y240.length : Int) + 1)))).bind fun t244 => (some t244))) else (some false)))) else (none)) else (none)) = some r := by first | (rw [hji31] at H; exact H) | (simp only [hji31] at H ⊢; exact H)
                        have hji31w : (IntKind.i64.wrap ((x13_2.length : Int) - (Int.tmod (wrap64 (a4)) (ji29)))) = ji31 := (i64_w _).trans hji31
                        by_cases c32 : 0 ≤ (ji31)
                        · rw [if_pos c32] at H
                          have c32b0 := eq_true c32
                          have c32b1 : decide (0 ≤ (ji31)) = true := decide_eq_true c32
                          clear c32
                          by_cases c33 : (ji31) ≤ (x13_2.length : Int)
                          · rw [if_pos c33] at H
                            have c33b0 := eq_true c33
                            have c33b1 : decide ((ji31) ≤ (x13_2.length : Int)) = true := decide_eq_true c33
                            clear c33
                            obtain ⟨y240, hy240⟩ : ∃ y_ : List Int, y_ = (y239.take ((ji31) : Int).toNat) := ⟨_, rfl⟩
                            replace H : ((telemeterlaw02_tells.f k2 l0 a2).bind fun t243 => (if t243 = true then (if (wrap64 ((y240.length : Int) + 1)) = 0 then (none) else ((telemeterlaw02_tells.f k2 y240 (Int.tmod (wrap64 (a3)) (wrap64 ((y240.length : Int) + 1)))).bind fun t244 => (some t244))) else (some false))) = some r := by first | (rw [hy240]; with_reducible exact H) | (have H2_ := (Option.bind_some _ _).symm.trans H; rw [hy240]; with_reducible exact H2_) | (have H2_ := (Option.bind_some _ _).symm.trans H; with_reducible exact H2_) | with_reducible exact H | (rw [hy240]; exact H) | exact H
                            have Ny240 := Aside0.mk hy240
                            clear hy240
                            replace H := Option.bind_eq_some_iff.mp H
                            obtain ⟨t243, A340, H⟩ := H
                            replace H : (if t243 = true then (if (wrap64 ((y240.length : Int) + 1)) = 0 then (none) else ((telemeterlaw02_tells.f k2 y240 (Int.tmod (wrap64 (a3)) (wrap64 ((y240.length : Int) + 1)))).bind fun t244 => (some t244))) else (some false)) = some r := H
                            have A34 := Aside0.mk A340
                            clear A340
                            by_cases c35 : t243 = true
                            · subst c35
                              have H1 : (if (wrap64 ((y240.length : Int) + 1)) = 0 then (none) else ((telemeterlaw02_tells.f k2 y240 (Int.tmod (wrap64 (a3)) (wrap64 ((y240.length : Int) + 1)))).bind fun t244 => (some t244))) = some r := by rw [if_pos rfl] at H; exact H
                              clear H
                              have H := H1
                              clear H1
                              by_cases c36 : (wrap64 ((y240.length : Int) + 1)) = 0
                              · rw [if_pos c36] at H
                                exact absurd H (by simp)
                              · rw [if_neg c36] at H
                                have c36b0 : ((wrap64 ((y240.length : Int) + 1)) == 0) = false := beq_eq_false_iff_ne.mpr c36
                                have c36b1 : ((wrap64 ((y240.length : Int) + 1)) != 0) = true := bne_iff_ne.mpr c36
                                replace H := Option.bind_eq_some_iff.mp H
                                obtain ⟨t244, A370, H⟩ := H
                                replace H : (some t244) = some r := H
                                have A37 := Aside0.mk A370
                                clear A370
                                obtain rfl := Option.some.inj H
                                obtain ⟨Ao38, co38, eo38⟩ := Kd.R_slice HO_13.out
                                subst eo38
                                have p28 : 0 ≤ ((ji25) : Int) := of_decide_eq_true (by first | (with_reducible assumption) | assumption)
                                have q28 : ((ji25) : Int) < ((x13_2.length : Int) : Int) := of_decide_eq_true (by first | (with_reducible assumption) | assumption)
                                obtain ⟨go28, co28, eo28, gb28, gl28, cl28, HG28⟩ := Kd.R_form HO_13.out (by omega)
                                (first | cases eo28 | (injection eo28 with ea_ en_ ec_; (first | subst ea_ | (injection ea_ with ea_; subst ea_)); subst ec_; clear en_))
                                have GB28 := Aside0.mk gb28
                                have GG28 := Aside0.mk HG28
                                clear gb28 gl28 HG28
                                obtain ⟨hx28_0, hf28_0⟩ := Kd.R_celln 0 HO_13.out ((ji25) : Int) p28 q28
                                replace p28 := eq_true p28
                                replace q28 := eq_true q28
                                have HP39 := Kd.R_putg HO_13.out ((ji25) : Int) a5
                                go_wp2_with (first | ((with_reducible refine gate_store (t := 5) (p := 64) rfl ?_); refine store_event (t := 5) (p := 64) (v := ?vo_w40) (w1 := (wr.setCell ⟨go28, ((ji25) : Int).toNat, none⟩ (.int .u8 a5))) ?hg ?ho ?hn ?hr ?_; (case ho => rfl); (case hg => rfl); (case hn => rfl); (case hr => first | (go_simp; done) | (go_simp; rfl)); intro w40 hw; have hg : wr.grownBy w40 (some go28) := (by rw [hw]; exact HP39.2); have hp_ : Kd.R (Kd.int .u8) 5 w40 w.heap.size (fun _ => True) (.slice (some ⟨go28, 0, none⟩) x13_2.length co38) y239 := (by rw [hw, Ny239.out]; exact HP39.1); clear HP39; have n0_ := Aside0.mk (hp_); have n1_ := Aside0.mk ((by rw [hw]; exact below_set (HB.out) GB28.out : Below w.heap.size w w40)); clear HO_13; clear HB; have HO_13 := n0_; have HB := n1_; clear n0_ n1_; clear hg hw hp_; have q41 : ((ji31) : Int) ≤ ((x13_2.length : Int) : Int) := of_decide_eq_true (by first | (with_reducible assumption) | assumption); obtain ⟨i041, hi041, _, hsz41, _⟩ := info_parts info5; have hcut41 := cut_to (P := Try.prog) 22 5 .i64 Try.underlying22 hi041 (some ⟨go28, 0, none⟩) x13_2.length co38 (ji31) (of_decide_eq_true (by first | (with_reducible assumption) | assumption)) q41 (by first | exact (Kd.R_reads' HO_13.out).2.1 | (have z_ := (Kd.R_reads' HO_13.out).2.1; rw [Ny239.out, List.length_set] at z_; exact z_)); have hr41 := Kd.R_take (m := ((ji31) : Int).toNat) HO_13.out (by first | omega | (rw [Ny239.out, List.length_set]; omega)); have hy41 : y240.length = ((ji31) : Int).toNat := (by rw [Ny240.out, List.length_take]; (try rw [Ny239.out]); (try rw [List.length_set]); omega); (first | rw [← Ny240.out] at hr41 | (rw [Ny239.out] at hr41; rw [← Ny240.out] at hr41)); rw [← hy41] at hr41 hcut41; clear hy41 hi041 hsz41 HO_13; have HO242 := Aside0.mk hr41; clear hr41; replace q41 := eq_true q41) | ((with_reducible refine gate_callee (f := 31) rfl ?_); refine goesL_ (some 78) rfl rfl Try.func31 (by kernel_rfl) rfl #[.slice A0 l0.length c0, .int .i64 a2] rfl (by (try simp only [List.map_toArray, List.map_cons, List.map_nil]); first | done | rfl | (simp only [List.length_drop, List.length_take]; rfl)) ?_; (with_reducible refine (telemeterlaw02_tells.calls k2 _ _ l0 a2 true _ ?side1 ?side2 A34.out).mono ?_); (case side1 => repeat (first | exact (Kd.C_below HR0.out HB.out) | (with_reducible refine Kd.C_alloc ?_ _) | (with_reducible refine Kd.C_drewN ?_ _) | (with_reducible refine Kd.C_drew ?_))); (case side2 => exact HC0.out); rintro e w42 ⟨rfl, hb⟩; refine ⟨_, rfl, ?_⟩; have n0_ := Aside0.mk (Kd.R_below (by (with_reducible repeat (first | apply Kd.R_alloc | apply Kd.R_drewN | apply Kd.R_drew)); exact HO242.out) hb); have n1_ := Aside0.mk (below_step (by repeat (first | (with_reducible first | exact HB.out | apply below_alloc | apply pw_below_drewN | apply below_drew1) | exact HB.out)) hb); clear HO242; clear HB; have HO242 := n0_; have HB := n1_; clear n0_ n1_; (try clear hb); (try clear hb2); (try clear hk); (try clear hi)) | (go_at_call 31; (with_reducible refine (telemeterlaw02_tells.calls k2 _ _ y240 (Int.tmod (wrap64 (a3)) (wrap64 ((y240.length : Int) + 1))) t244 _ ?side1 ?side2 A37.out).mono ?_); (case side1 => repeat (first | exact (Kd.R_reads' HO242.out).2.2 | (with_reducible refine Kd.C_alloc ?_ _) | (with_reducible refine Kd.C_drewN ?_ _) | (with_reducible refine Kd.C_drew ?_))); (case side2 => exact (by first | exact (Kd.R_reads' HO242.out).2.1 | (have z_ := (Kd.R_reads' HO242.out).2.1; rw [Ny239.out, List.length_set] at z_; exact z_))); rintro e w43 ⟨rfl, hb⟩; have n0_ := Aside0.mk (Kd.R_below (by (with_reducible repeat (first | apply Kd.R_alloc | apply Kd.R_drewN | apply Kd.R_drew)); exact HO242.out) hb); have n1_ := Aside0.mk (below_step (by repeat (first | (with_reducible first | exact HB.out | apply below_alloc | apply pw_below_drewN | apply below_drew1) | exact HB.out)) hb); clear HO242; clear HB; have HO242 := n0_; have HB := n1_; clear n0_ n1_; (try clear hb); (try clear hb2); (try clear hk); (try clear hi)))
                                go_ret
                                exact ⟨by first | rfl | (simp [errW_none, errW_some] <;> rfl) | (simp only [← hji25, ← hji29, ← hji31]; first | rfl | (simp [errW_none, errW_some] <;> rfl)) | (simp [*, errW_none, errW_some] <;> rfl), by repeat (first | (with_reducible first | exact HB.out | apply below_alloc | apply pw_below_drewN | apply below_drew1) | exact HB.out)⟩
                            · replace c35 := Bool.eq_false_iff.mpr c35
                              subst c35
                              have H1 : (some false) = some r := by rw [if_neg (show ¬ (false = true) by decide)] at H; exact H
                              clear H
                              have H := H1
                              clear H1
                              obtain rfl := Option.some.inj H
                              obtain ⟨Ao44, co44, eo44⟩ := Kd.R_slice HO_13.out
                              subst eo44
                              have p28 : 0 ≤ ((ji25) : Int) := of_decide_eq_true (by first | (with_reducible assumption) | assumption)
                              have q28 : ((ji25) : Int) < ((x13_2.length : Int) : Int) := of_decide_eq_true (by first | (with_reducible assumption) | assumption)
                              obtain ⟨go28, co28, eo28, gb28, gl28, cl28, HG28⟩ := Kd.R_form HO_13.out (by omega)
                              (first | cases eo28 | (injection eo28 with ea_ en_ ec_; (first | subst ea_ | (injection ea_ with ea_; subst ea_)); subst ec_; clear en_))
                              have GB28 := Aside0.mk gb28
                              have GG28 := Aside0.mk HG28
                              clear gb28 gl28 HG28
                              obtain ⟨hx28_0, hf28_0⟩ := Kd.R_celln 0 HO_13.out ((ji25) : Int) p28 q28
                              replace p28 := eq_true p28
                              replace q28 := eq_true q28
                              have HP45 := Kd.R_putg HO_13.out ((ji25) : Int) a5
                              go_wp2_with (first | ((with_reducible refine gate_store (t := 5) (p := 64) rfl ?_); refine store_event (t := 5) (p := 64) (v := ?vo_w46) (w1 := (wr.setCell ⟨go28, ((ji25) : Int).toNat, none⟩ (.int .u8 a5))) ?hg ?ho ?hn ?hr ?_; (case ho => rfl); (case hg => rfl); (case hn => rfl); (case hr => first | (go_simp; done) | (go_simp; rfl)); intro w46 hw; have hg : wr.grownBy w46 (some go28) := (by rw [hw]; exact HP45.2); have hp_ : Kd.R (Kd.int .u8) 5 w46 w.heap.size (fun _ => True) (.slice (some ⟨go28, 0, none⟩) x13_2.length co44) y239 := (by rw [hw, Ny239.out]; exact HP45.1); clear HP45; have n0_ := Aside0.mk (hp_); have n1_ := Aside0.mk ((by rw [hw]; exact below_set (HB.out) GB28.out : Below w.heap.size w w46)); clear HO_13; clear HB; have HO_13 := n0_; have HB := n1_; clear n0_ n1_; clear hg hw hp_; have q47 : ((ji31) : Int) ≤ ((x13_2.length : Int) : Int) := of_decide_eq_true (by first | (with_reducible assumption) | assumption); obtain ⟨i047, hi047, _, hsz47, _⟩ := info_parts info5; have hcut47 := cut_to (P := Try.prog) 22 5 .i64 Try.underlying22 hi047 (some ⟨go28, 0, none⟩) x13_2.length co44 (ji31) (of_decide_eq_true (by first | (with_reducible assumption) | assumption)) q47 (by first | exact (Kd.R_reads' HO_13.out).2.1 | (have z_ := (Kd.R_reads' HO_13.out).2.1; rw [Ny239.out, List.length_set] at z_; exact z_)); have hr47 := Kd.R_take (m := ((ji31) : Int).toNat) HO_13.out (by first | omega | (rw [Ny239.out, List.length_set]; omega)); have hy47 : y240.length = ((ji31) : Int).toNat := (by rw [Ny240.out, List.length_take]; (try rw [Ny239.out]); (try rw [List.length_set]); omega); (first | rw [← Ny240.out] at hr47 | (rw [Ny239.out] at hr47; rw [← Ny240.out] at hr47)); rw [← hy47] at hr47 hcut47; clear hy47 hi047 hsz47 HO_13; have HO242 := Aside0.mk hr47; clear hr47; replace q47 := eq_true q47) | ((with_reducible refine gate_callee (f := 31) rfl ?_); refine goesL_ (some 78) rfl rfl Try.func31 (by kernel_rfl) rfl #[.slice A0 l0.length c0, .int .i64 a2] rfl (by (try simp only [List.map_toArray, List.map_cons, List.map_nil]); first | done | rfl | (simp only [List.length_drop, List.length_take]; rfl)) ?_; (with_reducible refine (telemeterlaw02_tells.calls k2 _ _ l0 a2 false _ ?side1 ?side2 A34.out).mono ?_); (case side1 => repeat (first | exact (Kd.C_below HR0.out HB.out) | (with_reducible refine Kd.C_alloc ?_ _) | (with_reducible refine Kd.C_drewN ?_ _) | (with_reducible refine Kd.C_drew ?_))); (case side2 => exact HC0.out); rintro e w48 ⟨rfl, hb⟩; refine ⟨_, rfl, ?_⟩; have n0_ := Aside0.mk (Kd.R_below (by (with_reducible repeat (first | apply Kd.R_alloc | apply Kd.R_drewN | apply Kd.R_drew)); exact HO242.out) hb); have n1_ := Aside0.mk (below_step (by repeat (first | (with_reducible first | exact HB.out | apply below_alloc | apply pw_below_drewN | apply below_drew1) | exact HB.out)) hb); clear HO242; clear HB; have HO242 := n0_; have HB := n1_; clear n0_ n1_; (try clear hb); (try clear hb2); (try clear hk); (try clear hi)))
                              go_ret
                              exact ⟨by first | rfl | (simp [errW_none, errW_some] <;> rfl) | (simp only [← hji25, ← hji29, ← hji31]; first | rfl | (simp [errW_none, errW_some] <;> rfl)) | (simp [*, errW_none, errW_some] <;> rfl), by repeat (first | (with_reducible first | exact HB.out | apply below_alloc | apply pw_below_drewN | apply below_drew1) | exact HB.out)⟩
                          · rw [if_neg c33] at H
                            exact absurd H (by simp)
                        · rw [if_neg c32] at H
                          exact absurd H (by simp)
                    · rw [if_neg c27] at H
                      exact absurd H (by simp)
                  · rw [if_neg c26] at H
                    exact absurd H (by simp)
              · rw [if_neg c23] at H
                have c23b0 : decide (0 < (x13_2.length : Int)) = false := decide_eq_false c23
                have c23b1 : decide (0 < x13_2.length) = false := decide_eq_false (by omega)
                clear c23
                replace H := Option.bind_eq_some_iff.mp H
                obtain ⟨t245, A490, H⟩ := H
                replace H : (if t245 = true then (if (wrap64 ((x13_2.length : Int) + 1)) = 0 then (none) else ((telemeterlaw02_tells.f k2 x13_2 (Int.tmod (wrap64 (a3)) (wrap64 ((x13_2.length : Int) + 1)))).bind fun t246 => (some t246))) else (some false)) = some r := H
                have A49 := Aside0.mk A490
                clear A490
                by_cases c50 : t245 = true
                · subst c50
                  have H1 : (if (wrap64 ((x13_2.length : Int) + 1)) = 0 then (none) else ((telemeterlaw02_tells.f k2 x13_2 (Int.tmod (wrap64 (a3)) (wrap64 ((x13_2.length : Int) + 1)))).bind fun t246 => (some t246))) = some r := by rw [if_pos rfl] at H; exact H
                  clear H
                  have H := H1
                  clear H1
                  by_cases c51 : (wrap64 ((x13_2.length : Int) + 1)) = 0
                  · rw [if_pos c51] at H
                    exact absurd H (by simp)
                  · rw [if_neg c51] at H
                    have c51b0 : ((wrap64 ((x13_2.length : Int) + 1)) == 0) = false := beq_eq_false_iff_ne.mpr c51
                    have c51b1 : ((wrap64 ((x13_2.length : Int) + 1)) != 0) = true := bne_iff_ne.mpr c51
                    replace H := Option.bind_eq_some_iff.mp H
                    obtain ⟨t246, A520, H⟩ := H
                    replace H : (some t246) = some r := H
                    have A52 := Aside0.mk A520
                    clear A520
                    obtain rfl := Option.some.inj H
                    obtain ⟨Ao53, co53, eo53⟩ := Kd.R_slice HO_13.out
                    subst eo53
                    go_wp2_with (first | ((with_reducible refine gate_callee (f := 31) rfl ?_); refine goesL_ (some 78) rfl rfl Try.func31 (by kernel_rfl) rfl #[.slice A0 l0.length c0, .int .i64 a2] rfl (by (try simp only [List.map_toArray, List.map_cons, List.map_nil]); first | done | rfl | (simp only [List.length_drop, List.length_take]; rfl)) ?_; (with_reducible refine (telemeterlaw02_tells.calls k2 _ _ l0 a2 true _ ?side1 ?side2 A49.out).mono ?_); (case side1 => repeat (first | exact (Kd.C_below HR0.out HB.out) | (with_reducible refine Kd.C_alloc ?_ _) | (with_reducible refine Kd.C_drewN ?_ _) | (with_reducible refine Kd.C_drew ?_))); (case side2 => exact HC0.out); rintro e w54 ⟨rfl, hb⟩; refine ⟨_, rfl, ?_⟩; have n0_ := Aside0.mk (Kd.R_below (by (with_reducible repeat (first | apply Kd.R_alloc | apply Kd.R_drewN | apply Kd.R_drew)); exact HO_13.out) hb); have n1_ := Aside0.mk (below_step (by repeat (first | (with_reducible first | exact HB.out | apply below_alloc | apply pw_below_drewN | apply below_drew1) | exact HB.out)) hb); clear HO_13; clear HB; have HO_13 := n0_; have HB := n1_; clear n0_ n1_; (try clear hb); (try clear hb2); (try clear hk); (try clear hi)) | (go_at_call 31; (with_reducible refine (telemeterlaw02_tells.calls k2 _ _ x13_2 (Int.tmod (wrap64 (a3)) (wrap64 ((x13_2.length : Int) + 1))) t246 _ ?side1 ?side2 A52.out).mono ?_); (case side1 => repeat (first | exact (Kd.R_reads' HO_13.out).2.2 | (with_reducible refine Kd.C_alloc ?_ _) | (with_reducible refine Kd.C_drewN ?_ _) | (with_reducible refine Kd.C_drew ?_))); (case side2 => exact (Kd.R_reads' HO_13.out).2.1); rintro e w55 ⟨rfl, hb⟩; have n0_ := Aside0.mk (Kd.R_below (by (with_reducible repeat (first | apply Kd.R_alloc | apply Kd.R_drewN | apply Kd.R_drew)); exact HO_13.out) hb); have n1_ := Aside0.mk (below_step (by repeat (first | (with_reducible first | exact HB.out | apply below_alloc | apply pw_below_drewN | apply below_drew1) | exact HB.out)) hb); clear HO_13; clear HB; have HO_13 := n0_; have HB := n1_; clear n0_ n1_; (try clear hb); (try clear hb2); (try clear hk); (try clear hi)))
                    go_ret
                    exact ⟨by first | rfl | (simp [errW_none, errW_some] <;> rfl) | (simp [*, errW_none, errW_some] <;> rfl), by repeat (first | (with_reducible first | exact HB.out | apply below_alloc | apply pw_below_drewN | apply below_drew1) | exact HB.out)⟩
                · replace c50 := Bool.eq_false_iff.mpr c50
                  subst c50
                  have H1 : (some false) = some r := by rw [if_neg (show ¬ (false = true) by decide)] at H; exact H
                  clear H
                  have H := H1
                  clear H1
                  obtain rfl := Option.some.inj H
                  obtain ⟨Ao56, co56, eo56⟩ := Kd.R_slice HO_13.out
                  subst eo56
                  go_wp2_with (first | ((with_reducible refine gate_callee (f := 31) rfl ?_); refine goesL_ (some 78) rfl rfl Try.func31 (by kernel_rfl) rfl #[.slice A0 l0.length c0, .int .i64 a2] rfl (by (try simp only [List.map_toArray, List.map_cons, List.map_nil]); first | done | rfl | (simp only [List.length_drop, List.length_take]; rfl)) ?_; (with_reducible refine (telemeterlaw02_tells.calls k2 _ _ l0 a2 false _ ?side1 ?side2 A49.out).mono ?_); (case side1 => repeat (first | exact (Kd.C_below HR0.out HB.out) | (with_reducible refine Kd.C_alloc ?_ _) | (with_reducible refine Kd.C_drewN ?_ _) | (with_reducible refine Kd.C_drew ?_))); (case side2 => exact HC0.out); rintro e w57 ⟨rfl, hb⟩; refine ⟨_, rfl, ?_⟩; have n0_ := Aside0.mk (Kd.R_below (by (with_reducible repeat (first | apply Kd.R_alloc | apply Kd.R_drewN | apply Kd.R_drew)); exact HO_13.out) hb); have n1_ := Aside0.mk (below_step (by repeat (first | (with_reducible first | exact HB.out | apply below_alloc | apply pw_below_drewN | apply below_drew1) | exact HB.out)) hb); clear HO_13; clear HB; have HO_13 := n0_; have HB := n1_; clear n0_ n1_; (try clear hb); (try clear hb2); (try clear hk); (try clear hi)))
                  go_ret
                  exact ⟨by first | rfl | (simp [errW_none, errW_some] <;> rfl) | (simp [*, errW_none, errW_some] <;> rfl), by repeat (first | (with_reducible first | exact HB.out | apply below_alloc | apply pw_below_drewN | apply below_drew1) | exact HB.out)⟩

end Go.Proofs.Ytiheghnojmfmfaa.Px
