-- Laid by a program of this session (wip/xprint.py: the kit's print.py, with functions given by hand). Lean checks it.
import Derived.Test.YtiheghnojmfmfaaPx0
import Derived.Test.YtiheghnojmfmfaaPx8
import Derived.Test.YtiheghnojmfmfaaPx13
import Derived.Test.YtiheghnojmfmfaaPx20
namespace Go.Proofs.Ytiheghnojmfmfaa.Px
open Go.RowKit Go.Proofs.YtiheghnojmfmfaaW.PrintWords Go.Proofs.YtiheghnojmfmfaaW.PrintLast Go.Proofs.YtiheghnojmfmfaaW.PrintMore
attribute [local go_sem] max2_int min2_int max_two min_two max_three min_three max_four min_four   -- for this text's walks alone
set_option linter.unusedVariables false
set_option linter.unusedSimpArgs false

/-! ### telemeterlaw02_FrameStops: function 11 -/
def telemeterlaw02_FrameStops.j0 : Nat → List Int → List Int → List Int → Int → Bool → Option (Bool)
  | 0, _, _, _, _, _ => none
  | k + 1, x0, x1, x2, x3, x41 => if x41 = true then ((telemeterlaw02_known.f).bind fun t247 => (some t247)) else ((frame_Frame.f x0).bind fun bt248 => ((frame_Frame.f x1).bind fun bt252 => ((frame_Frame.f x2).bind fun bt256 => (if (bt252.1.length : Int) = (wrap64 ((x1.length : Int) + 5)) then (if 0 ≤ (wrap64 ((bt252.1.length : Int) - 1)) then (if (wrap64 ((bt252.1.length : Int) - 1)) < (bt252.1.length : Int) then ((some (bt252.1.set ((wrap64 ((bt252.1.length : Int) - 1)) : Int).toNat (Go.bits .xor .u8 (rd bt252.1 (wrap64 ((bt252.1.length : Int) - 1))) x3) : List Int)).bind fun y261 => (if ([] : List Int).length + bt248.1.length < 140737488355328 then ((some (([] : List Int) ++ bt248.1 : List Int)).bind fun y262 => (if y262.length + y261.length < 140737488355328 then ((some (y262 ++ y261 : List Int)).bind fun y265 => (if y265.length + bt256.1.length < 140737488355328 then ((frame_Scan.f k (y265 ++ bt256.1)).bind fun bt271 => ((telemeterlaw02_known.f).bind fun t276 => (if t276 = true then (if (bt271.1.length : Int) = 1 then (if 0 < (bt271.1.length : Int) then (if (strOfNums (rd_L1 bt271.1 0)).toList = (strOfNums x0).toList then (if bt271.2.1 = (bt248.1.length : Int) then (some (bt271.2.2 == 30)) else (some false)) else (some false)) else (none)) else (some false)) else (some false)))) else (none))) else (none))) else (none))) else (none)) else (none)) else (some false)))))
def telemeterlaw02_FrameStops.f (k : Nat) (l0 : List Int) (l1 : List Int) (l2 : List Int) (a3 : Int) : Option (Bool) := if (wrap64 ((wrap64 ((l0.length : Int) + (l1.length : Int))) + (l2.length : Int))) > 200 then (telemeterlaw02_FrameStops.j0 k l0 l1 l2 a3 true) else (if (l1.length : Int) = 0 then (telemeterlaw02_FrameStops.j0 k l0 l1 l2 a3 true) else (if (l1.length : Int) > 60 then (telemeterlaw02_FrameStops.j0 k l0 l1 l2 a3 true) else (telemeterlaw02_FrameStops.j0 k l0 l1 l2 a3 (a3 == 0))))
theorem telemeterlaw02_FrameStops.mono_l : ∀ k, (∀ y0 y1 y2 y3 y4, LeO (telemeterlaw02_FrameStops.j0 k y0 y1 y2 y3 y4) (telemeterlaw02_FrameStops.j0 (k + 1) y0 y1 y2 y3 y4))
  | 0 => fun _ _ _ _ _ r h => by simp [telemeterlaw02_FrameStops.j0] at h
  | k + 1 => by
    have ih0 := telemeterlaw02_FrameStops.mono_l k
    · intro y0 y1 y2 y3 y4
      unfold telemeterlaw02_FrameStops.j0
      repeat' first
      | (with_reducible exact ih0 _ _ _ _ _)
      | (with_reducible exact frame_Scan.mono _ _)
      | (with_reducible exact LeO.refl _)
      | (with_reducible exact LeO.none _)
      | (with_reducible refine LeO.ite ?_ ?_)
      | (with_reducible refine LeO.bind ?_ (fun _ => ?_))
      | exact ih0 _ _ _ _ _
      | exact frame_Scan.mono _ _
      | exact LeO.none _
      | refine LeO.ite ?_ ?_
      | refine LeO.bind ?_ (fun _ => ?_)
theorem telemeterlaw02_FrameStops.mono : ∀ a0 a1 a2 a3 k, LeO (telemeterlaw02_FrameStops.f k a0 a1 a2 a3) (telemeterlaw02_FrameStops.f (k + 1) a0 a1 a2 a3) := by
  intro a0 a1 a2 a3 k
  have ih0 := telemeterlaw02_FrameStops.mono_l k
  unfold telemeterlaw02_FrameStops.f
  repeat' first
      | (with_reducible exact ih0 _ _ _ _ _)
      | (with_reducible exact frame_Scan.mono _ _)
      | (with_reducible exact LeO.refl _)
      | (with_reducible exact LeO.none _)
      | (with_reducible refine LeO.ite ?_ ?_)
      | (with_reducible refine LeO.bind ?_ (fun _ => ?_))
      | exact ih0 _ _ _ _ _
      | exact frame_Scan.mono _ _
      | exact LeO.none _
      | refine LeO.ite ?_ ?_
      | refine LeO.bind ?_ (fun _ => ?_)
def telemeterlaw02_FrameStops.T14 : Bool × List (List Nat × List Nat) := (true, [([], []), ([0, 0], [0]), ([1], [1]), ([2, 1], [1, 2]), ([3, 1], [1, 3]), ([1, 4], [1, 4]), ([5, 1], [5]), ([6], [6]), ([7, 6], [6, 7]), ([8, 6], [6, 8]), ([9, 6], [6, 9]), ([6], [6]), ([11, 6], [6, 11]), ([10, 12, 6], [6, 10, 12]), ([6, 13], [6, 13]), ([14, 6], [14]), ([15], [15]), ([15], [15]), ([17, 15], [15, 17]), ([16, 18, 15], [15, 16, 18]), ([15, 19], [15, 19]), ([20, 15], [20]), ([21], [21]), ([22, 21], [21, 22]), ([21, 23], [21, 23]), ([24, 21, 0, 1, 2, 3, 4, 5, 6, 7, 8, 9, 10, 11, 12, 13, 14, 15, 16, 17, 18, 19, 20, 21, 22, 23, 24], [24])])
def telemeterlaw02_FrameStops.B14 : List Nat := [0, 1, 3, 7, 15, 31, 63, 127, 255, 511, 1023, 127, 2175, 8191, 16383, 32767, 65535, 65535, 196607, 524287, 1048575, 2097151, 4194303, 8388607, 16777215, 33554431]
theorem telemeterlaw02_FrameStops.tab14 : rtab .any (opsOf Try.f11 14) = telemeterlaw02_FrameStops.T14 := by kernel_rfl
theorem telemeterlaw02_FrameStops.bits14 : waitsOk telemeterlaw02_FrameStops.T14.2 telemeterlaw02_FrameStops.B14 = true := by kernel_rfl
set_option maxHeartbeats 8000000 in
set_option maxRecDepth 100000 in
theorem telemeterlaw02_FrameStops.calls (k : Nat) (A0 : Option Addr) (c0 : Nat) (l0 : List Int) (A1 : Option Addr) (c1 : Nat) (l1 : List Int) (A2 : Option Addr) (c2 : Nat) (l2 : List Int) (a3 : Int) (r : Bool) (w : World) (hr0 : Kd.C (Kd.int .u8) w A0 l0.length l0) (hc0 : l0.length ≤ c0) (hr1 : Kd.C (Kd.int .u8) w A1 l1.length l1) (hc1 : l1.length ≤ c1) (hr2 : Kd.C (Kd.int .u8) w A2 l2.length l2) (hc2 : l2.length ≤ c2) (hr_ : Aside0 (r = true)) (h : telemeterlaw02_FrameStops.f k l0 l1 l2 a3 = some r) :
    Calls Try.prog 11 #[.slice A0 l0.length c0, .slice A1 l1.length c1, .slice A2 l2.length c2, .int .u8 a3] w fun e w' => e = .returned (.bool r) ∧ Below w.heap.size w w' := by
  have HR0 := Aside0.mk hr0
  have HC0 := Aside0.mk hc0
  clear hr0 hc0
  have HR1 := Aside0.mk hr1
  have HC1 := Aside0.mk hc1
  clear hr1 hc1
  have HR2 := Aside0.mk hr2
  have HC2 := Aside0.mk hc2
  clear hr2 hc2
  have HB := Aside0.mk (Below.refl w.heap.size w)
  have H : (if (wrap64 ((wrap64 ((l0.length : Int) + (l1.length : Int))) + (l2.length : Int))) > 200 then (telemeterlaw02_FrameStops.j0 k l0 l1 l2 a3 true) else (if (l1.length : Int) = 0 then (telemeterlaw02_FrameStops.j0 k l0 l1 l2 a3 true) else (if (l1.length : Int) > 60 then (telemeterlaw02_FrameStops.j0 k l0 l1 l2 a3 true) else (telemeterlaw02_FrameStops.j0 k l0 l1 l2 a3 (a3 == 0))))) = some r := h
  clear h
  have HC5 := Aside0.mk H
  clear H
  go_enter Try.func11, Try.ntmps11
  go_upto_region 1 with (fail)
  go_cut [41] (fun v41 wc => ∃ (kq : Nat) (x41_4 : Bool), v41 = .bool x41_4 ∧ Aside0 (telemeterlaw02_FrameStops.j0 kq l0 l1 l2 a3 x41_4 = some r) ∧ Aside0 (kq ≤ k) ∧ Aside0 (Below w.heap.size w wc))
  case first =>
    have H := HC5.out
    clear HC5
    by_cases c6 : (wrap64 ((wrap64 ((l0.length : Int) + (l1.length : Int))) + (l2.length : Int))) > 200
    · rw [if_pos c6] at H
      have c6b0 : decide (200 < (wrap64 ((wrap64 ((l0.length : Int) + (l1.length : Int))) + (l2.length : Int)))) = true := decide_eq_true c6
      clear c6
      (first | rw [c6b0] | (simp only [i64_w, i32_w]; rw [c6b0]) | skip)
      have H' := Aside0.mk H
      clear H
      go_wp2
      go_meet
      case rel => exact ⟨_, (true), (by first | rfl | (simp; done) | (simp [*]; done)), H', ⟨by first | omega | exact Nat.le_refl _⟩, ⟨by repeat (first | (with_reducible first | exact HB.out | apply below_alloc | apply pw_below_drewN | apply below_drew1) | exact HB.out)⟩⟩
    · rw [if_neg c6] at H
      have c6b0 : decide (200 < (wrap64 ((wrap64 ((l0.length : Int) + (l1.length : Int))) + (l2.length : Int)))) = false := decide_eq_false c6
      clear c6
      (first | rw [c6b0] | (simp only [i64_w, i32_w]; rw [c6b0]) | skip)
      by_cases c7 : (l1.length : Int) = 0
      · rw [if_pos c7] at H
        have c7b0 : ((l1.length : Int) == 0) = true := beq_iff_eq.mpr c7
        have c7b1 : ((l1.length : Int) != 0) = false := bne_eq_false_iff_eq.mpr c7
        clear c7
        have H' := Aside0.mk H
        clear H
        go_wp2
        go_meet
        case rel => exact ⟨_, (true), (by first | rfl | (simp; done) | (simp [*]; done)), H', ⟨by first | omega | exact Nat.le_refl _⟩, ⟨by repeat (first | (with_reducible first | exact HB.out | apply below_alloc | apply pw_below_drewN | apply below_drew1) | exact HB.out)⟩⟩
      · rw [if_neg c7] at H
        have c7b0 : ((l1.length : Int) == 0) = false := beq_eq_false_iff_ne.mpr c7
        have c7b1 : ((l1.length : Int) != 0) = true := bne_iff_ne.mpr c7
        have c7b2 : ¬ (l1 = []) := fun h_ => c7 (by rw [h_]; rfl)
        by_cases c8 : (l1.length : Int) > 60
        · rw [if_pos c8] at H
          have c8b0 : decide (60 < (l1.length : Int)) = true := decide_eq_true c8
          have c8b1 : decide (60 < l1.length) = true := decide_eq_true (by omega)
          clear c8
          have H' := Aside0.mk H
          clear H
          go_wp2
          go_meet
          case rel => exact ⟨_, (true), (by first | rfl | (simp; done) | (simp [*]; done)), H', ⟨by first | omega | exact Nat.le_refl _⟩, ⟨by repeat (first | (with_reducible first | exact HB.out | apply below_alloc | apply pw_below_drewN | apply below_drew1) | exact HB.out)⟩⟩
        · rw [if_neg c8] at H
          have c8b0 : decide (60 < (l1.length : Int)) = false := decide_eq_false c8
          have c8b1 : decide (60 < l1.length) = false := decide_eq_false (by omega)
          clear c8
          have H' := Aside0.mk H
          clear H
          go_wp2
          go_meet
          case rel => exact ⟨_, ((a3 == 0)), (by first | rfl | (simp; done) | (simp [*]; done)), H', ⟨by first | omega | exact Nat.le_refl _⟩, ⟨by repeat (first | (with_reducible first | exact HB.out | apply below_alloc | apply pw_below_drewN | apply below_drew1) | exact HB.out)⟩⟩
  case rest =>
    clear HC5
    try clear c1
    try clear c2
    try clear p2
    try clear c6
    try clear c6b0
    try clear p6
    try clear c7
    try clear c7b0
    try clear c7b1
    try clear c7b2
    try clear c8
    try clear c8b0
    try clear c8b1
    obtain ⟨kq, x41_4, rfl, HA, HJ4, HB⟩ := hcut
    cases kq with
    | zero => exact absurd HA.out (by simp [telemeterlaw02_FrameStops.j0])
    | succ kj4 =>
      have H := HA.out
      clear HA
      simp only [telemeterlaw02_FrameStops.j0] at H
      by_cases c9 : x41_4 = true
      · subst c9
        have H1 : ((telemeterlaw02_known.f).bind fun t247 => (some t247)) = some r := by rw [if_pos rfl] at H; exact H
        clear H
        have H := H1
        clear H1
        replace H := Option.bind_eq_some_iff.mp H
        obtain ⟨t247, A100, H⟩ := H
        replace H : (some t247) = some r := H
        have A10 := Aside0.mk A100
        clear A100
        obtain rfl := Option.some.inj H
        go_wp2_with (first | ((with_reducible refine gate_callee (f := 26) rfl ?_); refine goesL_ (some 42) rfl rfl Try.func26 (by kernel_rfl) rfl #[] rfl (by (try simp only [List.map_toArray, List.map_cons, List.map_nil]); first | done | rfl | (simp only [List.length_drop, List.length_take]; rfl)) ?_; (with_reducible refine (telemeterlaw02_known.calls  t247 _ A10.out).mono ?_); rintro e w11 ⟨rfl, hb⟩; refine ⟨_, rfl, ?_⟩; have n0_ := Aside0.mk (below_step (by repeat (first | (with_reducible first | exact HB.out | apply below_alloc | apply pw_below_drewN | apply below_drew1) | exact HB.out)) hb); clear HB; have HB := n0_; clear n0_; (try clear hb); (try clear hb2); (try clear hk); (try clear hi)))
        go_ret
        exact ⟨by first | rfl | (simp [errW_none, errW_some] <;> rfl) | (simp [*, errW_none, errW_some] <;> rfl), by repeat (first | (with_reducible first | exact HB.out | apply below_alloc | apply pw_below_drewN | apply below_drew1) | exact HB.out)⟩
      · replace c9 := Bool.eq_false_iff.mpr c9
        subst c9
        have H1 : ((frame_Frame.f l0).bind fun bt248 => ((frame_Frame.f l1).bind fun bt252 => ((frame_Frame.f l2).bind fun bt256 => (if (bt252.1.length : Int) = (wrap64 ((l1.length : Int) + 5)) then (if 0 ≤ (wrap64 ((bt252.1.length : Int) - 1)) then (if (wrap64 ((bt252.1.length : Int) - 1)) < (bt252.1.length : Int) then ((some (bt252.1.set ((wrap64 ((bt252.1.length : Int) - 1)) : Int).toNat (Go.bits .xor .u8 (rd bt252.1 (wrap64 ((bt252.1.length : Int) - 1))) a3) : List Int)).bind fun y261 => (if ([] : List Int).length + bt248.1.length < 140737488355328 then ((some (([] : List Int) ++ bt248.1 : List Int)).bind fun y262 => (if y262.length + y261.length < 140737488355328 then ((some (y262 ++ y261 : List Int)).bind fun y265 => (if y265.length + bt256.1.length < 140737488355328 then ((frame_Scan.f kj4 (y265 ++ bt256.1)).bind fun bt271 => ((telemeterlaw02_known.f).bind fun t276 => (if t276 = true then (if (bt271.1.length : Int) = 1 then (if 0 < (bt271.1.length : Int) then (if (strOfNums (rd_L1 bt271.1 0)).toList = (strOfNums l0).toList then (if bt271.2.1 = (bt248.1.length : Int) then (some (bt271.2.2 == 30)) else (some false)) else (some false)) else (none)) else (some false)) else (some false)))) else (none))) else (none))) else (none))) else (none)) else (none)) else (some false))))) = some r := by rw [if_neg (show ¬ (false = true) by decide)] at H; exact H
        clear H
        have H := H1
        clear H1
        replace H := Option.bind_eq_some_iff.mp H
        obtain ⟨⟨t248, t251⟩, A120, H⟩ := H
        replace H : ((frame_Frame.f l1).bind fun bt252 => ((frame_Frame.f l2).bind fun bt256 => (if (bt252.1.length : Int) = (wrap64 ((l1.length : Int) + 5)) then (if 0 ≤ (wrap64 ((bt252.1.length : Int) - 1)) then (if (wrap64 ((bt252.1.length : Int) - 1)) < (bt252.1.length : Int) then ((some (bt252.1.set ((wrap64 ((bt252.1.length : Int) - 1)) : Int).toNat (Go.bits .xor .u8 (rd bt252.1 (wrap64 ((bt252.1.length : Int) - 1))) a3) : List Int)).bind fun y261 => (if ([] : List Int).length + t248.length < 140737488355328 then ((some (([] : List Int) ++ t248 : List Int)).bind fun y262 => (if y262.length + y261.length < 140737488355328 then ((some (y262 ++ y261 : List Int)).bind fun y265 => (if y265.length + bt256.1.length < 140737488355328 then ((frame_Scan.f kj4 (y265 ++ bt256.1)).bind fun bt271 => ((telemeterlaw02_known.f).bind fun t276 => (if t276 = true then (if (bt271.1.length : Int) = 1 then (if 0 < (bt271.1.length : Int) then (if (strOfNums (rd_L1 bt271.1 0)).toList = (strOfNums l0).toList then (if bt271.2.1 = (t248.length : Int) then (some (bt271.2.2 == 30)) else (some false)) else (some false)) else (none)) else (some false)) else (some false)))) else (none))) else (none))) else (none))) else (none)) else (none)) else (some false)))) = some r := H
        have A12 := Aside0.mk A120
        clear A120
        replace H := Option.bind_eq_some_iff.mp H
        obtain ⟨⟨t252, t255⟩, A130, H⟩ := H
        replace H : ((frame_Frame.f l2).bind fun bt256 => (if (t252.length : Int) = (wrap64 ((l1.length : Int) + 5)) then (if 0 ≤ (wrap64 ((t252.length : Int) - 1)) then (if (wrap64 ((t252.length : Int) - 1)) < (t252.length : Int) then ((some (t252.set ((wrap64 ((t252.length : Int) - 1)) : Int).toNat (Go.bits .xor .u8 (rd t252 (wrap64 ((t252.length : Int) - 1))) a3) : List Int)).bind fun y261 => (if ([] : List Int).length + t248.length < 140737488355328 then ((some (([] : List Int) ++ t248 : List Int)).bind fun y262 => (if y262.length + y261.length < 140737488355328 then ((some (y262 ++ y261 : List Int)).bind fun y265 => (if y265.length + bt256.1.length < 140737488355328 then ((frame_Scan.f kj4 (y265 ++ bt256.1)).bind fun bt271 => ((telemeterlaw02_known.f).bind fun t276 => (if t276 = true then (if (bt271.1.length : Int) = 1 then (if 0 < (bt271.1.length : Int) then (if (strOfNums (rd_L1 bt271.1 0)).toList = (strOfNums l0).toList then (if bt271.2.1 = (t248.length : Int) then (some (bt271.2.2 == 30)) else (some false)) else (some false)) else (none)) else (some false)) else (some false)))) else (none))) else (none))) else (none))) else (none)) else (none)) else (some false))) = some r := H
        have A13 := Aside0.mk A130
        clear A130
        replace H := Option.bind_eq_some_iff.mp H
        obtain ⟨⟨t256, t259⟩, A140, H⟩ := H
        replace H : (if (t252.length : Int) = (wrap64 ((l1.length : Int) + 5)) then (if 0 ≤ (wrap64 ((t252.length : Int) - 1)) then (if (wrap64 ((t252.length : Int) - 1)) < (t252.length : Int) then ((some (t252.set ((wrap64 ((t252.length : Int) - 1)) : Int).toNat (Go.bits .xor .u8 (rd t252 (wrap64 ((t252.length : Int) - 1))) a3) : List Int)).bind fun y261 => (if ([] : List Int).length + t248.length < 140737488355328 then ((some (([] : List Int) ++ t248 : List Int)).bind fun y262 => (if y262.length + y261.length < 140737488355328 then ((some (y262 ++ y261 : List Int)).bind fun y265 => (if y265.length + t256.length < 140737488355328 then ((frame_Scan.f kj4 (y265 ++ t256)).bind fun bt271 => ((telemeterlaw02_known.f).bind fun t276 => (if t276 = true then (if (bt271.1.length : Int) = 1 then (if 0 < (bt271.1.length : Int) then (if (strOfNums (rd_L1 bt271.1 0)).toList = (strOfNums l0).toList then (if bt271.2.1 = (t248.length : Int) then (some (bt271.2.2 == 30)) else (some false)) else (some false)) else (none)) else (some false)) else (some false)))) else (none))) else (none))) else (none))) else (none)) else (none)) else (some false)) = some r := H
        have A14 := Aside0.mk A140
        clear A140
        by_cases c15 : (t252.length : Int) = (wrap64 ((l1.length : Int) + 5))
        · rw [if_pos c15] at H
          have c15b0 : ((t252.length : Int) == (wrap64 ((l1.length : Int) + 5))) = true := beq_iff_eq.mpr c15
          have c15b1 : ((t252.length : Int) != (wrap64 ((l1.length : Int) + 5))) = false := bne_eq_false_iff_eq.mpr c15
          clear c15
          obtain ⟨ji16, hji16⟩ : ∃ j_ : Int, (wrap64 ((t252.length : Int) - 1)) = j_ := ⟨_, rfl⟩
          replace H : (if 0 ≤ (ji16) then (if (ji16) < (t252.length : Int) then ((some (t252.set ((ji16) : Int).toNat (Go.bits .xor .u8 (rd t252 (ji16)) a3) : List Int)).bind fun y261 => (if ([] : List Int).length + t248.length < 140737488355328 then ((some (([] : List Int) ++ t248 : List Int)).bind fun y262 => (if y262.length + y261.length < 140737488355328 then ((some (y262 ++ y261 : List Int)).bind fun y265 => (if y265.length + t256.length < 140737488355328 then ((frame_Scan.f kj4 (y265 ++ t256)).bind fun bt271 => ((telemeterlaw02_known.f).bind fun t276 => (if t276 = true then (if (bt271.1.length : Int) = 1 then (if 0 < (bt271.1.length : Int) then (if (strOfNums (rd_L1 bt271.1 0)).toList = (strOfNums l0).toList then (if bt271.2.1 = (t248.length : Int) then (some (bt271.2.2 == 30)) else (some false)) else (some false)) else (none)) else (some false)) else (some false)))) else (none))) else (none))) else (none))) else (none)) else (none)) = some r := by first | (rw [hji16] at H; exact H) | (simp only [hji16] at H ⊢; exact H)
          (try rw [hji16] at A12)
          (try rw [hji16] at A13)
          (try rw [hji16] at A14)
          have hji16w : (IntKind.i64.wrap ((t252.length : Int) - 1)) = ji16 := (i64_w _).trans hji16
          by_cases c17 : 0 ≤ (ji16)
          · rw [if_pos c17] at H
            have c17b0 : decide (0 ≤ (ji16)) = true := decide_eq_true c17
            clear c17
            by_cases c18 : (ji16) < (t252.length : Int)
            · rw [if_pos c18] at H
              have c18b0 : decide ((ji16) < (t252.length : Int)) = true := decide_eq_true c18
              clear c18
              obtain ⟨y261, hy261⟩ : ∃ y_ : List Int, y_ = (t252.set ((ji16) : Int).toNat (Go.bits .xor .u8 (rd t252 (ji16)) a3)) := ⟨_, rfl⟩
              replace H : (if ([] : List Int).length + t248.length < 140737488355328 then ((some (([] : List Int) ++ t248 : List Int)).bind fun y262 => (if y262.length + y261.length < 140737488355328 then ((some (y262 ++ y261 : List Int)).bind fun y265 => (if y265.length + t256.length < 140737488355328 then ((frame_Scan.f kj4 (y265 ++ t256)).bind fun bt271 => ((telemeterlaw02_known.f).bind fun t276 => (if t276 = true then (if (bt271.1.length : Int) = 1 then (if 0 < (bt271.1.length : Int) then (if (strOfNums (rd_L1 bt271.1 0)).toList = (strOfNums l0).toList then (if bt271.2.1 = (t248.length : Int) then (some (bt271.2.2 == 30)) else (some false)) else (some false)) else (none)) else (some false)) else (some false)))) else (none))) else (none))) else (none)) = some r := by first | (rw [hy261]; with_reducible exact H) | (have H2_ := (Option.bind_some _ _).symm.trans H; rw [hy261]; with_reducible exact H2_) | (have H2_ := (Option.bind_some _ _).symm.trans H; with_reducible exact H2_) | with_reducible exact H | (rw [hy261]; exact H) | exact H
              have Ny261 := Aside0.mk hy261
              clear hy261
              by_cases c20 : ([] : List Int).length + t248.length < 140737488355328
              · rw [if_pos c20] at H
                have LMc20 := Aside0.mk c20
                clear c20
                obtain ⟨y262, hy262⟩ : ∃ y_ : List Int, y_ = (([] : List Int) ++ t248) := ⟨_, rfl⟩
                replace H : (if y262.length + y261.length < 140737488355328 then ((some (y262 ++ y261 : List Int)).bind fun y265 => (if y265.length + t256.length < 140737488355328 then ((frame_Scan.f kj4 (y265 ++ t256)).bind fun bt271 => ((telemeterlaw02_known.f).bind fun t276 => (if t276 = true then (if (bt271.1.length : Int) = 1 then (if 0 < (bt271.1.length : Int) then (if (strOfNums (rd_L1 bt271.1 0)).toList = (strOfNums l0).toList then (if bt271.2.1 = (t248.length : Int) then (some (bt271.2.2 == 30)) else (some false)) else (some false)) else (none)) else (some false)) else (some false)))) else (none))) else (none)) = some r := by first | (rw [hy262]; with_reducible exact H) | (have H2_ := (Option.bind_some _ _).symm.trans H; rw [hy262]; with_reducible exact H2_) | (have H2_ := (Option.bind_some _ _).symm.trans H; with_reducible exact H2_) | with_reducible exact H | (rw [hy262]; exact H) | exact H
                have Ny262 := Aside0.mk hy262
                clear hy262
                by_cases c21 : y262.length + y261.length < 140737488355328
                · rw [if_pos c21] at H
                  have LMc21 := Aside0.mk c21
                  clear c21
                  obtain ⟨y265, hy265⟩ : ∃ y_ : List Int, y_ = (y262 ++ y261) := ⟨_, rfl⟩
                  replace H : (if y265.length + t256.length < 140737488355328 then ((frame_Scan.f kj4 (y265 ++ t256)).bind fun bt271 => ((telemeterlaw02_known.f).bind fun t276 => (if t276 = true then (if (bt271.1.length : Int) = 1 then (if 0 < (bt271.1.length : Int) then (if (strOfNums (rd_L1 bt271.1 0)).toList = (strOfNums l0).toList then (if bt271.2.1 = (t248.length : Int) then (some (bt271.2.2 == 30)) else (some false)) else (some false)) else (none)) else (some false)) else (some false)))) else (none)) = some r := by first | (rw [hy265]; with_reducible exact H) | (have H2_ := (Option.bind_some _ _).symm.trans H; rw [hy265]; with_reducible exact H2_) | (have H2_ := (Option.bind_some _ _).symm.trans H; with_reducible exact H2_) | with_reducible exact H | (rw [hy265]; exact H) | exact H
                  have Ny265 := Aside0.mk hy265
                  clear hy265
                  by_cases c22 : y265.length + t256.length < 140737488355328
                  · rw [if_pos c22] at H
                    have LMc22 := Aside0.mk c22
                    clear c22
                    obtain ⟨y268, hy268⟩ : ∃ y_ : List Int, y_ = (y265 ++ t256) := ⟨_, rfl⟩
                    replace H : ((frame_Scan.f kj4 y268).bind fun bt271 => ((telemeterlaw02_known.f).bind fun t276 => (if t276 = true then (if (bt271.1.length : Int) = 1 then (if 0 < (bt271.1.length : Int) then (if (strOfNums (rd_L1 bt271.1 0)).toList = (strOfNums l0).toList then (if bt271.2.1 = (t248.length : Int) then (some (bt271.2.2 == 30)) else (some false)) else (some false)) else (none)) else (some false)) else (some false)))) = some r := by first | (rw [hy268]; with_reducible exact H) | (have H2_ := (Option.bind_some _ _).symm.trans H; rw [hy268]; with_reducible exact H2_) | (have H2_ := (Option.bind_some _ _).symm.trans H; with_reducible exact H2_) | with_reducible exact H | (rw [hy268]; exact H) | exact H
                    have Ny268 := Aside0.mk hy268
                    clear hy268
                    replace H := Option.bind_eq_some_iff.mp H
                    obtain ⟨⟨t271, t272, t273⟩, A230, H⟩ := H
                    replace H : ((telemeterlaw02_known.f).bind fun t276 => (if t276 = true then (if (t271.length : Int) = 1 then (if 0 < (t271.length : Int) then (if (strOfNums (rd_L1 t271 0)).toList = (strOfNums l0).toList then (if t272 = (t248.length : Int) then (some (t273 == 30)) else (some false)) else (some false)) else (none)) else (some false)) else (some false))) = some r := H
                    have A23 := Aside0.mk A230
                    clear A230
                    replace H := Option.bind_eq_some_iff.mp H
                    obtain ⟨t276, A240, H⟩ := H
                    replace H : (if t276 = true then (if (t271.length : Int) = 1 then (if 0 < (t271.length : Int) then (if (strOfNums (rd_L1 t271 0)).toList = (strOfNums l0).toList then (if t272 = (t248.length : Int) then (some (t273 == 30)) else (some false)) else (some false)) else (none)) else (some false)) else (some false)) = some r := H
                    have A24 := Aside0.mk A240
                    clear A240
                    by_cases c25 : t276 = true
                    · subst c25
                      have H1 : (if (t271.length : Int) = 1 then (if 0 < (t271.length : Int) then (if (strOfNums (rd_L1 t271 0)).toList = (strOfNums l0).toList then (if t272 = (t248.length : Int) then (some (t273 == 30)) else (some false)) else (some false)) else (none)) else (some false)) = some r := by rw [if_pos rfl] at H; exact H
                      clear H
                      have H := H1
                      clear H1
                      by_cases c26 : (t271.length : Int) = 1
                      · rw [if_pos c26] at H
                        have c26b0 : ((t271.length : Int) == 1) = true := beq_iff_eq.mpr c26
                        have c26b1 : ((t271.length : Int) != 1) = false := bne_eq_false_iff_eq.mpr c26
                        clear c26
                        by_cases c27 : 0 < (t271.length : Int)
                        · rw [if_pos c27] at H
                          have c27b0 : decide (0 < (t271.length : Int)) = true := decide_eq_true c27
                          have c27b1 : decide (0 < t271.length) = true := decide_eq_true (by omega)
                          clear c27
                          by_cases c28 : (strOfNums (rd_L1 t271 0)).toList = (strOfNums l0).toList
                          · rw [if_pos c28] at H
                            have c28b0 : ((strOfNums (rd_L1 t271 0)).toList == (strOfNums l0).toList) = true := beq_iff_eq.mpr c28
                            have c28b1 : ((strOfNums (rd_L1 t271 0)).toList != (strOfNums l0).toList) = false := bne_eq_false_iff_eq.mpr c28
                            clear c28
                            by_cases c29 : t272 = (t248.length : Int)
                            · rw [if_pos c29] at H
                              have c29b0 : (t272 == (t248.length : Int)) = true := beq_iff_eq.mpr c29
                              have c29b1 : (t272 != (t248.length : Int)) = false := bne_eq_false_iff_eq.mpr c29
                              clear c29
                              obtain rfl := Option.some.inj H
                              try go_wp2_with (first | ((with_reducible refine gate_callee (f := 24) rfl ?_); refine goesL_ (some 45) rfl rfl Try.func24 (by kernel_rfl) rfl #[.slice A0 l0.length c0] rfl (by (try simp only [List.map_toArray, List.map_cons, List.map_nil]); first | done | rfl | (simp only [List.length_drop, List.length_take]; rfl)) ?_; (with_reducible refine (frame_Frame.calls (fun k_ => k_ < w.heap.size) _ _ l0 t248 t251 _ ?side1 A12.out).mono ?_); (case side1 => exact Kd.V_mk HC0.out (Kd.F_below (Kd.C_F (Kd.heap_int .u8) HR0.out) (by repeat (first | (with_reducible first | exact HB.out | apply below_alloc | apply pw_below_drewN | apply below_drew1) | exact HB.out)))); rintro e w30 ⟨v249, rfl, ho0, hb⟩; refine ⟨_, rfl, ?_⟩; have n0_ := Aside0.mk (Kd.R_lower (Kd.R_mono (ok' := fun k_ => True) ho0 (fun _ hk_ => trivial)) (below_size (by repeat (first | (with_reducible first | exact HB.out | apply below_alloc | apply pw_below_drewN | apply below_drew1) | exact HB.out)))); have n1_ := Aside0.mk (below_step (by repeat (first | (with_reducible first | exact HB.out | apply below_alloc | apply pw_below_drewN | apply below_drew1) | exact HB.out)) hb); clear HB; have HO250 := n0_; have HB := n1_; clear n0_ n1_; (try clear hb); (try clear hb2); (try clear hk); (try clear hi); (try clear ho0)) | ((with_reducible refine gate_callee (f := 24) rfl ?_); refine goesL_ (some 50) rfl rfl Try.func24 (by kernel_rfl) rfl #[.slice A1 l1.length c1] rfl (by (try simp only [List.map_toArray, List.map_cons, List.map_nil]); first | done | rfl | (simp only [List.length_drop, List.length_take]; rfl)) ?_; (with_reducible refine (frame_Frame.calls (fun k_ => k_ < w.heap.size) _ _ l1 t252 t255 _ ?side1 A13.out).mono ?_); (case side1 => exact Kd.V_mk HC1.out (Kd.F_below (Kd.C_F (Kd.heap_int .u8) HR1.out) (by repeat (first | (with_reducible first | exact HB.out | apply below_alloc | apply pw_below_drewN | apply below_drew1) | exact HB.out)))); rintro e w31 ⟨v253, rfl, ho0, hb⟩; refine ⟨_, rfl, ?_⟩; have n0_ := Aside0.mk (Kd.R_elder' (by (with_reducible repeat (first | apply Kd.R_alloc | apply Kd.R_drewN | apply Kd.R_drew)); exact HO250.out) (Kd.R_base ho0) hb); have n1_ := Aside0.mk (Kd.R_lower (Kd.R_new' (Kd.R_mono (ok' := fun k_ => True) ho0 (fun _ hk_ => trivial)) (Kd.R_lt (by (with_reducible repeat (first | apply Kd.R_alloc | apply Kd.R_drewN | apply Kd.R_drew)); exact HO250.out))) (below_size (by repeat (first | (with_reducible first | exact HB.out | apply below_alloc | apply pw_below_drewN | apply below_drew1) | exact HB.out)))); have n2_ := Aside0.mk (below_step (by repeat (first | (with_reducible first | exact HB.out | apply below_alloc | apply pw_below_drewN | apply below_drew1) | exact HB.out)) hb); clear HO250; clear HB; have HO250 := n0_; have HO254 := n1_; have HB := n2_; clear n0_ n1_ n2_; (try clear hb); (try clear hb2); (try clear hk); (try clear hi); (try clear ho0)) | ((with_reducible refine gate_callee (f := 24) rfl ?_); refine goesL_ (some 55) rfl rfl Try.func24 (by kernel_rfl) rfl #[.slice A2 l2.length c2] rfl (by (try simp only [List.map_toArray, List.map_cons, List.map_nil]); first | done | rfl | (simp only [List.length_drop, List.length_take]; rfl)) ?_; (with_reducible refine (frame_Frame.calls (fun k_ => k_ < w.heap.size) _ _ l2 t256 t259 _ ?side1 A14.out).mono ?_); (case side1 => exact Kd.V_mk HC2.out (Kd.F_below (Kd.C_F (Kd.heap_int .u8) HR2.out) (by repeat (first | (with_reducible first | exact HB.out | apply below_alloc | apply pw_below_drewN | apply below_drew1) | exact HB.out)))); rintro e w32 ⟨v257, rfl, ho0, hb⟩; refine ⟨_, rfl, ?_⟩; have n0_ := Aside0.mk (Kd.R_elder' (by (with_reducible repeat (first | apply Kd.R_alloc | apply Kd.R_drewN | apply Kd.R_drew)); exact HO250.out) (Kd.R_base ho0) hb); have n1_ := Aside0.mk (Kd.R_elder' (by (with_reducible repeat (first | apply Kd.R_alloc | apply Kd.R_drewN | apply Kd.R_drew)); exact HO254.out) (Kd.R_base ho0) hb); have n2_ := Aside0.mk (Kd.R_lower (Kd.R_new' (Kd.R_new' (Kd.R_mono (ok' := fun k_ => True) ho0 (fun _ hk_ => trivial)) (Kd.R_lt (by (with_reducible repeat (first | apply Kd.R_alloc | apply Kd.R_drewN | apply Kd.R_drew)); exact HO250.out))) (Kd.R_lt (by (with_reducible repeat (first | apply Kd.R_alloc | apply Kd.R_drewN | apply Kd.R_drew)); exact HO254.out))) (below_size (by repeat (first | (with_reducible first | exact HB.out | apply below_alloc | apply pw_below_drewN | apply below_drew1) | exact HB.out)))); have n3_ := Aside0.mk (below_step (by repeat (first | (with_reducible first | exact HB.out | apply below_alloc | apply pw_below_drewN | apply below_drew1) | exact HB.out)) hb); clear HO250; clear HO254; clear HB; have HO250 := n0_; have HO254 := n1_; have HO258 := n2_; have HB := n3_; clear n0_ n1_ n2_ n3_; (try clear hb); (try clear hb2); (try clear hk); (try clear hi); (try clear ho0); obtain ⟨Ao33, co33, eo33⟩ := Kd.R_slice HO254.out; subst eo33; have p260 : 0 ≤ ((ji16) : Int) := of_decide_eq_true (by first | (with_reducible assumption) | assumption); have q260 : (ji16) < (t252.length : Int) := of_decide_eq_true (by first | (with_reducible assumption) | assumption); obtain ⟨ad260, e260, hx260_0⟩ := Kd.at_int (Kd.R_reads' HO254.out).2.2 (ji16) p260 q260; cases e260; replace p260 := eq_true p260; replace q260 := eq_true q260; have p19 : 0 ≤ ((ji16) : Int) := of_decide_eq_true (by first | (with_reducible assumption) | assumption); have q19 : ((ji16) : Int) < ((t252.length : Int) : Int) := of_decide_eq_true (by first | (with_reducible assumption) | assumption); obtain ⟨go19, co19, eo19, gb19, gl19, cl19, HG19⟩ := Kd.R_form HO254.out (by omega); (first | cases eo19 | (injection eo19 with ea_ en_ ec_; (first | subst ea_ | (injection ea_ with ea_; subst ea_)); subst ec_; clear en_)); have GB19 := Aside0.mk gb19; have GG19 := Aside0.mk HG19; clear gb19 gl19 HG19; (first | simp only [add_plain] at hx260_0 | skip); obtain ⟨hx19_0, hf19_0⟩ := Kd.R_celln 0 HO254.out ((ji16) : Int) p19 q19; replace p19 := eq_true p19; replace q19 := eq_true q19; have n_ := Aside0.mk (Kd.R_mono (ok' := (fun k_ => some k_ ≠ (v249 : Value).ownBlock ∧ some k_ ≠ (v257 : Value).ownBlock)) HO254.out (fun k_ hk => ⟨hk.1.2, hk.2⟩)); clear HO254; have HO254 := n_; clear n_; obtain ⟨hy34_, hz34_⟩ := Kd.R_celln 0 HO254.out ((ji16) : Int) (of_decide_eq_true (by first | (with_reducible assumption) | assumption)) (of_decide_eq_true (by first | (with_reducible assumption) | assumption)); have HP34 := Kd.R_putg HO254.out ((ji16) : Int) (Go.bits .xor .u8 (rd t252 (ji16)) a3)) | ((with_reducible refine gate_store (t := 5) (p := 72) rfl ?_); refine store_event (t := 5) (p := 72) (v := ?vo_w35) (w1 := (w32.setCell ⟨go19, ((ji16) : Int).toNat, none⟩ (.int .u8 (Go.bits .xor .u8 (rd t252 (ji16)) a3)))) ?hg ?ho ?hn ?hr ?_; (case ho => rfl); (case hg => rfl); (case hn => rfl); (case hr => first | (go_simp; done) | (go_simp; rfl)); intro w35 hw; have hg : w32.grownBy w35 (some go19) := (by rw [hw]; exact HP34.2); have hp_ : Kd.R (Kd.int .u8) 5 w35 w.heap.size (fun k_ => some k_ ≠ (v249 : Value).ownBlock ∧ some k_ ≠ (v257 : Value).ownBlock) (.slice (some ⟨go19, 0, none⟩) t252.length co33) y261 := (by rw [hw, Ny261.out]; exact HP34.1); clear HP34; have n0_ := Aside0.mk (Kd.R_after (v := (.slice (some ⟨go19, 0, none⟩) t252.length co33)) (v1 := (.slice (some ⟨go19, 0, none⟩) t252.length co33)) (ok := (fun k_ => some k_ ≠ (v257 : Value).ownBlock)) (by (with_reducible repeat (first | apply Kd.R_alloc | apply Kd.R_drewN | apply Kd.R_drew)); exact Kd.R_mono HO250.out (fun _ hk => ⟨hk.2, hk.1.2⟩)) hg (.inl rfl)); have n1_ := Aside0.mk (hp_); have n2_ := Aside0.mk (Kd.R_after (v := (.slice (some ⟨go19, 0, none⟩) t252.length co33)) (v1 := (.slice (some ⟨go19, 0, none⟩) t252.length co33)) (ok := (fun k_ => some k_ ≠ (v249 : Value).ownBlock)) (by (with_reducible repeat (first | apply Kd.R_alloc | apply Kd.R_drewN | apply Kd.R_drew)); exact Kd.R_mono HO258.out (fun _ hk => ⟨hk.1.2, hk.2⟩)) hg (.inl rfl)); have n3_ := Aside0.mk ((by rw [hw]; exact below_set (HB.out) GB19.out : Below w.heap.size w w35)); clear HO250; clear HO254; clear HO258; clear HB; have HO250 := n0_; have HO254 := n1_; have HO258 := n2_; have HB := n3_; clear n0_ n1_ n2_ n3_; clear hg hw hp_; obtain ⟨Ao37, co37, eo37⟩ := Kd.R_slice HO250.out; subst eo37) | ((with_reducible refine gate_builtin (b := .append) (xs := #[.tmp 73, .tmp 74]) rfl ?_); (try (refine gate_guard (by rfl) ?_; dsimp only)); at_builtin; refine Kd.R_append_rows (Kd.int .u8) (w0 := w) w.heap.size rfl (.tmp 73) (.tmp 74) 22 5 (.int .u8 0) 1 rfl Try.underlying22 info5 rfl (by decide) (by omega) (.slice none 0 0) ([] : List Int) t248 _ _ _ (fun k_ => some k_ ≠ (.slice Ao37 t248.length co37 : Value).ownBlock ∧ some k_ ≠ (.slice (some ⟨go19, 0, none⟩) t252.length co33 : Value).ownBlock ∧ some k_ ≠ (v257 : Value).ownBlock) (fun _ => False) rfl rfl ?aO ?aR (fun _ _ h => h) (fun _ h => h.elim) ?aF ?aB ?aS ?aL ?_; (case aR => repeat (first | exact (Kd.R_reads' HO250.out).2.2 | (with_reducible refine Kd.C_alloc ?_ _) | (with_reducible refine Kd.C_drewN ?_ _) | (with_reducible refine Kd.C_drew ?_))); (case aB => exact (by repeat (first | (with_reducible first | exact HB.out | apply below_alloc | apply pw_below_drewN | apply below_drew1) | exact HB.out))); (case aF => exact (fun k_ hk => ⟨Kd.fresh' (Kd.R_lt (by (with_reducible repeat (first | apply Kd.R_alloc | apply Kd.R_drewN | apply Kd.R_drew)); exact HO250.out)) k_ hk, Kd.fresh' (Kd.R_lt (by (with_reducible repeat (first | apply Kd.R_alloc | apply Kd.R_drewN | apply Kd.R_drew)); exact HO254.out)) k_ hk, Kd.fresh' (Kd.R_lt (by (with_reducible repeat (first | apply Kd.R_alloc | apply Kd.R_drewN | apply Kd.R_drew)); exact HO258.out)) k_ hk⟩)); (case aO => exact ((Kd.R_nil _ _ _ _ (fun k_ => some k_ ≠ (.slice Ao37 t248.length co37 : Value).ownBlock ∧ some k_ ≠ (.slice (some ⟨go19, 0, none⟩) t252.length co33 : Value).ownBlock ∧ some k_ ≠ (v257 : Value).ownBlock)))); (case aS => exact (below_size (by repeat (first | (with_reducible first | exact HB.out | apply below_alloc | apply pw_below_drewN | apply below_drew1) | exact HB.out)))); (case aL => have := LMc20.out; omega); intro v263 w36 ho hb hg hat; rw [← Ny262.out] at ho; have n0_ := Aside0.mk (Kd.R_after (Kd.R_apart_nil (by (with_reducible repeat (first | apply Kd.R_alloc | apply Kd.R_drewN | apply Kd.R_drew)); exact HO250.out)) hg hat); have n1_ := Aside0.mk (Kd.R_after (Kd.R_apart_nil (by (with_reducible repeat (first | apply Kd.R_alloc | apply Kd.R_drewN | apply Kd.R_drew)); exact HO254.out)) hg hat); have n2_ := Aside0.mk (Kd.R_after (Kd.R_apart_nil (by (with_reducible repeat (first | apply Kd.R_alloc | apply Kd.R_drewN | apply Kd.R_drew)); exact HO258.out)) hg hat); have n3_ := Aside0.mk (hb); have n4_ := Aside0.mk (ho); clear HO250; clear HO254; clear HO258; clear HB; have HO250 := n0_; have HO254 := n1_; have HO258 := n2_; have HB := n3_; have HO264 := n4_; clear n0_ n1_ n2_ n3_ n4_; clear ho hb hg hat) | ((with_reducible refine gate_builtin (b := .append) (xs := #[.tmp 76, .tmp 77]) rfl ?_); (try (refine gate_guard (by rfl) ?_; dsimp only)); at_builtin; refine Kd.R_append_rows (Kd.int .u8) (w0 := w) w.heap.size rfl (.tmp 76) (.tmp 77) 22 5 (.int .u8 0) 1 rfl Try.underlying22 info5 rfl (by decide) (by omega) v263 y262 y261 _ _ _ (fun k_ => some k_ ≠ (.slice Ao37 t248.length co37 : Value).ownBlock ∧ some k_ ≠ (.slice (some ⟨go19, 0, none⟩) t252.length co33 : Value).ownBlock ∧ some k_ ≠ (v257 : Value).ownBlock) (fun _ => False) rfl rfl ?aO ?aR (fun _ _ h => h) (fun _ h => h.elim) ?aF ?aB ?aS ?aL ?_; (case aR => rw [show t252.length = y261.length from (Kd.R_reads' HO254.out).1]; repeat (first | exact (Kd.R_reads' HO254.out).2.2 | (with_reducible refine Kd.C_alloc ?_ _) | (with_reducible refine Kd.C_drewN ?_ _) | (with_reducible refine Kd.C_drew ?_))); (case aB => exact (by repeat (first | (with_reducible first | exact HB.out | apply below_alloc | apply pw_below_drewN | apply below_drew1) | exact HB.out))); (case aF => exact (fun k_ hk => ⟨Kd.fresh' (Kd.R_lt (by (with_reducible repeat (first | apply Kd.R_alloc | apply Kd.R_drewN | apply Kd.R_drew)); exact HO250.out)) k_ hk, Kd.fresh' (Kd.R_lt (by (with_reducible repeat (first | apply Kd.R_alloc | apply Kd.R_drewN | apply Kd.R_drew)); exact HO254.out)) k_ hk, Kd.fresh' (Kd.R_lt (by (with_reducible repeat (first | apply Kd.R_alloc | apply Kd.R_drewN | apply Kd.R_drew)); exact HO258.out)) k_ hk⟩)); (case aO => exact (by (with_reducible repeat (first | apply Kd.R_alloc | apply Kd.R_drewN | apply Kd.R_drew)); exact HO264.out)); (case aS => exact (below_size (by repeat (first | (with_reducible first | exact HB.out | apply below_alloc | apply pw_below_drewN | apply below_drew1) | exact HB.out)))); (case aL => have := LMc21.out; have hlx_ := (Kd.R_reads' HO254.out).1; omega); intro v266 w38 ho hb hg hat; rw [← Ny265.out] at ho; have n0_ := Aside0.mk (Kd.R_after (ok := (fun k_ => some k_ ≠ (.slice (some ⟨go19, 0, none⟩) t252.length co33 : Value).ownBlock ∧ some k_ ≠ (v257 : Value).ownBlock)) (by (with_reducible repeat (first | apply Kd.R_alloc | apply Kd.R_drewN | apply Kd.R_drew)); exact Kd.R_mono HO250.out (fun _ hk => ⟨⟨hk.1.2, hk.1.1⟩, hk.2⟩)) hg hat); have n1_ := Aside0.mk (Kd.R_after (ok := (fun k_ => some k_ ≠ (.slice Ao37 t248.length co37 : Value).ownBlock ∧ some k_ ≠ (v257 : Value).ownBlock)) (by (with_reducible repeat (first | apply Kd.R_alloc | apply Kd.R_drewN | apply Kd.R_drew)); exact HO254.out) hg hat); have n2_ := Aside0.mk (Kd.R_after (ok := (fun k_ => some k_ ≠ (.slice Ao37 t248.length co37 : Value).ownBlock ∧ some k_ ≠ (.slice (some ⟨go19, 0, none⟩) t252.length co33 : Value).ownBlock)) (by (with_reducible repeat (first | apply Kd.R_alloc | apply Kd.R_drewN | apply Kd.R_drew)); exact HO258.out) hg hat); have n3_ := Aside0.mk (hb); have n4_ := Aside0.mk (ho); clear HO250; clear HO254; clear HO258; clear HB; clear HO264; have HO250 := n0_; have HO254 := n1_; have HO258 := n2_; have HB := n3_; have HO267 := n4_; clear n0_ n1_ n2_ n3_ n4_; clear ho hb hg hat; obtain ⟨Ao40, co40, eo40⟩ := Kd.R_slice HO258.out; subst eo40) | ((with_reducible refine gate_builtin (b := .append) (xs := #[.tmp 79, .tmp 80]) rfl ?_); (try (refine gate_guard (by rfl) ?_; dsimp only)); at_builtin; refine Kd.R_append_rows (Kd.int .u8) (w0 := w) w.heap.size rfl (.tmp 79) (.tmp 80) 22 5 (.int .u8 0) 1 rfl Try.underlying22 info5 rfl (by decide) (by omega) v266 y265 t256 _ _ _ (fun k_ => some k_ ≠ (.slice Ao37 t248.length co37 : Value).ownBlock ∧ some k_ ≠ (.slice (some ⟨go19, 0, none⟩) t252.length co33 : Value).ownBlock ∧ some k_ ≠ (.slice Ao40 t256.length co40 : Value).ownBlock) (fun _ => False) rfl rfl ?aO ?aR (fun _ _ h => h) (fun _ h => h.elim) ?aF ?aB ?aS ?aL ?_; (case aR => repeat (first | exact (Kd.R_reads' HO258.out).2.2 | (with_reducible refine Kd.C_alloc ?_ _) | (with_reducible refine Kd.C_drewN ?_ _) | (with_reducible refine Kd.C_drew ?_))); (case aB => exact (by repeat (first | (with_reducible first | exact HB.out | apply below_alloc | apply pw_below_drewN | apply below_drew1) | exact HB.out))); (case aF => exact (fun k_ hk => ⟨Kd.fresh' (Kd.R_lt (by (with_reducible repeat (first | apply Kd.R_alloc | apply Kd.R_drewN | apply Kd.R_drew)); exact HO250.out)) k_ hk, Kd.fresh' (Kd.R_lt (by (with_reducible repeat (first | apply Kd.R_alloc | apply Kd.R_drewN | apply Kd.R_drew)); exact HO254.out)) k_ hk, Kd.fresh' (Kd.R_lt (by (with_reducible repeat (first | apply Kd.R_alloc | apply Kd.R_drewN | apply Kd.R_drew)); exact HO258.out)) k_ hk⟩)); (case aO => exact (by (with_reducible repeat (first | apply Kd.R_alloc | apply Kd.R_drewN | apply Kd.R_drew)); exact HO267.out)); (case aS => exact (below_size (by repeat (first | (with_reducible first | exact HB.out | apply below_alloc | apply pw_below_drewN | apply below_drew1) | exact HB.out)))); (case aL => have := LMc22.out; omega); intro v269 w39 ho hb hg hat; rw [← Ny268.out] at ho; have n0_ := Aside0.mk (Kd.R_after (ok := (fun k_ => some k_ ≠ (.slice (some ⟨go19, 0, none⟩) t252.length co33 : Value).ownBlock ∧ some k_ ≠ (.slice Ao40 t256.length co40 : Value).ownBlock)) (by (with_reducible repeat (first | apply Kd.R_alloc | apply Kd.R_drewN | apply Kd.R_drew)); exact HO250.out) hg hat); have n1_ := Aside0.mk (Kd.R_after (ok := (fun k_ => some k_ ≠ (.slice Ao37 t248.length co37 : Value).ownBlock ∧ some k_ ≠ (.slice Ao40 t256.length co40 : Value).ownBlock)) (by (with_reducible repeat (first | apply Kd.R_alloc | apply Kd.R_drewN | apply Kd.R_drew)); exact HO254.out) hg hat); have n2_ := Aside0.mk (Kd.R_after (ok := (fun k_ => some k_ ≠ (.slice Ao37 t248.length co37 : Value).ownBlock ∧ some k_ ≠ (.slice (some ⟨go19, 0, none⟩) t252.length co33 : Value).ownBlock)) (by (with_reducible repeat (first | apply Kd.R_alloc | apply Kd.R_drewN | apply Kd.R_drew)); exact HO258.out) hg hat); have n3_ := Aside0.mk (hb); have n4_ := Aside0.mk (ho); clear HO250; clear HO254; clear HO258; clear HB; clear HO267; have HO250 := n0_; have HO254 := n1_; have HO258 := n2_; have HB := n3_; have HO270 := n4_; clear n0_ n1_ n2_ n3_ n4_; clear ho hb hg hat; obtain ⟨Ao41, co41, eo41⟩ := Kd.R_slice HO270.out; subst eo41) | ((with_reducible refine gate_callee (f := 30) rfl ?_); refine goesL_ (some 84) rfl rfl Try.func30 (by kernel_rfl) rfl #[.slice Ao41 y268.length co41] rfl (by (try simp only [List.map_toArray, List.map_cons, List.map_nil]); first | done | rfl | (simp only [List.length_drop, List.length_take]; rfl)) ?_; (with_reducible refine (frame_Scan.calls kj4 _ _ y268 t271 t272 t273 _ ?side1 ?side2 A23.out).mono ?_); (case side1 => repeat (first | exact (Kd.R_reads' HO270.out).2.2 | (with_reducible refine Kd.C_alloc ?_ _) | (with_reducible refine Kd.C_drewN ?_ _) | (with_reducible refine Kd.C_drew ?_))); (case side2 => exact (Kd.R_reads' HO270.out).2.1); rintro e w42 ⟨v274, rfl, ho0, hb⟩; refine ⟨_, rfl, ?_⟩; have n0_ := Aside0.mk (Kd.R_below (by (with_reducible repeat (first | apply Kd.R_alloc | apply Kd.R_drewN | apply Kd.R_drew)); exact HO250.out) hb); have n1_ := Aside0.mk (Kd.R_below (by (with_reducible repeat (first | apply Kd.R_alloc | apply Kd.R_drewN | apply Kd.R_drew)); exact HO254.out) hb); have n2_ := Aside0.mk (Kd.R_below (by (with_reducible repeat (first | apply Kd.R_alloc | apply Kd.R_drewN | apply Kd.R_drew)); exact HO258.out) hb); have n3_ := Aside0.mk (Kd.R_below (by (with_reducible repeat (first | apply Kd.R_alloc | apply Kd.R_drewN | apply Kd.R_drew)); exact HO270.out) hb); have n4_ := Aside0.mk (Kd.S_lower (Kd.S_new' (Kd.S_new' (Kd.S_new' (Kd.S_new' ho0 (Kd.R_lt (by (with_reducible repeat (first | apply Kd.R_alloc | apply Kd.R_drewN | apply Kd.R_drew)); exact HO250.out))) (Kd.R_lt (by (with_reducible repeat (first | apply Kd.R_alloc | apply Kd.R_drewN | apply Kd.R_drew)); exact HO254.out))) (Kd.R_lt (by (with_reducible repeat (first | apply Kd.R_alloc | apply Kd.R_drewN | apply Kd.R_drew)); exact HO258.out))) (Kd.R_lt (by (with_reducible repeat (first | apply Kd.R_alloc | apply Kd.R_drewN | apply Kd.R_drew)); exact HO270.out))) (below_size (by repeat (first | (with_reducible first | exact HB.out | apply below_alloc | apply pw_below_drewN | apply below_drew1) | exact HB.out)))); have n5_ := Aside0.mk (below_step (by repeat (first | (with_reducible first | exact HB.out | apply below_alloc | apply pw_below_drewN | apply below_drew1) | exact HB.out)) hb); clear HO250; clear HO254; clear HO258; clear HO270; clear HB; have HO250 := n0_; have HO254 := n1_; have HO258 := n2_; have HO270 := n3_; have HO275 := n4_; have HB := n5_; clear n0_ n1_ n2_ n3_ n4_ n5_; (try clear hb); (try clear hb2); (try clear hk); (try clear hi); (try clear ho0)))
                              have n0_ := Aside0.mk (Kd.R_drew HO250.out)
                              have n1_ := Aside0.mk (Kd.R_drew HO254.out)
                              have n2_ := Aside0.mk (Kd.R_drew HO258.out)
                              have n3_ := Aside0.mk (Kd.R_drew HO270.out)
                              have n4_ := Aside0.mk (Kd.S_drew HO275.out)
                              have n5_ := Aside0.mk (below_drew1 HB.out)
                              clear HO250
                              clear HO254
                              clear HO258
                              clear HO270
                              clear HO275
                              clear HB
                              have HO250 := n0_
                              have HO254 := n1_
                              have HO258 := n2_
                              have HO270 := n3_
                              have HO275 := n4_
                              have HB := n5_
                              clear n0_ n1_ n2_ n3_ n4_ n5_
                              obtain ⟨Ax_eo45, co45, eo45⟩ := Kd.S_slice HO275.out
                              (first | subst eo45 | (injection eo45 with f1_ f2_ f3_; have f4_ := f1_.symm; have f5_ := f3_.symm; clear f1_ f2_ f3_; subst f4_; subst f5_))
                              have p277 : 0 ≤ (0 : Int) := (by omega)
                              have q277 : 0 < (t271.length : Int) := of_decide_eq_true (by first | (with_reducible assumption) | assumption)
                              obtain ⟨ad277, A277_0, c277_0, e277, hx277_0, hl277_0, hi277_0⟩ := at_L1 (Kd.S_reads' HO275.out).2.2 0 p277 q277
                              cases e277
                              obtain ⟨ce277, hce277, hMe277, hcc277⟩ := Kd.S_get HO275.out [] 0 p277 (by first | exact q277 | exact of_decide_eq_true (by first | (with_reducible assumption) | assumption) | (have e_ := (Kd.S_reads' HO275.out).1; omega))
                              obtain ⟨ve277_0, rfl, ge277_0⟩ := hMe277
                              have hv277_0 := hcc277 0 _ rfl
                              rw [Nat.add_zero, show ((Kd.slice 5 (Kd.int .u8))).sz = 1 from rfl, Nat.mul_one] at hv277_0
                              replace hv277_0 := Option.some.inj (hv277_0.symm.trans hx277_0)
                              rw [hv277_0] at ge277_0
                              have HL277_0 := Aside0.mk (show Kd.R (Kd.int .u8) 5 _ _ _ _ (rd_L1 t271 0) from ge277_0)
                              clear hv277_0 ge277_0
                              clear hcc277 hce277
                              have qi277 : (0 < t271.length) = True := eq_true (by omega)
                              (try rw [show ((0 : Int)).toNat = 0 from rfl] at hx277_0)
                              (try rw [Addr.add_zero'] at hx277_0)
                              have HR277_0 := Aside0.mk hi277_0
                              have HC277_0 := Aside0.mk hl277_0
                              clear hi277_0 hl277_0
                              replace p277 := eq_true p277
                              replace q277 := eq_true q277
                              refine start_ (n := 26) (S := fun w' => w'.cell? ad277 = some (.slice A277_0 (rd_L1 t271 0).length c277_0)) (ds := []) #[false, false, false, false, false, false, false, false, false, false, false, false, false, false, false, false, false, false, false, false, false, false, false, false, false, false] (by kernel_rfl) rfl rfl (hx277_0) (fun hHeld => ?_); refine with_tabW telemeterlaw02_FrameStops.tab14 telemeterlaw02_FrameStops.bits14 (fun HT_ HW_ => ?_)
                              generalize w42.drew = w43 at HO250 HO254 HO258 HO270 HO275 HB HL277_0 HR277_0 hx277_0 hHeld ⊢
                              refine one_ (i := 0) (N := some 88) #[true, false, false, false, false, false, false, false, false, false, false, false, false, false, false, false, false, false, false, false, false, false, false, false, false, false] rfl rfl (one_of HT_.out (by kernel_rfl)) (by decide) (fun K hK => ?_)
                              refine goes_ Try.func26 (by kernel_rfl) rfl #[] (by rfl) rfl rfl (by (try simp only [List.map_toArray, List.map_cons, List.map_nil]); first | done | rfl | (simp only [List.length_drop, List.length_take]; rfl)) ?_
                              with_reducible refine (telemeterlaw02_known.calls  true _ A24.out).mono ?_
                              rintro e w44 ⟨rfl, hb⟩
                              try (have HRz_ := Aside0.mk (Kd.R_below HL277_0.out hb); clear HL277_0; have HL277_0 := HRz_; clear HRz_)
                              try (have HRz_ := Aside0.mk (Kd.C_below HR277_0.out hb); clear HR277_0; have HR277_0 := HRz_; clear HRz_)
                              have HS0_ := (hb.cell (World.block_lt_of_cell? _ _ (hHeld))).trans (hHeld)
                              refine ⟨_, rfl, ?_⟩
                              have n0_ := Aside0.mk (Kd.R_below (by (with_reducible repeat (first | apply Kd.R_alloc | apply Kd.R_drewN | apply Kd.R_drew)); exact HO250.out) hb)
                              have n1_ := Aside0.mk (Kd.R_below (by (with_reducible repeat (first | apply Kd.R_alloc | apply Kd.R_drewN | apply Kd.R_drew)); exact HO254.out) hb)
                              have n2_ := Aside0.mk (Kd.R_below (by (with_reducible repeat (first | apply Kd.R_alloc | apply Kd.R_drewN | apply Kd.R_drew)); exact HO258.out) hb)
                              have n3_ := Aside0.mk (Kd.R_below (by (with_reducible repeat (first | apply Kd.R_alloc | apply Kd.R_drewN | apply Kd.R_drew)); exact HO270.out) hb)
                              have n4_ := Aside0.mk (Kd.S_below (by (with_reducible repeat (first | apply Kd.S_alloc | apply Kd.S_drewN | apply Kd.S_drew)); exact HO275.out) hb)
                              have n5_ := Aside0.mk (below_step (by repeat (first | (with_reducible first | exact HB.out | apply below_alloc | apply pw_below_drewN | apply below_drew1) | exact HB.out)) hb)
                              clear HO250
                              clear HO254
                              clear HO258
                              clear HO270
                              clear HO275
                              clear HB
                              have HO250 := n0_
                              have HO254 := n1_
                              have HO258 := n2_
                              have HO270 := n3_
                              have HO275 := n4_
                              have HB := n5_
                              clear n0_ n1_ n2_ n3_ n4_ n5_
                              (try clear hb)
                              (try clear hb2)
                              (try clear hk)
                              (try clear hi)
                              refine hK.out _ _ (HS0_) (fun hHeld => ?_)
                              clear hK K
                              refine norm_ (a' := ?_) ?_ ?_
                              rotate_left
                              · show Act.put _ (some 88) _ = _
                                simp only [Act.put, List.setIfInBounds_toArray, List.set_cons_zero, List.set_cons_succ, i64_w, i32_w]
                                rfl
                              refine pure_ (i := 1) (N := some 89) (v := ?_) (a' := ?_) #[true, true, false, false, false, false, false, false, false, false, false, false, false, false, false, false, false, false, false, false, false, false, false, false, false, false] rfl rfl (any_of HT_.out (by kernel_rfl)) (fun _ _ _ h => h) (Or.inl ⟨by rfl, ?_⟩) ?_ ?_
                              rotate_left
                              · intro w'
                                go_simp
                                with_reducible rfl
                              rotate_left
                              · simp only [Act.put, List.setIfInBounds_toArray, List.set_cons_zero, List.set_cons_succ, i64_w, i32_w]
                                rfl
                              refine pure_ (i := 2) (N := some 90) (v := ?_) (a' := ?_) #[true, true, true, false, false, false, false, false, false, false, false, false, false, false, false, false, false, false, false, false, false, false, false, false, false, false] rfl rfl (any_of HT_.out (by kernel_rfl)) (fun _ _ _ h => h) (Or.inl ⟨by rfl, ?_⟩) ?_ ?_
                              rotate_left
                              · intro w'
                                go_simp
                                with_reducible rfl
                              rotate_left
                              · simp only [Act.put, List.setIfInBounds_toArray, List.set_cons_zero, List.set_cons_succ, i64_w, i32_w]
                                rfl
                              refine pure_ (i := 3) (N := some 91) (v := ?_) (a' := ?_) #[true, true, true, true, false, false, false, false, false, false, false, false, false, false, false, false, false, false, false, false, false, false, false, false, false, false] rfl rfl (any_of HT_.out (by kernel_rfl)) (fun _ _ _ h => h) (Or.inl ⟨by rfl, ?_⟩) ?_ ?_
                              rotate_left
                              · intro w'
                                go_simp
                                with_reducible rfl
                              rotate_left
                              · simp only [Act.put, List.setIfInBounds_toArray, List.set_cons_zero, List.set_cons_succ, i64_w, i32_w]
                                rfl
                              refine pure_ (i := 4) (N := some 92) (v := ?_) (a' := ?_) #[true, true, true, true, true, false, false, false, false, false, false, false, false, false, false, false, false, false, false, false, false, false, false, false, false, false] rfl rfl (any_of HT_.out (by kernel_rfl)) (fun _ _ _ h => h) (Or.inl ⟨by rfl, ?_⟩) ?_ ?_
                              rotate_left
                              · intro w'
                                go_simp
                                with_reducible rfl
                              rotate_left
                              · simp only [Act.put, List.setIfInBounds_toArray, List.set_cons_zero, List.set_cons_succ, i64_w, i32_w]
                                rfl
                              refine pure_ (i := 5) (N := some 93) (v := ?_) (a' := ?_) #[true, true, true, true, true, true, false, false, false, false, false, false, false, false, false, false, false, false, false, false, false, false, false, false, false, false] rfl rfl (any_of HT_.out (by kernel_rfl)) (fun _ _ _ h => h) (Or.inl ⟨by rfl, ?_⟩) ?_ ?_
                              rotate_left
                              · intro w'
                                go_simp
                                with_reducible rfl
                              rotate_left
                              · simp only [Act.put, List.setIfInBounds_toArray, List.set_cons_zero, List.set_cons_succ, i64_w, i32_w]
                                rfl
                              refine pure_ (i := 6) (N := some 94) (v := ?_) (a' := ?_) #[true, true, true, true, true, true, true, false, false, false, false, false, false, false, false, false, false, false, false, false, false, false, false, false, false, false] rfl rfl (any_of HT_.out (by kernel_rfl)) (fun _ _ _ h => h) (Or.inl ⟨by rfl, ?_⟩) ?_ ?_
                              rotate_left
                              · intro w'
                                go_simp
                                with_reducible rfl
                              rotate_left
                              · simp only [Act.put, List.setIfInBounds_toArray, List.set_cons_zero, List.set_cons_succ, i64_w, i32_w]
                                rfl
                              refine pure_ (i := 7) (N := some 95) (v := ?_) (a' := ?_) #[true, true, true, true, true, true, true, true, false, false, false, false, false, false, false, false, false, false, false, false, false, false, false, false, false, false] rfl rfl (any_of HT_.out (by kernel_rfl)) (fun _ _ _ h => h) (Or.inl ⟨by rfl, ?_⟩) ?_ ?_
                              rotate_left
                              · intro w'
                                go_simp
                                with_reducible rfl
                              rotate_left
                              · simp only [Act.put, List.setIfInBounds_toArray, List.set_cons_zero, List.set_cons_succ, i64_w, i32_w]
                                rfl
                              refine pure_ (i := 8) (N := some 96) (v := ?_) (a' := ?_) #[true, true, true, true, true, true, true, true, true, false, false, false, false, false, false, false, false, false, false, false, false, false, false, false, false, false] rfl rfl (any_of HT_.out (by kernel_rfl)) (fun _ _ _ h => h) (Or.inl ⟨by rfl, ?_⟩) ?_ ?_
                              rotate_left
                              · intro w'
                                go_simp
                                with_reducible rfl
                              rotate_left
                              · simp only [Act.put, List.setIfInBounds_toArray, List.set_cons_zero, List.set_cons_succ, i64_w, i32_w]
                                rfl
                              refine pure_ (i := 11) (N := some 99) (v := ?_) (a' := ?_) #[true, true, true, true, true, true, true, true, true, false, false, true, false, false, false, false, false, false, false, false, false, false, false, false, false, false] rfl rfl (any_of HT_.out (by kernel_rfl)) (fun _ _ _ h => h) (Or.inl ⟨by rfl, ?_⟩) ?_ ?_
                              rotate_left
                              · intro w'
                                go_simp
                                with_reducible rfl
                              rotate_left
                              · simp only [Act.put, List.setIfInBounds_toArray, List.set_cons_zero, List.set_cons_succ, i64_w, i32_w]
                                rfl
                              refine take_ (i := 9) (N := some 97) (v := ?_) (a' := ?_) #[true, true, true, true, true, true, true, true, true, true, false, true, false, false, false, false, false, false, false, false, false, false, false, false, false, false] rfl rfl (take_ofW HT_.out HW_.out (by kernel_rfl)) (fun _ _ _ h => h) (Or.inl ⟨by rfl, ?_⟩) hHeld ?_ ?_
                              rotate_left
                              · intro w' s0
                                go_simp
                                with_reducible rfl
                              rotate_left
                              · simp only [Act.put, List.setIfInBounds_toArray, List.set_cons_zero, List.set_cons_succ, i64_w, i32_w]
                                rfl
                              refine join_ (σ := Unit) 13 #[true, true, true, true, true, true, true, true, true, true, true, true, true, false, false, false, false, false, false, false, false, false, false, false, false, false] (fun s_ => [(98, .string (strOfNums (rd_L1 t271 0))), (100, .string (strOfNums l0))]) (fun s_ w' => (w'.cell? ad277 = some (.slice A277_0 (rd_L1 t271 0).length c277_0)) ∧ (Kd.R (Kd.int .u8) 5 w' w.heap.size (fun k_ => some k_ ≠ (.slice Ao37 t248.length co37 : Value).ownBlock ∧ some k_ ≠ (.slice (some ⟨go19, 0, none⟩) t252.length co33 : Value).ownBlock ∧ some k_ ≠ (.slice Ao40 t256.length co40 : Value).ownBlock ∧ some k_ ≠ (.slice Ao41 y268.length co41 : Value).ownBlock ∧ some k_ ≠ (.slice (some ad277) t271.length co45 : Value).ownBlock) (.slice A277_0 (rd_L1 t271 0).length c277_0) (rd_L1 t271 0)) ∧ (Kd.R (Kd.int .u8) 5 w' w.heap.size (fun k_ => some k_ ≠ (.slice (some ⟨go19, 0, none⟩) t252.length co33 : Value).ownBlock ∧ some k_ ≠ (.slice Ao40 t256.length co40 : Value).ownBlock ∧ some k_ ≠ (.slice Ao41 y268.length co41 : Value).ownBlock) (.slice Ao37 t248.length co37) t248) ∧ (Kd.R (Kd.int .u8) 5 w' w.heap.size (fun k_ => some k_ ≠ (.slice Ao37 t248.length co37 : Value).ownBlock ∧ some k_ ≠ (.slice Ao40 t256.length co40 : Value).ownBlock ∧ some k_ ≠ (.slice Ao41 y268.length co41 : Value).ownBlock) (.slice (some ⟨go19, 0, none⟩) t252.length co33) y261) ∧ (Kd.R (Kd.int .u8) 5 w' w.heap.size (fun k_ => some k_ ≠ (.slice Ao37 t248.length co37 : Value).ownBlock ∧ some k_ ≠ (.slice (some ⟨go19, 0, none⟩) t252.length co33 : Value).ownBlock ∧ some k_ ≠ (.slice Ao41 y268.length co41 : Value).ownBlock) (.slice Ao40 t256.length co40) t256) ∧ (Kd.R (Kd.int .u8) 5 w' w.heap.size (fun k_ => some k_ ≠ (.slice Ao37 t248.length co37 : Value).ownBlock ∧ some k_ ≠ (.slice (some ⟨go19, 0, none⟩) t252.length co33 : Value).ownBlock ∧ some k_ ≠ (.slice Ao40 t256.length co40 : Value).ownBlock) (.slice Ao41 y268.length co41) y268) ∧ (Kd.S (Kd.slice 5 (Kd.int .u8)) 22 w' w.heap.size (fun k_ => some k_ ≠ (.slice Ao37 t248.length co37 : Value).ownBlock ∧ some k_ ≠ (.slice (some ⟨go19, 0, none⟩) t252.length co33 : Value).ownBlock ∧ some k_ ≠ (.slice Ao40 t256.length co40 : Value).ownBlock ∧ some k_ ≠ (.slice Ao41 y268.length co41 : Value).ownBlock) (.slice (some ad277) t271.length co45) t271) ∧ (Below w.heap.size w w')) ?_ ?_
                              rotate_left
                              · intro hCont
                                refine two_ (i := 10) (j := 12) (Ni := some 98) (Nj := some 100) #[true, true, true, true, true, true, true, true, true, true, true, true, false, false, false, false, false, false, false, false, false, false, false, false, false, false] #[true, true, true, true, true, true, true, true, true, true, false, true, true, false, false, false, false, false, false, false, false, false, false, false, false, false] rfl rfl rfl rfl (two_of HT_.out (by kernel_rfl)) (by decide) (by decide) (fun K hK => ?_) (fun K hK => ?_)
                                · skip
                                  have hcv46 := Kd.C_string (P := Try.prog) (A := A277_0) (c := c277_0) Try.underlying22 Try.underlying5 Try.underlying9 (by first | exact Kd.C_below HR277_0.out HB.out | exact (by repeat (first | (with_reducible exact HR277_0.out) | (with_reducible refine Kd.C_alloc ?_ _) | (with_reducible refine Kd.C_drewN ?_ _) | (with_reducible refine Kd.C_drew ?_) | exact HR277_0.out)))
                                  try (have hcv46n := hcv46; simp only [List.length_take, List.length_drop] at hcv46n; (try rw [Nat.min_eq_left (by simp only [decide_eq_true_eq, decide_eq_false_iff_not, eq_iff_iff, iff_true] at *; omega)] at hcv46n))
                                  try (have hcv46d := fun m_ => Kd.C_string (P := Try.prog) (A := A277_0) (c := c277_0) Try.underlying22 Try.underlying5 Try.underlying9 (Kd.C_drewN ((by first | exact Kd.C_below HR277_0.out HB.out | exact (by repeat (first | (with_reducible exact HR277_0.out) | (with_reducible refine Kd.C_alloc ?_ _) | (with_reducible refine Kd.C_drewN ?_ _) | (with_reducible refine Kd.C_drew ?_) | exact HR277_0.out)))) m_))
                                  try (have hcv46e := fun m_ => Kd.C_string (P := Try.prog) (A := A277_0) (c := c277_0) Try.underlying22 Try.underlying5 Try.underlying9 (Kd.C_drewN ((by first | exact Kd.C_below HR277_0.out HB.out | exact (by repeat (first | (with_reducible exact HR277_0.out) | (with_reducible refine Kd.C_alloc ?_ _) | (with_reducible refine Kd.C_drewN ?_ _) | (with_reducible refine Kd.C_drew ?_) | exact HR277_0.out)))) m_); simp only [List.length_take, List.length_drop] at hcv46e; (try rw [Nat.min_eq_left (by simp only [decide_eq_true_eq, decide_eq_false_iff_not, eq_iff_iff, iff_true] at *; omega)] at hcv46e))
                                  refine value_ (w1 := ?_) (v := ?_) (by rfl) rfl ?_ ?_
                                  rotate_left 2
                                  · go_simp
                                    constructor
                                    · rfl
                                    · rfl
                                  clear hcv46
                                  try clear hcv46n
                                  try clear hcv46d
                                  try clear hcv46e
                                  refine hK.out _ _ (hHeld) (fun hHeld => ?_)
                                  clear hK K
                                  refine norm_ (a' := ?_) ?_ ?_
                                  rotate_left
                                  · show Act.put _ (some 98) _ = _
                                    simp only [Act.put, List.setIfInBounds_toArray, List.set_cons_zero, List.set_cons_succ, i64_w, i32_w]
                                    rfl
                                  refine one_ (i := 12) (N := some 100) #[true, true, true, true, true, true, true, true, true, true, true, true, true, false, false, false, false, false, false, false, false, false, false, false, false, false] rfl rfl (one_of HT_.out (by kernel_rfl)) (by decide) (fun K hK => ?_)
                                  have hcv47 := Kd.C_string (P := Try.prog) (A := A0) (c := c0) Try.underlying22 Try.underlying5 Try.underlying9 (by first | exact Kd.C_below HR0.out HB.out | exact (Kd.C_below HR0.out HB.out))
                                  try (have hcv47n := hcv47; simp only [List.length_take, List.length_drop] at hcv47n; (try rw [Nat.min_eq_left (by simp only [decide_eq_true_eq, decide_eq_false_iff_not, eq_iff_iff, iff_true] at *; omega)] at hcv47n))
                                  try (have hcv47d := fun m_ => Kd.C_string (P := Try.prog) (A := A0) (c := c0) Try.underlying22 Try.underlying5 Try.underlying9 (Kd.C_drewN ((by first | exact Kd.C_below HR0.out HB.out | exact (Kd.C_below HR0.out HB.out))) m_))
                                  try (have hcv47e := fun m_ => Kd.C_string (P := Try.prog) (A := A0) (c := c0) Try.underlying22 Try.underlying5 Try.underlying9 (Kd.C_drewN ((by first | exact Kd.C_below HR0.out HB.out | exact (Kd.C_below HR0.out HB.out))) m_); simp only [List.length_take, List.length_drop] at hcv47e; (try rw [Nat.min_eq_left (by simp only [decide_eq_true_eq, decide_eq_false_iff_not, eq_iff_iff, iff_true] at *; omega)] at hcv47e))
                                  refine value_ (w1 := ?_) (v := ?_) (by rfl) rfl ?_ ?_
                                  rotate_left 2
                                  · go_simp
                                    constructor
                                    · rfl
                                    · rfl
                                  clear hcv47
                                  try clear hcv47n
                                  try clear hcv47d
                                  try clear hcv47e
                                  refine hK.out _ _ (hHeld) (fun hHeld => ?_)
                                  clear hK K
                                  refine norm_ (a' := ?_) ?_ ?_
                                  rotate_left
                                  · show Act.put _ (some 100) _ = _
                                    simp only [Act.put, List.setIfInBounds_toArray, List.set_cons_zero, List.set_cons_succ, i64_w, i32_w]
                                    rfl
                                  exact norm_ (by simp only [putAll, Act.put, List.setIfInBounds_toArray, List.set_cons_zero, List.set_cons_succ]) (hCont () _ ⟨hHeld, (by (with_reducible repeat (first | apply Kd.R_alloc | apply Kd.R_drewN | apply Kd.R_drew)); exact Kd.R_mono HL277_0.out (fun _ hk => ⟨hk.1.1.1.1.2, ⟨hk.1.1.1.2, ⟨hk.1.1.2, ⟨hk.1.2, hk.2⟩⟩⟩⟩)), (by (with_reducible repeat (first | apply Kd.R_alloc | apply Kd.R_drewN | apply Kd.R_drew)); exact Kd.R_mono HO250.out (fun _ hk => ⟨hk.1.1, ⟨hk.1.2, hk.2⟩⟩)), (by (with_reducible repeat (first | apply Kd.R_alloc | apply Kd.R_drewN | apply Kd.R_drew)); exact Kd.R_mono HO254.out (fun _ hk => ⟨hk.1.1, ⟨hk.1.2, hk.2⟩⟩)), (by (with_reducible repeat (first | apply Kd.R_alloc | apply Kd.R_drewN | apply Kd.R_drew)); exact Kd.R_mono HO258.out (fun _ hk => ⟨hk.1.1, ⟨hk.1.2, hk.2⟩⟩)), (by (with_reducible repeat (first | apply Kd.R_alloc | apply Kd.R_drewN | apply Kd.R_drew)); exact HO270.out), (by (with_reducible repeat (first | apply Kd.S_alloc | apply Kd.S_drewN | apply Kd.S_drew)); exact Kd.S_mono HO275.out (fun _ hk => ⟨hk.1.1.1.2, ⟨hk.1.1.2, ⟨hk.1.2, hk.2⟩⟩⟩)), (by repeat (first | (with_reducible first | exact HB.out | apply below_alloc | apply pw_below_drewN | apply below_drew1) | exact HB.out))⟩)
                                · skip
                                  have hcv46 := Kd.C_string (P := Try.prog) (A := A0) (c := c0) Try.underlying22 Try.underlying5 Try.underlying9 (by first | exact Kd.C_below HR0.out HB.out | exact (Kd.C_below HR0.out HB.out))
                                  try (have hcv46n := hcv46; simp only [List.length_take, List.length_drop] at hcv46n; (try rw [Nat.min_eq_left (by simp only [decide_eq_true_eq, decide_eq_false_iff_not, eq_iff_iff, iff_true] at *; omega)] at hcv46n))
                                  try (have hcv46d := fun m_ => Kd.C_string (P := Try.prog) (A := A0) (c := c0) Try.underlying22 Try.underlying5 Try.underlying9 (Kd.C_drewN ((by first | exact Kd.C_below HR0.out HB.out | exact (Kd.C_below HR0.out HB.out))) m_))
                                  try (have hcv46e := fun m_ => Kd.C_string (P := Try.prog) (A := A0) (c := c0) Try.underlying22 Try.underlying5 Try.underlying9 (Kd.C_drewN ((by first | exact Kd.C_below HR0.out HB.out | exact (Kd.C_below HR0.out HB.out))) m_); simp only [List.length_take, List.length_drop] at hcv46e; (try rw [Nat.min_eq_left (by simp only [decide_eq_true_eq, decide_eq_false_iff_not, eq_iff_iff, iff_true] at *; omega)] at hcv46e))
                                  refine value_ (w1 := ?_) (v := ?_) (by rfl) rfl ?_ ?_
                                  rotate_left 2
                                  · go_simp
                                    constructor
                                    · rfl
                                    · rfl
                                  clear hcv46
                                  try clear hcv46n
                                  try clear hcv46d
                                  try clear hcv46e
                                  refine hK.out _ _ (hHeld) (fun hHeld => ?_)
                                  clear hK K
                                  refine norm_ (a' := ?_) ?_ ?_
                                  rotate_left
                                  · show Act.put _ (some 100) _ = _
                                    simp only [Act.put, List.setIfInBounds_toArray, List.set_cons_zero, List.set_cons_succ, i64_w, i32_w]
                                    rfl
                                  refine one_ (i := 10) (N := some 98) #[true, true, true, true, true, true, true, true, true, true, true, true, true, false, false, false, false, false, false, false, false, false, false, false, false, false] rfl rfl (one_of HT_.out (by kernel_rfl)) (by decide) (fun K hK => ?_)
                                  have hcv47 := Kd.C_string (P := Try.prog) (A := A277_0) (c := c277_0) Try.underlying22 Try.underlying5 Try.underlying9 (by first | exact Kd.C_below HR277_0.out HB.out | exact (by repeat (first | (with_reducible exact HR277_0.out) | (with_reducible refine Kd.C_alloc ?_ _) | (with_reducible refine Kd.C_drewN ?_ _) | (with_reducible refine Kd.C_drew ?_) | exact HR277_0.out)))
                                  try (have hcv47n := hcv47; simp only [List.length_take, List.length_drop] at hcv47n; (try rw [Nat.min_eq_left (by simp only [decide_eq_true_eq, decide_eq_false_iff_not, eq_iff_iff, iff_true] at *; omega)] at hcv47n))
                                  try (have hcv47d := fun m_ => Kd.C_string (P := Try.prog) (A := A277_0) (c := c277_0) Try.underlying22 Try.underlying5 Try.underlying9 (Kd.C_drewN ((by first | exact Kd.C_below HR277_0.out HB.out | exact (by repeat (first | (with_reducible exact HR277_0.out) | (with_reducible refine Kd.C_alloc ?_ _) | (with_reducible refine Kd.C_drewN ?_ _) | (with_reducible refine Kd.C_drew ?_) | exact HR277_0.out)))) m_))
                                  try (have hcv47e := fun m_ => Kd.C_string (P := Try.prog) (A := A277_0) (c := c277_0) Try.underlying22 Try.underlying5 Try.underlying9 (Kd.C_drewN ((by first | exact Kd.C_below HR277_0.out HB.out | exact (by repeat (first | (with_reducible exact HR277_0.out) | (with_reducible refine Kd.C_alloc ?_ _) | (with_reducible refine Kd.C_drewN ?_ _) | (with_reducible refine Kd.C_drew ?_) | exact HR277_0.out)))) m_); simp only [List.length_take, List.length_drop] at hcv47e; (try rw [Nat.min_eq_left (by simp only [decide_eq_true_eq, decide_eq_false_iff_not, eq_iff_iff, iff_true] at *; omega)] at hcv47e))
                                  refine value_ (w1 := ?_) (v := ?_) (by rfl) rfl ?_ ?_
                                  rotate_left 2
                                  · go_simp
                                    constructor
                                    · rfl
                                    · rfl
                                  clear hcv47
                                  try clear hcv47n
                                  try clear hcv47d
                                  try clear hcv47e
                                  refine hK.out _ _ (hHeld) (fun hHeld => ?_)
                                  clear hK K
                                  refine norm_ (a' := ?_) ?_ ?_
                                  rotate_left
                                  · show Act.put _ (some 98) _ = _
                                    simp only [Act.put, List.setIfInBounds_toArray, List.set_cons_zero, List.set_cons_succ, i64_w, i32_w]
                                    rfl
                                  exact norm_ (by simp only [putAll, Act.put, List.setIfInBounds_toArray, List.set_cons_zero, List.set_cons_succ]) (hCont () _ ⟨hHeld, (by (with_reducible repeat (first | apply Kd.R_alloc | apply Kd.R_drewN | apply Kd.R_drew)); exact Kd.R_mono HL277_0.out (fun _ hk => ⟨hk.1.1.1.1.2, ⟨hk.1.1.1.2, ⟨hk.1.1.2, ⟨hk.1.2, hk.2⟩⟩⟩⟩)), (by (with_reducible repeat (first | apply Kd.R_alloc | apply Kd.R_drewN | apply Kd.R_drew)); exact Kd.R_mono HO250.out (fun _ hk => ⟨hk.1.1, ⟨hk.1.2, hk.2⟩⟩)), (by (with_reducible repeat (first | apply Kd.R_alloc | apply Kd.R_drewN | apply Kd.R_drew)); exact Kd.R_mono HO254.out (fun _ hk => ⟨hk.1.1, ⟨hk.1.2, hk.2⟩⟩)), (by (with_reducible repeat (first | apply Kd.R_alloc | apply Kd.R_drewN | apply Kd.R_drew)); exact Kd.R_mono HO258.out (fun _ hk => ⟨hk.1.1, ⟨hk.1.2, hk.2⟩⟩)), (by (with_reducible repeat (first | apply Kd.R_alloc | apply Kd.R_drewN | apply Kd.R_drew)); exact HO270.out), (by (with_reducible repeat (first | apply Kd.S_alloc | apply Kd.S_drewN | apply Kd.S_drew)); exact Kd.S_mono HO275.out (fun _ hk => ⟨hk.1.1.1.2, ⟨hk.1.1.2, ⟨hk.1.2, hk.2⟩⟩⟩)), (by repeat (first | (with_reducible first | exact HB.out | apply below_alloc | apply pw_below_drewN | apply below_drew1) | exact HB.out))⟩)
                              rintro _ w48 ⟨hS_, h0_, h1_, h2_, h3_, h4_, h5_, h6_⟩
                              have n0_ : Aside0 (Kd.R (Kd.int .u8) 5 w48 w.heap.size (fun k_ => some k_ ≠ (.slice Ao37 t248.length co37 : Value).ownBlock ∧ some k_ ≠ (.slice (some ⟨go19, 0, none⟩) t252.length co33 : Value).ownBlock ∧ some k_ ≠ (.slice Ao40 t256.length co40 : Value).ownBlock ∧ some k_ ≠ (.slice Ao41 y268.length co41 : Value).ownBlock ∧ some k_ ≠ (.slice (some ad277) t271.length co45 : Value).ownBlock) (.slice A277_0 (rd_L1 t271 0).length c277_0) (rd_L1 t271 0)) := ⟨h0_⟩
                              have n1_ : Aside0 (Kd.R (Kd.int .u8) 5 w48 w.heap.size (fun k_ => some k_ ≠ (.slice (some ⟨go19, 0, none⟩) t252.length co33 : Value).ownBlock ∧ some k_ ≠ (.slice Ao40 t256.length co40 : Value).ownBlock ∧ some k_ ≠ (.slice Ao41 y268.length co41 : Value).ownBlock) (.slice Ao37 t248.length co37) t248) := ⟨h1_⟩
                              have n2_ : Aside0 (Kd.R (Kd.int .u8) 5 w48 w.heap.size (fun k_ => some k_ ≠ (.slice Ao37 t248.length co37 : Value).ownBlock ∧ some k_ ≠ (.slice Ao40 t256.length co40 : Value).ownBlock ∧ some k_ ≠ (.slice Ao41 y268.length co41 : Value).ownBlock) (.slice (some ⟨go19, 0, none⟩) t252.length co33) y261) := ⟨h2_⟩
                              have n3_ : Aside0 (Kd.R (Kd.int .u8) 5 w48 w.heap.size (fun k_ => some k_ ≠ (.slice Ao37 t248.length co37 : Value).ownBlock ∧ some k_ ≠ (.slice (some ⟨go19, 0, none⟩) t252.length co33 : Value).ownBlock ∧ some k_ ≠ (.slice Ao41 y268.length co41 : Value).ownBlock) (.slice Ao40 t256.length co40) t256) := ⟨h3_⟩
                              have n4_ : Aside0 (Kd.R (Kd.int .u8) 5 w48 w.heap.size (fun k_ => some k_ ≠ (.slice Ao37 t248.length co37 : Value).ownBlock ∧ some k_ ≠ (.slice (some ⟨go19, 0, none⟩) t252.length co33 : Value).ownBlock ∧ some k_ ≠ (.slice Ao40 t256.length co40 : Value).ownBlock) (.slice Ao41 y268.length co41) y268) := ⟨h4_⟩
                              have n5_ : Aside0 (Kd.S (Kd.slice 5 (Kd.int .u8)) 22 w48 w.heap.size (fun k_ => some k_ ≠ (.slice Ao37 t248.length co37 : Value).ownBlock ∧ some k_ ≠ (.slice (some ⟨go19, 0, none⟩) t252.length co33 : Value).ownBlock ∧ some k_ ≠ (.slice Ao40 t256.length co40 : Value).ownBlock ∧ some k_ ≠ (.slice Ao41 y268.length co41 : Value).ownBlock) (.slice (some ad277) t271.length co45) t271) := ⟨h5_⟩
                              have n6_ : Aside0 (Below w.heap.size w w48) := ⟨h6_⟩
                              clear HO250
                              clear HO254
                              clear HO258
                              clear HO270
                              clear HO275
                              clear HB
                              clear h0_ h1_ h2_ h3_ h4_ h5_ h6_
                              have HL277_0 := n0_
                              have HO250 := n1_
                              have HO254 := n2_
                              have HO258 := n3_
                              have HO270 := n4_
                              have HO275 := n5_
                              have HB := n6_
                              clear n0_ n1_ n2_ n3_ n4_ n5_ n6_
                              have hHeld : w48.cell? ad277 = some (.slice A277_0 (rd_L1 t271 0).length c277_0) := hS_
                              refine norm_ (a' := ?_) ?_ ?_
                              rotate_left
                              · simp only [putAll, Act.put, List.setIfInBounds_toArray, List.set_cons_zero, List.set_cons_succ]
                                rfl
                              refine pure_ (i := 13) (N := some 101) (v := ?_) (a' := ?_) #[true, true, true, true, true, true, true, true, true, true, true, true, true, true, false, false, false, false, false, false, false, false, false, false, false, false] rfl rfl (any_of HT_.out (by kernel_rfl)) (fun _ _ _ h => h) (Or.inl ⟨by rfl, ?_⟩) ?_ ?_
                              rotate_left
                              · intro w'
                                go_simp
                                with_reducible rfl
                              rotate_left
                              · simp only [Act.put, List.setIfInBounds_toArray, List.set_cons_zero, List.set_cons_succ, i64_w, i32_w]
                                rfl
                              refine pure_ (i := 14) (N := some 102) (v := ?_) (a' := ?_) #[true, true, true, true, true, true, true, true, true, true, true, true, true, true, true, false, false, false, false, false, false, false, false, false, false, false] rfl rfl (any_of HT_.out (by kernel_rfl)) (fun _ _ _ h => h) (Or.inl ⟨by rfl, ?_⟩) ?_ ?_
                              rotate_left
                              · intro w'
                                go_simp
                                with_reducible rfl
                              rotate_left
                              · simp only [Act.put, List.setIfInBounds_toArray, List.set_cons_zero, List.set_cons_succ, i64_w, i32_w]
                                rfl
                              refine pure_ (i := 15) (N := some 103) (v := ?_) (a' := ?_) #[true, true, true, true, true, true, true, true, true, true, true, true, true, true, true, true, false, false, false, false, false, false, false, false, false, false] rfl rfl (any_of HT_.out (by kernel_rfl)) (fun _ _ _ h => h) (Or.inl ⟨by rfl, ?_⟩) ?_ ?_
                              rotate_left
                              · intro w'
                                go_simp
                                with_reducible rfl
                              rotate_left
                              · simp only [Act.put, List.setIfInBounds_toArray, List.set_cons_zero, List.set_cons_succ, i64_w, i32_w]
                                rfl
                              refine pure_ (i := 16) (N := some 104) (v := ?_) (a' := ?_) #[true, true, true, true, true, true, true, true, true, true, true, true, true, true, true, true, true, false, false, false, false, false, false, false, false, false] rfl rfl (any_of HT_.out (by kernel_rfl)) (fun _ _ _ h => h) (Or.inl ⟨by rfl, ?_⟩) ?_ ?_
                              rotate_left
                              · intro w'
                                go_simp
                                with_reducible rfl
                              rotate_left
                              · simp only [Act.put, List.setIfInBounds_toArray, List.set_cons_zero, List.set_cons_succ, i64_w, i32_w]
                                rfl
                              refine pure_ (i := 17) (N := some 105) (v := ?_) (a' := ?_) #[true, true, true, true, true, true, true, true, true, true, true, true, true, true, true, true, true, true, false, false, false, false, false, false, false, false] rfl rfl (any_of HT_.out (by kernel_rfl)) (fun _ _ _ h => h) (Or.inl ⟨by rfl, ?_⟩) ?_ ?_
                              rotate_left
                              · intro w'
                                go_simp
                                with_reducible rfl
                              rotate_left
                              · simp only [Act.put, List.setIfInBounds_toArray, List.set_cons_zero, List.set_cons_succ, i64_w, i32_w]
                                rfl
                              refine pure_ (i := 18) (N := some 106) (v := ?_) (a' := ?_) #[true, true, true, true, true, true, true, true, true, true, true, true, true, true, true, true, true, true, true, false, false, false, false, false, false, false] rfl rfl (any_of HT_.out (by kernel_rfl)) (fun _ _ _ h => h) (Or.inl ⟨by rfl, ?_⟩) ?_ ?_
                              rotate_left
                              · intro w'
                                go_simp
                                with_reducible rfl
                              rotate_left
                              · simp only [Act.put, List.setIfInBounds_toArray, List.set_cons_zero, List.set_cons_succ, i64_w, i32_w]
                                rfl
                              refine pure_ (i := 19) (N := some 107) (v := ?_) (a' := ?_) #[true, true, true, true, true, true, true, true, true, true, true, true, true, true, true, true, true, true, true, true, false, false, false, false, false, false] rfl rfl (any_of HT_.out (by kernel_rfl)) (fun _ _ _ h => h) (Or.inl ⟨by rfl, ?_⟩) ?_ ?_
                              rotate_left
                              · intro w'
                                go_simp
                                with_reducible rfl
                              rotate_left
                              · simp only [Act.put, List.setIfInBounds_toArray, List.set_cons_zero, List.set_cons_succ, i64_w, i32_w]
                                rfl
                              refine pure_ (i := 20) (N := some 108) (v := ?_) (a' := ?_) #[true, true, true, true, true, true, true, true, true, true, true, true, true, true, true, true, true, true, true, true, true, false, false, false, false, false] rfl rfl (any_of HT_.out (by kernel_rfl)) (fun _ _ _ h => h) (Or.inl ⟨by rfl, ?_⟩) ?_ ?_
                              rotate_left
                              · intro w'
                                go_simp
                                with_reducible rfl
                              rotate_left
                              · simp only [Act.put, List.setIfInBounds_toArray, List.set_cons_zero, List.set_cons_succ, i64_w, i32_w]
                                rfl
                              refine pure_ (i := 21) (N := some 109) (v := ?_) (a' := ?_) #[true, true, true, true, true, true, true, true, true, true, true, true, true, true, true, true, true, true, true, true, true, true, false, false, false, false] rfl rfl (any_of HT_.out (by kernel_rfl)) (fun _ _ _ h => h) (Or.inl ⟨by rfl, ?_⟩) ?_ ?_
                              rotate_left
                              · intro w'
                                go_simp
                                with_reducible rfl
                              rotate_left
                              · simp only [Act.put, List.setIfInBounds_toArray, List.set_cons_zero, List.set_cons_succ, i64_w, i32_w]
                                rfl
                              refine pure_ (i := 22) (N := some 110) (v := ?_) (a' := ?_) #[true, true, true, true, true, true, true, true, true, true, true, true, true, true, true, true, true, true, true, true, true, true, true, false, false, false] rfl rfl (any_of HT_.out (by kernel_rfl)) (fun _ _ _ h => h) (Or.inl ⟨by rfl, ?_⟩) ?_ ?_
                              rotate_left
                              · intro w'
                                go_simp
                                with_reducible rfl
                              rotate_left
                              · simp only [Act.put, List.setIfInBounds_toArray, List.set_cons_zero, List.set_cons_succ, i64_w, i32_w]
                                rfl
                              refine pure_ (i := 23) (N := some 111) (v := ?_) (a' := ?_) #[true, true, true, true, true, true, true, true, true, true, true, true, true, true, true, true, true, true, true, true, true, true, true, true, false, false] rfl rfl (any_of HT_.out (by kernel_rfl)) (fun _ _ _ h => h) (Or.inl ⟨by rfl, ?_⟩) ?_ ?_
                              rotate_left
                              · intro w'
                                go_simp
                                with_reducible rfl
                              rotate_left
                              · simp only [Act.put, List.setIfInBounds_toArray, List.set_cons_zero, List.set_cons_succ, i64_w, i32_w]
                                rfl
                              refine pure_ (i := 24) (N := some 112) (v := ?_) (a' := ?_) #[true, true, true, true, true, true, true, true, true, true, true, true, true, true, true, true, true, true, true, true, true, true, true, true, true, false] rfl rfl (any_of HT_.out (by kernel_rfl)) (fun _ _ _ h => h) (Or.inl ⟨by rfl, ?_⟩) ?_ ?_
                              rotate_left
                              · intro w'
                                go_simp
                                with_reducible rfl
                              rotate_left
                              · simp only [Act.put, List.setIfInBounds_toArray, List.set_cons_zero, List.set_cons_succ, i64_w, i32_w]
                                rfl
                              refine pure_ (i := 25) (N := some 8) (v := ?_) (a' := ?_) #[true, true, true, true, true, true, true, true, true, true, true, true, true, true, true, true, true, true, true, true, true, true, true, true, true, true] rfl rfl (any_of HT_.out (by kernel_rfl)) (fun _ _ _ h => h) (Or.inl ⟨by rfl, ?_⟩) ?_ ?_
                              rotate_left
                              · intro w'
                                go_simp
                                with_reducible rfl
                              rotate_left
                              · simp only [Act.put, List.setIfInBounds_toArray, List.set_cons_zero, List.set_cons_succ, i64_w, i32_w]
                                rfl
                              refine done_ (done_of HT_.out (by kernel_rfl)) ?_
                              try go_wp2
                              go_ret
                              exact ⟨by first | rfl | (simp [errW_none, errW_some] <;> rfl) | (simp only [← hji16]; first | rfl | (simp [errW_none, errW_some] <;> rfl)) | (simp [*, errW_none, errW_some] <;> rfl), by repeat (first | (with_reducible first | exact HB.out | apply below_alloc | apply pw_below_drewN | apply below_drew1) | exact HB.out)⟩
                            · rw [if_neg c29] at H
                              have c29b0 : (t272 == (t248.length : Int)) = false := beq_eq_false_iff_ne.mpr c29
                              have c29b1 : (t272 != (t248.length : Int)) = true := bne_iff_ne.mpr c29
                              exact absurd (Option.some.inj H) (by rw [hr_.out]; decide)
                          · rw [if_neg c28] at H
                            have c28b0 : ((strOfNums (rd_L1 t271 0)).toList == (strOfNums l0).toList) = false := beq_eq_false_iff_ne.mpr c28
                            have c28b1 : ((strOfNums (rd_L1 t271 0)).toList != (strOfNums l0).toList) = true := bne_iff_ne.mpr c28
                            exact absurd (Option.some.inj H) (by rw [hr_.out]; decide)
                        · rw [if_neg c27] at H
                          exact absurd H (by simp)
                      · rw [if_neg c26] at H
                        have c26b0 : ((t271.length : Int) == 1) = false := beq_eq_false_iff_ne.mpr c26
                        have c26b1 : ((t271.length : Int) != 1) = true := bne_iff_ne.mpr c26
                        exact absurd (Option.some.inj H) (by rw [hr_.out]; decide)
                    · replace c25 := Bool.eq_false_iff.mpr c25
                      subst c25
                      have H1 : (some false) = some r := by rw [if_neg (show ¬ (false = true) by decide)] at H; exact H
                      clear H
                      have H := H1
                      clear H1
                      exact absurd (Option.some.inj H) (by rw [hr_.out]; decide)
                  · rw [if_neg c22] at H
                    exact absurd H (by simp)
                · rw [if_neg c21] at H
                  exact absurd H (by simp)
              · rw [if_neg c20] at H
                exact absurd H (by simp)
            · rw [if_neg c18] at H
              exact absurd H (by simp)
          · rw [if_neg c17] at H
            exact absurd H (by simp)
        · rw [if_neg c15] at H
          have c15b0 : ((t252.length : Int) == (wrap64 ((l1.length : Int) + 5))) = false := beq_eq_false_iff_ne.mpr c15
          have c15b1 : ((t252.length : Int) != (wrap64 ((l1.length : Int) + 5))) = true := bne_iff_ne.mpr c15
          exact absurd (Option.some.inj H) (by rw [hr_.out]; decide)

/-- THE ONE PURE STATEMENT of telemeterlaw02_FrameStops: yours. -/
def telemeterlaw02_FrameStops.Pure : Prop := ∀ (l0 : List Int) (l1 : List Int) (l2 : List Int) (a3 : Int), l0.length ≤ maxLen → l0.length * 1 ≤ 140737488351232 → (∀ x ∈ l0, (Lit.int .u8 x).wf = true) → l1.length ≤ maxLen → l1.length * 1 ≤ 140737488351232 → (∀ x ∈ l1, (Lit.int .u8 x).wf = true) → l2.length ≤ maxLen → l2.length * 1 ≤ 140737488351232 → (∀ x ∈ l2, (Lit.int .u8 x).wf = true) → (Lit.int .u8 a3).wf = true → ∃ k, telemeterlaw02_FrameStops.f k l0 l1 l2 a3 = some true
theorem telemeterlaw02_FrameStops.walk (P : telemeterlaw02_FrameStops.Pure) (a0 : Option Addr) (len0 cap0 : Nat) (z0 : List Int) (a1 : Option Addr) (len1 cap1 : Nat) (z1 : List Int) (a2 : Option Addr) (len2 cap2 : Nat) (z2 : List Int) (a3 : Int) (w : World) (w0 : (a0 = none ∧ len0 = 0 ∧ cap0 = 0 ∧ z0 = []) ∨ ∃ x, a0 = some x ∧ len0 ≤ cap0 ∧ cap0 ≤ maxLen ∧ z0.length = cap0 ∧ (∀ i, i < z0.length → w.cell? (x.add i) = some (.int .u8 (z0.getD i 0))) ∧ ∀ n ∈ z0, (Lit.int .u8 n).wf = true) (y0 : len0 * 1 ≤ 140737488351232) (w1 : (a1 = none ∧ len1 = 0 ∧ cap1 = 0 ∧ z1 = []) ∨ ∃ x, a1 = some x ∧ len1 ≤ cap1 ∧ cap1 ≤ maxLen ∧ z1.length = cap1 ∧ (∀ i, i < z1.length → w.cell? (x.add i) = some (.int .u8 (z1.getD i 0))) ∧ ∀ n ∈ z1, (Lit.int .u8 n).wf = true) (y1 : len1 * 1 ≤ 140737488351232) (w2 : (a2 = none ∧ len2 = 0 ∧ cap2 = 0 ∧ z2 = []) ∨ ∃ x, a2 = some x ∧ len2 ≤ cap2 ∧ cap2 ≤ maxLen ∧ z2.length = cap2 ∧ (∀ i, i < z2.length → w.cell? (x.add i) = some (.int .u8 (z2.getD i 0))) ∧ ∀ n ∈ z2, (Lit.int .u8 n).wf = true) (y2 : len2 * 1 ≤ 140737488351232) (w3 : (Lit.int .u8 a3).wf = true) :
    Calls Try.prog 11 #[.slice a0 len0 cap0, .slice a1 len1 cap1, .slice a2 len2 cap2, .int .u8 a3] w fun e w' => e = .returned (.bool true) ∧ Below w.heap.size w w' := by
  obtain ⟨l0, rfl, hr0, hm0, hw0, hc0⟩ := ReadsInt.ofRowC w0
  obtain ⟨l1, rfl, hr1, hm1, hw1, hc1⟩ := ReadsInt.ofRowC w1
  obtain ⟨l2, rfl, hr2, hm2, hw2, hc2⟩ := ReadsInt.ofRowC w2
  obtain ⟨k, h⟩ := P l0 l1 l2 a3 hm0 y0 hw0 hm1 y1 hw1 hm2 y2 hw2 w3
  refine (telemeterlaw02_FrameStops.calls k _ _ l0 _ _ l1 _ _ l2 a3 true w (Kd.C_of_reads (d := (0 : Int)) (h1 := fun _ => rfl) hr0) hc0 (Kd.C_of_reads (d := (0 : Int)) (h1 := fun _ => rfl) hr1) hc1 (Kd.C_of_reads (d := (0 : Int)) (h1 := fun _ => rfl) hr2) hc2 ⟨rfl⟩ h).mono ?_
  rintro e w' ⟨rfl, hd⟩
  exact ⟨rfl, hd⟩

end Go.Proofs.Ytiheghnojmfmfaa.Px
