-- Laid by a program of this session (wip/xprint.py: the kit's print.py, with functions given by hand). Lean checks it.
import Derived.Test.YtbjoleelfihikaaPx0
import Derived.Test.YtbjoleelfihikaaPx11
import Derived.Test.YtbjoleelfihikaaPx15
namespace Go.Proofs.Ytbjoleelfihikaa.Px
open Go.RowKit Go.Proofs.YtbjoleelfihikaaW.PrintWords Go.Proofs.YtbjoleelfihikaaW.PrintLast Go.Proofs.YtbjoleelfihikaaW.PrintMore
attribute [local go_sem] max2_int min2_int max_two min_two max_three min_three max_four min_four   -- for this text's walks alone
set_option linter.unusedVariables false
set_option linter.unusedSimpArgs false

/-! ### telemeterlaw12_PolicyFew: function 4 -/
def telemeterlaw12_PolicyFew.l0 : Nat → Int → Int → Int → List (S36) → Int → Option (Bool)
  | 0, _, _, _, _, _ => none
  | k + 1, x0, x1, x2, x7, x8 => if x8 < (wrap64 (Int.tmod x0 10)) then (if x7.length < 1353245080339 then (telemeterlaw12_PolicyFew.l0 k x0 x1 x2 (x7 ++ [(⟨0, 0, 0, 0, (⟨#[]⟩ : ByteArray), 5, wrap64 (5 + x8), false, ([] : List (S64)), 0⟩ : S36)]) (wrap64 (x8 + 1))) else (none)) else ((telemeterlaw12_known.f k).bind fun t154 => (if t154 = true then ((policy_Holds.f 4 (wrap64 (Int.tmod x1 12)) (⟨#[]⟩ : ByteArray) (⟨#[]⟩ : ByteArray) x7 0).bind fun t155 => (if (t155 == (decide ((x7.length : Int) ≥ (wrap64 (Int.tmod x1 12))))) = true then ((policy_Holds.f 1 (wrap64 (Int.tmod x1 12)) (⟨#[]⟩ : ByteArray) (⟨#[]⟩ : ByteArray) x7 0).bind fun t156 => (if (x7.length : Int) > 0 then (if (t156 == (decide ((mx (wrap64 ((x7.length : Int) - 1)) 0) ≥ (wrap64 (Int.tmod x1 12))))) = true then ((policy_Holds.f 5 (wrap64 (Int.tmod x2 72057594037927936)) (⟨#[]⟩ : ByteArray) (⟨#[]⟩ : ByteArray) x7 (Int.tmod x2 72057594037927936)).bind fun t157 => (if t157 = true then ((policy_Holds.f 5 (wrap64 ((wrap64 (Int.tmod x2 72057594037927936)) + 1)) (⟨#[]⟩ : ByteArray) (⟨#[]⟩ : ByteArray) x7 (Int.tmod x2 72057594037927936)).bind fun t158 => (some (!t158))) else (some false))) else (some false)) else (if (t156 == false) = true then ((policy_Holds.f 5 (wrap64 (Int.tmod x2 72057594037927936)) (⟨#[]⟩ : ByteArray) (⟨#[]⟩ : ByteArray) x7 (Int.tmod x2 72057594037927936)).bind fun t159 => (if t159 = true then ((policy_Holds.f 5 (wrap64 ((wrap64 (Int.tmod x2 72057594037927936)) + 1)) (⟨#[]⟩ : ByteArray) (⟨#[]⟩ : ByteArray) x7 (Int.tmod x2 72057594037927936)).bind fun t160 => (some (!t160))) else (some false))) else (some false)))) else (some false))) else (some false)))
def telemeterlaw12_PolicyFew.f (k : Nat) (a0 : Int) (a1 : Int) (a2 : Int) : Option (Bool) := telemeterlaw12_PolicyFew.l0 k a0 a1 a2 ([] : List (S36)) 0
theorem telemeterlaw12_PolicyFew.mono_l : ∀ k, (∀ y0 y1 y2 y3 y4, LeO (telemeterlaw12_PolicyFew.l0 k y0 y1 y2 y3 y4) (telemeterlaw12_PolicyFew.l0 (k + 1) y0 y1 y2 y3 y4))
  | 0 => fun _ _ _ _ _ r h => by simp [telemeterlaw12_PolicyFew.l0] at h
  | k + 1 => by
    have ih0 := telemeterlaw12_PolicyFew.mono_l k
    · intro y0 y1 y2 y3 y4
      unfold telemeterlaw12_PolicyFew.l0
      repeat' first
      | (with_reducible exact ih0 _ _ _ _ _)
      | (with_reducible exact telemeterlaw12_known.mono _)
      | (with_reducible exact LeO.refl _)
      | (with_reducible exact LeO.none _)
      | (with_reducible refine LeO.ite ?_ ?_)
      | (with_reducible refine LeO.bind ?_ (fun _ => ?_))
      | exact ih0 _ _ _ _ _
      | exact telemeterlaw12_known.mono _
      | exact LeO.none _
      | refine LeO.ite ?_ ?_
      | refine LeO.bind ?_ (fun _ => ?_)
theorem telemeterlaw12_PolicyFew.mono : ∀ a0 a1 a2 k, LeO (telemeterlaw12_PolicyFew.f k a0 a1 a2) (telemeterlaw12_PolicyFew.f (k + 1) a0 a1 a2) := by
  intro a0 a1 a2 k
  have ih0 := telemeterlaw12_PolicyFew.mono_l k
  unfold telemeterlaw12_PolicyFew.f
  repeat' first
      | (with_reducible exact ih0 _ _ _ _ _)
      | (with_reducible exact telemeterlaw12_known.mono _)
      | (with_reducible exact LeO.refl _)
      | (with_reducible exact LeO.none _)
      | (with_reducible refine LeO.ite ?_ ?_)
      | (with_reducible refine LeO.bind ?_ (fun _ => ?_))
      | exact ih0 _ _ _ _ _
      | exact telemeterlaw12_known.mono _
      | exact LeO.none _
      | refine LeO.ite ?_ ?_
      | refine LeO.bind ?_ (fun _ => ?_)
set_option maxHeartbeats 8000000 in
set_option maxRecDepth 100000 in
theorem telemeterlaw12_PolicyFew.calls (k : Nat) (a0 : Int) (a1 : Int) (a2 : Int) (r : Bool) (w : World) (h : telemeterlaw12_PolicyFew.f k a0 a1 a2 = some r) :
    Calls Try.prog 4 #[.int .u8 a0, .int .u8 a1, .int .u64 a2] w fun e w' => e = .returned (.bool r) ∧ Below w.heap.size w w' := by
  have hu36 := Try.underlying36
  have hu39 := Try.underlying39
  have HB := Aside0.mk (Below.refl w.heap.size w)
  have H : (telemeterlaw12_PolicyFew.l0 k a0 a1 a2 ([] : List (S36)) 0) = some r := h
  clear h
  have H' := Aside0.mk H
  clear H
  go_enter Try.func4, Try.ntmps4
  go_wp2
  go_loopg [7, 8] k (fun kq v7 v8 w' => ∃ (x7_1 : List (S36)) (x8_1 : Int), v8 = .int .i64 x8_1 ∧ Aside0 (telemeterlaw12_PolicyFew.l0 kq a0 a1 a2 x7_1 x8_1 = some r) ∧ Aside0 (kq ≤ k) ∧ Aside0 (Kd.S k36 36 w' w.heap.size (fun _ => True) v7 x7_1) ∧ Aside0 (Below w.heap.size w w'))
  case atStart => exact ⟨(([] : List (S36))), (0), (by first | rfl | (simp; done) | (simp [*]; done)), H', ⟨Nat.le_refl _⟩, ⟨by first | exact Kd.S_nil _ _ _ _ _ | exact Kd.N_nil _ _ _ _ _ | exact Kd.V_nil _ _ _ _ _ | exact Kd.Q_nil _ _ _ _ _ | exact Kd.R_nil _ _ _ _ _⟩, ⟨by repeat (first | (with_reducible first | exact HB.out | apply below_alloc | apply pw_below_drewN | apply below_drew1) | exact HB.out)⟩⟩
  case round =>
    clear H'
    try clear p2
    obtain ⟨x7_1, x8_1, rfl, HA, HK1, HO_7, HB⟩ := hrel
    cases gk with
    | zero => exact absurd HA.out (by simp [telemeterlaw12_PolicyFew.l0])
    | succ k1 =>
      have H := HA.out
      clear HA
      simp only [telemeterlaw12_PolicyFew.l0] at H
      by_cases c4 : x8_1 < (wrap64 (Int.tmod a0 10))
      · rw [if_pos c4] at H
        have c4b0 : decide (x8_1 < (wrap64 (Int.tmod a0 10))) = true := decide_eq_true c4
        clear c4
        by_cases c5 : x7_1.length < 1353245080339
        · rw [if_pos c5] at H
          have LMc5 := Aside0.mk c5
          clear c5
          obtain ⟨y151, hy151⟩ : ∃ y_ : List (S36), y_ = (x7_1 ++ [(⟨0, 0, 0, 0, (⟨#[]⟩ : ByteArray), 5, wrap64 (5 + x8_1), false, ([] : List (S64)), 0⟩ : S36)]) := ⟨_, rfl⟩
          replace H : (telemeterlaw12_PolicyFew.l0 k1 a0 a1 a2 y151 (wrap64 (x8_1 + 1))) = some r := by first | (rw [hy151]; with_reducible exact H) | (have H2_ := (Option.bind_some _ _).symm.trans H; rw [hy151]; with_reducible exact H2_) | (have H2_ := (Option.bind_some _ _).symm.trans H; with_reducible exact H2_) | with_reducible exact H | (rw [hy151]; exact H) | exact H
          have Ny151 := Aside0.mk hy151
          clear hy151
          have H' := Aside0.mk H
          clear H
          go_wp2_with (first | ((with_reducible refine gate_builtin (b := .append) (xs := #[.tmp 19, .tmp 23]) rfl ?_); at_builtin; refine Kd.S_append k36 (w0 := w) w.heap.size rfl (.tmp 19) (.tmp 23) 28 36 (.agg #[(.int .u64 0), (.int .u64 0), (.int .u64 0), (.int .u64 0), (.string ⟨#[]⟩), (.int .i64 0), (.int .i64 0), (.bool false), (.slice none 0 0), (.int .u64 0)]) 104 rfl Try.underlying28 info36 rfl (by decide) (by omega) u7 x7_1 (⟨0, 0, 0, 0, (⟨#[]⟩ : ByteArray), 5, wrap64 (5 + x8_1), false, ([] : List (S64)), 0⟩ : S36) [.int .u64 0, .int .u64 0, .int .u64 0, .int .u64 0, .string (⟨#[]⟩ : ByteArray), .int .i64 5, .int .i64 (wrap64 (5 + x8_1)), .bool false, .slice none 0 0, .int .u64 0] (fun _ => True) (fun _ => False) rfl rfl ?aP (fun k_ hk_ => hk_.elim) ?aF ?aO ?aB ?aS ?aL ?_; (case aP => exact k36_mkM _ _ _ (⟨0, 0, 0, 0, (⟨#[]⟩ : ByteArray), 5, wrap64 (5 + x8_1), false, ([] : List (S64)), 0⟩ : S36) (Kd.R_nil _ _ _ _ _)); (case aB => exact (by repeat (first | (with_reducible first | exact HB.out | apply below_alloc | apply pw_below_drewN | apply below_drew1) | exact HB.out))); (case aF => exact (fun _ _ => trivial)); (case aO => exact (by (with_reducible repeat (first | apply Kd.S_alloc | apply Kd.S_drewN | apply Kd.S_drew)); exact Kd.S_mono HO_7.out (fun k_ hk => ⟨trivial, fun e_ => e_⟩))); (case aS => exact (below_size (by repeat (first | (with_reducible first | exact HB.out | apply below_alloc | apply pw_below_drewN | apply below_drew1) | exact HB.out)))); (case aL => have := LMc5.out; omega); intro v152 w6 ho hb hg hat; rw [← Ny151.out] at ho; have n0_ := Aside0.mk (hb); have n1_ := Aside0.mk (ho); clear HB; clear HO_7; have HB := n0_; have HO153 := n1_; clear n0_ n1_; clear ho hb hg hat))
          go_roundg k1
          case measure => have := HK1.out; omega
          case rel => exact ⟨(y151), (wrap64 (x8_1 + 1)), (by first | rfl | (simp; done) | (simp [*]; done)), H', ⟨by have := HK1.out; omega⟩, ⟨by (with_reducible repeat (first | apply Kd.S_alloc | apply Kd.S_drewN | apply Kd.S_drew)); exact HO153.out⟩, ⟨by repeat (first | (with_reducible first | exact HB.out | apply below_alloc | apply pw_below_drewN | apply below_drew1) | exact HB.out)⟩⟩
        · rw [if_neg c5] at H
          exact absurd H (by simp)
      · rw [if_neg c4] at H
        have c4b0 : decide (x8_1 < (wrap64 (Int.tmod a0 10))) = false := decide_eq_false c4
        clear c4
        obtain ⟨ji7, hji7⟩ : ∃ j_ : Int, (mx (wrap64 ((x7_1.length : Int) - 1)) 0) = j_ := ⟨_, rfl⟩
        replace H : ((telemeterlaw12_known.f k1).bind fun t154 => (if t154 = true then ((policy_Holds.f 4 (wrap64 (Int.tmod a1 12)) (⟨#[]⟩ : ByteArray) (⟨#[]⟩ : ByteArray) x7_1 0).bind fun t155 => (if (t155 == (decide ((x7_1.length : Int) ≥ (wrap64 (Int.tmod a1 12))))) = true then ((policy_Holds.f 1 (wrap64 (Int.tmod a1 12)) (⟨#[]⟩ : ByteArray) (⟨#[]⟩ : ByteArray) x7_1 0).bind fun t156 => (if (x7_1.length : Int) > 0 then (if (t156 == (decide ((ji7) ≥ (wrap64 (Int.tmod a1 12))))) = true then ((policy_Holds.f 5 (wrap64 (Int.tmod a2 72057594037927936)) (⟨#[]⟩ : ByteArray) (⟨#[]⟩ : ByteArray) x7_1 (Int.tmod a2 72057594037927936)).bind fun t157 => (if t157 = true then ((policy_Holds.f 5 (wrap64 ((wrap64 (Int.tmod a2 72057594037927936)) + 1)) (⟨#[]⟩ : ByteArray) (⟨#[]⟩ : ByteArray) x7_1 (Int.tmod a2 72057594037927936)).bind fun t158 => (some (!t158))) else (some false))) else (some false)) else (if (t156 == false) = true then ((policy_Holds.f 5 (wrap64 (Int.tmod a2 72057594037927936)) (⟨#[]⟩ : ByteArray) (⟨#[]⟩ : ByteArray) x7_1 (Int.tmod a2 72057594037927936)).bind fun t159 => (if t159 = true then ((policy_Holds.f 5 (wrap64 ((wrap64 (Int.tmod a2 72057594037927936)) + 1)) (⟨#[]⟩ : ByteArray) (⟨#[]⟩ : ByteArray) x7_1 (Int.tmod a2 72057594037927936)).bind fun t160 => (some (!t160))) else (some false))) else (some false)))) else (some false))) else (some false))) = some r := by first | (rw [hji7] at H; exact H) | (simp only [hji7] at H ⊢; exact H)
        have hji7_ : (if (wrap64 ((x7_1.length : Int) - 1)) < 0 then 0 else (wrap64 ((x7_1.length : Int) - 1))) = ji7 := hji7
        replace H := Option.bind_eq_some_iff.mp H
        obtain ⟨t154, A80, H⟩ := H
        replace H : (if t154 = true then ((policy_Holds.f 4 (wrap64 (Int.tmod a1 12)) (⟨#[]⟩ : ByteArray) (⟨#[]⟩ : ByteArray) x7_1 0).bind fun t155 => (if (t155 == (decide ((x7_1.length : Int) ≥ (wrap64 (Int.tmod a1 12))))) = true then ((policy_Holds.f 1 (wrap64 (Int.tmod a1 12)) (⟨#[]⟩ : ByteArray) (⟨#[]⟩ : ByteArray) x7_1 0).bind fun t156 => (if (x7_1.length : Int) > 0 then (if (t156 == (decide ((ji7) ≥ (wrap64 (Int.tmod a1 12))))) = true then ((policy_Holds.f 5 (wrap64 (Int.tmod a2 72057594037927936)) (⟨#[]⟩ : ByteArray) (⟨#[]⟩ : ByteArray) x7_1 (Int.tmod a2 72057594037927936)).bind fun t157 => (if t157 = true then ((policy_Holds.f 5 (wrap64 ((wrap64 (Int.tmod a2 72057594037927936)) + 1)) (⟨#[]⟩ : ByteArray) (⟨#[]⟩ : ByteArray) x7_1 (Int.tmod a2 72057594037927936)).bind fun t158 => (some (!t158))) else (some false))) else (some false)) else (if (t156 == false) = true then ((policy_Holds.f 5 (wrap64 (Int.tmod a2 72057594037927936)) (⟨#[]⟩ : ByteArray) (⟨#[]⟩ : ByteArray) x7_1 (Int.tmod a2 72057594037927936)).bind fun t159 => (if t159 = true then ((policy_Holds.f 5 (wrap64 ((wrap64 (Int.tmod a2 72057594037927936)) + 1)) (⟨#[]⟩ : ByteArray) (⟨#[]⟩ : ByteArray) x7_1 (Int.tmod a2 72057594037927936)).bind fun t160 => (some (!t160))) else (some false))) else (some false)))) else (some false))) else (some false)) = some r := H
        have A8 := Aside0.mk A80
        clear A80
        by_cases c9 : t154 = true
        · subst c9
          have H1 : ((policy_Holds.f 4 (wrap64 (Int.tmod a1 12)) (⟨#[]⟩ : ByteArray) (⟨#[]⟩ : ByteArray) x7_1 0).bind fun t155 => (if (t155 == (decide ((x7_1.length : Int) ≥ (wrap64 (Int.tmod a1 12))))) = true then ((policy_Holds.f 1 (wrap64 (Int.tmod a1 12)) (⟨#[]⟩ : ByteArray) (⟨#[]⟩ : ByteArray) x7_1 0).bind fun t156 => (if (x7_1.length : Int) > 0 then (if (t156 == (decide ((ji7) ≥ (wrap64 (Int.tmod a1 12))))) = true then ((policy_Holds.f 5 (wrap64 (Int.tmod a2 72057594037927936)) (⟨#[]⟩ : ByteArray) (⟨#[]⟩ : ByteArray) x7_1 (Int.tmod a2 72057594037927936)).bind fun t157 => (if t157 = true then ((policy_Holds.f 5 (wrap64 ((wrap64 (Int.tmod a2 72057594037927936)) + 1)) (⟨#[]⟩ : ByteArray) (⟨#[]⟩ : ByteArray) x7_1 (Int.tmod a2 72057594037927936)).bind fun t158 => (some (!t158))) else (some false))) else (some false)) else (if (t156 == false) = true then ((policy_Holds.f 5 (wrap64 (Int.tmod a2 72057594037927936)) (⟨#[]⟩ : ByteArray) (⟨#[]⟩ : ByteArray) x7_1 (Int.tmod a2 72057594037927936)).bind fun t159 => (if t159 = true then ((policy_Holds.f 5 (wrap64 ((wrap64 (Int.tmod a2 72057594037927936)) + 1)) (⟨#[]⟩ : ByteArray) (⟨#[]⟩ : ByteArray) x7_1 (Int.tmod a2 72057594037927936)).bind fun t160 => (some (!t160))) else (some false))) else (some false)))) else (some false))) = some r := by rw [if_pos rfl] at H; exact H
          clear H
          have H := H1
          clear H1
          replace H := Option.bind_eq_some_iff.mp H
          obtain ⟨t155, A100, H⟩ := H
          replace H : (if (t155 == (decide ((x7_1.length : Int) ≥ (wrap64 (Int.tmod a1 12))))) = true then ((policy_Holds.f 1 (wrap64 (Int.tmod a1 12)) (⟨#[]⟩ : ByteArray) (⟨#[]⟩ : ByteArray) x7_1 0).bind fun t156 => (if (x7_1.length : Int) > 0 then (if (t156 == (decide ((ji7) ≥ (wrap64 (Int.tmod a1 12))))) = true then ((policy_Holds.f 5 (wrap64 (Int.tmod a2 72057594037927936)) (⟨#[]⟩ : ByteArray) (⟨#[]⟩ : ByteArray) x7_1 (Int.tmod a2 72057594037927936)).bind fun t157 => (if t157 = true then ((policy_Holds.f 5 (wrap64 ((wrap64 (Int.tmod a2 72057594037927936)) + 1)) (⟨#[]⟩ : ByteArray) (⟨#[]⟩ : ByteArray) x7_1 (Int.tmod a2 72057594037927936)).bind fun t158 => (some (!t158))) else (some false))) else (some false)) else (if (t156 == false) = true then ((policy_Holds.f 5 (wrap64 (Int.tmod a2 72057594037927936)) (⟨#[]⟩ : ByteArray) (⟨#[]⟩ : ByteArray) x7_1 (Int.tmod a2 72057594037927936)).bind fun t159 => (if t159 = true then ((policy_Holds.f 5 (wrap64 ((wrap64 (Int.tmod a2 72057594037927936)) + 1)) (⟨#[]⟩ : ByteArray) (⟨#[]⟩ : ByteArray) x7_1 (Int.tmod a2 72057594037927936)).bind fun t160 => (some (!t160))) else (some false))) else (some false)))) else (some false)) = some r := H
          have A10 := Aside0.mk A100
          clear A100
          by_cases c11 : (t155 == (decide ((x7_1.length : Int) ≥ (wrap64 (Int.tmod a1 12))))) = true
          · rw [if_pos c11] at H
            have c11b0 : (t155 == (decide ((x7_1.length : Int) ≥ (wrap64 (Int.tmod a1 12))))) = true := c11
            (try (have c11b1 : decide (t155 = (decide ((x7_1.length : Int) ≥ (wrap64 (Int.tmod a1 12))))) = true := by simpa using c11))
            (try (have c11b2 : (t155 == (decide ((x7_1.length : Int) ≥ (wrap64 (Int.tmod a1 12))))) = true := by simpa using c11))
            clear c11
            replace H := Option.bind_eq_some_iff.mp H
            obtain ⟨t156, A120, H⟩ := H
            replace H : (if (x7_1.length : Int) > 0 then (if (t156 == (decide ((ji7) ≥ (wrap64 (Int.tmod a1 12))))) = true then ((policy_Holds.f 5 (wrap64 (Int.tmod a2 72057594037927936)) (⟨#[]⟩ : ByteArray) (⟨#[]⟩ : ByteArray) x7_1 (Int.tmod a2 72057594037927936)).bind fun t157 => (if t157 = true then ((policy_Holds.f 5 (wrap64 ((wrap64 (Int.tmod a2 72057594037927936)) + 1)) (⟨#[]⟩ : ByteArray) (⟨#[]⟩ : ByteArray) x7_1 (Int.tmod a2 72057594037927936)).bind fun t158 => (some (!t158))) else (some false))) else (some false)) else (if (t156 == false) = true then ((policy_Holds.f 5 (wrap64 (Int.tmod a2 72057594037927936)) (⟨#[]⟩ : ByteArray) (⟨#[]⟩ : ByteArray) x7_1 (Int.tmod a2 72057594037927936)).bind fun t159 => (if t159 = true then ((policy_Holds.f 5 (wrap64 ((wrap64 (Int.tmod a2 72057594037927936)) + 1)) (⟨#[]⟩ : ByteArray) (⟨#[]⟩ : ByteArray) x7_1 (Int.tmod a2 72057594037927936)).bind fun t160 => (some (!t160))) else (some false))) else (some false))) = some r := H
            have A12 := Aside0.mk A120
            clear A120
            by_cases c13 : (x7_1.length : Int) > 0
            · rw [if_pos c13] at H
              have c13b0 : decide (0 < (x7_1.length : Int)) = true := decide_eq_true c13
              have c13b1 : decide (0 < x7_1.length) = true := decide_eq_true (by omega)
              clear c13
              by_cases c14 : (t156 == (decide ((ji7) ≥ (wrap64 (Int.tmod a1 12))))) = true
              · rw [if_pos c14] at H
                have c14b0 : (t156 == (decide ((ji7) ≥ (wrap64 (Int.tmod a1 12))))) = true := c14
                (try (have c14b1 : decide (t156 = (decide ((ji7) ≥ (wrap64 (Int.tmod a1 12))))) = true := by simpa using c14))
                (try (have c14b2 : (t156 == (decide ((ji7) ≥ (wrap64 (Int.tmod a1 12))))) = true := by simpa using c14))
                clear c14
                replace H := Option.bind_eq_some_iff.mp H
                obtain ⟨t157, A150, H⟩ := H
                replace H : (if t157 = true then ((policy_Holds.f 5 (wrap64 ((wrap64 (Int.tmod a2 72057594037927936)) + 1)) (⟨#[]⟩ : ByteArray) (⟨#[]⟩ : ByteArray) x7_1 (Int.tmod a2 72057594037927936)).bind fun t158 => (some (!t158))) else (some false)) = some r := H
                have A15 := Aside0.mk A150
                clear A150
                by_cases c16 : t157 = true
                · subst c16
                  have H1 : ((policy_Holds.f 5 (wrap64 ((wrap64 (Int.tmod a2 72057594037927936)) + 1)) (⟨#[]⟩ : ByteArray) (⟨#[]⟩ : ByteArray) x7_1 (Int.tmod a2 72057594037927936)).bind fun t158 => (some (!t158))) = some r := by rw [if_pos rfl] at H; exact H
                  clear H
                  have H := H1
                  clear H1
                  replace H := Option.bind_eq_some_iff.mp H
                  obtain ⟨t158, A170, H⟩ := H
                  replace H : (some (!t158)) = some r := H
                  have A17 := Aside0.mk A170
                  clear A170
                  obtain rfl := Option.some.inj H
                  obtain ⟨Ao18, co18, eo18⟩ := Kd.S_slice HO_7.out
                  subst eo18
                  go_wp2_with (first | ((with_reducible refine gate_callee (f := 10) rfl ?_); refine goesL_ (some 32) rfl rfl Try.func10 (by kernel_rfl) rfl #[] rfl (by (try simp only [List.map_toArray, List.map_cons, List.map_nil]); first | done | rfl | (simp only [List.length_drop, List.length_take]; rfl)) ?_; (with_reducible refine (telemeterlaw12_known.calls k1  true _ A8.out).mono ?_); rintro e w19 ⟨rfl, hb⟩; refine ⟨_, rfl, ?_⟩; have n0_ := Aside0.mk (Kd.S_below (by (with_reducible repeat (first | apply Kd.S_alloc | apply Kd.S_drewN | apply Kd.S_drew)); exact HO_7.out) hb); have n1_ := Aside0.mk (below_step (by repeat (first | (with_reducible first | exact HB.out | apply below_alloc | apply pw_below_drewN | apply below_drew1) | exact HB.out)) hb); clear HO_7; clear HB; have HO_7 := n0_; have HB := n1_; clear n0_ n1_; (try clear hb); (try clear hb2); (try clear hk); (try clear hi)) | (go_at_call 14; (with_reducible refine (policy_Holds.calls 4 (wrap64 (Int.tmod a1 12)) (⟨#[]⟩ : ByteArray) (⟨#[]⟩ : ByteArray) _ _ x7_1 0 t155 _ ?side1 ?side2 A10.out).mono ?_); (case side1 => repeat (first | exact (Kd.S_reads' HO_7.out).2.2 | (with_reducible refine Kd.C_alloc ?_ _) | (with_reducible refine Kd.C_drewN ?_ _) | (with_reducible refine Kd.C_drew ?_))); (case side2 => exact (Kd.S_reads' HO_7.out).2.1); rintro e w20 ⟨rfl, hb⟩; have n0_ := Aside0.mk (Kd.S_below (by (with_reducible repeat (first | apply Kd.S_alloc | apply Kd.S_drewN | apply Kd.S_drew)); exact HO_7.out) hb); have n1_ := Aside0.mk (below_step (by repeat (first | (with_reducible first | exact HB.out | apply below_alloc | apply pw_below_drewN | apply below_drew1) | exact HB.out)) hb); clear HO_7; clear HB; have HO_7 := n0_; have HB := n1_; clear n0_ n1_; (try clear hb); (try clear hb2); (try clear hk); (try clear hi)) | (go_at_call 14; (with_reducible refine (policy_Holds.calls 1 (wrap64 (Int.tmod a1 12)) (⟨#[]⟩ : ByteArray) (⟨#[]⟩ : ByteArray) _ _ x7_1 0 t156 _ ?side1 ?side2 A12.out).mono ?_); (case side1 => repeat (first | exact (Kd.S_reads' HO_7.out).2.2 | (with_reducible refine Kd.C_alloc ?_ _) | (with_reducible refine Kd.C_drewN ?_ _) | (with_reducible refine Kd.C_drew ?_))); (case side2 => exact (Kd.S_reads' HO_7.out).2.1); rintro e w21 ⟨rfl, hb⟩; have n0_ := Aside0.mk (Kd.S_below (by (with_reducible repeat (first | apply Kd.S_alloc | apply Kd.S_drewN | apply Kd.S_drew)); exact HO_7.out) hb); have n1_ := Aside0.mk (below_step (by repeat (first | (with_reducible first | exact HB.out | apply below_alloc | apply pw_below_drewN | apply below_drew1) | exact HB.out)) hb); clear HO_7; clear HB; have HO_7 := n0_; have HB := n1_; clear n0_ n1_; (try clear hb); (try clear hb2); (try clear hk); (try clear hi)) | (go_at_call 14; (with_reducible refine (policy_Holds.calls 5 (wrap64 (Int.tmod a2 72057594037927936)) (⟨#[]⟩ : ByteArray) (⟨#[]⟩ : ByteArray) _ _ x7_1 (Int.tmod a2 72057594037927936) true _ ?side1 ?side2 A15.out).mono ?_); (case side1 => repeat (first | exact (Kd.S_reads' HO_7.out).2.2 | (with_reducible refine Kd.C_alloc ?_ _) | (with_reducible refine Kd.C_drewN ?_ _) | (with_reducible refine Kd.C_drew ?_))); (case side2 => exact (Kd.S_reads' HO_7.out).2.1); rintro e w22 ⟨rfl, hb⟩; have n0_ := Aside0.mk (Kd.S_below (by (with_reducible repeat (first | apply Kd.S_alloc | apply Kd.S_drewN | apply Kd.S_drew)); exact HO_7.out) hb); have n1_ := Aside0.mk (below_step (by repeat (first | (with_reducible first | exact HB.out | apply below_alloc | apply pw_below_drewN | apply below_drew1) | exact HB.out)) hb); clear HO_7; clear HB; have HO_7 := n0_; have HB := n1_; clear n0_ n1_; (try clear hb); (try clear hb2); (try clear hk); (try clear hi)) | (go_at_call 14; (with_reducible refine (policy_Holds.calls 5 (wrap64 ((wrap64 (Int.tmod a2 72057594037927936)) + 1)) (⟨#[]⟩ : ByteArray) (⟨#[]⟩ : ByteArray) _ _ x7_1 (Int.tmod a2 72057594037927936) t158 _ ?side1 ?side2 A17.out).mono ?_); (case side1 => repeat (first | exact (Kd.S_reads' HO_7.out).2.2 | (with_reducible refine Kd.C_alloc ?_ _) | (with_reducible refine Kd.C_drewN ?_ _) | (with_reducible refine Kd.C_drew ?_))); (case side2 => exact (Kd.S_reads' HO_7.out).2.1); rintro e w23 ⟨rfl, hb⟩; have n0_ := Aside0.mk (Kd.S_below (by (with_reducible repeat (first | apply Kd.S_alloc | apply Kd.S_drewN | apply Kd.S_drew)); exact HO_7.out) hb); have n1_ := Aside0.mk (below_step (by repeat (first | (with_reducible first | exact HB.out | apply below_alloc | apply pw_below_drewN | apply below_drew1) | exact HB.out)) hb); clear HO_7; clear HB; have HO_7 := n0_; have HB := n1_; clear n0_ n1_; (try clear hb); (try clear hb2); (try clear hk); (try clear hi)))
                  go_ret
                  exact ⟨by first | rfl | (simp [errW_none, errW_some] <;> rfl) | (simp only [← hji7]; first | rfl | (simp [errW_none, errW_some] <;> rfl)) | (simp [*, errW_none, errW_some] <;> rfl), by repeat (first | (with_reducible first | exact HB.out | apply below_alloc | apply pw_below_drewN | apply below_drew1) | exact HB.out)⟩
                · replace c16 := Bool.eq_false_iff.mpr c16
                  subst c16
                  have H1 : (some false) = some r := by rw [if_neg (show ¬ (false = true) by decide)] at H; exact H
                  clear H
                  have H := H1
                  clear H1
                  obtain rfl := Option.some.inj H
                  obtain ⟨Ao24, co24, eo24⟩ := Kd.S_slice HO_7.out
                  subst eo24
                  go_wp2_with (first | ((with_reducible refine gate_callee (f := 10) rfl ?_); refine goesL_ (some 32) rfl rfl Try.func10 (by kernel_rfl) rfl #[] rfl (by (try simp only [List.map_toArray, List.map_cons, List.map_nil]); first | done | rfl | (simp only [List.length_drop, List.length_take]; rfl)) ?_; (with_reducible refine (telemeterlaw12_known.calls k1  true _ A8.out).mono ?_); rintro e w25 ⟨rfl, hb⟩; refine ⟨_, rfl, ?_⟩; have n0_ := Aside0.mk (Kd.S_below (by (with_reducible repeat (first | apply Kd.S_alloc | apply Kd.S_drewN | apply Kd.S_drew)); exact HO_7.out) hb); have n1_ := Aside0.mk (below_step (by repeat (first | (with_reducible first | exact HB.out | apply below_alloc | apply pw_below_drewN | apply below_drew1) | exact HB.out)) hb); clear HO_7; clear HB; have HO_7 := n0_; have HB := n1_; clear n0_ n1_; (try clear hb); (try clear hb2); (try clear hk); (try clear hi)) | (go_at_call 14; (with_reducible refine (policy_Holds.calls 4 (wrap64 (Int.tmod a1 12)) (⟨#[]⟩ : ByteArray) (⟨#[]⟩ : ByteArray) _ _ x7_1 0 t155 _ ?side1 ?side2 A10.out).mono ?_); (case side1 => repeat (first | exact (Kd.S_reads' HO_7.out).2.2 | (with_reducible refine Kd.C_alloc ?_ _) | (with_reducible refine Kd.C_drewN ?_ _) | (with_reducible refine Kd.C_drew ?_))); (case side2 => exact (Kd.S_reads' HO_7.out).2.1); rintro e w26 ⟨rfl, hb⟩; have n0_ := Aside0.mk (Kd.S_below (by (with_reducible repeat (first | apply Kd.S_alloc | apply Kd.S_drewN | apply Kd.S_drew)); exact HO_7.out) hb); have n1_ := Aside0.mk (below_step (by repeat (first | (with_reducible first | exact HB.out | apply below_alloc | apply pw_below_drewN | apply below_drew1) | exact HB.out)) hb); clear HO_7; clear HB; have HO_7 := n0_; have HB := n1_; clear n0_ n1_; (try clear hb); (try clear hb2); (try clear hk); (try clear hi)) | (go_at_call 14; (with_reducible refine (policy_Holds.calls 1 (wrap64 (Int.tmod a1 12)) (⟨#[]⟩ : ByteArray) (⟨#[]⟩ : ByteArray) _ _ x7_1 0 t156 _ ?side1 ?side2 A12.out).mono ?_); (case side1 => repeat (first | exact (Kd.S_reads' HO_7.out).2.2 | (with_reducible refine Kd.C_alloc ?_ _) | (with_reducible refine Kd.C_drewN ?_ _) | (with_reducible refine Kd.C_drew ?_))); (case side2 => exact (Kd.S_reads' HO_7.out).2.1); rintro e w27 ⟨rfl, hb⟩; have n0_ := Aside0.mk (Kd.S_below (by (with_reducible repeat (first | apply Kd.S_alloc | apply Kd.S_drewN | apply Kd.S_drew)); exact HO_7.out) hb); have n1_ := Aside0.mk (below_step (by repeat (first | (with_reducible first | exact HB.out | apply below_alloc | apply pw_below_drewN | apply below_drew1) | exact HB.out)) hb); clear HO_7; clear HB; have HO_7 := n0_; have HB := n1_; clear n0_ n1_; (try clear hb); (try clear hb2); (try clear hk); (try clear hi)) | (go_at_call 14; (with_reducible refine (policy_Holds.calls 5 (wrap64 (Int.tmod a2 72057594037927936)) (⟨#[]⟩ : ByteArray) (⟨#[]⟩ : ByteArray) _ _ x7_1 (Int.tmod a2 72057594037927936) false _ ?side1 ?side2 A15.out).mono ?_); (case side1 => repeat (first | exact (Kd.S_reads' HO_7.out).2.2 | (with_reducible refine Kd.C_alloc ?_ _) | (with_reducible refine Kd.C_drewN ?_ _) | (with_reducible refine Kd.C_drew ?_))); (case side2 => exact (Kd.S_reads' HO_7.out).2.1); rintro e w28 ⟨rfl, hb⟩; have n0_ := Aside0.mk (Kd.S_below (by (with_reducible repeat (first | apply Kd.S_alloc | apply Kd.S_drewN | apply Kd.S_drew)); exact HO_7.out) hb); have n1_ := Aside0.mk (below_step (by repeat (first | (with_reducible first | exact HB.out | apply below_alloc | apply pw_below_drewN | apply below_drew1) | exact HB.out)) hb); clear HO_7; clear HB; have HO_7 := n0_; have HB := n1_; clear n0_ n1_; (try clear hb); (try clear hb2); (try clear hk); (try clear hi)))
                  go_ret
                  exact ⟨by first | rfl | (simp [errW_none, errW_some] <;> rfl) | (simp only [← hji7]; first | rfl | (simp [errW_none, errW_some] <;> rfl)) | (simp [*, errW_none, errW_some] <;> rfl), by repeat (first | (with_reducible first | exact HB.out | apply below_alloc | apply pw_below_drewN | apply below_drew1) | exact HB.out)⟩
              · rw [if_neg c14] at H
                have c14b0 : (t156 == (decide ((ji7) ≥ (wrap64 (Int.tmod a1 12))))) = false := by simpa using c14
                (try (have c14b1 : decide (t156 = (decide ((ji7) ≥ (wrap64 (Int.tmod a1 12))))) = false := by simpa using c14))
                (try (have c14b2 : (t156 == (decide ((ji7) ≥ (wrap64 (Int.tmod a1 12))))) = false := by simpa using c14))
                (try (have c14b3 : ¬ (t156 = (decide ((ji7) ≥ (wrap64 (Int.tmod a1 12))))) := by simpa using c14))
                clear c14
                obtain rfl := Option.some.inj H
                obtain ⟨Ao29, co29, eo29⟩ := Kd.S_slice HO_7.out
                subst eo29
                go_wp2_with (first | ((with_reducible refine gate_callee (f := 10) rfl ?_); refine goesL_ (some 32) rfl rfl Try.func10 (by kernel_rfl) rfl #[] rfl (by (try simp only [List.map_toArray, List.map_cons, List.map_nil]); first | done | rfl | (simp only [List.length_drop, List.length_take]; rfl)) ?_; (with_reducible refine (telemeterlaw12_known.calls k1  true _ A8.out).mono ?_); rintro e w30 ⟨rfl, hb⟩; refine ⟨_, rfl, ?_⟩; have n0_ := Aside0.mk (Kd.S_below (by (with_reducible repeat (first | apply Kd.S_alloc | apply Kd.S_drewN | apply Kd.S_drew)); exact HO_7.out) hb); have n1_ := Aside0.mk (below_step (by repeat (first | (with_reducible first | exact HB.out | apply below_alloc | apply pw_below_drewN | apply below_drew1) | exact HB.out)) hb); clear HO_7; clear HB; have HO_7 := n0_; have HB := n1_; clear n0_ n1_; (try clear hb); (try clear hb2); (try clear hk); (try clear hi)) | (go_at_call 14; (with_reducible refine (policy_Holds.calls 4 (wrap64 (Int.tmod a1 12)) (⟨#[]⟩ : ByteArray) (⟨#[]⟩ : ByteArray) _ _ x7_1 0 t155 _ ?side1 ?side2 A10.out).mono ?_); (case side1 => repeat (first | exact (Kd.S_reads' HO_7.out).2.2 | (with_reducible refine Kd.C_alloc ?_ _) | (with_reducible refine Kd.C_drewN ?_ _) | (with_reducible refine Kd.C_drew ?_))); (case side2 => exact (Kd.S_reads' HO_7.out).2.1); rintro e w31 ⟨rfl, hb⟩; have n0_ := Aside0.mk (Kd.S_below (by (with_reducible repeat (first | apply Kd.S_alloc | apply Kd.S_drewN | apply Kd.S_drew)); exact HO_7.out) hb); have n1_ := Aside0.mk (below_step (by repeat (first | (with_reducible first | exact HB.out | apply below_alloc | apply pw_below_drewN | apply below_drew1) | exact HB.out)) hb); clear HO_7; clear HB; have HO_7 := n0_; have HB := n1_; clear n0_ n1_; (try clear hb); (try clear hb2); (try clear hk); (try clear hi)) | (go_at_call 14; (with_reducible refine (policy_Holds.calls 1 (wrap64 (Int.tmod a1 12)) (⟨#[]⟩ : ByteArray) (⟨#[]⟩ : ByteArray) _ _ x7_1 0 t156 _ ?side1 ?side2 A12.out).mono ?_); (case side1 => repeat (first | exact (Kd.S_reads' HO_7.out).2.2 | (with_reducible refine Kd.C_alloc ?_ _) | (with_reducible refine Kd.C_drewN ?_ _) | (with_reducible refine Kd.C_drew ?_))); (case side2 => exact (Kd.S_reads' HO_7.out).2.1); rintro e w32 ⟨rfl, hb⟩; have n0_ := Aside0.mk (Kd.S_below (by (with_reducible repeat (first | apply Kd.S_alloc | apply Kd.S_drewN | apply Kd.S_drew)); exact HO_7.out) hb); have n1_ := Aside0.mk (below_step (by repeat (first | (with_reducible first | exact HB.out | apply below_alloc | apply pw_below_drewN | apply below_drew1) | exact HB.out)) hb); clear HO_7; clear HB; have HO_7 := n0_; have HB := n1_; clear n0_ n1_; (try clear hb); (try clear hb2); (try clear hk); (try clear hi)))
                go_ret
                exact ⟨by first | rfl | (simp [errW_none, errW_some] <;> rfl) | (simp only [← hji7]; first | rfl | (simp [errW_none, errW_some] <;> rfl)) | (simp [*, errW_none, errW_some] <;> rfl), by repeat (first | (with_reducible first | exact HB.out | apply below_alloc | apply pw_below_drewN | apply below_drew1) | exact HB.out)⟩
            · rw [if_neg c13] at H
              have c13b0 : decide (0 < (x7_1.length : Int)) = false := decide_eq_false c13
              have c13b1 : decide (0 < x7_1.length) = false := decide_eq_false (by omega)
              clear c13
              by_cases c33 : (t156 == false) = true
              · rw [if_pos c33] at H
                have c33b0 : (t156 == false) = true := c33
                (try (have c33b1 : decide (t156 = false) = true := by simpa using c33))
                (try (have c33b2 : (t156 == false) = true := by simpa using c33))
                clear c33
                replace H := Option.bind_eq_some_iff.mp H
                obtain ⟨t159, A340, H⟩ := H
                replace H : (if t159 = true then ((policy_Holds.f 5 (wrap64 ((wrap64 (Int.tmod a2 72057594037927936)) + 1)) (⟨#[]⟩ : ByteArray) (⟨#[]⟩ : ByteArray) x7_1 (Int.tmod a2 72057594037927936)).bind fun t160 => (some (!t160))) else (some false)) = some r := H
                have A34 := Aside0.mk A340
                clear A340
                by_cases c35 : t159 = true
                · subst c35
                  have H1 : ((policy_Holds.f 5 (wrap64 ((wrap64 (Int.tmod a2 72057594037927936)) + 1)) (⟨#[]⟩ : ByteArray) (⟨#[]⟩ : ByteArray) x7_1 (Int.tmod a2 72057594037927936)).bind fun t160 => (some (!t160))) = some r := by rw [if_pos rfl] at H; exact H
                  clear H
                  have H := H1
                  clear H1
                  replace H := Option.bind_eq_some_iff.mp H
                  obtain ⟨t160, A360, H⟩ := H
                  replace H : (some (!t160)) = some r := H
                  have A36 := Aside0.mk A360
                  clear A360
                  obtain rfl := Option.some.inj H
                  obtain ⟨Ao37, co37, eo37⟩ := Kd.S_slice HO_7.out
                  subst eo37
                  go_wp2_with (first | ((with_reducible refine gate_callee (f := 10) rfl ?_); refine goesL_ (some 32) rfl rfl Try.func10 (by kernel_rfl) rfl #[] rfl (by (try simp only [List.map_toArray, List.map_cons, List.map_nil]); first | done | rfl | (simp only [List.length_drop, List.length_take]; rfl)) ?_; (with_reducible refine (telemeterlaw12_known.calls k1  true _ A8.out).mono ?_); rintro e w38 ⟨rfl, hb⟩; refine ⟨_, rfl, ?_⟩; have n0_ := Aside0.mk (Kd.S_below (by (with_reducible repeat (first | apply Kd.S_alloc | apply Kd.S_drewN | apply Kd.S_drew)); exact HO_7.out) hb); have n1_ := Aside0.mk (below_step (by repeat (first | (with_reducible first | exact HB.out | apply below_alloc | apply pw_below_drewN | apply below_drew1) | exact HB.out)) hb); clear HO_7; clear HB; have HO_7 := n0_; have HB := n1_; clear n0_ n1_; (try clear hb); (try clear hb2); (try clear hk); (try clear hi)) | (go_at_call 14; (with_reducible refine (policy_Holds.calls 4 (wrap64 (Int.tmod a1 12)) (⟨#[]⟩ : ByteArray) (⟨#[]⟩ : ByteArray) _ _ x7_1 0 t155 _ ?side1 ?side2 A10.out).mono ?_); (case side1 => repeat (first | exact (Kd.S_reads' HO_7.out).2.2 | (with_reducible refine Kd.C_alloc ?_ _) | (with_reducible refine Kd.C_drewN ?_ _) | (with_reducible refine Kd.C_drew ?_))); (case side2 => exact (Kd.S_reads' HO_7.out).2.1); rintro e w39 ⟨rfl, hb⟩; have n0_ := Aside0.mk (Kd.S_below (by (with_reducible repeat (first | apply Kd.S_alloc | apply Kd.S_drewN | apply Kd.S_drew)); exact HO_7.out) hb); have n1_ := Aside0.mk (below_step (by repeat (first | (with_reducible first | exact HB.out | apply below_alloc | apply pw_below_drewN | apply below_drew1) | exact HB.out)) hb); clear HO_7; clear HB; have HO_7 := n0_; have HB := n1_; clear n0_ n1_; (try clear hb); (try clear hb2); (try clear hk); (try clear hi)) | (go_at_call 14; (with_reducible refine (policy_Holds.calls 1 (wrap64 (Int.tmod a1 12)) (⟨#[]⟩ : ByteArray) (⟨#[]⟩ : ByteArray) _ _ x7_1 0 t156 _ ?side1 ?side2 A12.out).mono ?_); (case side1 => repeat (first | exact (Kd.S_reads' HO_7.out).2.2 | (with_reducible refine Kd.C_alloc ?_ _) | (with_reducible refine Kd.C_drewN ?_ _) | (with_reducible refine Kd.C_drew ?_))); (case side2 => exact (Kd.S_reads' HO_7.out).2.1); rintro e w40 ⟨rfl, hb⟩; have n0_ := Aside0.mk (Kd.S_below (by (with_reducible repeat (first | apply Kd.S_alloc | apply Kd.S_drewN | apply Kd.S_drew)); exact HO_7.out) hb); have n1_ := Aside0.mk (below_step (by repeat (first | (with_reducible first | exact HB.out | apply below_alloc | apply pw_below_drewN | apply below_drew1) | exact HB.out)) hb); clear HO_7; clear HB; have HO_7 := n0_; have HB := n1_; clear n0_ n1_; (try clear hb); (try clear hb2); (try clear hk); (try clear hi)) | (go_at_call 14; (with_reducible refine (policy_Holds.calls 5 (wrap64 (Int.tmod a2 72057594037927936)) (⟨#[]⟩ : ByteArray) (⟨#[]⟩ : ByteArray) _ _ x7_1 (Int.tmod a2 72057594037927936) true _ ?side1 ?side2 A34.out).mono ?_); (case side1 => repeat (first | exact (Kd.S_reads' HO_7.out).2.2 | (with_reducible refine Kd.C_alloc ?_ _) | (with_reducible refine Kd.C_drewN ?_ _) | (with_reducible refine Kd.C_drew ?_))); (case side2 => exact (Kd.S_reads' HO_7.out).2.1); rintro e w41 ⟨rfl, hb⟩; have n0_ := Aside0.mk (Kd.S_below (by (with_reducible repeat (first | apply Kd.S_alloc | apply Kd.S_drewN | apply Kd.S_drew)); exact HO_7.out) hb); have n1_ := Aside0.mk (below_step (by repeat (first | (with_reducible first | exact HB.out | apply below_alloc | apply pw_below_drewN | apply below_drew1) | exact HB.out)) hb); clear HO_7; clear HB; have HO_7 := n0_; have HB := n1_; clear n0_ n1_; (try clear hb); (try clear hb2); (try clear hk); (try clear hi)) | (go_at_call 14; (with_reducible refine (policy_Holds.calls 5 (wrap64 ((wrap64 (Int.tmod a2 72057594037927936)) + 1)) (⟨#[]⟩ : ByteArray) (⟨#[]⟩ : ByteArray) _ _ x7_1 (Int.tmod a2 72057594037927936) t160 _ ?side1 ?side2 A36.out).mono ?_); (case side1 => repeat (first | exact (Kd.S_reads' HO_7.out).2.2 | (with_reducible refine Kd.C_alloc ?_ _) | (with_reducible refine Kd.C_drewN ?_ _) | (with_reducible refine Kd.C_drew ?_))); (case side2 => exact (Kd.S_reads' HO_7.out).2.1); rintro e w42 ⟨rfl, hb⟩; have n0_ := Aside0.mk (Kd.S_below (by (with_reducible repeat (first | apply Kd.S_alloc | apply Kd.S_drewN | apply Kd.S_drew)); exact HO_7.out) hb); have n1_ := Aside0.mk (below_step (by repeat (first | (with_reducible first | exact HB.out | apply below_alloc | apply pw_below_drewN | apply below_drew1) | exact HB.out)) hb); clear HO_7; clear HB; have HO_7 := n0_; have HB := n1_; clear n0_ n1_; (try clear hb); (try clear hb2); (try clear hk); (try clear hi)))
                  go_ret
                  exact ⟨by first | rfl | (simp [errW_none, errW_some] <;> rfl) | (simp only [← hji7]; first | rfl | (simp [errW_none, errW_some] <;> rfl)) | (simp [*, errW_none, errW_some] <;> rfl), by repeat (first | (with_reducible first | exact HB.out | apply below_alloc | apply pw_below_drewN | apply below_drew1) | exact HB.out)⟩
                · replace c35 := Bool.eq_false_iff.mpr c35
                  subst c35
                  have H1 : (some false) = some r := by rw [if_neg (show ¬ (false = true) by decide)] at H; exact H
                  clear H
                  have H := H1
                  clear H1
                  obtain rfl := Option.some.inj H
                  obtain ⟨Ao43, co43, eo43⟩ := Kd.S_slice HO_7.out
                  subst eo43
                  go_wp2_with (first | ((with_reducible refine gate_callee (f := 10) rfl ?_); refine goesL_ (some 32) rfl rfl Try.func10 (by kernel_rfl) rfl #[] rfl (by (try simp only [List.map_toArray, List.map_cons, List.map_nil]); first | done | rfl | (simp only [List.length_drop, List.length_take]; rfl)) ?_; (with_reducible refine (telemeterlaw12_known.calls k1  true _ A8.out).mono ?_); rintro e w44 ⟨rfl, hb⟩; refine ⟨_, rfl, ?_⟩; have n0_ := Aside0.mk (Kd.S_below (by (with_reducible repeat (first | apply Kd.S_alloc | apply Kd.S_drewN | apply Kd.S_drew)); exact HO_7.out) hb); have n1_ := Aside0.mk (below_step (by repeat (first | (with_reducible first | exact HB.out | apply below_alloc | apply pw_below_drewN | apply below_drew1) | exact HB.out)) hb); clear HO_7; clear HB; have HO_7 := n0_; have HB := n1_; clear n0_ n1_; (try clear hb); (try clear hb2); (try clear hk); (try clear hi)) | (go_at_call 14; (with_reducible refine (policy_Holds.calls 4 (wrap64 (Int.tmod a1 12)) (⟨#[]⟩ : ByteArray) (⟨#[]⟩ : ByteArray) _ _ x7_1 0 t155 _ ?side1 ?side2 A10.out).mono ?_); (case side1 => repeat (first | exact (Kd.S_reads' HO_7.out).2.2 | (with_reducible refine Kd.C_alloc ?_ _) | (with_reducible refine Kd.C_drewN ?_ _) | (with_reducible refine Kd.C_drew ?_))); (case side2 => exact (Kd.S_reads' HO_7.out).2.1); rintro e w45 ⟨rfl, hb⟩; have n0_ := Aside0.mk (Kd.S_below (by (with_reducible repeat (first | apply Kd.S_alloc | apply Kd.S_drewN | apply Kd.S_drew)); exact HO_7.out) hb); have n1_ := Aside0.mk (below_step (by repeat (first | (with_reducible first | exact HB.out | apply below_alloc | apply pw_below_drewN | apply below_drew1) | exact HB.out)) hb); clear HO_7; clear HB; have HO_7 := n0_; have HB := n1_; clear n0_ n1_; (try clear hb); (try clear hb2); (try clear hk); (try clear hi)) | (go_at_call 14; (with_reducible refine (policy_Holds.calls 1 (wrap64 (Int.tmod a1 12)) (⟨#[]⟩ : ByteArray) (⟨#[]⟩ : ByteArray) _ _ x7_1 0 t156 _ ?side1 ?side2 A12.out).mono ?_); (case side1 => repeat (first | exact (Kd.S_reads' HO_7.out).2.2 | (with_reducible refine Kd.C_alloc ?_ _) | (with_reducible refine Kd.C_drewN ?_ _) | (with_reducible refine Kd.C_drew ?_))); (case side2 => exact (Kd.S_reads' HO_7.out).2.1); rintro e w46 ⟨rfl, hb⟩; have n0_ := Aside0.mk (Kd.S_below (by (with_reducible repeat (first | apply Kd.S_alloc | apply Kd.S_drewN | apply Kd.S_drew)); exact HO_7.out) hb); have n1_ := Aside0.mk (below_step (by repeat (first | (with_reducible first | exact HB.out | apply below_alloc | apply pw_below_drewN | apply below_drew1) | exact HB.out)) hb); clear HO_7; clear HB; have HO_7 := n0_; have HB := n1_; clear n0_ n1_; (try clear hb); (try clear hb2); (try clear hk); (try clear hi)) | (go_at_call 14; (with_reducible refine (policy_Holds.calls 5 (wrap64 (Int.tmod a2 72057594037927936)) (⟨#[]⟩ : ByteArray) (⟨#[]⟩ : ByteArray) _ _ x7_1 (Int.tmod a2 72057594037927936) false _ ?side1 ?side2 A34.out).mono ?_); (case side1 => repeat (first | exact (Kd.S_reads' HO_7.out).2.2 | (with_reducible refine Kd.C_alloc ?_ _) | (with_reducible refine Kd.C_drewN ?_ _) | (with_reducible refine Kd.C_drew ?_))); (case side2 => exact (Kd.S_reads' HO_7.out).2.1); rintro e w47 ⟨rfl, hb⟩; have n0_ := Aside0.mk (Kd.S_below (by (with_reducible repeat (first | apply Kd.S_alloc | apply Kd.S_drewN | apply Kd.S_drew)); exact HO_7.out) hb); have n1_ := Aside0.mk (below_step (by repeat (first | (with_reducible first | exact HB.out | apply below_alloc | apply pw_below_drewN | apply below_drew1) | exact HB.out)) hb); clear HO_7; clear HB; have HO_7 := n0_; have HB := n1_; clear n0_ n1_; (try clear hb); (try clear hb2); (try clear hk); (try clear hi)))
                  go_ret
                  exact ⟨by first | rfl | (simp [errW_none, errW_some] <;> rfl) | (simp only [← hji7]; first | rfl | (simp [errW_none, errW_some] <;> rfl)) | (simp [*, errW_none, errW_some] <;> rfl), by repeat (first | (with_reducible first | exact HB.out | apply below_alloc | apply pw_below_drewN | apply below_drew1) | exact HB.out)⟩
              · rw [if_neg c33] at H
                have c33b0 : (t156 == false) = false := by simpa using c33
                (try (have c33b1 : decide (t156 = false) = false := by simpa using c33))
                (try (have c33b2 : (t156 == false) = false := by simpa using c33))
                (try (have c33b3 : ¬ (t156 = false) := by simpa using c33))
                clear c33
                obtain rfl := Option.some.inj H
                obtain ⟨Ao48, co48, eo48⟩ := Kd.S_slice HO_7.out
                subst eo48
                go_wp2_with (first | ((with_reducible refine gate_callee (f := 10) rfl ?_); refine goesL_ (some 32) rfl rfl Try.func10 (by kernel_rfl) rfl #[] rfl (by (try simp only [List.map_toArray, List.map_cons, List.map_nil]); first | done | rfl | (simp only [List.length_drop, List.length_take]; rfl)) ?_; (with_reducible refine (telemeterlaw12_known.calls k1  true _ A8.out).mono ?_); rintro e w49 ⟨rfl, hb⟩; refine ⟨_, rfl, ?_⟩; have n0_ := Aside0.mk (Kd.S_below (by (with_reducible repeat (first | apply Kd.S_alloc | apply Kd.S_drewN | apply Kd.S_drew)); exact HO_7.out) hb); have n1_ := Aside0.mk (below_step (by repeat (first | (with_reducible first | exact HB.out | apply below_alloc | apply pw_below_drewN | apply below_drew1) | exact HB.out)) hb); clear HO_7; clear HB; have HO_7 := n0_; have HB := n1_; clear n0_ n1_; (try clear hb); (try clear hb2); (try clear hk); (try clear hi)) | (go_at_call 14; (with_reducible refine (policy_Holds.calls 4 (wrap64 (Int.tmod a1 12)) (⟨#[]⟩ : ByteArray) (⟨#[]⟩ : ByteArray) _ _ x7_1 0 t155 _ ?side1 ?side2 A10.out).mono ?_); (case side1 => repeat (first | exact (Kd.S_reads' HO_7.out).2.2 | (with_reducible refine Kd.C_alloc ?_ _) | (with_reducible refine Kd.C_drewN ?_ _) | (with_reducible refine Kd.C_drew ?_))); (case side2 => exact (Kd.S_reads' HO_7.out).2.1); rintro e w50 ⟨rfl, hb⟩; have n0_ := Aside0.mk (Kd.S_below (by (with_reducible repeat (first | apply Kd.S_alloc | apply Kd.S_drewN | apply Kd.S_drew)); exact HO_7.out) hb); have n1_ := Aside0.mk (below_step (by repeat (first | (with_reducible first | exact HB.out | apply below_alloc | apply pw_below_drewN | apply below_drew1) | exact HB.out)) hb); clear HO_7; clear HB; have HO_7 := n0_; have HB := n1_; clear n0_ n1_; (try clear hb); (try clear hb2); (try clear hk); (try clear hi)) | (go_at_call 14; (with_reducible refine (policy_Holds.calls 1 (wrap64 (Int.tmod a1 12)) (⟨#[]⟩ : ByteArray) (⟨#[]⟩ : ByteArray) _ _ x7_1 0 t156 _ ?side1 ?side2 A12.out).mono ?_); (case side1 => repeat (first | exact (Kd.S_reads' HO_7.out).2.2 | (with_reducible refine Kd.C_alloc ?_ _) | (with_reducible refine Kd.C_drewN ?_ _) | (with_reducible refine Kd.C_drew ?_))); (case side2 => exact (Kd.S_reads' HO_7.out).2.1); rintro e w51 ⟨rfl, hb⟩; have n0_ := Aside0.mk (Kd.S_below (by (with_reducible repeat (first | apply Kd.S_alloc | apply Kd.S_drewN | apply Kd.S_drew)); exact HO_7.out) hb); have n1_ := Aside0.mk (below_step (by repeat (first | (with_reducible first | exact HB.out | apply below_alloc | apply pw_below_drewN | apply below_drew1) | exact HB.out)) hb); clear HO_7; clear HB; have HO_7 := n0_; have HB := n1_; clear n0_ n1_; (try clear hb); (try clear hb2); (try clear hk); (try clear hi)))
                go_ret
                exact ⟨by first | rfl | (simp [errW_none, errW_some] <;> rfl) | (simp only [← hji7]; first | rfl | (simp [errW_none, errW_some] <;> rfl)) | (simp [*, errW_none, errW_some] <;> rfl), by repeat (first | (with_reducible first | exact HB.out | apply below_alloc | apply pw_below_drewN | apply below_drew1) | exact HB.out)⟩
          · rw [if_neg c11] at H
            have c11b0 : (t155 == (decide ((x7_1.length : Int) ≥ (wrap64 (Int.tmod a1 12))))) = false := by simpa using c11
            (try (have c11b1 : decide (t155 = (decide ((x7_1.length : Int) ≥ (wrap64 (Int.tmod a1 12))))) = false := by simpa using c11))
            (try (have c11b2 : (t155 == (decide ((x7_1.length : Int) ≥ (wrap64 (Int.tmod a1 12))))) = false := by simpa using c11))
            (try (have c11b3 : ¬ (t155 = (decide ((x7_1.length : Int) ≥ (wrap64 (Int.tmod a1 12))))) := by simpa using c11))
            clear c11
            obtain rfl := Option.some.inj H
            obtain ⟨Ao52, co52, eo52⟩ := Kd.S_slice HO_7.out
            subst eo52
            go_wp2_with (first | ((with_reducible refine gate_callee (f := 10) rfl ?_); refine goesL_ (some 32) rfl rfl Try.func10 (by kernel_rfl) rfl #[] rfl (by (try simp only [List.map_toArray, List.map_cons, List.map_nil]); first | done | rfl | (simp only [List.length_drop, List.length_take]; rfl)) ?_; (with_reducible refine (telemeterlaw12_known.calls k1  true _ A8.out).mono ?_); rintro e w53 ⟨rfl, hb⟩; refine ⟨_, rfl, ?_⟩; have n0_ := Aside0.mk (Kd.S_below (by (with_reducible repeat (first | apply Kd.S_alloc | apply Kd.S_drewN | apply Kd.S_drew)); exact HO_7.out) hb); have n1_ := Aside0.mk (below_step (by repeat (first | (with_reducible first | exact HB.out | apply below_alloc | apply pw_below_drewN | apply below_drew1) | exact HB.out)) hb); clear HO_7; clear HB; have HO_7 := n0_; have HB := n1_; clear n0_ n1_; (try clear hb); (try clear hb2); (try clear hk); (try clear hi)) | (go_at_call 14; (with_reducible refine (policy_Holds.calls 4 (wrap64 (Int.tmod a1 12)) (⟨#[]⟩ : ByteArray) (⟨#[]⟩ : ByteArray) _ _ x7_1 0 t155 _ ?side1 ?side2 A10.out).mono ?_); (case side1 => repeat (first | exact (Kd.S_reads' HO_7.out).2.2 | (with_reducible refine Kd.C_alloc ?_ _) | (with_reducible refine Kd.C_drewN ?_ _) | (with_reducible refine Kd.C_drew ?_))); (case side2 => exact (Kd.S_reads' HO_7.out).2.1); rintro e w54 ⟨rfl, hb⟩; have n0_ := Aside0.mk (Kd.S_below (by (with_reducible repeat (first | apply Kd.S_alloc | apply Kd.S_drewN | apply Kd.S_drew)); exact HO_7.out) hb); have n1_ := Aside0.mk (below_step (by repeat (first | (with_reducible first | exact HB.out | apply below_alloc | apply pw_below_drewN | apply below_drew1) | exact HB.out)) hb); clear HO_7; clear HB; have HO_7 := n0_; have HB := n1_; clear n0_ n1_; (try clear hb); (try clear hb2); (try clear hk); (try clear hi)))
            go_ret
            exact ⟨by first | rfl | (simp [errW_none, errW_some] <;> rfl) | (simp only [← hji7]; first | rfl | (simp [errW_none, errW_some] <;> rfl)) | (simp [*, errW_none, errW_some] <;> rfl), by repeat (first | (with_reducible first | exact HB.out | apply below_alloc | apply pw_below_drewN | apply below_drew1) | exact HB.out)⟩
        · replace c9 := Bool.eq_false_iff.mpr c9
          subst c9
          have H1 : (some false) = some r := by rw [if_neg (show ¬ (false = true) by decide)] at H; exact H
          clear H
          have H := H1
          clear H1
          obtain rfl := Option.some.inj H
          obtain ⟨Ao55, co55, eo55⟩ := Kd.S_slice HO_7.out
          subst eo55
          go_wp2_with (first | ((with_reducible refine gate_callee (f := 10) rfl ?_); refine goesL_ (some 32) rfl rfl Try.func10 (by kernel_rfl) rfl #[] rfl (by (try simp only [List.map_toArray, List.map_cons, List.map_nil]); first | done | rfl | (simp only [List.length_drop, List.length_take]; rfl)) ?_; (with_reducible refine (telemeterlaw12_known.calls k1  false _ A8.out).mono ?_); rintro e w56 ⟨rfl, hb⟩; refine ⟨_, rfl, ?_⟩; have n0_ := Aside0.mk (Kd.S_below (by (with_reducible repeat (first | apply Kd.S_alloc | apply Kd.S_drewN | apply Kd.S_drew)); exact HO_7.out) hb); have n1_ := Aside0.mk (below_step (by repeat (first | (with_reducible first | exact HB.out | apply below_alloc | apply pw_below_drewN | apply below_drew1) | exact HB.out)) hb); clear HO_7; clear HB; have HO_7 := n0_; have HB := n1_; clear n0_ n1_; (try clear hb); (try clear hb2); (try clear hk); (try clear hi)))
          go_ret
          exact ⟨by first | rfl | (simp [errW_none, errW_some] <;> rfl) | (simp only [← hji7]; first | rfl | (simp [errW_none, errW_some] <;> rfl)) | (simp [*, errW_none, errW_some] <;> rfl), by repeat (first | (with_reducible first | exact HB.out | apply below_alloc | apply pw_below_drewN | apply below_drew1) | exact HB.out)⟩

/-- THE ONE PURE STATEMENT of telemeterlaw12_PolicyFew: yours. -/
def telemeterlaw12_PolicyFew.Pure : Prop := ∀ (a0 : Int) (a1 : Int) (a2 : Int), (Lit.int .u8 a0).wf = true → (Lit.int .u8 a1).wf = true → (Lit.int .u64 a2).wf = true → ∃ k, telemeterlaw12_PolicyFew.f k a0 a1 a2 = some true
theorem telemeterlaw12_PolicyFew.walk (P : telemeterlaw12_PolicyFew.Pure) (a0 : Int) (a1 : Int) (a2 : Int) (w : World) (w0 : (Lit.int .u8 a0).wf = true) (w1 : (Lit.int .u8 a1).wf = true) (w2 : (Lit.int .u64 a2).wf = true) :
    Calls Try.prog 4 #[.int .u8 a0, .int .u8 a1, .int .u64 a2] w fun e w' => e = .returned (.bool true) ∧ Below w.heap.size w w' := by
  obtain ⟨k, h⟩ := P a0 a1 a2 w0 w1 w2
  refine (telemeterlaw12_PolicyFew.calls k a0 a1 a2 true w h).mono ?_
  rintro e w' ⟨rfl, hd⟩
  exact ⟨rfl, hd⟩

end Go.Proofs.Ytbjoleelfihikaa.Px
