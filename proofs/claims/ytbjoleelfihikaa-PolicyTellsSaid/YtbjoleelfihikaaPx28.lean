-- Laid by a program of this session (wip/xprint.py: the kit's print.py, with functions given by hand). Lean checks it.
import Derived.Test.YtbjoleelfihikaaPx0
import Derived.Test.YtbjoleelfihikaaPx7
import Derived.Test.YtbjoleelfihikaaPx9
import Derived.Test.YtbjoleelfihikaaPx11
import Derived.Test.YtbjoleelfihikaaPx14
import Derived.Test.YtbjoleelfihikaaPx23
import Derived.Test.YtbjoleelfihikaaPx25
import Derived.Test.YtbjoleelfihikaaPx26
import Derived.Test.YtbjoleelfihikaaPx27
namespace Go.Proofs.Ytbjoleelfihikaa.Px
open Go.RowKit Go.Proofs.YtbjoleelfihikaaW.PrintWords Go.Proofs.YtbjoleelfihikaaW.PrintLast Go.Proofs.YtbjoleelfihikaaW.PrintMore
attribute [local go_sem] max2_int min2_int max_two min_two max_three min_three max_four min_four   -- for this text's walks alone
set_option linter.unusedVariables false
set_option linter.unusedSimpArgs false

/-! ### telemeterlaw12_tells: function 17 -/
mutual
def telemeterlaw12_tells.l0 : Nat → List (List (S39)) → List (S36) → Int → Int → Option (Bool)
 | 0, _, _, _, _ => none
 | k + 1, x0, x1, x2, x7 => if x7 < (x0.length : Int) then (telemeterlaw12_tells.l1 k x0 x1 x2 x7 0) else ((policy_Which.f x0 x1 x2).bind fun t243 => ((telemeterref12_Which.f k x0 x1 x2).bind fun t244 => (if t243 = t244 then ((policy_Length.f k x1).bind fun t245 => ((telemeterref12_Length.f k x1).bind fun t246 => (some (t245 == t246)))) else (some false))))
def telemeterlaw12_tells.l1 : Nat → List (List (S39)) → List (S36) → Int → Int → Int → Option (Bool)
 | 0, _, _, _, _, _ => none
 | k + 1, x0, x1, x2, x7, x8 => if 0 ≤ x7 then (if x7 < (x0.length : Int) then (if x8 < ((rd_L4 x0 x7).length : Int) then (if 0 ≤ x8 then ((policy_Holds.f ((rd_T39 (rd_L4 x0 x7) x8).f0) ((rd_T39 (rd_L4 x0 x7) x8).f1) ((rd_T39 (rd_L4 x0 x7) x8).f2) ((rd_T39 (rd_L4 x0 x7) x8).f3) x1 x2).bind fun t235 => ((telemeterref12_Holds.f k ((rd_T39 (rd_L4 x0 x7) x8).f0) ((rd_T39 (rd_L4 x0 x7) x8).f1) ((rd_T39 (rd_L4 x0 x7) x8).f2) ((rd_T39 (rd_L4 x0 x7) x8).f3) x1 x2).bind fun t238 => (if (t235 != t238) = true then (some false) else (telemeterlaw12_tells.l1 k x0 x1 x2 x7 (wrap64 (x8 + 1)))))) else (none)) else ((policy_All.f (rd_L4 x0 x7) x1 x2).bind fun t240 => ((telemeterref12_All.f k (rd_L4 x0 x7) x1 x2).bind fun t242 => (if (t240 != t242) = true then (some false) else (telemeterlaw12_tells.l0 k x0 x1 x2 (wrap64 (x7 + 1))))))) else (none)) else (none)
end
def telemeterlaw12_tells.f (k : Nat) (l0 : List (List (S39))) (l1 : List (S36)) (a2 : Int) : Option (Bool) := telemeterlaw12_tells.l0 k l0 l1 a2 0
theorem telemeterlaw12_tells.mono_l : ∀ k, (∀ y0 y1 y2 y3, LeO (telemeterlaw12_tells.l0 k y0 y1 y2 y3) (telemeterlaw12_tells.l0 (k + 1) y0 y1 y2 y3)) ∧ (∀ y0 y1 y2 y3 y4, LeO (telemeterlaw12_tells.l1 k y0 y1 y2 y3 y4) (telemeterlaw12_tells.l1 (k + 1) y0 y1 y2 y3 y4))
 | 0 => ⟨fun _ _ _ _ r h => by simp [telemeterlaw12_tells.l0] at h, fun _ _ _ _ _ r h => by simp [telemeterlaw12_tells.l1] at h⟩
 | k + 1 => by
  obtain ⟨ih0, ih1⟩ := telemeterlaw12_tells.mono_l k
  refine ⟨?_, ?_⟩
  ·intro y0 y1 y2 y3
   unfold telemeterlaw12_tells.l0
   repeat' first
   | (with_reducible exact ih0 _ _ _ _)
   | (with_reducible exact ih1 _ _ _ _ _)
   | (with_reducible exact policy_Length.mono _ _)
   | (with_reducible exact telemeterref12_All.mono _ _ _ _)
   | (with_reducible exact telemeterref12_Holds.mono _ _ _ _ _ _ _)
   | (with_reducible exact telemeterref12_Length.mono _ _)
   | (with_reducible exact telemeterref12_Which.mono _ _ _ _)
   | (with_reducible exact LeO.refl _)
   | (with_reducible exact LeO.none _)
   | (with_reducible refine LeO.ite ?_ ?_)
   | (with_reducible refine LeO.bind ?_ (fun _ => ?_))
   | exact ih0 _ _ _ _
   | exact ih1 _ _ _ _ _
   | exact policy_Length.mono _ _
   | exact telemeterref12_All.mono _ _ _ _
   | exact telemeterref12_Holds.mono _ _ _ _ _ _ _
   | exact telemeterref12_Length.mono _ _
   | exact telemeterref12_Which.mono _ _ _ _
   | exact LeO.none _
   | refine LeO.ite ?_ ?_
   | refine LeO.bind ?_ (fun _ => ?_)
  ·intro y0 y1 y2 y3 y4
   unfold telemeterlaw12_tells.l1
   repeat' first
   | (with_reducible exact ih0 _ _ _ _)
   | (with_reducible exact ih1 _ _ _ _ _)
   | (with_reducible exact policy_Length.mono _ _)
   | (with_reducible exact telemeterref12_All.mono _ _ _ _)
   | (with_reducible exact telemeterref12_Holds.mono _ _ _ _ _ _ _)
   | (with_reducible exact telemeterref12_Length.mono _ _)
   | (with_reducible exact telemeterref12_Which.mono _ _ _ _)
   | (with_reducible exact LeO.refl _)
   | (with_reducible exact LeO.none _)
   | (with_reducible refine LeO.ite ?_ ?_)
   | (with_reducible refine LeO.bind ?_ (fun _ => ?_))
   | exact ih0 _ _ _ _
   | exact ih1 _ _ _ _ _
   | exact policy_Length.mono _ _
   | exact telemeterref12_All.mono _ _ _ _
   | exact telemeterref12_Holds.mono _ _ _ _ _ _ _
   | exact telemeterref12_Length.mono _ _
   | exact telemeterref12_Which.mono _ _ _ _
   | exact LeO.none _
   | refine LeO.ite ?_ ?_
   | refine LeO.bind ?_ (fun _ => ?_)
theorem telemeterlaw12_tells.mono : ∀ a0 a1 a2 k, LeO (telemeterlaw12_tells.f k a0 a1 a2) (telemeterlaw12_tells.f (k + 1) a0 a1 a2) := by
 intro a0 a1 a2 k
 obtain ⟨ih0, ih1⟩ := telemeterlaw12_tells.mono_l k
 unfold telemeterlaw12_tells.f
 repeat' first
   | (with_reducible exact ih0 _ _ _ _)
   | (with_reducible exact ih1 _ _ _ _ _)
   | (with_reducible exact policy_Length.mono _ _)
   | (with_reducible exact telemeterref12_All.mono _ _ _ _)
   | (with_reducible exact telemeterref12_Holds.mono _ _ _ _ _ _ _)
   | (with_reducible exact telemeterref12_Length.mono _ _)
   | (with_reducible exact telemeterref12_Which.mono _ _ _ _)
   | (with_reducible exact LeO.refl _)
   | (with_reducible exact LeO.none _)
   | (with_reducible refine LeO.ite ?_ ?_)
   | (with_reducible refine LeO.bind ?_ (fun _ => ?_))
   | exact ih0 _ _ _ _
   | exact ih1 _ _ _ _ _
   | exact policy_Length.mono _ _
   | exact telemeterref12_All.mono _ _ _ _
   | exact telemeterref12_Holds.mono _ _ _ _ _ _ _
   | exact telemeterref12_Length.mono _ _
   | exact telemeterref12_Which.mono _ _ _ _
   | exact LeO.none _
   | refine LeO.ite ?_ ?_
   | refine LeO.bind ?_ (fun _ => ?_)
def telemeterlaw12_tells.T7 : Bool × List (List Nat × List Nat) := (true, [([], []), ([], []), ([0, 1], [0, 1]), ([2], [2]), ([], []), ([3, 4], [3, 4]), ([5], [5]), ([], []), ([], []), ([6, 7, 8], [6, 7, 8]), ([], []), ([], []), ([10, 11], [10, 11]), ([12], [12]), ([], []), ([13, 14], [13, 14]), ([15], [15]), ([], []), ([], []), ([16, 17, 18, 9], [16, 17, 18]), ([9, 19], [9, 19])])
def telemeterlaw12_tells.B7 : List Nat := [0, 0, 3, 7, 0, 31, 63, 0, 0, 511, 0, 0, 3072, 7168, 0, 31744, 64512, 0, 0, 524287, 1048575]
theorem telemeterlaw12_tells.tab7 : rtab .any (opsOf Try.f17 7) = telemeterlaw12_tells.T7 := by kernel_rfl
theorem telemeterlaw12_tells.bits7 : waitsOk telemeterlaw12_tells.T7.2 telemeterlaw12_tells.B7 = true := by kernel_rfl
def telemeterlaw12_tells.T9 : Bool × List (List Nat × List Nat) := (true, [([], []), ([], []), ([0, 1], [0, 1]), ([2], [2]), ([], []), ([], []), ([3, 4, 5], [3, 4, 5]), ([], []), ([], []), ([7, 8], [7, 8]), ([9], [9]), ([], []), ([], []), ([10, 11, 12, 6], [10, 11, 12]), ([6, 13], [6, 13])])
def telemeterlaw12_tells.B9 : List Nat := [0, 0, 3, 7, 0, 0, 63, 0, 0, 384, 896, 0, 0, 8191, 16383]
theorem telemeterlaw12_tells.tab9 : rtab .any (opsOf Try.f17 9) = telemeterlaw12_tells.T9 := by kernel_rfl
theorem telemeterlaw12_tells.bits9 : waitsOk telemeterlaw12_tells.T9.2 telemeterlaw12_tells.B9 = true := by kernel_rfl
set_option maxHeartbeats 8000000 in
set_option maxRecDepth 100000 in
theorem telemeterlaw12_tells.calls (k : Nat) (A0 : Option Addr) (c0 : Nat) (l0 : List (List (S39))) (A1 : Option Addr) (c1 : Nat) (l1 : List (S36)) (a2 : Int) (r : Bool) (w : World) (hr0 : Kd.C (Kd.slice 39 k39) w A0 l0.length l0) (hc0 : l0.length ≤ c0) (hr1 : Kd.C k36 w A1 l1.length l1) (hc1 : l1.length ≤ c1) (h : telemeterlaw12_tells.f k l0 l1 a2 = some r) :
  Calls Try.prog 17 #[.slice A0 l0.length c0, .slice A1 l1.length c1, .int .u64 a2] w fun e w' => e = .returned (.bool r) ∧ Below w.heap.size w w' := by
 have hu39 := Try.underlying39
 have HR0 := Aside0.mk hr0
 have HC0 := Aside0.mk hc0
 clear hr0 hc0
 have HR1 := Aside0.mk hr1
 have HC1 := Aside0.mk hc1
 clear hr1 hc1
 have HB := Aside0.mk (Below.refl w.heap.size w)
 have H : (telemeterlaw12_tells.l0 k l0 l1 a2 0) = some r := h
 clear h
 have H' := Aside0.mk H
 clear H
 go_enter Try.func17, Try.ntmps17
 go_wp2
 go_loopg [7] k (fun kq v7 w' => ∃ (x7_1 : Int), v7 = .int .i64 x7_1 ∧ Aside0 (telemeterlaw12_tells.l0 kq l0 l1 a2 x7_1 = some r) ∧ Aside0 (kq ≤ k) ∧ Aside0 (Below w.heap.size w w'))
 case atStart => exact ⟨(0), (by first | rfl | (simp; done) | (simp [*]; done)), H', ⟨Nat.le_refl _⟩, ⟨by repeat (first | (with_reducible first | exact HB.out | apply below_alloc | apply pw_below_drewN | apply below_drew1) | exact HB.out)⟩⟩
 case round =>
  clear H'
  try clear c1
  try clear p2
  obtain ⟨x7_1, rfl, HA, HK1, HB⟩ := hrel
  cases gk with
  | zero => exact absurd HA.out (by simp [telemeterlaw12_tells.l0])
  | succ k1 =>
   have H := HA.out
   clear HA
   simp only [telemeterlaw12_tells.l0] at H
   by_cases c4 : x7_1 < (l0.length : Int)
   ·rw [if_pos c4] at H
    have c4b0 : decide (x7_1 < (l0.length : Int)) = true := decide_eq_true c4
    clear c4
    have H' := Aside0.mk H
    clear H
    go_wp2
    go_loopg [8] k1 (fun kq v8 w' => ∃ (x8_2 : Int), v8 = .int .i64 x8_2 ∧ Aside0 (telemeterlaw12_tells.l1 kq l0 l1 a2 x7_1 x8_2 = some r) ∧ Aside0 (kq ≤ k1) ∧ Aside0 (Below w.heap.size w w'))
    case atStart => exact ⟨(0), (by first | rfl | (simp; done) | (simp [*]; done)), H', ⟨Nat.le_refl _⟩, ⟨by repeat (first | (with_reducible first | exact HB.out | apply below_alloc | apply pw_below_drewN | apply below_drew1) | exact HB.out)⟩⟩
    case round =>
     clear H'
     try clear c1
     try clear p2
     try clear c4
     try clear c4b0
     try clear p2
     obtain ⟨x8_2, rfl, HA, HK2, HB⟩ := hrel
     cases gk with
     | zero => exact absurd HA.out (by simp [telemeterlaw12_tells.l1])
     | succ k2 =>
      have H := HA.out
      clear HA
      simp only [telemeterlaw12_tells.l1] at H
      by_cases c5 : 0 ≤ x7_1
      ·rw [if_pos c5] at H
       have c5b0 : decide (0 ≤ x7_1) = true := decide_eq_true c5
       clear c5
       by_cases c6 : x7_1 < (l0.length : Int)
       ·rw [if_pos c6] at H
        have c6b0 : decide (x7_1 < (l0.length : Int)) = true := decide_eq_true c6
        clear c6
        by_cases c7 : x8_2 < ((rd_L4 l0 x7_1).length : Int)
        ·rw [if_pos c7] at H
         have c7b0 : decide (x8_2 < ((rd_L4 l0 x7_1).length : Int)) = true := decide_eq_true c7
         clear c7
         by_cases c8 : 0 ≤ x8_2
         ·rw [if_pos c8] at H
          have c8b0 : decide (0 ≤ x8_2) = true := decide_eq_true c8
          clear c8
          replace H := Option.bind_eq_some_iff.mp H
          obtain ⟨t235, A90, H⟩ := H
          replace H : ((telemeterref12_Holds.f k2 ((rd_T39 (rd_L4 l0 x7_1) x8_2).f0) ((rd_T39 (rd_L4 l0 x7_1) x8_2).f1) ((rd_T39 (rd_L4 l0 x7_1) x8_2).f2) ((rd_T39 (rd_L4 l0 x7_1) x8_2).f3) l1 a2).bind fun t238 => (if (t235 != t238) = true then (some false) else (telemeterlaw12_tells.l1 k2 l0 l1 a2 x7_1 (wrap64 (x8_2 + 1))))) = some r := H
          have A9 := Aside0.mk A90
          clear A90
          replace H := Option.bind_eq_some_iff.mp H
          obtain ⟨t238, A100, H⟩ := H
          replace H : (if (t235 != t238) = true then (some false) else (telemeterlaw12_tells.l1 k2 l0 l1 a2 x7_1 (wrap64 (x8_2 + 1)))) = some r := H
          have A10 := Aside0.mk A100
          clear A100
          by_cases c11 : (t235 != t238) = true
          ·rw [if_pos c11] at H
           have c11b0 : (t235 != t238) = true := c11
           (try (have c11b1 : decide (t235 = t238) = false := by simpa using c11))
           (try (have c11b2 : (t235 == t238) = false := by simpa using c11))
           (try (have c11b3 : ¬ (t235 = t238) := by simpa using c11))
           clear c11
           obtain rfl := Option.some.inj H
           have p232 : 0 ≤ (x7_1 : Int) := of_decide_eq_true (by first | (with_reducible assumption) | assumption)
           have q232 : x7_1 < (l0.length : Int) := of_decide_eq_true (by first | (with_reducible assumption) | assumption)
           obtain ⟨ad232, A232_0, c232_0, e232, hx232_0, hl232_0, hi232_0⟩ := at_L4 HR0.out x7_1 p232 q232
           cases e232
           replace hx232_0 := (HB.out.cell (World.block_lt_of_cell? w _ hx232_0)).trans hx232_0
           have HR232_0 := Aside0.mk hi232_0
           have HC232_0 := Aside0.mk hl232_0
           clear hi232_0 hl232_0
           replace p232 := eq_true p232
           replace q232 := eq_true q232
           try go_wp2
           have n0_ := Aside0.mk (below_drew1 HB.out)
           clear HB
           have HB := n0_
           clear n0_
           have p233 : 0 ≤ (x7_1 : Int) := of_decide_eq_true (by first | (with_reducible assumption) | assumption)
           have q233 : x7_1 < (l0.length : Int) := of_decide_eq_true (by first | (with_reducible assumption) | assumption)
           obtain ⟨ad233, A233_0, c233_0, e233, hx233_0, hl233_0, hi233_0⟩ := at_L4 HR0.out x7_1 p233 q233
           have hw233_0 := hx233_0
           obtain rfl : ad232 = ad233 := (by injection e233)
           replace hx233_0 := (HB.out.cell (World.block_lt_of_cell? w _ hx233_0)).trans hx233_0
           have HR233_0 := Aside0.mk hi233_0
           have HC233_0 := Aside0.mk hl233_0
           clear hi233_0 hl233_0
           replace p233 := eq_true p233
           replace q233 := eq_true q233
           have p234 : 0 ≤ (x8_2 : Int) := of_decide_eq_true (by first | (with_reducible assumption) | assumption)
           have q234 : x8_2 < ((rd_L4 l0 x7_1).length : Int) := of_decide_eq_true (by first | (with_reducible assumption) | assumption)
           obtain ⟨ad234, e234, hx234_0, hx234_1, hx234_2, hx234_3⟩ := at_T39 HR233_0.out x8_2 p234 q234
           have hw234_3 := hx234_3
           have hw234_2 := hx234_2
           have hw234_1 := hx234_1
           have hw234_0 := hx234_0
           cases e234
           replace hx234_0 := (HB.out.cell (World.block_lt_of_cell? w _ hx234_0)).trans hx234_0
           replace hx234_1 := (HB.out.cell (World.block_lt_of_cell? w _ hx234_1)).trans hx234_1
           replace hx234_2 := (HB.out.cell (World.block_lt_of_cell? w _ hx234_2)).trans hx234_2
           replace hx234_3 := (HB.out.cell (World.block_lt_of_cell? w _ hx234_3)).trans hx234_3
           replace p234 := eq_true p234
           replace q234 := eq_true q234
           have p236 : 0 ≤ (x7_1 : Int) := of_decide_eq_true (by first | (with_reducible assumption) | assumption)
           have q236 : x7_1 < (l0.length : Int) := of_decide_eq_true (by first | (with_reducible assumption) | assumption)
           obtain ⟨ad236, A236_0, c236_0, e236, hx236_0, hl236_0, hi236_0⟩ := at_L4 HR0.out x7_1 p236 q236
           have hw236_0 := hx236_0
           obtain rfl : ad232 = ad236 := (by injection e236)
           replace hx236_0 := (HB.out.cell (World.block_lt_of_cell? w _ hx236_0)).trans hx236_0
           have HR236_0 := Aside0.mk hi236_0
           have HC236_0 := Aside0.mk hl236_0
           clear hi236_0 hl236_0
           replace p236 := eq_true p236
           replace q236 := eq_true q236
           have ea_ := Option.some.inj (hx233_0.symm.trans hx236_0)
           injection ea_ with ea_ en_ ec_
           subst ea_
           subst ec_
           clear en_
           have p237 : 0 ≤ (x8_2 : Int) := of_decide_eq_true (by first | (with_reducible assumption) | assumption)
           have q237 : x8_2 < ((rd_L4 l0 x7_1).length : Int) := of_decide_eq_true (by first | (with_reducible assumption) | assumption)
           obtain ⟨ad237, e237, hx237_0, hx237_1, hx237_2, hx237_3⟩ := at_T39 HR236_0.out x8_2 p237 q237
           have hw237_3 := hx237_3
           have hw237_2 := hx237_2
           have hw237_1 := hx237_1
           have hw237_0 := hx237_0
           cases e237
           replace hx237_0 := (HB.out.cell (World.block_lt_of_cell? w _ hx237_0)).trans hx237_0
           replace hx237_1 := (HB.out.cell (World.block_lt_of_cell? w _ hx237_1)).trans hx237_1
           replace hx237_2 := (HB.out.cell (World.block_lt_of_cell? w _ hx237_2)).trans hx237_2
           replace hx237_3 := (HB.out.cell (World.block_lt_of_cell? w _ hx237_3)).trans hx237_3
           replace p237 := eq_true p237
           replace q237 := eq_true q237
           refine start_ (n := 21) (S := fun w' => w'.cell? (ad232.add (x7_1).toNat) = some (.slice (some ad234) (rd_L4 l0 x7_1).length c233_0) ∧ w'.cell? (ad234.add ((x8_2).toNat * 4)) = some (.int .u8 ((rd_T39 (rd_L4 l0 x7_1) x8_2).f0)) ∧ w'.cell? ⟨(ad234.add ((x8_2).toNat * 4)).block, (ad234.add ((x8_2).toNat * 4)).off + 1, none⟩ = some (.int .i64 ((rd_T39 (rd_L4 l0 x7_1) x8_2).f1)) ∧ w'.cell? ⟨(ad234.add ((x8_2).toNat * 4)).block, (ad234.add ((x8_2).toNat * 4)).off + 2, none⟩ = some (.string ((rd_T39 (rd_L4 l0 x7_1) x8_2).f2)) ∧ w'.cell? ⟨(ad234.add ((x8_2).toNat * 4)).block, (ad234.add ((x8_2).toNat * 4)).off + 3, none⟩ = some (.string ((rd_T39 (rd_L4 l0 x7_1) x8_2).f3)) ∧ w'.cell? (ad232.add (x7_1).toNat) = some (.slice (some ad234) (rd_L4 l0 x7_1).length c233_0) ∧ w'.cell? (ad234.add ((x8_2).toNat * 4)) = some (.int .u8 ((rd_T39 (rd_L4 l0 x7_1) x8_2).f0)) ∧ w'.cell? ⟨(ad234.add ((x8_2).toNat * 4)).block, (ad234.add ((x8_2).toNat * 4)).off + 1, none⟩ = some (.int .i64 ((rd_T39 (rd_L4 l0 x7_1) x8_2).f1)) ∧ w'.cell? ⟨(ad234.add ((x8_2).toNat * 4)).block, (ad234.add ((x8_2).toNat * 4)).off + 2, none⟩ = some (.string ((rd_T39 (rd_L4 l0 x7_1) x8_2).f2)) ∧ w'.cell? ⟨(ad234.add ((x8_2).toNat * 4)).block, (ad234.add ((x8_2).toNat * 4)).off + 3, none⟩ = some (.string ((rd_T39 (rd_L4 l0 x7_1) x8_2).f3))) (ds := []) #[false, false, false, false, false, false, false, false, false, false, false, false, false, false, false, false, false, false, false, false, false] (by kernel_rfl) rfl rfl ⟨((HB.out.cell (World.block_lt_of_cell? w _ hw233_0)).trans hw233_0), ((HB.out.cell (World.block_lt_of_cell? w _ hw234_0)).trans hw234_0), ((HB.out.cell (World.block_lt_of_cell? w _ hw234_1)).trans hw234_1), ((HB.out.cell (World.block_lt_of_cell? w _ hw234_2)).trans hw234_2), ((HB.out.cell (World.block_lt_of_cell? w _ hw234_3)).trans hw234_3), ((HB.out.cell (World.block_lt_of_cell? w _ hw236_0)).trans hw236_0), ((HB.out.cell (World.block_lt_of_cell? w _ hw237_0)).trans hw237_0), ((HB.out.cell (World.block_lt_of_cell? w _ hw237_1)).trans hw237_1), ((HB.out.cell (World.block_lt_of_cell? w _ hw237_2)).trans hw237_2), ((HB.out.cell (World.block_lt_of_cell? w _ hw237_3)).trans hw237_3)⟩ (fun hHeld => ?_); refine with_tabW telemeterlaw12_tells.tab7 telemeterlaw12_tells.bits7 (fun HT_ HW_ => ?_)
           generalize wr.drew = w12 at HB HR233_0 HR236_0 hx233_0 hx234_0 hx234_1 hx234_2 hx234_3 hx236_0 hx237_0 hx237_1 hx237_2 hx237_3 hHeld ⊢
           refine pure_ (i := 0) (N := some 24) (v := ?_) (a' := ?_) #[true, false, false, false, false, false, false, false, false, false, false, false, false, false, false, false, false, false, false, false, false] rfl rfl (any_of HT_.out (by kernel_rfl)) (fun _ _ _ h => h) (Or.inl ⟨by rfl, ?_⟩) ?_ ?_
           rotate_left
           ·intro w'
            go_simp
            with_reducible rfl
           rotate_left
           ·simp only [Act.put, List.setIfInBounds_toArray, List.set_cons_zero, List.set_cons_succ, i64_w, i32_w]
            rfl
           refine pure_ (i := 1) (N := some 25) (v := ?_) (a' := ?_) #[true, true, false, false, false, false, false, false, false, false, false, false, false, false, false, false, false, false, false, false, false] rfl rfl (any_of HT_.out (by kernel_rfl)) (fun _ _ _ h => h) (Or.inl ⟨by rfl, ?_⟩) ?_ ?_
           rotate_left
           ·intro w'
            go_simp
            with_reducible rfl
           rotate_left
           ·simp only [Act.put, List.setIfInBounds_toArray, List.set_cons_zero, List.set_cons_succ, i64_w, i32_w]
            rfl
           refine pure_ (i := 2) (N := some 26) (v := ?_) (a' := ?_) #[true, true, true, false, false, false, false, false, false, false, false, false, false, false, false, false, false, false, false, false, false] rfl rfl (any_of HT_.out (by kernel_rfl)) (fun _ _ _ h => h) (Or.inl ⟨by rfl, ?_⟩) ?_ ?_
           rotate_left
           ·intro w'
            go_simp
            with_reducible rfl
           rotate_left
           ·simp only [Act.put, List.setIfInBounds_toArray, List.set_cons_zero, List.set_cons_succ, i64_w, i32_w]
            rfl
           refine pure_ (i := 4) (N := some 28) (v := ?_) (a' := ?_) #[true, true, true, false, true, false, false, false, false, false, false, false, false, false, false, false, false, false, false, false, false] rfl rfl (any_of HT_.out (by kernel_rfl)) (fun _ _ _ h => h) (Or.inl ⟨by rfl, ?_⟩) ?_ ?_
           rotate_left
           ·intro w'
            go_simp
            with_reducible rfl
           rotate_left
           ·simp only [Act.put, List.setIfInBounds_toArray, List.set_cons_zero, List.set_cons_succ, i64_w, i32_w]
            rfl
           refine pure_ (i := 7) (N := some 31) (v := ?_) (a' := ?_) #[true, true, true, false, true, false, false, true, false, false, false, false, false, false, false, false, false, false, false, false, false] rfl rfl (any_of HT_.out (by kernel_rfl)) (fun _ _ _ h => h) (Or.inl ⟨by rfl, ?_⟩) ?_ ?_
           rotate_left
           ·intro w'
            go_simp
            with_reducible rfl
           rotate_left
           ·simp only [Act.put, List.setIfInBounds_toArray, List.set_cons_zero, List.set_cons_succ, i64_w, i32_w]
            rfl
           refine pure_ (i := 8) (N := some 32) (v := ?_) (a' := ?_) #[true, true, true, false, true, false, false, true, true, false, false, false, false, false, false, false, false, false, false, false, false] rfl rfl (any_of HT_.out (by kernel_rfl)) (fun _ _ _ h => h) (Or.inl ⟨by rfl, ?_⟩) ?_ ?_
           rotate_left
           ·intro w'
            go_simp
            with_reducible rfl
           rotate_left
           ·simp only [Act.put, List.setIfInBounds_toArray, List.set_cons_zero, List.set_cons_succ, i64_w, i32_w]
            rfl
           refine pure_ (i := 10) (N := some 34) (v := ?_) (a' := ?_) #[true, true, true, false, true, false, false, true, true, false, true, false, false, false, false, false, false, false, false, false, false] rfl rfl (any_of HT_.out (by kernel_rfl)) (fun _ _ _ h => h) (Or.inl ⟨by rfl, ?_⟩) ?_ ?_
           rotate_left
           ·intro w'
            go_simp
            with_reducible rfl
           rotate_left
           ·simp only [Act.put, List.setIfInBounds_toArray, List.set_cons_zero, List.set_cons_succ, i64_w, i32_w]
            rfl
           refine pure_ (i := 11) (N := some 35) (v := ?_) (a' := ?_) #[true, true, true, false, true, false, false, true, true, false, true, true, false, false, false, false, false, false, false, false, false] rfl rfl (any_of HT_.out (by kernel_rfl)) (fun _ _ _ h => h) (Or.inl ⟨by rfl, ?_⟩) ?_ ?_
           rotate_left
           ·intro w'
            go_simp
            with_reducible rfl
           rotate_left
           ·simp only [Act.put, List.setIfInBounds_toArray, List.set_cons_zero, List.set_cons_succ, i64_w, i32_w]
            rfl
           refine pure_ (i := 12) (N := some 36) (v := ?_) (a' := ?_) #[true, true, true, false, true, false, false, true, true, false, true, true, true, false, false, false, false, false, false, false, false] rfl rfl (any_of HT_.out (by kernel_rfl)) (fun _ _ _ h => h) (Or.inl ⟨by rfl, ?_⟩) ?_ ?_
           rotate_left
           ·intro w'
            go_simp
            with_reducible rfl
           rotate_left
           ·simp only [Act.put, List.setIfInBounds_toArray, List.set_cons_zero, List.set_cons_succ, i64_w, i32_w]
            rfl
           refine pure_ (i := 14) (N := some 38) (v := ?_) (a' := ?_) #[true, true, true, false, true, false, false, true, true, false, true, true, true, false, true, false, false, false, false, false, false] rfl rfl (any_of HT_.out (by kernel_rfl)) (fun _ _ _ h => h) (Or.inl ⟨by rfl, ?_⟩) ?_ ?_
           rotate_left
           ·intro w'
            go_simp
            with_reducible rfl
           rotate_left
           ·simp only [Act.put, List.setIfInBounds_toArray, List.set_cons_zero, List.set_cons_succ, i64_w, i32_w]
            rfl
           refine pure_ (i := 17) (N := some 41) (v := ?_) (a' := ?_) #[true, true, true, false, true, false, false, true, true, false, true, true, true, false, true, false, false, true, false, false, false] rfl rfl (any_of HT_.out (by kernel_rfl)) (fun _ _ _ h => h) (Or.inl ⟨by rfl, ?_⟩) ?_ ?_
           rotate_left
           ·intro w'
            go_simp
            with_reducible rfl
           rotate_left
           ·simp only [Act.put, List.setIfInBounds_toArray, List.set_cons_zero, List.set_cons_succ, i64_w, i32_w]
            rfl
           refine pure_ (i := 18) (N := some 42) (v := ?_) (a' := ?_) #[true, true, true, false, true, false, false, true, true, false, true, true, true, false, true, false, false, true, true, false, false] rfl rfl (any_of HT_.out (by kernel_rfl)) (fun _ _ _ h => h) (Or.inl ⟨by rfl, ?_⟩) ?_ ?_
           rotate_left
           ·intro w'
            go_simp
            with_reducible rfl
           rotate_left
           ·simp only [Act.put, List.setIfInBounds_toArray, List.set_cons_zero, List.set_cons_succ, i64_w, i32_w]
            rfl
           refine take_ (i := 3) (N := some 27) (v := ?_) (a' := ?_) #[true, true, true, true, true, false, false, true, true, false, true, true, true, false, true, false, false, true, true, false, false] rfl rfl (take_ofW HT_.out HW_.out (by kernel_rfl)) (fun _ _ _ h => h) (Or.inl ⟨by rfl, ?_⟩) hHeld ?_ ?_
           rotate_left
           ·rintro w' ⟨s0, s1, s2, s3, s4, s5, s6, s7, s8, s9⟩
            go_simp
            with_reducible rfl
           rotate_left
           ·simp only [Act.put, List.setIfInBounds_toArray, List.set_cons_zero, List.set_cons_succ, i64_w, i32_w]
            rfl
           refine pure_ (i := 5) (N := some 29) (v := ?_) (a' := ?_) #[true, true, true, true, true, true, false, true, true, false, true, true, true, false, true, false, false, true, true, false, false] rfl rfl (any_of HT_.out (by kernel_rfl)) (fun _ _ _ h => h) (Or.inl ⟨by rfl, ?_⟩) ?_ ?_
           rotate_left
           ·intro w'
            go_simp
            with_reducible rfl
           rotate_left
           ·simp only [Act.put, List.setIfInBounds_toArray, List.set_cons_zero, List.set_cons_succ, i64_w, i32_w]
            rfl
           refine take_ (i := 6) (N := some 30) (v := ?_) (a' := ?_) #[true, true, true, true, true, true, true, true, true, false, true, true, true, false, true, false, false, true, true, false, false] rfl rfl (take_ofW HT_.out HW_.out (by kernel_rfl)) (fun _ _ _ h => h) (Or.inl ⟨by rfl, ?_⟩) hHeld ?_ ?_
           rotate_left
           ·rintro w' ⟨s0, s1, s2, s3, s4, s5, s6, s7, s8, s9⟩
            go_simp
            with_reducible rfl
           rotate_left
           ·simp only [Act.put, List.setIfInBounds_toArray, List.set_cons_zero, List.set_cons_succ, i64_w, i32_w]
            rfl
           refine take_ (i := 13) (N := some 37) (v := ?_) (a' := ?_) #[true, true, true, true, true, true, true, true, true, false, true, true, true, true, true, false, false, true, true, false, false] rfl rfl (take_ofW HT_.out HW_.out (by kernel_rfl)) (fun _ _ _ h => h) (Or.inl ⟨by rfl, ?_⟩) hHeld ?_ ?_
           rotate_left
           ·rintro w' ⟨s0, s1, s2, s3, s4, s5, s6, s7, s8, s9⟩
            go_simp
            with_reducible rfl
           rotate_left
           ·simp only [Act.put, List.setIfInBounds_toArray, List.set_cons_zero, List.set_cons_succ, i64_w, i32_w]
            rfl
           refine pure_ (i := 15) (N := some 39) (v := ?_) (a' := ?_) #[true, true, true, true, true, true, true, true, true, false, true, true, true, true, true, true, false, true, true, false, false] rfl rfl (any_of HT_.out (by kernel_rfl)) (fun _ _ _ h => h) (Or.inl ⟨by rfl, ?_⟩) ?_ ?_
           rotate_left
           ·intro w'
            go_simp
            with_reducible rfl
           rotate_left
           ·simp only [Act.put, List.setIfInBounds_toArray, List.set_cons_zero, List.set_cons_succ, i64_w, i32_w]
            rfl
           refine take_ (i := 16) (N := some 40) (v := ?_) (a' := ?_) #[true, true, true, true, true, true, true, true, true, false, true, true, true, true, true, true, true, true, true, false, false] rfl rfl (take_ofW HT_.out HW_.out (by kernel_rfl)) (fun _ _ _ h => h) (Or.inl ⟨by rfl, ?_⟩) hHeld ?_ ?_
           rotate_left
           ·rintro w' ⟨s0, s1, s2, s3, s4, s5, s6, s7, s8, s9⟩
            go_simp
            with_reducible rfl
           rotate_left
           ·simp only [Act.put, List.setIfInBounds_toArray, List.set_cons_zero, List.set_cons_succ, i64_w, i32_w]
            rfl
           refine one_ (i := 9) (N := some 33) #[true, true, true, true, true, true, true, true, true, true, true, true, true, true, true, true, true, true, true, false, false] rfl rfl (one_of HT_.out (by kernel_rfl)) (by decide) (fun K hK => ?_)
           refine goes_ Try.func14 (by kernel_rfl) rfl #[.agg #[.int .u8 ((rd_T39 (rd_L4 l0 x7_1) x8_2).f0), .int .i64 ((rd_T39 (rd_L4 l0 x7_1) x8_2).f1), .string ((rd_T39 (rd_L4 l0 x7_1) x8_2).f2), .string ((rd_T39 (rd_L4 l0 x7_1) x8_2).f3)], .slice A1 l1.length c1, .int .u64 a2] (by rfl) rfl rfl (by (try simp only [List.map_toArray, List.map_cons, List.map_nil]); first | done | rfl | (simp only [List.length_drop, List.length_take]; rfl)) ?_
           with_reducible refine (policy_Holds.calls ((rd_T39 (rd_L4 l0 x7_1) x8_2).f0) ((rd_T39 (rd_L4 l0 x7_1) x8_2).f1) ((rd_T39 (rd_L4 l0 x7_1) x8_2).f2) ((rd_T39 (rd_L4 l0 x7_1) x8_2).f3) _ _ l1 a2 t235 _ ?side1 ?side2 A9.out).mono ?_
           (case side1 => repeat (first | exact (Kd.C_below HR1.out HB.out) | (with_reducible refine Kd.C_alloc ?_ _) | (with_reducible refine Kd.C_drewN ?_ _) | (with_reducible refine Kd.C_drew ?_)))
           (case side2 => exact HC1.out)
           rintro e w13 ⟨rfl, hb⟩
           try (have HRz_ := Aside0.mk (Kd.C_below HR233_0.out hb); clear HR233_0; have HR233_0 := HRz_; clear HRz_)
           try (have HRz_ := Aside0.mk (Kd.C_below HR236_0.out hb); clear HR236_0; have HR236_0 := HRz_; clear HRz_)
           refine ⟨_, rfl, ?_⟩
           have n0_ := Aside0.mk (below_step (by repeat (first | (with_reducible first | exact HB.out | apply below_alloc | apply pw_below_drewN | apply below_drew1) | exact HB.out)) hb)
           clear HB
           have HB := n0_
           clear n0_
           (try clear hb)
           (try clear hb2)
           (try clear hk)
           (try clear hi)
           refine hK.out _ _ ⟨((HB.out.cell (World.block_lt_of_cell? w _ hw233_0)).trans hw233_0), ((HB.out.cell (World.block_lt_of_cell? w _ hw234_0)).trans hw234_0), ((HB.out.cell (World.block_lt_of_cell? w _ hw234_1)).trans hw234_1), ((HB.out.cell (World.block_lt_of_cell? w _ hw234_2)).trans hw234_2), ((HB.out.cell (World.block_lt_of_cell? w _ hw234_3)).trans hw234_3), ((HB.out.cell (World.block_lt_of_cell? w _ hw236_0)).trans hw236_0), ((HB.out.cell (World.block_lt_of_cell? w _ hw237_0)).trans hw237_0), ((HB.out.cell (World.block_lt_of_cell? w _ hw237_1)).trans hw237_1), ((HB.out.cell (World.block_lt_of_cell? w _ hw237_2)).trans hw237_2), ((HB.out.cell (World.block_lt_of_cell? w _ hw237_3)).trans hw237_3)⟩ (fun hHeld => ?_)
           clear hK K
           refine norm_ (a' := ?_) ?_ ?_
           rotate_left
           ·show Act.put _ (some 33) _ = _
            simp only [Act.put, List.setIfInBounds_toArray, List.set_cons_zero, List.set_cons_succ, i64_w, i32_w]
            rfl
           refine one_ (i := 19) (N := some 43) #[true, true, true, true, true, true, true, true, true, true, true, true, true, true, true, true, true, true, true, true, false] rfl rfl (one_of HT_.out (by kernel_rfl)) (by decide) (fun K hK => ?_)
           refine goes_ Try.func28 (by kernel_rfl) rfl #[.agg #[.int .u8 ((rd_T39 (rd_L4 l0 x7_1) x8_2).f0), .int .i64 ((rd_T39 (rd_L4 l0 x7_1) x8_2).f1), .string ((rd_T39 (rd_L4 l0 x7_1) x8_2).f2), .string ((rd_T39 (rd_L4 l0 x7_1) x8_2).f3)], .slice A1 l1.length c1, .int .u64 a2] (by rfl) rfl rfl (by (try simp only [List.map_toArray, List.map_cons, List.map_nil]); first | done | rfl | (simp only [List.length_drop, List.length_take]; rfl)) ?_
           with_reducible refine (telemeterref12_Holds.calls k2 ((rd_T39 (rd_L4 l0 x7_1) x8_2).f0) ((rd_T39 (rd_L4 l0 x7_1) x8_2).f1) ((rd_T39 (rd_L4 l0 x7_1) x8_2).f2) ((rd_T39 (rd_L4 l0 x7_1) x8_2).f3) _ _ l1 a2 t238 _ ?side1 ?side2 A10.out).mono ?_
           (case side1 => repeat (first | exact (Kd.C_below HR1.out HB.out) | (with_reducible refine Kd.C_alloc ?_ _) | (with_reducible refine Kd.C_drewN ?_ _) | (with_reducible refine Kd.C_drew ?_)))
           (case side2 => exact HC1.out)
           rintro e w14 ⟨rfl, hb⟩
           try (have HRz_ := Aside0.mk (Kd.C_below HR233_0.out hb); clear HR233_0; have HR233_0 := HRz_; clear HRz_)
           try (have HRz_ := Aside0.mk (Kd.C_below HR236_0.out hb); clear HR236_0; have HR236_0 := HRz_; clear HRz_)
           refine ⟨_, rfl, ?_⟩
           have n0_ := Aside0.mk (below_step (by repeat (first | (with_reducible first | exact HB.out | apply below_alloc | apply pw_below_drewN | apply below_drew1) | exact HB.out)) hb)
           clear HB
           have HB := n0_
           clear n0_
           (try clear hb)
           (try clear hb2)
           (try clear hk)
           (try clear hi)
           refine hK.out _ _ ⟨((HB.out.cell (World.block_lt_of_cell? w _ hw233_0)).trans hw233_0), ((HB.out.cell (World.block_lt_of_cell? w _ hw234_0)).trans hw234_0), ((HB.out.cell (World.block_lt_of_cell? w _ hw234_1)).trans hw234_1), ((HB.out.cell (World.block_lt_of_cell? w _ hw234_2)).trans hw234_2), ((HB.out.cell (World.block_lt_of_cell? w _ hw234_3)).trans hw234_3), ((HB.out.cell (World.block_lt_of_cell? w _ hw236_0)).trans hw236_0), ((HB.out.cell (World.block_lt_of_cell? w _ hw237_0)).trans hw237_0), ((HB.out.cell (World.block_lt_of_cell? w _ hw237_1)).trans hw237_1), ((HB.out.cell (World.block_lt_of_cell? w _ hw237_2)).trans hw237_2), ((HB.out.cell (World.block_lt_of_cell? w _ hw237_3)).trans hw237_3)⟩ (fun hHeld => ?_)
           clear hK K
           refine norm_ (a' := ?_) ?_ ?_
           rotate_left
           ·show Act.put _ (some 43) _ = _
            simp only [Act.put, List.setIfInBounds_toArray, List.set_cons_zero, List.set_cons_succ, i64_w, i32_w]
            rfl
           refine pure_ (i := 20) (N := some 44) (v := ?_) (a' := ?_) #[true, true, true, true, true, true, true, true, true, true, true, true, true, true, true, true, true, true, true, true, true] rfl rfl (any_of HT_.out (by kernel_rfl)) (fun _ _ _ h => h) (Or.inl ⟨by rfl, ?_⟩) ?_ ?_
           rotate_left
           ·intro w'
            go_simp
            with_reducible rfl
           rotate_left
           ·simp only [Act.put, List.setIfInBounds_toArray, List.set_cons_zero, List.set_cons_succ, i64_w, i32_w]
            rfl
           refine done_ (done_of HT_.out (by kernel_rfl)) ?_
           try go_wp2
           go_ret
           exact ⟨by first | rfl | (simp [errW_none, errW_some] <;> rfl) | (simp [*, errW_none, errW_some] <;> rfl), by repeat (first | (with_reducible first | exact HB.out | apply below_alloc | apply pw_below_drewN | apply below_drew1) | exact HB.out)⟩
          ·rw [if_neg c11] at H
           have c11b0 : (t235 != t238) = false := by simpa using c11
           (try (have c11b1 : decide (t235 = t238) = true := by simpa using c11))
           (try (have c11b2 : (t235 == t238) = true := by simpa using c11))
           clear c11
           have H' := Aside0.mk H
           clear H
           have p232 : 0 ≤ (x7_1 : Int) := of_decide_eq_true (by first | (with_reducible assumption) | assumption)
           have q232 : x7_1 < (l0.length : Int) := of_decide_eq_true (by first | (with_reducible assumption) | assumption)
           obtain ⟨ad232, A232_0, c232_0, e232, hx232_0, hl232_0, hi232_0⟩ := at_L4 HR0.out x7_1 p232 q232
           cases e232
           replace hx232_0 := (HB.out.cell (World.block_lt_of_cell? w _ hx232_0)).trans hx232_0
           have HR232_0 := Aside0.mk hi232_0
           have HC232_0 := Aside0.mk hl232_0
           clear hi232_0 hl232_0
           replace p232 := eq_true p232
           replace q232 := eq_true q232
           try go_wp2
           have n0_ := Aside0.mk (below_drew1 HB.out)
           clear HB
           have HB := n0_
           clear n0_
           have p233 : 0 ≤ (x7_1 : Int) := of_decide_eq_true (by first | (with_reducible assumption) | assumption)
           have q233 : x7_1 < (l0.length : Int) := of_decide_eq_true (by first | (with_reducible assumption) | assumption)
           obtain ⟨ad233, A233_0, c233_0, e233, hx233_0, hl233_0, hi233_0⟩ := at_L4 HR0.out x7_1 p233 q233
           have hw233_0 := hx233_0
           obtain rfl : ad232 = ad233 := (by injection e233)
           replace hx233_0 := (HB.out.cell (World.block_lt_of_cell? w _ hx233_0)).trans hx233_0
           have HR233_0 := Aside0.mk hi233_0
           have HC233_0 := Aside0.mk hl233_0
           clear hi233_0 hl233_0
           replace p233 := eq_true p233
           replace q233 := eq_true q233
           have p234 : 0 ≤ (x8_2 : Int) := of_decide_eq_true (by first | (with_reducible assumption) | assumption)
           have q234 : x8_2 < ((rd_L4 l0 x7_1).length : Int) := of_decide_eq_true (by first | (with_reducible assumption) | assumption)
           obtain ⟨ad234, e234, hx234_0, hx234_1, hx234_2, hx234_3⟩ := at_T39 HR233_0.out x8_2 p234 q234
           have hw234_3 := hx234_3
           have hw234_2 := hx234_2
           have hw234_1 := hx234_1
           have hw234_0 := hx234_0
           cases e234
           replace hx234_0 := (HB.out.cell (World.block_lt_of_cell? w _ hx234_0)).trans hx234_0
           replace hx234_1 := (HB.out.cell (World.block_lt_of_cell? w _ hx234_1)).trans hx234_1
           replace hx234_2 := (HB.out.cell (World.block_lt_of_cell? w _ hx234_2)).trans hx234_2
           replace hx234_3 := (HB.out.cell (World.block_lt_of_cell? w _ hx234_3)).trans hx234_3
           replace p234 := eq_true p234
           replace q234 := eq_true q234
           have p236 : 0 ≤ (x7_1 : Int) := of_decide_eq_true (by first | (with_reducible assumption) | assumption)
           have q236 : x7_1 < (l0.length : Int) := of_decide_eq_true (by first | (with_reducible assumption) | assumption)
           obtain ⟨ad236, A236_0, c236_0, e236, hx236_0, hl236_0, hi236_0⟩ := at_L4 HR0.out x7_1 p236 q236
           have hw236_0 := hx236_0
           obtain rfl : ad232 = ad236 := (by injection e236)
           replace hx236_0 := (HB.out.cell (World.block_lt_of_cell? w _ hx236_0)).trans hx236_0
           have HR236_0 := Aside0.mk hi236_0
           have HC236_0 := Aside0.mk hl236_0
           clear hi236_0 hl236_0
           replace p236 := eq_true p236
           replace q236 := eq_true q236
           have ea_ := Option.some.inj (hx233_0.symm.trans hx236_0)
           injection ea_ with ea_ en_ ec_
           subst ea_
           subst ec_
           clear en_
           have p237 : 0 ≤ (x8_2 : Int) := of_decide_eq_true (by first | (with_reducible assumption) | assumption)
           have q237 : x8_2 < ((rd_L4 l0 x7_1).length : Int) := of_decide_eq_true (by first | (with_reducible assumption) | assumption)
           obtain ⟨ad237, e237, hx237_0, hx237_1, hx237_2, hx237_3⟩ := at_T39 HR236_0.out x8_2 p237 q237
           have hw237_3 := hx237_3
           have hw237_2 := hx237_2
           have hw237_1 := hx237_1
           have hw237_0 := hx237_0
           cases e237
           replace hx237_0 := (HB.out.cell (World.block_lt_of_cell? w _ hx237_0)).trans hx237_0
           replace hx237_1 := (HB.out.cell (World.block_lt_of_cell? w _ hx237_1)).trans hx237_1
           replace hx237_2 := (HB.out.cell (World.block_lt_of_cell? w _ hx237_2)).trans hx237_2
           replace hx237_3 := (HB.out.cell (World.block_lt_of_cell? w _ hx237_3)).trans hx237_3
           replace p237 := eq_true p237
           replace q237 := eq_true q237
           refine start_ (n := 21) (S := fun w' => w'.cell? (ad232.add (x7_1).toNat) = some (.slice (some ad234) (rd_L4 l0 x7_1).length c233_0) ∧ w'.cell? (ad234.add ((x8_2).toNat * 4)) = some (.int .u8 ((rd_T39 (rd_L4 l0 x7_1) x8_2).f0)) ∧ w'.cell? ⟨(ad234.add ((x8_2).toNat * 4)).block, (ad234.add ((x8_2).toNat * 4)).off + 1, none⟩ = some (.int .i64 ((rd_T39 (rd_L4 l0 x7_1) x8_2).f1)) ∧ w'.cell? ⟨(ad234.add ((x8_2).toNat * 4)).block, (ad234.add ((x8_2).toNat * 4)).off + 2, none⟩ = some (.string ((rd_T39 (rd_L4 l0 x7_1) x8_2).f2)) ∧ w'.cell? ⟨(ad234.add ((x8_2).toNat * 4)).block, (ad234.add ((x8_2).toNat * 4)).off + 3, none⟩ = some (.string ((rd_T39 (rd_L4 l0 x7_1) x8_2).f3)) ∧ w'.cell? (ad232.add (x7_1).toNat) = some (.slice (some ad234) (rd_L4 l0 x7_1).length c233_0) ∧ w'.cell? (ad234.add ((x8_2).toNat * 4)) = some (.int .u8 ((rd_T39 (rd_L4 l0 x7_1) x8_2).f0)) ∧ w'.cell? ⟨(ad234.add ((x8_2).toNat * 4)).block, (ad234.add ((x8_2).toNat * 4)).off + 1, none⟩ = some (.int .i64 ((rd_T39 (rd_L4 l0 x7_1) x8_2).f1)) ∧ w'.cell? ⟨(ad234.add ((x8_2).toNat * 4)).block, (ad234.add ((x8_2).toNat * 4)).off + 2, none⟩ = some (.string ((rd_T39 (rd_L4 l0 x7_1) x8_2).f2)) ∧ w'.cell? ⟨(ad234.add ((x8_2).toNat * 4)).block, (ad234.add ((x8_2).toNat * 4)).off + 3, none⟩ = some (.string ((rd_T39 (rd_L4 l0 x7_1) x8_2).f3))) (ds := []) #[false, false, false, false, false, false, false, false, false, false, false, false, false, false, false, false, false, false, false, false, false] (by kernel_rfl) rfl rfl ⟨((HB.out.cell (World.block_lt_of_cell? w _ hw233_0)).trans hw233_0), ((HB.out.cell (World.block_lt_of_cell? w _ hw234_0)).trans hw234_0), ((HB.out.cell (World.block_lt_of_cell? w _ hw234_1)).trans hw234_1), ((HB.out.cell (World.block_lt_of_cell? w _ hw234_2)).trans hw234_2), ((HB.out.cell (World.block_lt_of_cell? w _ hw234_3)).trans hw234_3), ((HB.out.cell (World.block_lt_of_cell? w _ hw236_0)).trans hw236_0), ((HB.out.cell (World.block_lt_of_cell? w _ hw237_0)).trans hw237_0), ((HB.out.cell (World.block_lt_of_cell? w _ hw237_1)).trans hw237_1), ((HB.out.cell (World.block_lt_of_cell? w _ hw237_2)).trans hw237_2), ((HB.out.cell (World.block_lt_of_cell? w _ hw237_3)).trans hw237_3)⟩ (fun hHeld => ?_); refine with_tabW telemeterlaw12_tells.tab7 telemeterlaw12_tells.bits7 (fun HT_ HW_ => ?_)
           generalize wr.drew = w15 at HB HR233_0 HR236_0 hx233_0 hx234_0 hx234_1 hx234_2 hx234_3 hx236_0 hx237_0 hx237_1 hx237_2 hx237_3 hHeld ⊢
           refine pure_ (i := 0) (N := some 24) (v := ?_) (a' := ?_) #[true, false, false, false, false, false, false, false, false, false, false, false, false, false, false, false, false, false, false, false, false] rfl rfl (any_of HT_.out (by kernel_rfl)) (fun _ _ _ h => h) (Or.inl ⟨by rfl, ?_⟩) ?_ ?_
           rotate_left
           ·intro w'
            go_simp
            with_reducible rfl
           rotate_left
           ·simp only [Act.put, List.setIfInBounds_toArray, List.set_cons_zero, List.set_cons_succ, i64_w, i32_w]
            rfl
           refine pure_ (i := 1) (N := some 25) (v := ?_) (a' := ?_) #[true, true, false, false, false, false, false, false, false, false, false, false, false, false, false, false, false, false, false, false, false] rfl rfl (any_of HT_.out (by kernel_rfl)) (fun _ _ _ h => h) (Or.inl ⟨by rfl, ?_⟩) ?_ ?_
           rotate_left
           ·intro w'
            go_simp
            with_reducible rfl
           rotate_left
           ·simp only [Act.put, List.setIfInBounds_toArray, List.set_cons_zero, List.set_cons_succ, i64_w, i32_w]
            rfl
           refine pure_ (i := 2) (N := some 26) (v := ?_) (a' := ?_) #[true, true, true, false, false, false, false, false, false, false, false, false, false, false, false, false, false, false, false, false, false] rfl rfl (any_of HT_.out (by kernel_rfl)) (fun _ _ _ h => h) (Or.inl ⟨by rfl, ?_⟩) ?_ ?_
           rotate_left
           ·intro w'
            go_simp
            with_reducible rfl
           rotate_left
           ·simp only [Act.put, List.setIfInBounds_toArray, List.set_cons_zero, List.set_cons_succ, i64_w, i32_w]
            rfl
           refine pure_ (i := 4) (N := some 28) (v := ?_) (a' := ?_) #[true, true, true, false, true, false, false, false, false, false, false, false, false, false, false, false, false, false, false, false, false] rfl rfl (any_of HT_.out (by kernel_rfl)) (fun _ _ _ h => h) (Or.inl ⟨by rfl, ?_⟩) ?_ ?_
           rotate_left
           ·intro w'
            go_simp
            with_reducible rfl
           rotate_left
           ·simp only [Act.put, List.setIfInBounds_toArray, List.set_cons_zero, List.set_cons_succ, i64_w, i32_w]
            rfl
           refine pure_ (i := 7) (N := some 31) (v := ?_) (a' := ?_) #[true, true, true, false, true, false, false, true, false, false, false, false, false, false, false, false, false, false, false, false, false] rfl rfl (any_of HT_.out (by kernel_rfl)) (fun _ _ _ h => h) (Or.inl ⟨by rfl, ?_⟩) ?_ ?_
           rotate_left
           ·intro w'
            go_simp
            with_reducible rfl
           rotate_left
           ·simp only [Act.put, List.setIfInBounds_toArray, List.set_cons_zero, List.set_cons_succ, i64_w, i32_w]
            rfl
           refine pure_ (i := 8) (N := some 32) (v := ?_) (a' := ?_) #[true, true, true, false, true, false, false, true, true, false, false, false, false, false, false, false, false, false, false, false, false] rfl rfl (any_of HT_.out (by kernel_rfl)) (fun _ _ _ h => h) (Or.inl ⟨by rfl, ?_⟩) ?_ ?_
           rotate_left
           ·intro w'
            go_simp
            with_reducible rfl
           rotate_left
           ·simp only [Act.put, List.setIfInBounds_toArray, List.set_cons_zero, List.set_cons_succ, i64_w, i32_w]
            rfl
           refine pure_ (i := 10) (N := some 34) (v := ?_) (a' := ?_) #[true, true, true, false, true, false, false, true, true, false, true, false, false, false, false, false, false, false, false, false, false] rfl rfl (any_of HT_.out (by kernel_rfl)) (fun _ _ _ h => h) (Or.inl ⟨by rfl, ?_⟩) ?_ ?_
           rotate_left
           ·intro w'
            go_simp
            with_reducible rfl
           rotate_left
           ·simp only [Act.put, List.setIfInBounds_toArray, List.set_cons_zero, List.set_cons_succ, i64_w, i32_w]
            rfl
           refine pure_ (i := 11) (N := some 35) (v := ?_) (a' := ?_) #[true, true, true, false, true, false, false, true, true, false, true, true, false, false, false, false, false, false, false, false, false] rfl rfl (any_of HT_.out (by kernel_rfl)) (fun _ _ _ h => h) (Or.inl ⟨by rfl, ?_⟩) ?_ ?_
           rotate_left
           ·intro w'
            go_simp
            with_reducible rfl
           rotate_left
           ·simp only [Act.put, List.setIfInBounds_toArray, List.set_cons_zero, List.set_cons_succ, i64_w, i32_w]
            rfl
           refine pure_ (i := 12) (N := some 36) (v := ?_) (a' := ?_) #[true, true, true, false, true, false, false, true, true, false, true, true, true, false, false, false, false, false, false, false, false] rfl rfl (any_of HT_.out (by kernel_rfl)) (fun _ _ _ h => h) (Or.inl ⟨by rfl, ?_⟩) ?_ ?_
           rotate_left
           ·intro w'
            go_simp
            with_reducible rfl
           rotate_left
           ·simp only [Act.put, List.setIfInBounds_toArray, List.set_cons_zero, List.set_cons_succ, i64_w, i32_w]
            rfl
           refine pure_ (i := 14) (N := some 38) (v := ?_) (a' := ?_) #[true, true, true, false, true, false, false, true, true, false, true, true, true, false, true, false, false, false, false, false, false] rfl rfl (any_of HT_.out (by kernel_rfl)) (fun _ _ _ h => h) (Or.inl ⟨by rfl, ?_⟩) ?_ ?_
           rotate_left
           ·intro w'
            go_simp
            with_reducible rfl
           rotate_left
           ·simp only [Act.put, List.setIfInBounds_toArray, List.set_cons_zero, List.set_cons_succ, i64_w, i32_w]
            rfl
           refine pure_ (i := 17) (N := some 41) (v := ?_) (a' := ?_) #[true, true, true, false, true, false, false, true, true, false, true, true, true, false, true, false, false, true, false, false, false] rfl rfl (any_of HT_.out (by kernel_rfl)) (fun _ _ _ h => h) (Or.inl ⟨by rfl, ?_⟩) ?_ ?_
           rotate_left
           ·intro w'
            go_simp
            with_reducible rfl
           rotate_left
           ·simp only [Act.put, List.setIfInBounds_toArray, List.set_cons_zero, List.set_cons_succ, i64_w, i32_w]
            rfl
           refine pure_ (i := 18) (N := some 42) (v := ?_) (a' := ?_) #[true, true, true, false, true, false, false, true, true, false, true, true, true, false, true, false, false, true, true, false, false] rfl rfl (any_of HT_.out (by kernel_rfl)) (fun _ _ _ h => h) (Or.inl ⟨by rfl, ?_⟩) ?_ ?_
           rotate_left
           ·intro w'
            go_simp
            with_reducible rfl
           rotate_left
           ·simp only [Act.put, List.setIfInBounds_toArray, List.set_cons_zero, List.set_cons_succ, i64_w, i32_w]
            rfl
           refine take_ (i := 3) (N := some 27) (v := ?_) (a' := ?_) #[true, true, true, true, true, false, false, true, true, false, true, true, true, false, true, false, false, true, true, false, false] rfl rfl (take_ofW HT_.out HW_.out (by kernel_rfl)) (fun _ _ _ h => h) (Or.inl ⟨by rfl, ?_⟩) hHeld ?_ ?_
           rotate_left
           ·rintro w' ⟨s0, s1, s2, s3, s4, s5, s6, s7, s8, s9⟩
            go_simp
            with_reducible rfl
           rotate_left
           ·simp only [Act.put, List.setIfInBounds_toArray, List.set_cons_zero, List.set_cons_succ, i64_w, i32_w]
            rfl
           refine pure_ (i := 5) (N := some 29) (v := ?_) (a' := ?_) #[true, true, true, true, true, true, false, true, true, false, true, true, true, false, true, false, false, true, true, false, false] rfl rfl (any_of HT_.out (by kernel_rfl)) (fun _ _ _ h => h) (Or.inl ⟨by rfl, ?_⟩) ?_ ?_
           rotate_left
           ·intro w'
            go_simp
            with_reducible rfl
           rotate_left
           ·simp only [Act.put, List.setIfInBounds_toArray, List.set_cons_zero, List.set_cons_succ, i64_w, i32_w]
            rfl
           refine take_ (i := 6) (N := some 30) (v := ?_) (a' := ?_) #[true, true, true, true, true, true, true, true, true, false, true, true, true, false, true, false, false, true, true, false, false] rfl rfl (take_ofW HT_.out HW_.out (by kernel_rfl)) (fun _ _ _ h => h) (Or.inl ⟨by rfl, ?_⟩) hHeld ?_ ?_
           rotate_left
           ·rintro w' ⟨s0, s1, s2, s3, s4, s5, s6, s7, s8, s9⟩
            go_simp
            with_reducible rfl
           rotate_left
           ·simp only [Act.put, List.setIfInBounds_toArray, List.set_cons_zero, List.set_cons_succ, i64_w, i32_w]
            rfl
           refine take_ (i := 13) (N := some 37) (v := ?_) (a' := ?_) #[true, true, true, true, true, true, true, true, true, false, true, true, true, true, true, false, false, true, true, false, false] rfl rfl (take_ofW HT_.out HW_.out (by kernel_rfl)) (fun _ _ _ h => h) (Or.inl ⟨by rfl, ?_⟩) hHeld ?_ ?_
           rotate_left
           ·rintro w' ⟨s0, s1, s2, s3, s4, s5, s6, s7, s8, s9⟩
            go_simp
            with_reducible rfl
           rotate_left
           ·simp only [Act.put, List.setIfInBounds_toArray, List.set_cons_zero, List.set_cons_succ, i64_w, i32_w]
            rfl
           refine pure_ (i := 15) (N := some 39) (v := ?_) (a' := ?_) #[true, true, true, true, true, true, true, true, true, false, true, true, true, true, true, true, false, true, true, false, false] rfl rfl (any_of HT_.out (by kernel_rfl)) (fun _ _ _ h => h) (Or.inl ⟨by rfl, ?_⟩) ?_ ?_
           rotate_left
           ·intro w'
            go_simp
            with_reducible rfl
           rotate_left
           ·simp only [Act.put, List.setIfInBounds_toArray, List.set_cons_zero, List.set_cons_succ, i64_w, i32_w]
            rfl
           refine take_ (i := 16) (N := some 40) (v := ?_) (a' := ?_) #[true, true, true, true, true, true, true, true, true, false, true, true, true, true, true, true, true, true, true, false, false] rfl rfl (take_ofW HT_.out HW_.out (by kernel_rfl)) (fun _ _ _ h => h) (Or.inl ⟨by rfl, ?_⟩) hHeld ?_ ?_
           rotate_left
           ·rintro w' ⟨s0, s1, s2, s3, s4, s5, s6, s7, s8, s9⟩
            go_simp
            with_reducible rfl
           rotate_left
           ·simp only [Act.put, List.setIfInBounds_toArray, List.set_cons_zero, List.set_cons_succ, i64_w, i32_w]
            rfl
           refine one_ (i := 9) (N := some 33) #[true, true, true, true, true, true, true, true, true, true, true, true, true, true, true, true, true, true, true, false, false] rfl rfl (one_of HT_.out (by kernel_rfl)) (by decide) (fun K hK => ?_)
           refine goes_ Try.func14 (by kernel_rfl) rfl #[.agg #[.int .u8 ((rd_T39 (rd_L4 l0 x7_1) x8_2).f0), .int .i64 ((rd_T39 (rd_L4 l0 x7_1) x8_2).f1), .string ((rd_T39 (rd_L4 l0 x7_1) x8_2).f2), .string ((rd_T39 (rd_L4 l0 x7_1) x8_2).f3)], .slice A1 l1.length c1, .int .u64 a2] (by rfl) rfl rfl (by (try simp only [List.map_toArray, List.map_cons, List.map_nil]); first | done | rfl | (simp only [List.length_drop, List.length_take]; rfl)) ?_
           with_reducible refine (policy_Holds.calls ((rd_T39 (rd_L4 l0 x7_1) x8_2).f0) ((rd_T39 (rd_L4 l0 x7_1) x8_2).f1) ((rd_T39 (rd_L4 l0 x7_1) x8_2).f2) ((rd_T39 (rd_L4 l0 x7_1) x8_2).f3) _ _ l1 a2 t235 _ ?side1 ?side2 A9.out).mono ?_
           (case side1 => repeat (first | exact (Kd.C_below HR1.out HB.out) | (with_reducible refine Kd.C_alloc ?_ _) | (with_reducible refine Kd.C_drewN ?_ _) | (with_reducible refine Kd.C_drew ?_)))
           (case side2 => exact HC1.out)
           rintro e w16 ⟨rfl, hb⟩
           try (have HRz_ := Aside0.mk (Kd.C_below HR233_0.out hb); clear HR233_0; have HR233_0 := HRz_; clear HRz_)
           try (have HRz_ := Aside0.mk (Kd.C_below HR236_0.out hb); clear HR236_0; have HR236_0 := HRz_; clear HRz_)
           refine ⟨_, rfl, ?_⟩
           have n0_ := Aside0.mk (below_step (by repeat (first | (with_reducible first | exact HB.out | apply below_alloc | apply pw_below_drewN | apply below_drew1) | exact HB.out)) hb)
           clear HB
           have HB := n0_
           clear n0_
           (try clear hb)
           (try clear hb2)
           (try clear hk)
           (try clear hi)
           refine hK.out _ _ ⟨((HB.out.cell (World.block_lt_of_cell? w _ hw233_0)).trans hw233_0), ((HB.out.cell (World.block_lt_of_cell? w _ hw234_0)).trans hw234_0), ((HB.out.cell (World.block_lt_of_cell? w _ hw234_1)).trans hw234_1), ((HB.out.cell (World.block_lt_of_cell? w _ hw234_2)).trans hw234_2), ((HB.out.cell (World.block_lt_of_cell? w _ hw234_3)).trans hw234_3), ((HB.out.cell (World.block_lt_of_cell? w _ hw236_0)).trans hw236_0), ((HB.out.cell (World.block_lt_of_cell? w _ hw237_0)).trans hw237_0), ((HB.out.cell (World.block_lt_of_cell? w _ hw237_1)).trans hw237_1), ((HB.out.cell (World.block_lt_of_cell? w _ hw237_2)).trans hw237_2), ((HB.out.cell (World.block_lt_of_cell? w _ hw237_3)).trans hw237_3)⟩ (fun hHeld => ?_)
           clear hK K
           refine norm_ (a' := ?_) ?_ ?_
           rotate_left
           ·show Act.put _ (some 33) _ = _
            simp only [Act.put, List.setIfInBounds_toArray, List.set_cons_zero, List.set_cons_succ, i64_w, i32_w]
            rfl
           refine one_ (i := 19) (N := some 43) #[true, true, true, true, true, true, true, true, true, true, true, true, true, true, true, true, true, true, true, true, false] rfl rfl (one_of HT_.out (by kernel_rfl)) (by decide) (fun K hK => ?_)
           refine goes_ Try.func28 (by kernel_rfl) rfl #[.agg #[.int .u8 ((rd_T39 (rd_L4 l0 x7_1) x8_2).f0), .int .i64 ((rd_T39 (rd_L4 l0 x7_1) x8_2).f1), .string ((rd_T39 (rd_L4 l0 x7_1) x8_2).f2), .string ((rd_T39 (rd_L4 l0 x7_1) x8_2).f3)], .slice A1 l1.length c1, .int .u64 a2] (by rfl) rfl rfl (by (try simp only [List.map_toArray, List.map_cons, List.map_nil]); first | done | rfl | (simp only [List.length_drop, List.length_take]; rfl)) ?_
           with_reducible refine (telemeterref12_Holds.calls k2 ((rd_T39 (rd_L4 l0 x7_1) x8_2).f0) ((rd_T39 (rd_L4 l0 x7_1) x8_2).f1) ((rd_T39 (rd_L4 l0 x7_1) x8_2).f2) ((rd_T39 (rd_L4 l0 x7_1) x8_2).f3) _ _ l1 a2 t238 _ ?side1 ?side2 A10.out).mono ?_
           (case side1 => repeat (first | exact (Kd.C_below HR1.out HB.out) | (with_reducible refine Kd.C_alloc ?_ _) | (with_reducible refine Kd.C_drewN ?_ _) | (with_reducible refine Kd.C_drew ?_)))
           (case side2 => exact HC1.out)
           rintro e w17 ⟨rfl, hb⟩
           try (have HRz_ := Aside0.mk (Kd.C_below HR233_0.out hb); clear HR233_0; have HR233_0 := HRz_; clear HRz_)
           try (have HRz_ := Aside0.mk (Kd.C_below HR236_0.out hb); clear HR236_0; have HR236_0 := HRz_; clear HRz_)
           refine ⟨_, rfl, ?_⟩
           have n0_ := Aside0.mk (below_step (by repeat (first | (with_reducible first | exact HB.out | apply below_alloc | apply pw_below_drewN | apply below_drew1) | exact HB.out)) hb)
           clear HB
           have HB := n0_
           clear n0_
           (try clear hb)
           (try clear hb2)
           (try clear hk)
           (try clear hi)
           refine hK.out _ _ ⟨((HB.out.cell (World.block_lt_of_cell? w _ hw233_0)).trans hw233_0), ((HB.out.cell (World.block_lt_of_cell? w _ hw234_0)).trans hw234_0), ((HB.out.cell (World.block_lt_of_cell? w _ hw234_1)).trans hw234_1), ((HB.out.cell (World.block_lt_of_cell? w _ hw234_2)).trans hw234_2), ((HB.out.cell (World.block_lt_of_cell? w _ hw234_3)).trans hw234_3), ((HB.out.cell (World.block_lt_of_cell? w _ hw236_0)).trans hw236_0), ((HB.out.cell (World.block_lt_of_cell? w _ hw237_0)).trans hw237_0), ((HB.out.cell (World.block_lt_of_cell? w _ hw237_1)).trans hw237_1), ((HB.out.cell (World.block_lt_of_cell? w _ hw237_2)).trans hw237_2), ((HB.out.cell (World.block_lt_of_cell? w _ hw237_3)).trans hw237_3)⟩ (fun hHeld => ?_)
           clear hK K
           refine norm_ (a' := ?_) ?_ ?_
           rotate_left
           ·show Act.put _ (some 43) _ = _
            simp only [Act.put, List.setIfInBounds_toArray, List.set_cons_zero, List.set_cons_succ, i64_w, i32_w]
            rfl
           refine pure_ (i := 20) (N := some 44) (v := ?_) (a' := ?_) #[true, true, true, true, true, true, true, true, true, true, true, true, true, true, true, true, true, true, true, true, true] rfl rfl (any_of HT_.out (by kernel_rfl)) (fun _ _ _ h => h) (Or.inl ⟨by rfl, ?_⟩) ?_ ?_
           rotate_left
           ·intro w'
            go_simp
            with_reducible rfl
           rotate_left
           ·simp only [Act.put, List.setIfInBounds_toArray, List.set_cons_zero, List.set_cons_succ, i64_w, i32_w]
            rfl
           refine done_ (done_of HT_.out (by kernel_rfl)) ?_
           try go_wp2
           go_roundg k2
           case measure => have := HK1.out; have := HK2.out; omega
           case rel => exact ⟨(wrap64 (x8_2 + 1)), (by first | rfl | (simp; done) | (simp [*]; done)), H', ⟨by have := HK1.out; have := HK2.out; omega⟩, ⟨by repeat (first | (with_reducible first | exact HB.out | apply below_alloc | apply pw_below_drewN | apply below_drew1) | exact HB.out)⟩⟩
         ·rw [if_neg c8] at H
          exact absurd H (by simp)
        ·rw [if_neg c7] at H
         have c7b0 : decide (x8_2 < ((rd_L4 l0 x7_1).length : Int)) = false := decide_eq_false c7
         clear c7
         replace H := Option.bind_eq_some_iff.mp H
         obtain ⟨t240, A180, H⟩ := H
         replace H : ((telemeterref12_All.f k2 (rd_L4 l0 x7_1) l1 a2).bind fun t242 => (if (t240 != t242) = true then (some false) else (telemeterlaw12_tells.l0 k2 l0 l1 a2 (wrap64 (x7_1 + 1))))) = some r := H
         have A18 := Aside0.mk A180
         clear A180
         replace H := Option.bind_eq_some_iff.mp H
         obtain ⟨t242, A190, H⟩ := H
         replace H : (if (t240 != t242) = true then (some false) else (telemeterlaw12_tells.l0 k2 l0 l1 a2 (wrap64 (x7_1 + 1)))) = some r := H
         have A19 := Aside0.mk A190
         clear A190
         by_cases c20 : (t240 != t242) = true
         ·rw [if_pos c20] at H
          have c20b0 : (t240 != t242) = true := c20
          (try (have c20b1 : decide (t240 = t242) = false := by simpa using c20))
          (try (have c20b2 : (t240 == t242) = false := by simpa using c20))
          (try (have c20b3 : ¬ (t240 = t242) := by simpa using c20))
          clear c20
          obtain rfl := Option.some.inj H
          have p232 : 0 ≤ (x7_1 : Int) := of_decide_eq_true (by first | (with_reducible assumption) | assumption)
          have q232 : x7_1 < (l0.length : Int) := of_decide_eq_true (by first | (with_reducible assumption) | assumption)
          obtain ⟨ad232, A232_0, c232_0, e232, hx232_0, hl232_0, hi232_0⟩ := at_L4 HR0.out x7_1 p232 q232
          cases e232
          replace hx232_0 := (HB.out.cell (World.block_lt_of_cell? w _ hx232_0)).trans hx232_0
          have HR232_0 := Aside0.mk hi232_0
          have HC232_0 := Aside0.mk hl232_0
          clear hi232_0 hl232_0
          replace p232 := eq_true p232
          replace q232 := eq_true q232
          try go_wp2
          have n0_ := Aside0.mk (below_drew1 HB.out)
          clear HB
          have HB := n0_
          clear n0_
          have p239 : 0 ≤ (x7_1 : Int) := of_decide_eq_true (by first | (with_reducible assumption) | assumption)
          have q239 : x7_1 < (l0.length : Int) := of_decide_eq_true (by first | (with_reducible assumption) | assumption)
          obtain ⟨ad239, A239_0, c239_0, e239, hx239_0, hl239_0, hi239_0⟩ := at_L4 HR0.out x7_1 p239 q239
          have hw239_0 := hx239_0
          obtain rfl : ad232 = ad239 := (by injection e239)
          replace hx239_0 := (HB.out.cell (World.block_lt_of_cell? w _ hx239_0)).trans hx239_0
          have HR239_0 := Aside0.mk hi239_0
          have HC239_0 := Aside0.mk hl239_0
          clear hi239_0 hl239_0
          replace p239 := eq_true p239
          replace q239 := eq_true q239
          have p241 : 0 ≤ (x7_1 : Int) := of_decide_eq_true (by first | (with_reducible assumption) | assumption)
          have q241 : x7_1 < (l0.length : Int) := of_decide_eq_true (by first | (with_reducible assumption) | assumption)
          obtain ⟨ad241, A241_0, c241_0, e241, hx241_0, hl241_0, hi241_0⟩ := at_L4 HR0.out x7_1 p241 q241
          have hw241_0 := hx241_0
          obtain rfl : ad232 = ad241 := (by injection e241)
          replace hx241_0 := (HB.out.cell (World.block_lt_of_cell? w _ hx241_0)).trans hx241_0
          have HR241_0 := Aside0.mk hi241_0
          have HC241_0 := Aside0.mk hl241_0
          clear hi241_0 hl241_0
          replace p241 := eq_true p241
          replace q241 := eq_true q241
          have ea_ := Option.some.inj (hx239_0.symm.trans hx241_0)
          injection ea_ with ea_ en_ ec_
          subst ea_
          subst ec_
          clear en_
          refine start_ (n := 15) (S := fun w' => w'.cell? (ad232.add (x7_1).toNat) = some (.slice A239_0 (rd_L4 l0 x7_1).length c239_0) ∧ w'.cell? (ad232.add (x7_1).toNat) = some (.slice A239_0 (rd_L4 l0 x7_1).length c239_0)) (ds := []) #[false, false, false, false, false, false, false, false, false, false, false, false, false, false, false] (by kernel_rfl) rfl rfl ⟨((HB.out.cell (World.block_lt_of_cell? w _ hw239_0)).trans hw239_0), ((HB.out.cell (World.block_lt_of_cell? w _ hw241_0)).trans hw241_0)⟩ (fun hHeld => ?_); refine with_tabW telemeterlaw12_tells.tab9 telemeterlaw12_tells.bits9 (fun HT_ HW_ => ?_)
          generalize wr.drew = w21 at HB HR239_0 HR241_0 hx239_0 hx241_0 hHeld ⊢
          refine pure_ (i := 0) (N := some 45) (v := ?_) (a' := ?_) #[true, false, false, false, false, false, false, false, false, false, false, false, false, false, false] rfl rfl (any_of HT_.out (by kernel_rfl)) (fun _ _ _ h => h) (Or.inl ⟨by rfl, ?_⟩) ?_ ?_
          rotate_left
          ·intro w'
           go_simp
           with_reducible rfl
          rotate_left
          ·simp only [Act.put, List.setIfInBounds_toArray, List.set_cons_zero, List.set_cons_succ, i64_w, i32_w]
           rfl
          refine pure_ (i := 1) (N := some 46) (v := ?_) (a' := ?_) #[true, true, false, false, false, false, false, false, false, false, false, false, false, false, false] rfl rfl (any_of HT_.out (by kernel_rfl)) (fun _ _ _ h => h) (Or.inl ⟨by rfl, ?_⟩) ?_ ?_
          rotate_left
          ·intro w'
           go_simp
           with_reducible rfl
          rotate_left
          ·simp only [Act.put, List.setIfInBounds_toArray, List.set_cons_zero, List.set_cons_succ, i64_w, i32_w]
           rfl
          refine pure_ (i := 2) (N := some 47) (v := ?_) (a' := ?_) #[true, true, true, false, false, false, false, false, false, false, false, false, false, false, false] rfl rfl (any_of HT_.out (by kernel_rfl)) (fun _ _ _ h => h) (Or.inl ⟨by rfl, ?_⟩) ?_ ?_
          rotate_left
          ·intro w'
           go_simp
           with_reducible rfl
          rotate_left
          ·simp only [Act.put, List.setIfInBounds_toArray, List.set_cons_zero, List.set_cons_succ, i64_w, i32_w]
           rfl
          refine pure_ (i := 4) (N := some 49) (v := ?_) (a' := ?_) #[true, true, true, false, true, false, false, false, false, false, false, false, false, false, false] rfl rfl (any_of HT_.out (by kernel_rfl)) (fun _ _ _ h => h) (Or.inl ⟨by rfl, ?_⟩) ?_ ?_
          rotate_left
          ·intro w'
           go_simp
           with_reducible rfl
          rotate_left
          ·simp only [Act.put, List.setIfInBounds_toArray, List.set_cons_zero, List.set_cons_succ, i64_w, i32_w]
           rfl
          refine pure_ (i := 5) (N := some 50) (v := ?_) (a' := ?_) #[true, true, true, false, true, true, false, false, false, false, false, false, false, false, false] rfl rfl (any_of HT_.out (by kernel_rfl)) (fun _ _ _ h => h) (Or.inl ⟨by rfl, ?_⟩) ?_ ?_
          rotate_left
          ·intro w'
           go_simp
           with_reducible rfl
          rotate_left
          ·simp only [Act.put, List.setIfInBounds_toArray, List.set_cons_zero, List.set_cons_succ, i64_w, i32_w]
           rfl
          refine pure_ (i := 7) (N := some 52) (v := ?_) (a' := ?_) #[true, true, true, false, true, true, false, true, false, false, false, false, false, false, false] rfl rfl (any_of HT_.out (by kernel_rfl)) (fun _ _ _ h => h) (Or.inl ⟨by rfl, ?_⟩) ?_ ?_
          rotate_left
          ·intro w'
           go_simp
           with_reducible rfl
          rotate_left
          ·simp only [Act.put, List.setIfInBounds_toArray, List.set_cons_zero, List.set_cons_succ, i64_w, i32_w]
           rfl
          refine pure_ (i := 8) (N := some 53) (v := ?_) (a' := ?_) #[true, true, true, false, true, true, false, true, true, false, false, false, false, false, false] rfl rfl (any_of HT_.out (by kernel_rfl)) (fun _ _ _ h => h) (Or.inl ⟨by rfl, ?_⟩) ?_ ?_
          rotate_left
          ·intro w'
           go_simp
           with_reducible rfl
          rotate_left
          ·simp only [Act.put, List.setIfInBounds_toArray, List.set_cons_zero, List.set_cons_succ, i64_w, i32_w]
           rfl
          refine pure_ (i := 9) (N := some 54) (v := ?_) (a' := ?_) #[true, true, true, false, true, true, false, true, true, true, false, false, false, false, false] rfl rfl (any_of HT_.out (by kernel_rfl)) (fun _ _ _ h => h) (Or.inl ⟨by rfl, ?_⟩) ?_ ?_
          rotate_left
          ·intro w'
           go_simp
           with_reducible rfl
          rotate_left
          ·simp only [Act.put, List.setIfInBounds_toArray, List.set_cons_zero, List.set_cons_succ, i64_w, i32_w]
           rfl
          refine pure_ (i := 11) (N := some 56) (v := ?_) (a' := ?_) #[true, true, true, false, true, true, false, true, true, true, false, true, false, false, false] rfl rfl (any_of HT_.out (by kernel_rfl)) (fun _ _ _ h => h) (Or.inl ⟨by rfl, ?_⟩) ?_ ?_
          rotate_left
          ·intro w'
           go_simp
           with_reducible rfl
          rotate_left
          ·simp only [Act.put, List.setIfInBounds_toArray, List.set_cons_zero, List.set_cons_succ, i64_w, i32_w]
           rfl
          refine pure_ (i := 12) (N := some 57) (v := ?_) (a' := ?_) #[true, true, true, false, true, true, false, true, true, true, false, true, true, false, false] rfl rfl (any_of HT_.out (by kernel_rfl)) (fun _ _ _ h => h) (Or.inl ⟨by rfl, ?_⟩) ?_ ?_
          rotate_left
          ·intro w'
           go_simp
           with_reducible rfl
          rotate_left
          ·simp only [Act.put, List.setIfInBounds_toArray, List.set_cons_zero, List.set_cons_succ, i64_w, i32_w]
           rfl
          refine take_ (i := 3) (N := some 48) (v := ?_) (a' := ?_) #[true, true, true, true, true, true, false, true, true, true, false, true, true, false, false] rfl rfl (take_ofW HT_.out HW_.out (by kernel_rfl)) (fun _ _ _ h => h) (Or.inl ⟨by rfl, ?_⟩) hHeld ?_ ?_
          rotate_left
          ·rintro w' ⟨s0, s1⟩
           go_simp
           with_reducible rfl
          rotate_left
          ·simp only [Act.put, List.setIfInBounds_toArray, List.set_cons_zero, List.set_cons_succ, i64_w, i32_w]
           rfl
          refine take_ (i := 10) (N := some 55) (v := ?_) (a' := ?_) #[true, true, true, true, true, true, false, true, true, true, true, true, true, false, false] rfl rfl (take_ofW HT_.out HW_.out (by kernel_rfl)) (fun _ _ _ h => h) (Or.inl ⟨by rfl, ?_⟩) hHeld ?_ ?_
          rotate_left
          ·rintro w' ⟨s0, s1⟩
           go_simp
           with_reducible rfl
          rotate_left
          ·simp only [Act.put, List.setIfInBounds_toArray, List.set_cons_zero, List.set_cons_succ, i64_w, i32_w]
           rfl
          refine one_ (i := 6) (N := some 51) #[true, true, true, true, true, true, true, true, true, true, true, true, true, false, false] rfl rfl (one_of HT_.out (by kernel_rfl)) (by decide) (fun K hK => ?_)
          refine goes_ Try.func12 (by kernel_rfl) rfl #[.slice A239_0 (rd_L4 l0 x7_1).length c239_0, .slice A1 l1.length c1, .int .u64 a2] (by rfl) rfl rfl (by (try simp only [List.map_toArray, List.map_cons, List.map_nil]); first | done | rfl | (simp only [List.length_drop, List.length_take]; rfl)) ?_
          with_reducible refine (policy_All.calls _ _ (rd_L4 l0 x7_1) _ _ l1 a2 t240 _ ?side1 ?side2 ?side3 ?side4 A18.out).mono ?_
          (case side1 => repeat (first | exact (Kd.C_below HR239_0.out HB.out) | (with_reducible refine Kd.C_alloc ?_ _) | (with_reducible refine Kd.C_drewN ?_ _) | (with_reducible refine Kd.C_drew ?_)))
          (case side2 => exact HC239_0.out)
          (case side3 => repeat (first | exact (Kd.C_below HR1.out HB.out) | (with_reducible refine Kd.C_alloc ?_ _) | (with_reducible refine Kd.C_drewN ?_ _) | (with_reducible refine Kd.C_drew ?_)))
          (case side4 => exact HC1.out)
          rintro e w22 ⟨rfl, hb⟩
          try (have HRz_ := Aside0.mk (Kd.C_below HR239_0.out hb); clear HR239_0; have HR239_0 := HRz_; clear HRz_)
          try (have HRz_ := Aside0.mk (Kd.C_below HR241_0.out hb); clear HR241_0; have HR241_0 := HRz_; clear HRz_)
          refine ⟨_, rfl, ?_⟩
          have n0_ := Aside0.mk (below_step (by repeat (first | (with_reducible first | exact HB.out | apply below_alloc | apply pw_below_drewN | apply below_drew1) | exact HB.out)) hb)
          clear HB
          have HB := n0_
          clear n0_
          (try clear hb)
          (try clear hb2)
          (try clear hk)
          (try clear hi)
          refine hK.out _ _ ⟨((HB.out.cell (World.block_lt_of_cell? w _ hw239_0)).trans hw239_0), ((HB.out.cell (World.block_lt_of_cell? w _ hw241_0)).trans hw241_0)⟩ (fun hHeld => ?_)
          clear hK K
          refine norm_ (a' := ?_) ?_ ?_
          rotate_left
          ·show Act.put _ (some 51) _ = _
           simp only [Act.put, List.setIfInBounds_toArray, List.set_cons_zero, List.set_cons_succ, i64_w, i32_w]
           rfl
          refine one_ (i := 13) (N := some 58) #[true, true, true, true, true, true, true, true, true, true, true, true, true, true, false] rfl rfl (one_of HT_.out (by kernel_rfl)) (by decide) (fun K hK => ?_)
          refine goes_ Try.func29 (by kernel_rfl) rfl #[.slice A239_0 (rd_L4 l0 x7_1).length c239_0, .slice A1 l1.length c1, .int .u64 a2] (by rfl) rfl rfl (by (try simp only [List.map_toArray, List.map_cons, List.map_nil]); first | done | rfl | (simp only [List.length_drop, List.length_take]; rfl)) ?_
          with_reducible refine (telemeterref12_All.calls k2 _ _ (rd_L4 l0 x7_1) _ _ l1 a2 t242 _ ?side1 ?side2 ?side3 ?side4 A19.out).mono ?_
          (case side1 => repeat (first | exact (Kd.C_below HR241_0.out HB.out) | (with_reducible refine Kd.C_alloc ?_ _) | (with_reducible refine Kd.C_drewN ?_ _) | (with_reducible refine Kd.C_drew ?_)))
          (case side2 => exact HC241_0.out)
          (case side3 => repeat (first | exact (Kd.C_below HR1.out HB.out) | (with_reducible refine Kd.C_alloc ?_ _) | (with_reducible refine Kd.C_drewN ?_ _) | (with_reducible refine Kd.C_drew ?_)))
          (case side4 => exact HC1.out)
          rintro e w23 ⟨rfl, hb⟩
          try (have HRz_ := Aside0.mk (Kd.C_below HR239_0.out hb); clear HR239_0; have HR239_0 := HRz_; clear HRz_)
          try (have HRz_ := Aside0.mk (Kd.C_below HR241_0.out hb); clear HR241_0; have HR241_0 := HRz_; clear HRz_)
          refine ⟨_, rfl, ?_⟩
          have n0_ := Aside0.mk (below_step (by repeat (first | (with_reducible first | exact HB.out | apply below_alloc | apply pw_below_drewN | apply below_drew1) | exact HB.out)) hb)
          clear HB
          have HB := n0_
          clear n0_
          (try clear hb)
          (try clear hb2)
          (try clear hk)
          (try clear hi)
          refine hK.out _ _ ⟨((HB.out.cell (World.block_lt_of_cell? w _ hw239_0)).trans hw239_0), ((HB.out.cell (World.block_lt_of_cell? w _ hw241_0)).trans hw241_0)⟩ (fun hHeld => ?_)
          clear hK K
          refine norm_ (a' := ?_) ?_ ?_
          rotate_left
          ·show Act.put _ (some 58) _ = _
           simp only [Act.put, List.setIfInBounds_toArray, List.set_cons_zero, List.set_cons_succ, i64_w, i32_w]
           rfl
          refine pure_ (i := 14) (N := some 59) (v := ?_) (a' := ?_) #[true, true, true, true, true, true, true, true, true, true, true, true, true, true, true] rfl rfl (any_of HT_.out (by kernel_rfl)) (fun _ _ _ h => h) (Or.inl ⟨by rfl, ?_⟩) ?_ ?_
          rotate_left
          ·intro w'
           go_simp
           with_reducible rfl
          rotate_left
          ·simp only [Act.put, List.setIfInBounds_toArray, List.set_cons_zero, List.set_cons_succ, i64_w, i32_w]
           rfl
          refine done_ (done_of HT_.out (by kernel_rfl)) ?_
          try go_wp2
          go_ret
          exact ⟨by first | rfl | (simp [errW_none, errW_some] <;> rfl) | (simp [*, errW_none, errW_some] <;> rfl), by repeat (first | (with_reducible first | exact HB.out | apply below_alloc | apply pw_below_drewN | apply below_drew1) | exact HB.out)⟩
         ·rw [if_neg c20] at H
          have c20b0 : (t240 != t242) = false := by simpa using c20
          (try (have c20b1 : decide (t240 = t242) = true := by simpa using c20))
          (try (have c20b2 : (t240 == t242) = true := by simpa using c20))
          clear c20
          have H' := Aside0.mk H
          clear H
          have p232 : 0 ≤ (x7_1 : Int) := of_decide_eq_true (by first | (with_reducible assumption) | assumption)
          have q232 : x7_1 < (l0.length : Int) := of_decide_eq_true (by first | (with_reducible assumption) | assumption)
          obtain ⟨ad232, A232_0, c232_0, e232, hx232_0, hl232_0, hi232_0⟩ := at_L4 HR0.out x7_1 p232 q232
          cases e232
          replace hx232_0 := (HB.out.cell (World.block_lt_of_cell? w _ hx232_0)).trans hx232_0
          have HR232_0 := Aside0.mk hi232_0
          have HC232_0 := Aside0.mk hl232_0
          clear hi232_0 hl232_0
          replace p232 := eq_true p232
          replace q232 := eq_true q232
          try go_wp2
          have n0_ := Aside0.mk (below_drew1 HB.out)
          clear HB
          have HB := n0_
          clear n0_
          have p239 : 0 ≤ (x7_1 : Int) := of_decide_eq_true (by first | (with_reducible assumption) | assumption)
          have q239 : x7_1 < (l0.length : Int) := of_decide_eq_true (by first | (with_reducible assumption) | assumption)
          obtain ⟨ad239, A239_0, c239_0, e239, hx239_0, hl239_0, hi239_0⟩ := at_L4 HR0.out x7_1 p239 q239
          have hw239_0 := hx239_0
          obtain rfl : ad232 = ad239 := (by injection e239)
          replace hx239_0 := (HB.out.cell (World.block_lt_of_cell? w _ hx239_0)).trans hx239_0
          have HR239_0 := Aside0.mk hi239_0
          have HC239_0 := Aside0.mk hl239_0
          clear hi239_0 hl239_0
          replace p239 := eq_true p239
          replace q239 := eq_true q239
          have p241 : 0 ≤ (x7_1 : Int) := of_decide_eq_true (by first | (with_reducible assumption) | assumption)
          have q241 : x7_1 < (l0.length : Int) := of_decide_eq_true (by first | (with_reducible assumption) | assumption)
          obtain ⟨ad241, A241_0, c241_0, e241, hx241_0, hl241_0, hi241_0⟩ := at_L4 HR0.out x7_1 p241 q241
          have hw241_0 := hx241_0
          obtain rfl : ad232 = ad241 := (by injection e241)
          replace hx241_0 := (HB.out.cell (World.block_lt_of_cell? w _ hx241_0)).trans hx241_0
          have HR241_0 := Aside0.mk hi241_0
          have HC241_0 := Aside0.mk hl241_0
          clear hi241_0 hl241_0
          replace p241 := eq_true p241
          replace q241 := eq_true q241
          have ea_ := Option.some.inj (hx239_0.symm.trans hx241_0)
          injection ea_ with ea_ en_ ec_
          subst ea_
          subst ec_
          clear en_
          refine start_ (n := 15) (S := fun w' => w'.cell? (ad232.add (x7_1).toNat) = some (.slice A239_0 (rd_L4 l0 x7_1).length c239_0) ∧ w'.cell? (ad232.add (x7_1).toNat) = some (.slice A239_0 (rd_L4 l0 x7_1).length c239_0)) (ds := []) #[false, false, false, false, false, false, false, false, false, false, false, false, false, false, false] (by kernel_rfl) rfl rfl ⟨((HB.out.cell (World.block_lt_of_cell? w _ hw239_0)).trans hw239_0), ((HB.out.cell (World.block_lt_of_cell? w _ hw241_0)).trans hw241_0)⟩ (fun hHeld => ?_); refine with_tabW telemeterlaw12_tells.tab9 telemeterlaw12_tells.bits9 (fun HT_ HW_ => ?_)
          generalize wr.drew = w24 at HB HR239_0 HR241_0 hx239_0 hx241_0 hHeld ⊢
          refine pure_ (i := 0) (N := some 45) (v := ?_) (a' := ?_) #[true, false, false, false, false, false, false, false, false, false, false, false, false, false, false] rfl rfl (any_of HT_.out (by kernel_rfl)) (fun _ _ _ h => h) (Or.inl ⟨by rfl, ?_⟩) ?_ ?_
          rotate_left
          ·intro w'
           go_simp
           with_reducible rfl
          rotate_left
          ·simp only [Act.put, List.setIfInBounds_toArray, List.set_cons_zero, List.set_cons_succ, i64_w, i32_w]
           rfl
          refine pure_ (i := 1) (N := some 46) (v := ?_) (a' := ?_) #[true, true, false, false, false, false, false, false, false, false, false, false, false, false, false] rfl rfl (any_of HT_.out (by kernel_rfl)) (fun _ _ _ h => h) (Or.inl ⟨by rfl, ?_⟩) ?_ ?_
          rotate_left
          ·intro w'
           go_simp
           with_reducible rfl
          rotate_left
          ·simp only [Act.put, List.setIfInBounds_toArray, List.set_cons_zero, List.set_cons_succ, i64_w, i32_w]
           rfl
          refine pure_ (i := 2) (N := some 47) (v := ?_) (a' := ?_) #[true, true, true, false, false, false, false, false, false, false, false, false, false, false, false] rfl rfl (any_of HT_.out (by kernel_rfl)) (fun _ _ _ h => h) (Or.inl ⟨by rfl, ?_⟩) ?_ ?_
          rotate_left
          ·intro w'
           go_simp
           with_reducible rfl
          rotate_left
          ·simp only [Act.put, List.setIfInBounds_toArray, List.set_cons_zero, List.set_cons_succ, i64_w, i32_w]
           rfl
          refine pure_ (i := 4) (N := some 49) (v := ?_) (a' := ?_) #[true, true, true, false, true, false, false, false, false, false, false, false, false, false, false] rfl rfl (any_of HT_.out (by kernel_rfl)) (fun _ _ _ h => h) (Or.inl ⟨by rfl, ?_⟩) ?_ ?_
          rotate_left
          ·intro w'
           go_simp
           with_reducible rfl
          rotate_left
          ·simp only [Act.put, List.setIfInBounds_toArray, List.set_cons_zero, List.set_cons_succ, i64_w, i32_w]
           rfl
          refine pure_ (i := 5) (N := some 50) (v := ?_) (a' := ?_) #[true, true, true, false, true, true, false, false, false, false, false, false, false, false, false] rfl rfl (any_of HT_.out (by kernel_rfl)) (fun _ _ _ h => h) (Or.inl ⟨by rfl, ?_⟩) ?_ ?_
          rotate_left
          ·intro w'
           go_simp
           with_reducible rfl
          rotate_left
          ·simp only [Act.put, List.setIfInBounds_toArray, List.set_cons_zero, List.set_cons_succ, i64_w, i32_w]
           rfl
          refine pure_ (i := 7) (N := some 52) (v := ?_) (a' := ?_) #[true, true, true, false, true, true, false, true, false, false, false, false, false, false, false] rfl rfl (any_of HT_.out (by kernel_rfl)) (fun _ _ _ h => h) (Or.inl ⟨by rfl, ?_⟩) ?_ ?_
          rotate_left
          ·intro w'
           go_simp
           with_reducible rfl
          rotate_left
          ·simp only [Act.put, List.setIfInBounds_toArray, List.set_cons_zero, List.set_cons_succ, i64_w, i32_w]
           rfl
          refine pure_ (i := 8) (N := some 53) (v := ?_) (a' := ?_) #[true, true, true, false, true, true, false, true, true, false, false, false, false, false, false] rfl rfl (any_of HT_.out (by kernel_rfl)) (fun _ _ _ h => h) (Or.inl ⟨by rfl, ?_⟩) ?_ ?_
          rotate_left
          ·intro w'
           go_simp
           with_reducible rfl
          rotate_left
          ·simp only [Act.put, List.setIfInBounds_toArray, List.set_cons_zero, List.set_cons_succ, i64_w, i32_w]
           rfl
          refine pure_ (i := 9) (N := some 54) (v := ?_) (a' := ?_) #[true, true, true, false, true, true, false, true, true, true, false, false, false, false, false] rfl rfl (any_of HT_.out (by kernel_rfl)) (fun _ _ _ h => h) (Or.inl ⟨by rfl, ?_⟩) ?_ ?_
          rotate_left
          ·intro w'
           go_simp
           with_reducible rfl
          rotate_left
          ·simp only [Act.put, List.setIfInBounds_toArray, List.set_cons_zero, List.set_cons_succ, i64_w, i32_w]
           rfl
          refine pure_ (i := 11) (N := some 56) (v := ?_) (a' := ?_) #[true, true, true, false, true, true, false, true, true, true, false, true, false, false, false] rfl rfl (any_of HT_.out (by kernel_rfl)) (fun _ _ _ h => h) (Or.inl ⟨by rfl, ?_⟩) ?_ ?_
          rotate_left
          ·intro w'
           go_simp
           with_reducible rfl
          rotate_left
          ·simp only [Act.put, List.setIfInBounds_toArray, List.set_cons_zero, List.set_cons_succ, i64_w, i32_w]
           rfl
          refine pure_ (i := 12) (N := some 57) (v := ?_) (a' := ?_) #[true, true, true, false, true, true, false, true, true, true, false, true, true, false, false] rfl rfl (any_of HT_.out (by kernel_rfl)) (fun _ _ _ h => h) (Or.inl ⟨by rfl, ?_⟩) ?_ ?_
          rotate_left
          ·intro w'
           go_simp
           with_reducible rfl
          rotate_left
          ·simp only [Act.put, List.setIfInBounds_toArray, List.set_cons_zero, List.set_cons_succ, i64_w, i32_w]
           rfl
          refine take_ (i := 3) (N := some 48) (v := ?_) (a' := ?_) #[true, true, true, true, true, true, false, true, true, true, false, true, true, false, false] rfl rfl (take_ofW HT_.out HW_.out (by kernel_rfl)) (fun _ _ _ h => h) (Or.inl ⟨by rfl, ?_⟩) hHeld ?_ ?_
          rotate_left
          ·rintro w' ⟨s0, s1⟩
           go_simp
           with_reducible rfl
          rotate_left
          ·simp only [Act.put, List.setIfInBounds_toArray, List.set_cons_zero, List.set_cons_succ, i64_w, i32_w]
           rfl
          refine take_ (i := 10) (N := some 55) (v := ?_) (a' := ?_) #[true, true, true, true, true, true, false, true, true, true, true, true, true, false, false] rfl rfl (take_ofW HT_.out HW_.out (by kernel_rfl)) (fun _ _ _ h => h) (Or.inl ⟨by rfl, ?_⟩) hHeld ?_ ?_
          rotate_left
          ·rintro w' ⟨s0, s1⟩
           go_simp
           with_reducible rfl
          rotate_left
          ·simp only [Act.put, List.setIfInBounds_toArray, List.set_cons_zero, List.set_cons_succ, i64_w, i32_w]
           rfl
          refine one_ (i := 6) (N := some 51) #[true, true, true, true, true, true, true, true, true, true, true, true, true, false, false] rfl rfl (one_of HT_.out (by kernel_rfl)) (by decide) (fun K hK => ?_)
          refine goes_ Try.func12 (by kernel_rfl) rfl #[.slice A239_0 (rd_L4 l0 x7_1).length c239_0, .slice A1 l1.length c1, .int .u64 a2] (by rfl) rfl rfl (by (try simp only [List.map_toArray, List.map_cons, List.map_nil]); first | done | rfl | (simp only [List.length_drop, List.length_take]; rfl)) ?_
          with_reducible refine (policy_All.calls _ _ (rd_L4 l0 x7_1) _ _ l1 a2 t240 _ ?side1 ?side2 ?side3 ?side4 A18.out).mono ?_
          (case side1 => repeat (first | exact (Kd.C_below HR239_0.out HB.out) | (with_reducible refine Kd.C_alloc ?_ _) | (with_reducible refine Kd.C_drewN ?_ _) | (with_reducible refine Kd.C_drew ?_)))
          (case side2 => exact HC239_0.out)
          (case side3 => repeat (first | exact (Kd.C_below HR1.out HB.out) | (with_reducible refine Kd.C_alloc ?_ _) | (with_reducible refine Kd.C_drewN ?_ _) | (with_reducible refine Kd.C_drew ?_)))
          (case side4 => exact HC1.out)
          rintro e w25 ⟨rfl, hb⟩
          try (have HRz_ := Aside0.mk (Kd.C_below HR239_0.out hb); clear HR239_0; have HR239_0 := HRz_; clear HRz_)
          try (have HRz_ := Aside0.mk (Kd.C_below HR241_0.out hb); clear HR241_0; have HR241_0 := HRz_; clear HRz_)
          refine ⟨_, rfl, ?_⟩
          have n0_ := Aside0.mk (below_step (by repeat (first | (with_reducible first | exact HB.out | apply below_alloc | apply pw_below_drewN | apply below_drew1) | exact HB.out)) hb)
          clear HB
          have HB := n0_
          clear n0_
          (try clear hb)
          (try clear hb2)
          (try clear hk)
          (try clear hi)
          refine hK.out _ _ ⟨((HB.out.cell (World.block_lt_of_cell? w _ hw239_0)).trans hw239_0), ((HB.out.cell (World.block_lt_of_cell? w _ hw241_0)).trans hw241_0)⟩ (fun hHeld => ?_)
          clear hK K
          refine norm_ (a' := ?_) ?_ ?_
          rotate_left
          ·show Act.put _ (some 51) _ = _
           simp only [Act.put, List.setIfInBounds_toArray, List.set_cons_zero, List.set_cons_succ, i64_w, i32_w]
           rfl
          refine one_ (i := 13) (N := some 58) #[true, true, true, true, true, true, true, true, true, true, true, true, true, true, false] rfl rfl (one_of HT_.out (by kernel_rfl)) (by decide) (fun K hK => ?_)
          refine goes_ Try.func29 (by kernel_rfl) rfl #[.slice A239_0 (rd_L4 l0 x7_1).length c239_0, .slice A1 l1.length c1, .int .u64 a2] (by rfl) rfl rfl (by (try simp only [List.map_toArray, List.map_cons, List.map_nil]); first | done | rfl | (simp only [List.length_drop, List.length_take]; rfl)) ?_
          with_reducible refine (telemeterref12_All.calls k2 _ _ (rd_L4 l0 x7_1) _ _ l1 a2 t242 _ ?side1 ?side2 ?side3 ?side4 A19.out).mono ?_
          (case side1 => repeat (first | exact (Kd.C_below HR241_0.out HB.out) | (with_reducible refine Kd.C_alloc ?_ _) | (with_reducible refine Kd.C_drewN ?_ _) | (with_reducible refine Kd.C_drew ?_)))
          (case side2 => exact HC241_0.out)
          (case side3 => repeat (first | exact (Kd.C_below HR1.out HB.out) | (with_reducible refine Kd.C_alloc ?_ _) | (with_reducible refine Kd.C_drewN ?_ _) | (with_reducible refine Kd.C_drew ?_)))
          (case side4 => exact HC1.out)
          rintro e w26 ⟨rfl, hb⟩
          try (have HRz_ := Aside0.mk (Kd.C_below HR239_0.out hb); clear HR239_0; have HR239_0 := HRz_; clear HRz_)
          try (have HRz_ := Aside0.mk (Kd.C_below HR241_0.out hb); clear HR241_0; have HR241_0 := HRz_; clear HRz_)
          refine ⟨_, rfl, ?_⟩
          have n0_ := Aside0.mk (below_step (by repeat (first | (with_reducible first | exact HB.out | apply below_alloc | apply pw_below_drewN | apply below_drew1) | exact HB.out)) hb)
          clear HB
          have HB := n0_
          clear n0_
          (try clear hb)
          (try clear hb2)
          (try clear hk)
          (try clear hi)
          refine hK.out _ _ ⟨((HB.out.cell (World.block_lt_of_cell? w _ hw239_0)).trans hw239_0), ((HB.out.cell (World.block_lt_of_cell? w _ hw241_0)).trans hw241_0)⟩ (fun hHeld => ?_)
          clear hK K
          refine norm_ (a' := ?_) ?_ ?_
          rotate_left
          ·show Act.put _ (some 58) _ = _
           simp only [Act.put, List.setIfInBounds_toArray, List.set_cons_zero, List.set_cons_succ, i64_w, i32_w]
           rfl
          refine pure_ (i := 14) (N := some 59) (v := ?_) (a' := ?_) #[true, true, true, true, true, true, true, true, true, true, true, true, true, true, true] rfl rfl (any_of HT_.out (by kernel_rfl)) (fun _ _ _ h => h) (Or.inl ⟨by rfl, ?_⟩) ?_ ?_
          rotate_left
          ·intro w'
           go_simp
           with_reducible rfl
          rotate_left
          ·simp only [Act.put, List.setIfInBounds_toArray, List.set_cons_zero, List.set_cons_succ, i64_w, i32_w]
           rfl
          refine done_ (done_of HT_.out (by kernel_rfl)) ?_
          try go_wp2
          go_roundg k2
          case measure => have := HK1.out; have := HK2.out; omega
          case rel => exact ⟨(wrap64 (x7_1 + 1)), (by first | rfl | (simp; done) | (simp [*]; done)), H', ⟨by have := HK1.out; have := HK2.out; omega⟩, ⟨by repeat (first | (with_reducible first | exact HB.out | apply below_alloc | apply pw_below_drewN | apply below_drew1) | exact HB.out)⟩⟩
       ·rw [if_neg c6] at H
        exact absurd H (by simp)
      ·rw [if_neg c5] at H
       exact absurd H (by simp)
   ·rw [if_neg c4] at H
    have c4b0 : decide (x7_1 < (l0.length : Int)) = false := decide_eq_false c4
    clear c4
    replace H := Option.bind_eq_some_iff.mp H
    obtain ⟨t243, A270, H⟩ := H
    replace H : ((telemeterref12_Which.f k1 l0 l1 a2).bind fun t244 => (if t243 = t244 then ((policy_Length.f k1 l1).bind fun t245 => ((telemeterref12_Length.f k1 l1).bind fun t246 => (some (t245 == t246)))) else (some false))) = some r := H
    have A27 := Aside0.mk A270
    clear A270
    replace H := Option.bind_eq_some_iff.mp H
    obtain ⟨t244, A280, H⟩ := H
    replace H : (if t243 = t244 then ((policy_Length.f k1 l1).bind fun t245 => ((telemeterref12_Length.f k1 l1).bind fun t246 => (some (t245 == t246)))) else (some false)) = some r := H
    have A28 := Aside0.mk A280
    clear A280
    by_cases c29 : t243 = t244
    ·rw [if_pos c29] at H
     have c29b0 : (t243 == t244) = true := beq_iff_eq.mpr c29
     have c29b1 : (t243 != t244) = false := bne_eq_false_iff_eq.mpr c29
     clear c29
     replace H := Option.bind_eq_some_iff.mp H
     obtain ⟨t245, A300, H⟩ := H
     replace H : ((telemeterref12_Length.f k1 l1).bind fun t246 => (some (t245 == t246))) = some r := H
     have A30 := Aside0.mk A300
     clear A300
     replace H := Option.bind_eq_some_iff.mp H
     obtain ⟨t246, A310, H⟩ := H
     replace H : (some (t245 == t246)) = some r := H
     have A31 := Aside0.mk A310
     clear A310
     obtain rfl := Option.some.inj H
     go_wp2_with (first | ((with_reducible refine gate_callee (f := 13) rfl ?_); refine goesL_ (some 63) rfl rfl Try.func13 (by kernel_rfl) rfl #[.slice A0 l0.length c0, .slice A1 l1.length c1, .int .u64 a2] rfl (by (try simp only [List.map_toArray, List.map_cons, List.map_nil]); first | done | rfl | (simp only [List.length_drop, List.length_take]; rfl)) ?_; (with_reducible refine (policy_Which.calls _ _ l0 _ _ l1 a2 t243 _ ?side1 ?side2 ?side3 ?side4 A27.out).mono ?_); (case side1 => repeat (first | exact (Kd.C_below HR0.out HB.out) | (with_reducible refine Kd.C_alloc ?_ _) | (with_reducible refine Kd.C_drewN ?_ _) | (with_reducible refine Kd.C_drew ?_))); (case side2 => exact HC0.out); (case side3 => repeat (first | exact (Kd.C_below HR1.out HB.out) | (with_reducible refine Kd.C_alloc ?_ _) | (with_reducible refine Kd.C_drewN ?_ _) | (with_reducible refine Kd.C_drew ?_))); (case side4 => exact HC1.out); rintro e w32 ⟨rfl, hb⟩; refine ⟨_, rfl, ?_⟩; have n0_ := Aside0.mk (below_step (by repeat (first | (with_reducible first | exact HB.out | apply below_alloc | apply pw_below_drewN | apply below_drew1) | exact HB.out)) hb); clear HB; have HB := n0_; clear n0_; (try clear hb); (try clear hb2); (try clear hk); (try clear hi)) | ((with_reducible refine gate_callee (f := 30) rfl ?_); refine goesL_ (some 67) rfl rfl Try.func30 (by kernel_rfl) rfl #[.slice A0 l0.length c0, .slice A1 l1.length c1, .int .u64 a2] rfl (by (try simp only [List.map_toArray, List.map_cons, List.map_nil]); first | done | rfl | (simp only [List.length_drop, List.length_take]; rfl)) ?_; (with_reducible refine (telemeterref12_Which.calls k1 _ _ l0 _ _ l1 a2 t244 _ ?side1 ?side2 ?side3 ?side4 A28.out).mono ?_); (case side1 => repeat (first | exact (Kd.C_below HR0.out HB.out) | (with_reducible refine Kd.C_alloc ?_ _) | (with_reducible refine Kd.C_drewN ?_ _) | (with_reducible refine Kd.C_drew ?_))); (case side2 => exact HC0.out); (case side3 => repeat (first | exact (Kd.C_below HR1.out HB.out) | (with_reducible refine Kd.C_alloc ?_ _) | (with_reducible refine Kd.C_drewN ?_ _) | (with_reducible refine Kd.C_drew ?_))); (case side4 => exact HC1.out); rintro e w33 ⟨rfl, hb⟩; refine ⟨_, rfl, ?_⟩; have n0_ := Aside0.mk (below_step (by repeat (first | (with_reducible first | exact HB.out | apply below_alloc | apply pw_below_drewN | apply below_drew1) | exact HB.out)) hb); clear HB; have HB := n0_; clear n0_; (try clear hb); (try clear hb2); (try clear hk); (try clear hi)) | (go_at_call 19; (with_reducible refine (policy_Length.calls k1 _ _ l1 t245 _ ?side1 ?side2 A30.out).mono ?_); (case side1 => repeat (first | exact (Kd.C_below HR1.out HB.out) | (with_reducible refine Kd.C_alloc ?_ _) | (with_reducible refine Kd.C_drewN ?_ _) | (with_reducible refine Kd.C_drew ?_))); (case side2 => exact HC1.out); rintro e w34 ⟨rfl, hb⟩; have n0_ := Aside0.mk (below_step (by repeat (first | (with_reducible first | exact HB.out | apply below_alloc | apply pw_below_drewN | apply below_drew1) | exact HB.out)) hb); clear HB; have HB := n0_; clear n0_; (try clear hb); (try clear hb2); (try clear hk); (try clear hi)) | (go_at_call 31; (with_reducible refine (telemeterref12_Length.calls k1 _ _ l1 t246 _ ?side1 ?side2 A31.out).mono ?_); (case side1 => repeat (first | exact (Kd.C_below HR1.out HB.out) | (with_reducible refine Kd.C_alloc ?_ _) | (with_reducible refine Kd.C_drewN ?_ _) | (with_reducible refine Kd.C_drew ?_))); (case side2 => exact HC1.out); rintro e w35 ⟨rfl, hb⟩; have n0_ := Aside0.mk (below_step (by repeat (first | (with_reducible first | exact HB.out | apply below_alloc | apply pw_below_drewN | apply below_drew1) | exact HB.out)) hb); clear HB; have HB := n0_; clear n0_; (try clear hb); (try clear hb2); (try clear hk); (try clear hi)))
     go_ret
     exact ⟨by first | rfl | (simp [errW_none, errW_some] <;> rfl) | (simp [*, errW_none, errW_some] <;> rfl), by repeat (first | (with_reducible first | exact HB.out | apply below_alloc | apply pw_below_drewN | apply below_drew1) | exact HB.out)⟩
    ·rw [if_neg c29] at H
     have c29b0 : (t243 == t244) = false := beq_eq_false_iff_ne.mpr c29
     have c29b1 : (t243 != t244) = true := bne_iff_ne.mpr c29
     obtain rfl := Option.some.inj H
     go_wp2_with (first | ((with_reducible refine gate_callee (f := 13) rfl ?_); refine goesL_ (some 63) rfl rfl Try.func13 (by kernel_rfl) rfl #[.slice A0 l0.length c0, .slice A1 l1.length c1, .int .u64 a2] rfl (by (try simp only [List.map_toArray, List.map_cons, List.map_nil]); first | done | rfl | (simp only [List.length_drop, List.length_take]; rfl)) ?_; (with_reducible refine (policy_Which.calls _ _ l0 _ _ l1 a2 t243 _ ?side1 ?side2 ?side3 ?side4 A27.out).mono ?_); (case side1 => repeat (first | exact (Kd.C_below HR0.out HB.out) | (with_reducible refine Kd.C_alloc ?_ _) | (with_reducible refine Kd.C_drewN ?_ _) | (with_reducible refine Kd.C_drew ?_))); (case side2 => exact HC0.out); (case side3 => repeat (first | exact (Kd.C_below HR1.out HB.out) | (with_reducible refine Kd.C_alloc ?_ _) | (with_reducible refine Kd.C_drewN ?_ _) | (with_reducible refine Kd.C_drew ?_))); (case side4 => exact HC1.out); rintro e w36 ⟨rfl, hb⟩; refine ⟨_, rfl, ?_⟩; have n0_ := Aside0.mk (below_step (by repeat (first | (with_reducible first | exact HB.out | apply below_alloc | apply pw_below_drewN | apply below_drew1) | exact HB.out)) hb); clear HB; have HB := n0_; clear n0_; (try clear hb); (try clear hb2); (try clear hk); (try clear hi)) | ((with_reducible refine gate_callee (f := 30) rfl ?_); refine goesL_ (some 67) rfl rfl Try.func30 (by kernel_rfl) rfl #[.slice A0 l0.length c0, .slice A1 l1.length c1, .int .u64 a2] rfl (by (try simp only [List.map_toArray, List.map_cons, List.map_nil]); first | done | rfl | (simp only [List.length_drop, List.length_take]; rfl)) ?_; (with_reducible refine (telemeterref12_Which.calls k1 _ _ l0 _ _ l1 a2 t244 _ ?side1 ?side2 ?side3 ?side4 A28.out).mono ?_); (case side1 => repeat (first | exact (Kd.C_below HR0.out HB.out) | (with_reducible refine Kd.C_alloc ?_ _) | (with_reducible refine Kd.C_drewN ?_ _) | (with_reducible refine Kd.C_drew ?_))); (case side2 => exact HC0.out); (case side3 => repeat (first | exact (Kd.C_below HR1.out HB.out) | (with_reducible refine Kd.C_alloc ?_ _) | (with_reducible refine Kd.C_drewN ?_ _) | (with_reducible refine Kd.C_drew ?_))); (case side4 => exact HC1.out); rintro e w37 ⟨rfl, hb⟩; refine ⟨_, rfl, ?_⟩; have n0_ := Aside0.mk (below_step (by repeat (first | (with_reducible first | exact HB.out | apply below_alloc | apply pw_below_drewN | apply below_drew1) | exact HB.out)) hb); clear HB; have HB := n0_; clear n0_; (try clear hb); (try clear hb2); (try clear hk); (try clear hi)))
     go_ret
     exact ⟨by first | rfl | (simp [errW_none, errW_some] <;> rfl) | (simp [*, errW_none, errW_some] <;> rfl), by repeat (first | (with_reducible first | exact HB.out | apply below_alloc | apply pw_below_drewN | apply below_drew1) | exact HB.out)⟩

end Go.Proofs.Ytbjoleelfihikaa.Px
