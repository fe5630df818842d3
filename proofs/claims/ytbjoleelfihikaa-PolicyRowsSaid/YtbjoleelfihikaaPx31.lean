-- Laid by a program of this session (wip/xprint.py: the kit's print.py, with functions given by hand). Lean checks it.
import Derived.Test.YtbjoleelfihikaaPx0
import Derived.Test.YtbjoleelfihikaaPx4
import Derived.Test.YtbjoleelfihikaaPx7
import Derived.Test.YtbjoleelfihikaaPx9
import Derived.Test.YtbjoleelfihikaaPx11
import Derived.Test.YtbjoleelfihikaaPx14
import Derived.Test.YtbjoleelfihikaaPx15
import Derived.Test.YtbjoleelfihikaaPx17
namespace Go.Proofs.Ytbjoleelfihikaa.Px
open Go.RowKit Go.Proofs.YtbjoleelfihikaaW.PrintWords Go.Proofs.YtbjoleelfihikaaW.PrintLast Go.Proofs.YtbjoleelfihikaaW.PrintMore
attribute [local go_sem] max2_int min2_int max_two min_two max_three min_three max_four min_four   -- for this text's walks alone
set_option linter.unusedVariables false
set_option linter.unusedSimpArgs false

/-! ### telemeterlaw12_PolicyRows: function 8 -/
mutual
def telemeterlaw12_PolicyRows.j0 : Nat → Int → List (List (S39)) → List (S36) → Int → Bool → Option (Bool)
  | 0, _, _, _, _, _ => none
  | k + 1, x2, x7, x8, x9, x30 => if x30 = true then (some false) else (telemeterlaw12_PolicyRows.l0 k x2 x7 x8 x9 0)
def telemeterlaw12_PolicyRows.l0 : Nat → Int → List (List (S39)) → List (S36) → Int → Int → Option (Bool)
  | 0, _, _, _, _, _ => none
  | k + 1, x2, x7, x8, x9, x10 => if x10 < (x7.length : Int) then (telemeterlaw12_PolicyRows.l1 k x2 x7 x8 x9 x10 true 0) else (telemeterlaw12_PolicyRows.l2 k x2 x7 x8 x9 ([] : List (S36)) (wrap64 ((x8.length : Int) - 1)))
def telemeterlaw12_PolicyRows.l1 : Nat → Int → List (List (S39)) → List (S36) → Int → Int → Bool → Int → Option (Bool)
  | 0, _, _, _, _, _, _, _ => none
  | k + 1, x2, x7, x8, x9, x10, x11, x12 => if 0 ≤ x10 then (if x10 < (x7.length : Int) then (if x12 < ((rd_L4 x7 x10).length : Int) then (if x11 = true then (if 0 ≤ x12 then ((policy_Holds.f ((rd_T39 (rd_L4 x7 x10) x12).f0) ((rd_T39 (rd_L4 x7 x10) x12).f1) ((rd_T39 (rd_L4 x7 x10) x12).f2) ((rd_T39 (rd_L4 x7 x10) x12).f3) x8 x2).bind fun t315 => (telemeterlaw12_PolicyRows.l1 k x2 x7 x8 x9 x10 t315 (wrap64 (x12 + 1)))) else (none)) else (telemeterlaw12_PolicyRows.l1 k x2 x7 x8 x9 x10 false (wrap64 (x12 + 1)))) else ((policy_All.f (rd_L4 x7 x10) x8 x2).bind fun t317 => (if (x11 != t317) = true then (some false) else (if x11 = true then (if x9 < 0 then (some false) else (if x10 < x9 then (some false) else (if x10 = x9 then (telemeterlaw12_PolicyRows.l0 k x2 x7 x8 x9 (wrap64 (x10 + 1))) else (telemeterlaw12_PolicyRows.l0 k x2 x7 x8 x9 (wrap64 (x10 + 1)))))) else (if x10 = x9 then (some false) else (telemeterlaw12_PolicyRows.l0 k x2 x7 x8 x9 (wrap64 (x10 + 1)))))))) else (none)) else (none)
def telemeterlaw12_PolicyRows.l2 : Nat → Int → List (List (S39)) → List (S36) → Int → List (S36) → Int → Option (Bool)
  | 0, _, _, _, _, _, _ => none
  | k + 1, x2, x7, x8, x9, x13, x14 => if x14 ≥ 0 then (if 0 ≤ x14 then (if x14 < (x8.length : Int) then (if x13.length < 1353245080339 then (telemeterlaw12_PolicyRows.l2 k x2 x7 x8 x9 (x13 ++ [(⟨(rd_T36 x8 x14).f0, (rd_T36 x8 x14).f1, (rd_T36 x8 x14).f2, (rd_T36 x8 x14).f3, (rd_T36 x8 x14).f4, (rd_T36 x8 x14).f5, (rd_T36 x8 x14).f6, (rd_T36 x8 x14).f7, (rd_T36 x8 x14).f8, (rd_T36 x8 x14).f9⟩ : S36)]) (wrap64 (x14 - 1))) else (none)) else (none)) else (none)) else ((telemeterlaw12_known.f k).bind fun t322 => (if t322 = true then ((policy_Which.f x7 x13 x2).bind fun t323 => (if t323 = x9 then ((policy_Length.f k x13).bind fun t324 => ((policy_Length.f k x8).bind fun t325 => (some (t324 == t325)))) else (some false))) else (some false)))
end
def telemeterlaw12_PolicyRows.f (k : Nat) (l0 : List Int) (l1 : List (List Int)) (a2 : Int) : Option (Bool) := (telemeterlaw12_Rules.f k l0).bind fun t305 => ((telemeterlaw12_Spans.f k l1).bind fun t308 => ((policy_Which.f t305 t308 a2).bind fun t311 => (if t311 < (-1) then (telemeterlaw12_PolicyRows.j0 k a2 t305 t308 t311 true) else (telemeterlaw12_PolicyRows.j0 k a2 t305 t308 t311 (decide (t311 ≥ (t305.length : Int)))))))
theorem telemeterlaw12_PolicyRows.mono_l : ∀ k, (∀ y0 y1 y2 y3 y4, LeO (telemeterlaw12_PolicyRows.j0 k y0 y1 y2 y3 y4) (telemeterlaw12_PolicyRows.j0 (k + 1) y0 y1 y2 y3 y4)) ∧ (∀ y0 y1 y2 y3 y4, LeO (telemeterlaw12_PolicyRows.l0 k y0 y1 y2 y3 y4) (telemeterlaw12_PolicyRows.l0 (k + 1) y0 y1 y2 y3 y4)) ∧ (∀ y0 y1 y2 y3 y4 y5 y6, LeO (telemeterlaw12_PolicyRows.l1 k y0 y1 y2 y3 y4 y5 y6) (telemeterlaw12_PolicyRows.l1 (k + 1) y0 y1 y2 y3 y4 y5 y6)) ∧ (∀ y0 y1 y2 y3 y4 y5, LeO (telemeterlaw12_PolicyRows.l2 k y0 y1 y2 y3 y4 y5) (telemeterlaw12_PolicyRows.l2 (k + 1) y0 y1 y2 y3 y4 y5))
  | 0 => ⟨fun _ _ _ _ _ r h => by simp [telemeterlaw12_PolicyRows.j0] at h, fun _ _ _ _ _ r h => by simp [telemeterlaw12_PolicyRows.l0] at h, fun _ _ _ _ _ _ _ r h => by simp [telemeterlaw12_PolicyRows.l1] at h, fun _ _ _ _ _ _ r h => by simp [telemeterlaw12_PolicyRows.l2] at h⟩
  | k + 1 => by
    obtain ⟨ih0, ih1, ih2, ih3⟩ := telemeterlaw12_PolicyRows.mono_l k
    refine ⟨?_, ?_, ?_, ?_⟩
    · intro y0 y1 y2 y3 y4
      unfold telemeterlaw12_PolicyRows.j0
      repeat' first
      | (with_reducible exact ih0 _ _ _ _ _)
      | (with_reducible exact ih1 _ _ _ _ _)
      | (with_reducible exact ih2 _ _ _ _ _ _ _)
      | (with_reducible exact ih3 _ _ _ _ _ _)
      | (with_reducible exact policy_Length.mono _ _)
      | (with_reducible exact telemeterlaw12_Rules.mono _ _)
      | (with_reducible exact telemeterlaw12_Spans.mono _ _)
      | (with_reducible exact telemeterlaw12_known.mono _)
      | (with_reducible exact LeO.refl _)
      | (with_reducible exact LeO.none _)
      | (with_reducible refine LeO.ite ?_ ?_)
      | (with_reducible refine LeO.bind ?_ (fun _ => ?_))
      | exact ih0 _ _ _ _ _
      | exact ih1 _ _ _ _ _
      | exact ih2 _ _ _ _ _ _ _
      | exact ih3 _ _ _ _ _ _
      | exact policy_Length.mono _ _
      | exact telemeterlaw12_Rules.mono _ _
      | exact telemeterlaw12_Spans.mono _ _
      | exact telemeterlaw12_known.mono _
      | exact LeO.none _
      | refine LeO.ite ?_ ?_
      | refine LeO.bind ?_ (fun _ => ?_)
    · intro y0 y1 y2 y3 y4
      unfold telemeterlaw12_PolicyRows.l0
      repeat' first
      | (with_reducible exact ih0 _ _ _ _ _)
      | (with_reducible exact ih1 _ _ _ _ _)
      | (with_reducible exact ih2 _ _ _ _ _ _ _)
      | (with_reducible exact ih3 _ _ _ _ _ _)
      | (with_reducible exact policy_Length.mono _ _)
      | (with_reducible exact telemeterlaw12_Rules.mono _ _)
      | (with_reducible exact telemeterlaw12_Spans.mono _ _)
      | (with_reducible exact telemeterlaw12_known.mono _)
      | (with_reducible exact LeO.refl _)
      | (with_reducible exact LeO.none _)
      | (with_reducible refine LeO.ite ?_ ?_)
      | (with_reducible refine LeO.bind ?_ (fun _ => ?_))
      | exact ih0 _ _ _ _ _
      | exact ih1 _ _ _ _ _
      | exact ih2 _ _ _ _ _ _ _
      | exact ih3 _ _ _ _ _ _
      | exact policy_Length.mono _ _
      | exact telemeterlaw12_Rules.mono _ _
      | exact telemeterlaw12_Spans.mono _ _
      | exact telemeterlaw12_known.mono _
      | exact LeO.none _
      | refine LeO.ite ?_ ?_
      | refine LeO.bind ?_ (fun _ => ?_)
    · intro y0 y1 y2 y3 y4 y5 y6
      unfold telemeterlaw12_PolicyRows.l1
      repeat' first
      | (with_reducible exact ih0 _ _ _ _ _)
      | (with_reducible exact ih1 _ _ _ _ _)
      | (with_reducible exact ih2 _ _ _ _ _ _ _)
      | (with_reducible exact ih3 _ _ _ _ _ _)
      | (with_reducible exact policy_Length.mono _ _)
      | (with_reducible exact telemeterlaw12_Rules.mono _ _)
      | (with_reducible exact telemeterlaw12_Spans.mono _ _)
      | (with_reducible exact telemeterlaw12_known.mono _)
      | (with_reducible exact LeO.refl _)
      | (with_reducible exact LeO.none _)
      | (with_reducible refine LeO.ite ?_ ?_)
      | (with_reducible refine LeO.bind ?_ (fun _ => ?_))
      | exact ih0 _ _ _ _ _
      | exact ih1 _ _ _ _ _
      | exact ih2 _ _ _ _ _ _ _
      | exact ih3 _ _ _ _ _ _
      | exact policy_Length.mono _ _
      | exact telemeterlaw12_Rules.mono _ _
      | exact telemeterlaw12_Spans.mono _ _
      | exact telemeterlaw12_known.mono _
      | exact LeO.none _
      | refine LeO.ite ?_ ?_
      | refine LeO.bind ?_ (fun _ => ?_)
    · intro y0 y1 y2 y3 y4 y5
      unfold telemeterlaw12_PolicyRows.l2
      repeat' first
      | (with_reducible exact ih0 _ _ _ _ _)
      | (with_reducible exact ih1 _ _ _ _ _)
      | (with_reducible exact ih2 _ _ _ _ _ _ _)
      | (with_reducible exact ih3 _ _ _ _ _ _)
      | (with_reducible exact policy_Length.mono _ _)
      | (with_reducible exact telemeterlaw12_Rules.mono _ _)
      | (with_reducible exact telemeterlaw12_Spans.mono _ _)
      | (with_reducible exact telemeterlaw12_known.mono _)
      | (with_reducible exact LeO.refl _)
      | (with_reducible exact LeO.none _)
      | (with_reducible refine LeO.ite ?_ ?_)
      | (with_reducible refine LeO.bind ?_ (fun _ => ?_))
      | exact ih0 _ _ _ _ _
      | exact ih1 _ _ _ _ _
      | exact ih2 _ _ _ _ _ _ _
      | exact ih3 _ _ _ _ _ _
      | exact policy_Length.mono _ _
      | exact telemeterlaw12_Rules.mono _ _
      | exact telemeterlaw12_Spans.mono _ _
      | exact telemeterlaw12_known.mono _
      | exact LeO.none _
      | refine LeO.ite ?_ ?_
      | refine LeO.bind ?_ (fun _ => ?_)
theorem telemeterlaw12_PolicyRows.mono : ∀ a0 a1 a2 k, LeO (telemeterlaw12_PolicyRows.f k a0 a1 a2) (telemeterlaw12_PolicyRows.f (k + 1) a0 a1 a2) := by
  intro a0 a1 a2 k
  obtain ⟨ih0, ih1, ih2, ih3⟩ := telemeterlaw12_PolicyRows.mono_l k
  unfold telemeterlaw12_PolicyRows.f
  repeat' first
      | (with_reducible exact ih0 _ _ _ _ _)
      | (with_reducible exact ih1 _ _ _ _ _)
      | (with_reducible exact ih2 _ _ _ _ _ _ _)
      | (with_reducible exact ih3 _ _ _ _ _ _)
      | (with_reducible exact policy_Length.mono _ _)
      | (with_reducible exact telemeterlaw12_Rules.mono _ _)
      | (with_reducible exact telemeterlaw12_Spans.mono _ _)
      | (with_reducible exact telemeterlaw12_known.mono _)
      | (with_reducible exact LeO.refl _)
      | (with_reducible exact LeO.none _)
      | (with_reducible refine LeO.ite ?_ ?_)
      | (with_reducible refine LeO.bind ?_ (fun _ => ?_))
      | exact ih0 _ _ _ _ _
      | exact ih1 _ _ _ _ _
      | exact ih2 _ _ _ _ _ _ _
      | exact ih3 _ _ _ _ _ _
      | exact policy_Length.mono _ _
      | exact telemeterlaw12_Rules.mono _ _
      | exact telemeterlaw12_Spans.mono _ _
      | exact telemeterlaw12_known.mono _
      | exact LeO.none _
      | refine LeO.ite ?_ ?_
      | refine LeO.bind ?_ (fun _ => ?_)
set_option maxHeartbeats 8000000 in
set_option maxRecDepth 100000 in
theorem telemeterlaw12_PolicyRows.calls (k : Nat) (A0 : Option Addr) (c0 : Nat) (l0 : List Int) (A1 : Option Addr) (c1 : Nat) (l1 : List (List Int)) (a2 : Int) (r : Bool) (w : World) (hr0 : Kd.C (Kd.int .u8) w A0 l0.length l0) (hc0 : l0.length ≤ c0) (hr1 : Kd.C (Kd.slice 5 (Kd.int .u8)) w A1 l1.length l1) (hc1 : l1.length ≤ c1) (h : telemeterlaw12_PolicyRows.f k l0 l1 a2 = some r) :
    Calls Try.prog 8 #[.slice A0 l0.length c0, .slice A1 l1.length c1, .int .u64 a2] w fun e w' => e = .returned (.bool r) ∧ Below w.heap.size w w' := by
  have hu39 := Try.underlying39
  have hu36 := Try.underlying36
  have HR0 := Aside0.mk hr0
  have HC0 := Aside0.mk hc0
  clear hr0 hc0
  have HR1 := Aside0.mk hr1
  have HC1 := Aside0.mk hc1
  clear hr1 hc1
  have HB := Aside0.mk (Below.refl w.heap.size w)
  have H : ((telemeterlaw12_Rules.f k l0).bind fun t305 => ((telemeterlaw12_Spans.f k l1).bind fun t308 => ((policy_Which.f t305 t308 a2).bind fun t311 => (if t311 < (-1) then (telemeterlaw12_PolicyRows.j0 k a2 t305 t308 t311 true) else (telemeterlaw12_PolicyRows.j0 k a2 t305 t308 t311 (decide (t311 ≥ (t305.length : Int)))))))) = some r := h
  clear h
  replace H := Option.bind_eq_some_iff.mp H
  obtain ⟨t305, A40, H⟩ := H
  replace H : ((telemeterlaw12_Spans.f k l1).bind fun t308 => ((policy_Which.f t305 t308 a2).bind fun t311 => (if t311 < (-1) then (telemeterlaw12_PolicyRows.j0 k a2 t305 t308 t311 true) else (telemeterlaw12_PolicyRows.j0 k a2 t305 t308 t311 (decide (t311 ≥ (t305.length : Int))))))) = some r := H
  have A4 := Aside0.mk A40
  clear A40
  replace H := Option.bind_eq_some_iff.mp H
  obtain ⟨t308, A50, H⟩ := H
  replace H : ((policy_Which.f t305 t308 a2).bind fun t311 => (if t311 < (-1) then (telemeterlaw12_PolicyRows.j0 k a2 t305 t308 t311 true) else (telemeterlaw12_PolicyRows.j0 k a2 t305 t308 t311 (decide (t311 ≥ (t305.length : Int)))))) = some r := H
  have A5 := Aside0.mk A50
  clear A50
  replace H := Option.bind_eq_some_iff.mp H
  obtain ⟨t311, A60, H⟩ := H
  replace H : (if t311 < (-1) then (telemeterlaw12_PolicyRows.j0 k a2 t305 t308 t311 true) else (telemeterlaw12_PolicyRows.j0 k a2 t305 t308 t311 (decide (t311 ≥ (t305.length : Int))))) = some r := H
  have A6 := Aside0.mk A60
  clear A60
  have HC7 := Aside0.mk H
  clear H
  go_enter Try.func8, Try.ntmps8
  go_upto_region 4 with (first | ((with_reducible refine gate_callee (f := 9) rfl ?_); refine goesL_ (some 16) rfl rfl Try.func9 (by kernel_rfl) rfl #[.slice A0 l0.length c0] rfl (by (try simp only [List.map_toArray, List.map_cons, List.map_nil]); first | done | rfl | (simp only [List.length_drop, List.length_take]; rfl)) ?_; (with_reducible refine (telemeterlaw12_Rules.calls k _ _ l0 t305 _ ?side1 ?side2 A4.out).mono ?_); (case side1 => repeat (first | exact HR0.out | (with_reducible refine Kd.C_alloc ?_ _) | (with_reducible refine Kd.C_drewN ?_ _) | (with_reducible refine Kd.C_drew ?_))); (case side2 => exact HC0.out); rintro e w8 ⟨v306, rfl, ho0, hb⟩; refine ⟨_, rfl, ?_⟩; have n0_ := Aside0.mk (Kd.N_lower (Kd.N_mono (ok' := fun k_ => True) (Kd.S_N (Kd.S_bound ho0)) (fun k_ hk_ => trivial)) (below_size (by repeat (first | (with_reducible first | exact HB.out | apply below_alloc | apply pw_below_drewN | apply below_drew1) | exact HB.out)))); have n1_ := Aside0.mk (below_step (by repeat (first | (with_reducible first | exact HB.out | apply below_alloc | apply pw_below_drewN | apply below_drew1) | exact HB.out)) hb); clear HB; have HO307 := n0_; have HB := n1_; clear n0_ n1_; (try clear hb); (try clear hb2); (try clear hk); (try clear hi); (try clear ho0)) | ((with_reducible refine gate_callee (f := 11) rfl ?_); refine goesL_ (some 18) rfl rfl Try.func11 (by kernel_rfl) rfl #[.slice A1 l1.length c1] rfl (by (try simp only [List.map_toArray, List.map_cons, List.map_nil]); first | done | rfl | (simp only [List.length_drop, List.length_take]; rfl)) ?_; (with_reducible refine (telemeterlaw12_Spans.calls k _ _ l1 t308 _ ?side1 ?side2 A5.out).mono ?_); (case side1 => repeat (first | exact (Kd.C_below HR1.out HB.out) | (with_reducible refine Kd.C_alloc ?_ _) | (with_reducible refine Kd.C_drewN ?_ _) | (with_reducible refine Kd.C_drew ?_))); (case side2 => exact HC1.out); rintro e w9 ⟨v309, rfl, ho0, hb⟩; refine ⟨_, rfl, ?_⟩; have n0_ := Aside0.mk (Kd.N_elder' (by (with_reducible repeat (first | apply Kd.N_alloc | apply Kd.N_drewN | apply Kd.N_drew)); exact HO307.out) (Kd.S_base ho0) hb); have n1_ := Aside0.mk (Kd.N_lower (Kd.N_mono (ok' := fun k_ => some k_ ≠ (v306 : Value).ownBlock) (Kd.S_N (Kd.S_bound ho0)) (fun k_ hk_ => (Kd.fresh' (Kd.N_lt (by (with_reducible repeat (first | apply Kd.N_alloc | apply Kd.N_drewN | apply Kd.N_drew)); exact HO307.out)) k_ hk_.2.1))) (below_size (by repeat (first | (with_reducible first | exact HB.out | apply below_alloc | apply pw_below_drewN | apply below_drew1) | exact HB.out)))); have n2_ := Aside0.mk (below_step (by repeat (first | (with_reducible first | exact HB.out | apply below_alloc | apply pw_below_drewN | apply below_drew1) | exact HB.out)) hb); clear HO307; clear HB; have HO307 := n0_; have HO310 := n1_; have HB := n2_; clear n0_ n1_ n2_; (try clear hb); (try clear hb2); (try clear hk); (try clear hi); (try clear ho0); obtain ⟨Ao10, co10, eo10⟩ := Kd.N_slice HO307.out; subst eo10; obtain ⟨Ao11, co11, eo11⟩ := Kd.N_slice HO310.out; subst eo11) | ((with_reducible refine gate_callee (f := 13) rfl ?_); refine goesL_ (some 22) rfl rfl Try.func13 (by kernel_rfl) rfl #[.slice Ao10 t305.length co10, .slice Ao11 t308.length co11, .int .u64 a2] rfl (by (try simp only [List.map_toArray, List.map_cons, List.map_nil]); first | done | rfl | (simp only [List.length_drop, List.length_take]; rfl)) ?_; (with_reducible refine (policy_Which.calls _ _ t305 _ _ t308 a2 t311 _ ?side1 ?side2 ?side3 ?side4 A6.out).mono ?_); (case side1 => repeat (first | exact (Kd.N_reads' HO307.out).2.2 | (with_reducible refine Kd.C_alloc ?_ _) | (with_reducible refine Kd.C_drewN ?_ _) | (with_reducible refine Kd.C_drew ?_))); (case side2 => exact (Kd.N_reads' HO307.out).2.1); (case side3 => repeat (first | exact (Kd.N_reads' HO310.out).2.2 | (with_reducible refine Kd.C_alloc ?_ _) | (with_reducible refine Kd.C_drewN ?_ _) | (with_reducible refine Kd.C_drew ?_))); (case side4 => exact (Kd.N_reads' HO310.out).2.1); rintro e w12 ⟨rfl, hb⟩; refine ⟨_, rfl, ?_⟩; have n0_ := Aside0.mk (Kd.N_below (by (with_reducible repeat (first | apply Kd.N_alloc | apply Kd.N_drewN | apply Kd.N_drew)); exact HO307.out) hb); have n1_ := Aside0.mk (Kd.N_below (by (with_reducible repeat (first | apply Kd.N_alloc | apply Kd.N_drewN | apply Kd.N_drew)); exact HO310.out) hb); have n2_ := Aside0.mk (below_step (by repeat (first | (with_reducible first | exact HB.out | apply below_alloc | apply pw_below_drewN | apply below_drew1) | exact HB.out)) hb); clear HO307; clear HO310; clear HB; have HO307 := n0_; have HO310 := n1_; have HB := n2_; clear n0_ n1_ n2_; (try clear hb); (try clear hb2); (try clear hk); (try clear hi)))
  (try simp only [Act.put, List.setIfInBounds_toArray, List.set_cons_zero, List.set_cons_succ])
  go_cut [30] (fun v30 wc => ∃ (kq : Nat) (x30_6 : Bool), v30 = .bool x30_6 ∧ Aside0 (telemeterlaw12_PolicyRows.j0 kq a2 t305 t308 t311 x30_6 = some r) ∧ Aside0 (kq ≤ k) ∧ Aside0 (Kd.N (Kd.slice 39 k39) 30 wc w.heap.size (fun k_ => some k_ ≠ ((.slice Ao11 t308.length co11) : Value).ownBlock) (.slice Ao10 t305.length co10) t305) ∧ Aside0 (Kd.N k36 36 wc w.heap.size (fun k_ => some k_ ≠ ((.slice Ao10 t305.length co10) : Value).ownBlock) (.slice Ao11 t308.length co11) t308) ∧ Aside0 (Below w.heap.size w wc))
  case first =>
    have H := HC7.out
    clear HC7
    by_cases c13 : t311 < (-1)
    · rw [if_pos c13] at H
      have c13b0 : decide (t311 < (-1)) = true := decide_eq_true c13
      clear c13
      (first | rw [c13b0] | (simp only [i64_w, i32_w]; rw [c13b0]) | skip)
      have H' := Aside0.mk H
      clear H
      go_wp2
      go_meet
      case rel => exact ⟨_, (true), (by first | rfl | (simp; done) | (simp [*]; done)), H', ⟨by first | omega | exact Nat.le_refl _⟩, ⟨by (with_reducible repeat (first | apply Kd.N_alloc | apply Kd.N_drewN | apply Kd.N_drew)); exact Kd.N_mono HO307.out (fun _ hk => hk.2)⟩, ⟨by (with_reducible repeat (first | apply Kd.N_alloc | apply Kd.N_drewN | apply Kd.N_drew)); exact HO310.out⟩, ⟨by repeat (first | (with_reducible first | exact HB.out | apply below_alloc | apply pw_below_drewN | apply below_drew1) | exact HB.out)⟩⟩
    · rw [if_neg c13] at H
      have c13b0 : decide (t311 < (-1)) = false := decide_eq_false c13
      clear c13
      (first | rw [c13b0] | (simp only [i64_w, i32_w]; rw [c13b0]) | skip)
      have H' := Aside0.mk H
      clear H
      go_wp2
      go_meet
      case rel => exact ⟨_, (decide (t311 ≥ (t305.length : Int))), (by first | rfl | (simp; done) | (simp [*]; done)), H', ⟨by first | omega | exact Nat.le_refl _⟩, ⟨by (with_reducible repeat (first | apply Kd.N_alloc | apply Kd.N_drewN | apply Kd.N_drew)); exact Kd.N_mono HO307.out (fun _ hk => hk.2)⟩, ⟨by (with_reducible repeat (first | apply Kd.N_alloc | apply Kd.N_drewN | apply Kd.N_drew)); exact HO310.out⟩, ⟨by repeat (first | (with_reducible first | exact HB.out | apply below_alloc | apply pw_below_drewN | apply below_drew1) | exact HB.out)⟩⟩
  case rest =>
    clear HC7
    try clear c1
    try clear p2
    try clear c8
    try clear c9
    try clear c11
    try clear c13
    try clear c13b0
    obtain ⟨kq, x30_6, rfl, HA, HJ6, HO_7, HO_8, HB⟩ := hcut
    cases kq with
    | zero => exact absurd HA.out (by simp [telemeterlaw12_PolicyRows.j0])
    | succ kj6 =>
      have H := HA.out
      clear HA
      simp only [telemeterlaw12_PolicyRows.j0] at H
      by_cases c14 : x30_6 = true
      · subst c14
        have H1 : (some false) = some r := by rw [if_pos rfl] at H; exact H
        clear H
        have H := H1
        clear H1
        obtain rfl := Option.some.inj H
        go_wp2
        go_ret
        exact ⟨by first | rfl | (simp [errW_none, errW_some] <;> rfl) | (simp [*, errW_none, errW_some] <;> rfl), by repeat (first | (with_reducible first | exact HB.out | apply below_alloc | apply pw_below_drewN | apply below_drew1) | exact HB.out)⟩
      · replace c14 := Bool.eq_false_iff.mpr c14
        subst c14
        have H1 : (telemeterlaw12_PolicyRows.l0 kj6 a2 t305 t308 t311 0) = some r := by rw [if_neg (show ¬ (false = true) by decide)] at H; exact H
        clear H
        have H := H1
        clear H1
        have H' := Aside0.mk H
        clear H
        go_wp2
        go_loopg [10] kj6 (fun kq v10 w' => ∃ (x10_2 : Int), v10 = .int .i64 x10_2 ∧ Aside0 (telemeterlaw12_PolicyRows.l0 kq a2 t305 t308 t311 x10_2 = some r) ∧ Aside0 (kq ≤ kj6) ∧ Aside0 (Kd.N (Kd.slice 39 k39) 30 w' w.heap.size (fun k_ => some k_ ≠ ((.slice Ao11 t308.length co11) : Value).ownBlock) (.slice Ao10 t305.length co10) t305) ∧ Aside0 (Kd.N k36 36 w' w.heap.size (fun k_ => some k_ ≠ ((.slice Ao10 t305.length co10) : Value).ownBlock) (.slice Ao11 t308.length co11) t308) ∧ Aside0 (Below w.heap.size w w'))
        case atStart => exact ⟨(0), (by first | rfl | (simp; done) | (simp [*]; done)), H', ⟨Nat.le_refl _⟩, ⟨by (with_reducible repeat (first | apply Kd.N_alloc | apply Kd.N_drewN | apply Kd.N_drew)); exact HO_7.out⟩, ⟨by (with_reducible repeat (first | apply Kd.N_alloc | apply Kd.N_drewN | apply Kd.N_drew)); exact HO_8.out⟩, ⟨by repeat (first | (with_reducible first | exact HB.out | apply below_alloc | apply pw_below_drewN | apply below_drew1) | exact HB.out)⟩⟩
        case round =>
          clear H'
          try clear c1
          try clear p2
          try clear c8
          try clear c9
          try clear c11
          try clear c13
          try clear c13b0
          try clear c14
          try clear p2
          obtain ⟨x10_2, rfl, HA, HK2, HO_7, HO_8, HB⟩ := hrel
          cases gk with
          | zero => exact absurd HA.out (by simp [telemeterlaw12_PolicyRows.l0])
          | succ k2 =>
            have H := HA.out
            clear HA
            simp only [telemeterlaw12_PolicyRows.l0] at H
            by_cases c15 : x10_2 < (t305.length : Int)
            · rw [if_pos c15] at H
              have c15b0 : decide (x10_2 < (t305.length : Int)) = true := decide_eq_true c15
              clear c15
              have H' := Aside0.mk H
              clear H
              go_wp2
              go_loopg [11, 12] k2 (fun kq v11 v12 w' => ∃ (x11_3 : Bool) (x12_3 : Int), v11 = .bool x11_3 ∧ v12 = .int .i64 x12_3 ∧ Aside0 (telemeterlaw12_PolicyRows.l1 kq a2 t305 t308 t311 x10_2 x11_3 x12_3 = some r) ∧ Aside0 (kq ≤ k2) ∧ Aside0 (Kd.N (Kd.slice 39 k39) 30 w' w.heap.size (fun k_ => some k_ ≠ ((.slice Ao11 t308.length co11) : Value).ownBlock) (.slice Ao10 t305.length co10) t305) ∧ Aside0 (Kd.N k36 36 w' w.heap.size (fun k_ => some k_ ≠ ((.slice Ao10 t305.length co10) : Value).ownBlock) (.slice Ao11 t308.length co11) t308) ∧ Aside0 (Below w.heap.size w w'))
              case atStart => exact ⟨(true), (0), (by first | rfl | (simp; done) | (simp [*]; done)), (by first | rfl | (simp; done) | (simp [*]; done)), H', ⟨Nat.le_refl _⟩, ⟨by (with_reducible repeat (first | apply Kd.N_alloc | apply Kd.N_drewN | apply Kd.N_drew)); exact HO_7.out⟩, ⟨by (with_reducible repeat (first | apply Kd.N_alloc | apply Kd.N_drewN | apply Kd.N_drew)); exact HO_8.out⟩, ⟨by repeat (first | (with_reducible first | exact HB.out | apply below_alloc | apply pw_below_drewN | apply below_drew1) | exact HB.out)⟩⟩
              case round =>
                clear H'
                try clear c1
                try clear p2
                try clear c8
                try clear c9
                try clear c11
                try clear c13
                try clear c13b0
                try clear c14
                try clear c15
                try clear c15b0
                try clear p2
                obtain ⟨x11_3, x12_3, rfl, rfl, HA, HK3, HO_7, HO_8, HB⟩ := hrel
                cases gk with
                | zero => exact absurd HA.out (by simp [telemeterlaw12_PolicyRows.l1])
                | succ k3 =>
                  have H := HA.out
                  clear HA
                  simp only [telemeterlaw12_PolicyRows.l1] at H
                  by_cases c16 : 0 ≤ x10_2
                  · rw [if_pos c16] at H
                    have c16b0 : decide (0 ≤ x10_2) = true := decide_eq_true c16
                    clear c16
                    by_cases c17 : x10_2 < (t305.length : Int)
                    · rw [if_pos c17] at H
                      have c17b0 : decide (x10_2 < (t305.length : Int)) = true := decide_eq_true c17
                      clear c17
                      by_cases c18 : x12_3 < ((rd_L4 t305 x10_2).length : Int)
                      · rw [if_pos c18] at H
                        have c18b0 : decide (x12_3 < ((rd_L4 t305 x10_2).length : Int)) = true := decide_eq_true c18
                        clear c18
                        by_cases c19 : x11_3 = true
                        · subst c19
                          have H1 : (if 0 ≤ x12_3 then ((policy_Holds.f ((rd_T39 (rd_L4 t305 x10_2) x12_3).f0) ((rd_T39 (rd_L4 t305 x10_2) x12_3).f1) ((rd_T39 (rd_L4 t305 x10_2) x12_3).f2) ((rd_T39 (rd_L4 t305 x10_2) x12_3).f3) t308 a2).bind fun t315 => (telemeterlaw12_PolicyRows.l1 k3 a2 t305 t308 t311 x10_2 t315 (wrap64 (x12_3 + 1)))) else (none)) = some r := by rw [if_pos rfl] at H; exact H
                          clear H
                          have H := H1
                          clear H1
                          by_cases c20 : 0 ≤ x12_3
                          · rw [if_pos c20] at H
                            have c20b0 : decide (0 ≤ x12_3) = true := decide_eq_true c20
                            clear c20
                            replace H := Option.bind_eq_some_iff.mp H
                            obtain ⟨t315, A210, H⟩ := H
                            replace H : (telemeterlaw12_PolicyRows.l1 k3 a2 t305 t308 t311 x10_2 t315 (wrap64 (x12_3 + 1))) = some r := H
                            have A21 := Aside0.mk A210
                            clear A210
                            have H' := Aside0.mk H
                            clear H
                            have p312 : 0 ≤ (x10_2 : Int) := of_decide_eq_true (by first | (with_reducible assumption) | assumption)
                            have q312 : x10_2 < (t305.length : Int) := of_decide_eq_true (by first | (with_reducible assumption) | assumption)
                            obtain ⟨ad312, A312_0, c312_0, e312, hx312_0, hl312_0, hi312_0⟩ := at_L4 (Kd.N_reads' HO_7.out).2.2 x10_2 p312 q312
                            cases e312
                            obtain ⟨ce312, hce312, hMe312, hcc312⟩ := Kd.N_get HO_7.out [] x10_2 p312 (by first | exact q312 | exact of_decide_eq_true (by first | (with_reducible assumption) | assumption) | (have e_ := (Kd.N_reads' HO_7.out).1; omega))
                            obtain ⟨ua312_0, uc312_0, rfl, ul312_0, ge312_0⟩ := Kd.FK_slice_open hMe312
                            have hv312_0 := hcc312 0 _ rfl
                            rw [Nat.add_zero, show ((Kd.slice 39 k39)).sz = 1 from rfl, Nat.mul_one] at hv312_0
                            replace hv312_0 := Option.some.inj (hv312_0.symm.trans hx312_0)
                            injection hv312_0 with hva_ hvn_ hvc_
                            rw [hva_] at ge312_0
                            rw [hvc_] at ul312_0
                            have HL312_0 := Aside0.mk (show Kd.V k39 39 _ w.heap.size _ _ (rd_L4 t305 x10_2) from Kd.V_mk ul312_0 ge312_0)
                            clear hva_ hvn_ hvc_ ge312_0 ul312_0
                            clear hcc312 hce312
                            have HR312_0 := Aside0.mk hi312_0
                            have HC312_0 := Aside0.mk hl312_0
                            clear hi312_0 hl312_0
                            replace p312 := eq_true p312
                            replace q312 := eq_true q312
                            have p313 : 0 ≤ (x10_2 : Int) := of_decide_eq_true (by first | (with_reducible assumption) | assumption)
                            have q313 : x10_2 < (t305.length : Int) := of_decide_eq_true (by first | (with_reducible assumption) | assumption)
                            obtain ⟨ad313, A313_0, c313_0, e313, hx313_0, hl313_0, hi313_0⟩ := at_L4 (Kd.N_reads' HO_7.out).2.2 x10_2 p313 q313
                            obtain rfl : ad312 = ad313 := (by injection e313)
                            obtain ⟨ce313, hce313, hMe313, hcc313⟩ := Kd.N_get HO_7.out [] x10_2 p313 (by first | exact q313 | exact of_decide_eq_true (by first | (with_reducible assumption) | assumption) | (have e_ := (Kd.N_reads' HO_7.out).1; omega))
                            obtain ⟨ua313_0, uc313_0, rfl, ul313_0, ge313_0⟩ := Kd.FK_slice_open hMe313
                            have hv313_0 := hcc313 0 _ rfl
                            rw [Nat.add_zero, show ((Kd.slice 39 k39)).sz = 1 from rfl, Nat.mul_one] at hv313_0
                            replace hv313_0 := Option.some.inj (hv313_0.symm.trans hx313_0)
                            injection hv313_0 with hva_ hvn_ hvc_
                            rw [hva_] at ge313_0
                            rw [hvc_] at ul313_0
                            have HL313_0 := Aside0.mk (show Kd.V k39 39 _ w.heap.size _ _ (rd_L4 t305 x10_2) from Kd.V_mk ul313_0 ge313_0)
                            clear hva_ hvn_ hvc_ ge313_0 ul313_0
                            clear hcc313 hce313
                            have HR313_0 := Aside0.mk hi313_0
                            have HC313_0 := Aside0.mk hl313_0
                            clear hi313_0 hl313_0
                            replace p313 := eq_true p313
                            replace q313 := eq_true q313
                            have ea_ := Option.some.inj (hx312_0.symm.trans hx313_0)
                            injection ea_ with ea_ en_ ec_
                            subst ea_
                            subst ec_
                            clear en_
                            have p314 : 0 ≤ (x12_3 : Int) := of_decide_eq_true (by first | (with_reducible assumption) | assumption)
                            have q314 : x12_3 < ((rd_L4 t305 x10_2).length : Int) := of_decide_eq_true (by first | (with_reducible assumption) | assumption)
                            obtain ⟨ad314, e314, hx314_0, hx314_1, hx314_2, hx314_3⟩ := at_T39 (by repeat (first | (with_reducible exact HR313_0.out) | (with_reducible refine Kd.C_alloc ?_ _) | (with_reducible refine Kd.C_drewN ?_ _) | (with_reducible refine Kd.C_drew ?_) | exact HR313_0.out)) x12_3 p314 q314
                            cases e314
                            replace p314 := eq_true p314
                            replace q314 := eq_true q314
                            go_wp2_with (first | (go_at_call 14; (with_reducible refine (policy_Holds.calls ((rd_T39 (rd_L4 t305 x10_2) x12_3).f0) ((rd_T39 (rd_L4 t305 x10_2) x12_3).f1) ((rd_T39 (rd_L4 t305 x10_2) x12_3).f2) ((rd_T39 (rd_L4 t305 x10_2) x12_3).f3) _ _ t308 a2 t315 _ ?side1 ?side2 A21.out).mono ?_); (case side1 => repeat (first | exact (Kd.N_reads' HO_8.out).2.2 | (with_reducible refine Kd.C_alloc ?_ _) | (with_reducible refine Kd.C_drewN ?_ _) | (with_reducible refine Kd.C_drew ?_))); (case side2 => exact (Kd.N_reads' HO_8.out).2.1); rintro e w22 ⟨rfl, hb⟩; have n0_ := Aside0.mk (Kd.N_below (by (with_reducible repeat (first | apply Kd.N_alloc | apply Kd.N_drewN | apply Kd.N_drew)); exact HO_7.out) hb); have n1_ := Aside0.mk (Kd.N_below (by (with_reducible repeat (first | apply Kd.N_alloc | apply Kd.N_drewN | apply Kd.N_drew)); exact HO_8.out) hb); have n2_ := Aside0.mk (Kd.V_below (by (with_reducible repeat (first | apply Kd.V_alloc | apply Kd.V_drewN | apply Kd.V_drew)); exact HL312_0.out) hb); have n3_ := Aside0.mk (Kd.V_below (by (with_reducible repeat (first | apply Kd.V_alloc | apply Kd.V_drewN | apply Kd.V_drew)); exact HL313_0.out) hb); have n4_ := Aside0.mk (Kd.C_below (by repeat (first | (with_reducible exact HR312_0.out) | (with_reducible refine Kd.C_alloc ?_ _) | (with_reducible refine Kd.C_drewN ?_ _) | (with_reducible refine Kd.C_drew ?_) | exact HR312_0.out)) hb); have n5_ := Aside0.mk (Kd.C_below (by repeat (first | (with_reducible exact HR313_0.out) | (with_reducible refine Kd.C_alloc ?_ _) | (with_reducible refine Kd.C_drewN ?_ _) | (with_reducible refine Kd.C_drew ?_) | exact HR313_0.out)) hb); have n6_ := Aside0.mk (below_step (by repeat (first | (with_reducible first | exact HB.out | apply below_alloc | apply pw_below_drewN | apply below_drew1) | exact HB.out)) hb); clear HO_7; clear HO_8; clear HL312_0; clear HL313_0; clear HR312_0; clear HR313_0; clear HB; have HO_7 := n0_; have HO_8 := n1_; have HL312_0 := n2_; have HL313_0 := n3_; have HR312_0 := n4_; have HR313_0 := n5_; have HB := n6_; clear n0_ n1_ n2_ n3_ n4_ n5_ n6_; (try clear hb); (try clear hb2); (try clear hk); (try clear hi)))
                            go_roundg k3
                            case measure => have := HJ6.out; have := HK2.out; have := HK3.out; omega
                            case rel => exact ⟨(t315), (wrap64 (x12_3 + 1)), (by first | rfl | (simp; done) | (simp [*]; done)), (by first | rfl | (simp; done) | (simp [*]; done)), H', ⟨by have := HJ6.out; have := HK2.out; have := HK3.out; omega⟩, ⟨by (with_reducible repeat (first | apply Kd.N_alloc | apply Kd.N_drewN | apply Kd.N_drew)); exact HO_7.out⟩, ⟨by (with_reducible repeat (first | apply Kd.N_alloc | apply Kd.N_drewN | apply Kd.N_drew)); exact HO_8.out⟩, ⟨by repeat (first | (with_reducible first | exact HB.out | apply below_alloc | apply pw_below_drewN | apply below_drew1) | exact HB.out)⟩⟩
                          · rw [if_neg c20] at H
                            exact absurd H (by simp)
                        · replace c19 := Bool.eq_false_iff.mpr c19
                          subst c19
                          have H1 : (telemeterlaw12_PolicyRows.l1 k3 a2 t305 t308 t311 x10_2 false (wrap64 (x12_3 + 1))) = some r := by rw [if_neg (show ¬ (false = true) by decide)] at H; exact H
                          clear H
                          have H := H1
                          clear H1
                          have H' := Aside0.mk H
                          clear H
                          have p312 : 0 ≤ (x10_2 : Int) := of_decide_eq_true (by first | (with_reducible assumption) | assumption)
                          have q312 : x10_2 < (t305.length : Int) := of_decide_eq_true (by first | (with_reducible assumption) | assumption)
                          obtain ⟨ad312, A312_0, c312_0, e312, hx312_0, hl312_0, hi312_0⟩ := at_L4 (Kd.N_reads' HO_7.out).2.2 x10_2 p312 q312
                          cases e312
                          obtain ⟨ce312, hce312, hMe312, hcc312⟩ := Kd.N_get HO_7.out [] x10_2 p312 (by first | exact q312 | exact of_decide_eq_true (by first | (with_reducible assumption) | assumption) | (have e_ := (Kd.N_reads' HO_7.out).1; omega))
                          obtain ⟨ua312_0, uc312_0, rfl, ul312_0, ge312_0⟩ := Kd.FK_slice_open hMe312
                          have hv312_0 := hcc312 0 _ rfl
                          rw [Nat.add_zero, show ((Kd.slice 39 k39)).sz = 1 from rfl, Nat.mul_one] at hv312_0
                          replace hv312_0 := Option.some.inj (hv312_0.symm.trans hx312_0)
                          injection hv312_0 with hva_ hvn_ hvc_
                          rw [hva_] at ge312_0
                          rw [hvc_] at ul312_0
                          have HL312_0 := Aside0.mk (show Kd.V k39 39 _ w.heap.size _ _ (rd_L4 t305 x10_2) from Kd.V_mk ul312_0 ge312_0)
                          clear hva_ hvn_ hvc_ ge312_0 ul312_0
                          clear hcc312 hce312
                          have HR312_0 := Aside0.mk hi312_0
                          have HC312_0 := Aside0.mk hl312_0
                          clear hi312_0 hl312_0
                          replace p312 := eq_true p312
                          replace q312 := eq_true q312
                          go_wp2
                          go_roundg k3
                          case measure => have := HJ6.out; have := HK2.out; have := HK3.out; omega
                          case rel => exact ⟨(false), (wrap64 (x12_3 + 1)), (by first | rfl | (simp; done) | (simp [*]; done)), (by first | rfl | (simp; done) | (simp [*]; done)), H', ⟨by have := HJ6.out; have := HK2.out; have := HK3.out; omega⟩, ⟨by (with_reducible repeat (first | apply Kd.N_alloc | apply Kd.N_drewN | apply Kd.N_drew)); exact HO_7.out⟩, ⟨by (with_reducible repeat (first | apply Kd.N_alloc | apply Kd.N_drewN | apply Kd.N_drew)); exact HO_8.out⟩, ⟨by repeat (first | (with_reducible first | exact HB.out | apply below_alloc | apply pw_below_drewN | apply below_drew1) | exact HB.out)⟩⟩
                      · rw [if_neg c18] at H
                        have c18b0 : decide (x12_3 < ((rd_L4 t305 x10_2).length : Int)) = false := decide_eq_false c18
                        clear c18
                        replace H := Option.bind_eq_some_iff.mp H
                        obtain ⟨t317, A230, H⟩ := H
                        replace H : (if (x11_3 != t317) = true then (some false) else (if x11_3 = true then (if t311 < 0 then (some false) else (if x10_2 < t311 then (some false) else (if x10_2 = t311 then (telemeterlaw12_PolicyRows.l0 k3 a2 t305 t308 t311 (wrap64 (x10_2 + 1))) else (telemeterlaw12_PolicyRows.l0 k3 a2 t305 t308 t311 (wrap64 (x10_2 + 1)))))) else (if x10_2 = t311 then (some false) else (telemeterlaw12_PolicyRows.l0 k3 a2 t305 t308 t311 (wrap64 (x10_2 + 1)))))) = some r := H
                        have A23 := Aside0.mk A230
                        clear A230
                        by_cases c24 : (x11_3 != t317) = true
                        · rw [if_pos c24] at H
                          have c24b0 : (x11_3 != t317) = true := c24
                          (try (have c24b1 : decide (x11_3 = t317) = false := by simpa using c24))
                          (try (have c24b2 : (x11_3 == t317) = false := by simpa using c24))
                          (try (have c24b3 : ¬ (x11_3 = t317) := by simpa using c24))
                          clear c24
                          obtain rfl := Option.some.inj H
                          have p312 : 0 ≤ (x10_2 : Int) := of_decide_eq_true (by first | (with_reducible assumption) | assumption)
                          have q312 : x10_2 < (t305.length : Int) := of_decide_eq_true (by first | (with_reducible assumption) | assumption)
                          obtain ⟨ad312, A312_0, c312_0, e312, hx312_0, hl312_0, hi312_0⟩ := at_L4 (Kd.N_reads' HO_7.out).2.2 x10_2 p312 q312
                          cases e312
                          obtain ⟨ce312, hce312, hMe312, hcc312⟩ := Kd.N_get HO_7.out [] x10_2 p312 (by first | exact q312 | exact of_decide_eq_true (by first | (with_reducible assumption) | assumption) | (have e_ := (Kd.N_reads' HO_7.out).1; omega))
                          obtain ⟨ua312_0, uc312_0, rfl, ul312_0, ge312_0⟩ := Kd.FK_slice_open hMe312
                          have hv312_0 := hcc312 0 _ rfl
                          rw [Nat.add_zero, show ((Kd.slice 39 k39)).sz = 1 from rfl, Nat.mul_one] at hv312_0
                          replace hv312_0 := Option.some.inj (hv312_0.symm.trans hx312_0)
                          injection hv312_0 with hva_ hvn_ hvc_
                          rw [hva_] at ge312_0
                          rw [hvc_] at ul312_0
                          have HL312_0 := Aside0.mk (show Kd.V k39 39 _ w.heap.size _ _ (rd_L4 t305 x10_2) from Kd.V_mk ul312_0 ge312_0)
                          clear hva_ hvn_ hvc_ ge312_0 ul312_0
                          clear hcc312 hce312
                          have HR312_0 := Aside0.mk hi312_0
                          have HC312_0 := Aside0.mk hl312_0
                          clear hi312_0 hl312_0
                          replace p312 := eq_true p312
                          replace q312 := eq_true q312
                          have p316 : 0 ≤ (x10_2 : Int) := of_decide_eq_true (by first | (with_reducible assumption) | assumption)
                          have q316 : x10_2 < (t305.length : Int) := of_decide_eq_true (by first | (with_reducible assumption) | assumption)
                          obtain ⟨ad316, A316_0, c316_0, e316, hx316_0, hl316_0, hi316_0⟩ := at_L4 (Kd.N_reads' HO_7.out).2.2 x10_2 p316 q316
                          obtain rfl : ad312 = ad316 := (by injection e316)
                          obtain ⟨ce316, hce316, hMe316, hcc316⟩ := Kd.N_get HO_7.out [] x10_2 p316 (by first | exact q316 | exact of_decide_eq_true (by first | (with_reducible assumption) | assumption) | (have e_ := (Kd.N_reads' HO_7.out).1; omega))
                          obtain ⟨ua316_0, uc316_0, rfl, ul316_0, ge316_0⟩ := Kd.FK_slice_open hMe316
                          have hv316_0 := hcc316 0 _ rfl
                          rw [Nat.add_zero, show ((Kd.slice 39 k39)).sz = 1 from rfl, Nat.mul_one] at hv316_0
                          replace hv316_0 := Option.some.inj (hv316_0.symm.trans hx316_0)
                          injection hv316_0 with hva_ hvn_ hvc_
                          rw [hva_] at ge316_0
                          rw [hvc_] at ul316_0
                          have HL316_0 := Aside0.mk (show Kd.V k39 39 _ w.heap.size _ _ (rd_L4 t305 x10_2) from Kd.V_mk ul316_0 ge316_0)
                          clear hva_ hvn_ hvc_ ge316_0 ul316_0
                          clear hcc316 hce316
                          have HR316_0 := Aside0.mk hi316_0
                          have HC316_0 := Aside0.mk hl316_0
                          clear hi316_0 hl316_0
                          replace p316 := eq_true p316
                          replace q316 := eq_true q316
                          have ea_ := Option.some.inj (hx312_0.symm.trans hx316_0)
                          injection ea_ with ea_ en_ ec_
                          subst ea_
                          subst ec_
                          clear en_
                          go_wp2_with (first | ((with_reducible refine gate_callee (f := 12) rfl ?_); refine goesL_ (some 66) rfl rfl Try.func12 (by kernel_rfl) rfl #[.slice A312_0 (rd_L4 t305 x10_2).length c312_0, .slice Ao11 t308.length co11, .int .u64 a2] rfl (by (try simp only [List.map_toArray, List.map_cons, List.map_nil]); first | done | rfl | (simp only [List.length_drop, List.length_take]; rfl)) ?_; (with_reducible refine (policy_All.calls _ _ (rd_L4 t305 x10_2) _ _ t308 a2 t317 _ ?side1 ?side2 ?side3 ?side4 A23.out).mono ?_); (case side1 => repeat (first | exact (by repeat (first | (with_reducible exact HR316_0.out) | (with_reducible refine Kd.C_alloc ?_ _) | (with_reducible refine Kd.C_drewN ?_ _) | (with_reducible refine Kd.C_drew ?_) | exact HR316_0.out)) | (with_reducible refine Kd.C_alloc ?_ _) | (with_reducible refine Kd.C_drewN ?_ _) | (with_reducible refine Kd.C_drew ?_))); (case side2 => exact HC316_0.out); (case side3 => repeat (first | exact (Kd.N_reads' HO_8.out).2.2 | (with_reducible refine Kd.C_alloc ?_ _) | (with_reducible refine Kd.C_drewN ?_ _) | (with_reducible refine Kd.C_drew ?_))); (case side4 => exact (Kd.N_reads' HO_8.out).2.1); rintro e w25 ⟨rfl, hb⟩; refine ⟨_, rfl, ?_⟩; have n0_ := Aside0.mk (Kd.N_below (by (with_reducible repeat (first | apply Kd.N_alloc | apply Kd.N_drewN | apply Kd.N_drew)); exact HO_7.out) hb); have n1_ := Aside0.mk (Kd.N_below (by (with_reducible repeat (first | apply Kd.N_alloc | apply Kd.N_drewN | apply Kd.N_drew)); exact HO_8.out) hb); have n2_ := Aside0.mk (Kd.V_below (by (with_reducible repeat (first | apply Kd.V_alloc | apply Kd.V_drewN | apply Kd.V_drew)); exact HL312_0.out) hb); have n3_ := Aside0.mk (Kd.V_below (by (with_reducible repeat (first | apply Kd.V_alloc | apply Kd.V_drewN | apply Kd.V_drew)); exact HL316_0.out) hb); have n4_ := Aside0.mk (Kd.C_below (by repeat (first | (with_reducible exact HR312_0.out) | (with_reducible refine Kd.C_alloc ?_ _) | (with_reducible refine Kd.C_drewN ?_ _) | (with_reducible refine Kd.C_drew ?_) | exact HR312_0.out)) hb); have n5_ := Aside0.mk (Kd.C_below (by repeat (first | (with_reducible exact HR316_0.out) | (with_reducible refine Kd.C_alloc ?_ _) | (with_reducible refine Kd.C_drewN ?_ _) | (with_reducible refine Kd.C_drew ?_) | exact HR316_0.out)) hb); have n6_ := Aside0.mk (below_step (by repeat (first | (with_reducible first | exact HB.out | apply below_alloc | apply pw_below_drewN | apply below_drew1) | exact HB.out)) hb); clear HO_7; clear HO_8; clear HL312_0; clear HL316_0; clear HR312_0; clear HR316_0; clear HB; have HO_7 := n0_; have HO_8 := n1_; have HL312_0 := n2_; have HL316_0 := n3_; have HR312_0 := n4_; have HR316_0 := n5_; have HB := n6_; clear n0_ n1_ n2_ n3_ n4_ n5_ n6_; (try clear hb); (try clear hb2); (try clear hk); (try clear hi)))
                          go_ret
                          exact ⟨by first | rfl | (simp [errW_none, errW_some] <;> rfl) | (simp [*, errW_none, errW_some] <;> rfl), by repeat (first | (with_reducible first | exact HB.out | apply below_alloc | apply pw_below_drewN | apply below_drew1) | exact HB.out)⟩
                        · rw [if_neg c24] at H
                          have c24b0 : (x11_3 != t317) = false := by simpa using c24
                          (try (have c24b1 : decide (x11_3 = t317) = true := by simpa using c24))
                          (try (have c24b2 : (x11_3 == t317) = true := by simpa using c24))
                          clear c24
                          by_cases c26 : x11_3 = true
                          · subst c26
                            have H1 : (if t311 < 0 then (some false) else (if x10_2 < t311 then (some false) else (if x10_2 = t311 then (telemeterlaw12_PolicyRows.l0 k3 a2 t305 t308 t311 (wrap64 (x10_2 + 1))) else (telemeterlaw12_PolicyRows.l0 k3 a2 t305 t308 t311 (wrap64 (x10_2 + 1)))))) = some r := by rw [if_pos rfl] at H; exact H
                            clear H
                            have H := H1
                            clear H1
                            by_cases c27 : t311 < 0
                            · rw [if_pos c27] at H
                              have c27b0 : decide (t311 < 0) = true := decide_eq_true c27
                              clear c27
                              obtain rfl := Option.some.inj H
                              have p312 : 0 ≤ (x10_2 : Int) := of_decide_eq_true (by first | (with_reducible assumption) | assumption)
                              have q312 : x10_2 < (t305.length : Int) := of_decide_eq_true (by first | (with_reducible assumption) | assumption)
                              obtain ⟨ad312, A312_0, c312_0, e312, hx312_0, hl312_0, hi312_0⟩ := at_L4 (Kd.N_reads' HO_7.out).2.2 x10_2 p312 q312
                              cases e312
                              obtain ⟨ce312, hce312, hMe312, hcc312⟩ := Kd.N_get HO_7.out [] x10_2 p312 (by first | exact q312 | exact of_decide_eq_true (by first | (with_reducible assumption) | assumption) | (have e_ := (Kd.N_reads' HO_7.out).1; omega))
                              obtain ⟨ua312_0, uc312_0, rfl, ul312_0, ge312_0⟩ := Kd.FK_slice_open hMe312
                              have hv312_0 := hcc312 0 _ rfl
                              rw [Nat.add_zero, show ((Kd.slice 39 k39)).sz = 1 from rfl, Nat.mul_one] at hv312_0
                              replace hv312_0 := Option.some.inj (hv312_0.symm.trans hx312_0)
                              injection hv312_0 with hva_ hvn_ hvc_
                              rw [hva_] at ge312_0
                              rw [hvc_] at ul312_0
                              have HL312_0 := Aside0.mk (show Kd.V k39 39 _ w.heap.size _ _ (rd_L4 t305 x10_2) from Kd.V_mk ul312_0 ge312_0)
                              clear hva_ hvn_ hvc_ ge312_0 ul312_0
                              clear hcc312 hce312
                              have HR312_0 := Aside0.mk hi312_0
                              have HC312_0 := Aside0.mk hl312_0
                              clear hi312_0 hl312_0
                              replace p312 := eq_true p312
                              replace q312 := eq_true q312
                              have p316 : 0 ≤ (x10_2 : Int) := of_decide_eq_true (by first | (with_reducible assumption) | assumption)
                              have q316 : x10_2 < (t305.length : Int) := of_decide_eq_true (by first | (with_reducible assumption) | assumption)
                              obtain ⟨ad316, A316_0, c316_0, e316, hx316_0, hl316_0, hi316_0⟩ := at_L4 (Kd.N_reads' HO_7.out).2.2 x10_2 p316 q316
                              obtain rfl : ad312 = ad316 := (by injection e316)
                              obtain ⟨ce316, hce316, hMe316, hcc316⟩ := Kd.N_get HO_7.out [] x10_2 p316 (by first | exact q316 | exact of_decide_eq_true (by first | (with_reducible assumption) | assumption) | (have e_ := (Kd.N_reads' HO_7.out).1; omega))
                              obtain ⟨ua316_0, uc316_0, rfl, ul316_0, ge316_0⟩ := Kd.FK_slice_open hMe316
                              have hv316_0 := hcc316 0 _ rfl
                              rw [Nat.add_zero, show ((Kd.slice 39 k39)).sz = 1 from rfl, Nat.mul_one] at hv316_0
                              replace hv316_0 := Option.some.inj (hv316_0.symm.trans hx316_0)
                              injection hv316_0 with hva_ hvn_ hvc_
                              rw [hva_] at ge316_0
                              rw [hvc_] at ul316_0
                              have HL316_0 := Aside0.mk (show Kd.V k39 39 _ w.heap.size _ _ (rd_L4 t305 x10_2) from Kd.V_mk ul316_0 ge316_0)
                              clear hva_ hvn_ hvc_ ge316_0 ul316_0
                              clear hcc316 hce316
                              have HR316_0 := Aside0.mk hi316_0
                              have HC316_0 := Aside0.mk hl316_0
                              clear hi316_0 hl316_0
                              replace p316 := eq_true p316
                              replace q316 := eq_true q316
                              have ea_ := Option.some.inj (hx312_0.symm.trans hx316_0)
                              injection ea_ with ea_ en_ ec_
                              subst ea_
                              subst ec_
                              clear en_
                              go_wp2_with (first | ((with_reducible refine gate_callee (f := 12) rfl ?_); refine goesL_ (some 66) rfl rfl Try.func12 (by kernel_rfl) rfl #[.slice A312_0 (rd_L4 t305 x10_2).length c312_0, .slice Ao11 t308.length co11, .int .u64 a2] rfl (by (try simp only [List.map_toArray, List.map_cons, List.map_nil]); first | done | rfl | (simp only [List.length_drop, List.length_take]; rfl)) ?_; (with_reducible refine (policy_All.calls _ _ (rd_L4 t305 x10_2) _ _ t308 a2 t317 _ ?side1 ?side2 ?side3 ?side4 A23.out).mono ?_); (case side1 => repeat (first | exact (by repeat (first | (with_reducible exact HR316_0.out) | (with_reducible refine Kd.C_alloc ?_ _) | (with_reducible refine Kd.C_drewN ?_ _) | (with_reducible refine Kd.C_drew ?_) | exact HR316_0.out)) | (with_reducible refine Kd.C_alloc ?_ _) | (with_reducible refine Kd.C_drewN ?_ _) | (with_reducible refine Kd.C_drew ?_))); (case side2 => exact HC316_0.out); (case side3 => repeat (first | exact (Kd.N_reads' HO_8.out).2.2 | (with_reducible refine Kd.C_alloc ?_ _) | (with_reducible refine Kd.C_drewN ?_ _) | (with_reducible refine Kd.C_drew ?_))); (case side4 => exact (Kd.N_reads' HO_8.out).2.1); rintro e w28 ⟨rfl, hb⟩; refine ⟨_, rfl, ?_⟩; have n0_ := Aside0.mk (Kd.N_below (by (with_reducible repeat (first | apply Kd.N_alloc | apply Kd.N_drewN | apply Kd.N_drew)); exact HO_7.out) hb); have n1_ := Aside0.mk (Kd.N_below (by (with_reducible repeat (first | apply Kd.N_alloc | apply Kd.N_drewN | apply Kd.N_drew)); exact HO_8.out) hb); have n2_ := Aside0.mk (Kd.V_below (by (with_reducible repeat (first | apply Kd.V_alloc | apply Kd.V_drewN | apply Kd.V_drew)); exact HL312_0.out) hb); have n3_ := Aside0.mk (Kd.V_below (by (with_reducible repeat (first | apply Kd.V_alloc | apply Kd.V_drewN | apply Kd.V_drew)); exact HL316_0.out) hb); have n4_ := Aside0.mk (Kd.C_below (by repeat (first | (with_reducible exact HR312_0.out) | (with_reducible refine Kd.C_alloc ?_ _) | (with_reducible refine Kd.C_drewN ?_ _) | (with_reducible refine Kd.C_drew ?_) | exact HR312_0.out)) hb); have n5_ := Aside0.mk (Kd.C_below (by repeat (first | (with_reducible exact HR316_0.out) | (with_reducible refine Kd.C_alloc ?_ _) | (with_reducible refine Kd.C_drewN ?_ _) | (with_reducible refine Kd.C_drew ?_) | exact HR316_0.out)) hb); have n6_ := Aside0.mk (below_step (by repeat (first | (with_reducible first | exact HB.out | apply below_alloc | apply pw_below_drewN | apply below_drew1) | exact HB.out)) hb); clear HO_7; clear HO_8; clear HL312_0; clear HL316_0; clear HR312_0; clear HR316_0; clear HB; have HO_7 := n0_; have HO_8 := n1_; have HL312_0 := n2_; have HL316_0 := n3_; have HR312_0 := n4_; have HR316_0 := n5_; have HB := n6_; clear n0_ n1_ n2_ n3_ n4_ n5_ n6_; (try clear hb); (try clear hb2); (try clear hk); (try clear hi)))
                              go_ret
                              exact ⟨by first | rfl | (simp [errW_none, errW_some] <;> rfl) | (simp [*, errW_none, errW_some] <;> rfl), by repeat (first | (with_reducible first | exact HB.out | apply below_alloc | apply pw_below_drewN | apply below_drew1) | exact HB.out)⟩
                            · rw [if_neg c27] at H
                              have c27b0 : decide (t311 < 0) = false := decide_eq_false c27
                              clear c27
                              by_cases c29 : x10_2 < t311
                              · rw [if_pos c29] at H
                                have c29b0 : decide (x10_2 < t311) = true := decide_eq_true c29
                                clear c29
                                obtain rfl := Option.some.inj H
                                have p312 : 0 ≤ (x10_2 : Int) := of_decide_eq_true (by first | (with_reducible assumption) | assumption)
                                have q312 : x10_2 < (t305.length : Int) := of_decide_eq_true (by first | (with_reducible assumption) | assumption)
                                obtain ⟨ad312, A312_0, c312_0, e312, hx312_0, hl312_0, hi312_0⟩ := at_L4 (Kd.N_reads' HO_7.out).2.2 x10_2 p312 q312
                                cases e312
                                obtain ⟨ce312, hce312, hMe312, hcc312⟩ := Kd.N_get HO_7.out [] x10_2 p312 (by first | exact q312 | exact of_decide_eq_true (by first | (with_reducible assumption) | assumption) | (have e_ := (Kd.N_reads' HO_7.out).1; omega))
                                obtain ⟨ua312_0, uc312_0, rfl, ul312_0, ge312_0⟩ := Kd.FK_slice_open hMe312
                                have hv312_0 := hcc312 0 _ rfl
                                rw [Nat.add_zero, show ((Kd.slice 39 k39)).sz = 1 from rfl, Nat.mul_one] at hv312_0
                                replace hv312_0 := Option.some.inj (hv312_0.symm.trans hx312_0)
                                injection hv312_0 with hva_ hvn_ hvc_
                                rw [hva_] at ge312_0
                                rw [hvc_] at ul312_0
                                have HL312_0 := Aside0.mk (show Kd.V k39 39 _ w.heap.size _ _ (rd_L4 t305 x10_2) from Kd.V_mk ul312_0 ge312_0)
                                clear hva_ hvn_ hvc_ ge312_0 ul312_0
                                clear hcc312 hce312
                                have HR312_0 := Aside0.mk hi312_0
                                have HC312_0 := Aside0.mk hl312_0
                                clear hi312_0 hl312_0
                                replace p312 := eq_true p312
                                replace q312 := eq_true q312
                                have p316 : 0 ≤ (x10_2 : Int) := of_decide_eq_true (by first | (with_reducible assumption) | assumption)
                                have q316 : x10_2 < (t305.length : Int) := of_decide_eq_true (by first | (with_reducible assumption) | assumption)
                                obtain ⟨ad316, A316_0, c316_0, e316, hx316_0, hl316_0, hi316_0⟩ := at_L4 (Kd.N_reads' HO_7.out).2.2 x10_2 p316 q316
                                obtain rfl : ad312 = ad316 := (by injection e316)
                                obtain ⟨ce316, hce316, hMe316, hcc316⟩ := Kd.N_get HO_7.out [] x10_2 p316 (by first | exact q316 | exact of_decide_eq_true (by first | (with_reducible assumption) | assumption) | (have e_ := (Kd.N_reads' HO_7.out).1; omega))
                                obtain ⟨ua316_0, uc316_0, rfl, ul316_0, ge316_0⟩ := Kd.FK_slice_open hMe316
                                have hv316_0 := hcc316 0 _ rfl
                                rw [Nat.add_zero, show ((Kd.slice 39 k39)).sz = 1 from rfl, Nat.mul_one] at hv316_0
                                replace hv316_0 := Option.some.inj (hv316_0.symm.trans hx316_0)
                                injection hv316_0 with hva_ hvn_ hvc_
                                rw [hva_] at ge316_0
                                rw [hvc_] at ul316_0
                                have HL316_0 := Aside0.mk (show Kd.V k39 39 _ w.heap.size _ _ (rd_L4 t305 x10_2) from Kd.V_mk ul316_0 ge316_0)
                                clear hva_ hvn_ hvc_ ge316_0 ul316_0
                                clear hcc316 hce316
                                have HR316_0 := Aside0.mk hi316_0
                                have HC316_0 := Aside0.mk hl316_0
                                clear hi316_0 hl316_0
                                replace p316 := eq_true p316
                                replace q316 := eq_true q316
                                have ea_ := Option.some.inj (hx312_0.symm.trans hx316_0)
                                injection ea_ with ea_ en_ ec_
                                subst ea_
                                subst ec_
                                clear en_
                                go_wp2_with (first | ((with_reducible refine gate_callee (f := 12) rfl ?_); refine goesL_ (some 66) rfl rfl Try.func12 (by kernel_rfl) rfl #[.slice A312_0 (rd_L4 t305 x10_2).length c312_0, .slice Ao11 t308.length co11, .int .u64 a2] rfl (by (try simp only [List.map_toArray, List.map_cons, List.map_nil]); first | done | rfl | (simp only [List.length_drop, List.length_take]; rfl)) ?_; (with_reducible refine (policy_All.calls _ _ (rd_L4 t305 x10_2) _ _ t308 a2 t317 _ ?side1 ?side2 ?side3 ?side4 A23.out).mono ?_); (case side1 => repeat (first | exact (by repeat (first | (with_reducible exact HR316_0.out) | (with_reducible refine Kd.C_alloc ?_ _) | (with_reducible refine Kd.C_drewN ?_ _) | (with_reducible refine Kd.C_drew ?_) | exact HR316_0.out)) | (with_reducible refine Kd.C_alloc ?_ _) | (with_reducible refine Kd.C_drewN ?_ _) | (with_reducible refine Kd.C_drew ?_))); (case side2 => exact HC316_0.out); (case side3 => repeat (first | exact (Kd.N_reads' HO_8.out).2.2 | (with_reducible refine Kd.C_alloc ?_ _) | (with_reducible refine Kd.C_drewN ?_ _) | (with_reducible refine Kd.C_drew ?_))); (case side4 => exact (Kd.N_reads' HO_8.out).2.1); rintro e w30 ⟨rfl, hb⟩; refine ⟨_, rfl, ?_⟩; have n0_ := Aside0.mk (Kd.N_below (by (with_reducible repeat (first | apply Kd.N_alloc | apply Kd.N_drewN | apply Kd.N_drew)); exact HO_7.out) hb); have n1_ := Aside0.mk (Kd.N_below (by (with_reducible repeat (first | apply Kd.N_alloc | apply Kd.N_drewN | apply Kd.N_drew)); exact HO_8.out) hb); have n2_ := Aside0.mk (Kd.V_below (by (with_reducible repeat (first | apply Kd.V_alloc | apply Kd.V_drewN | apply Kd.V_drew)); exact HL312_0.out) hb); have n3_ := Aside0.mk (Kd.V_below (by (with_reducible repeat (first | apply Kd.V_alloc | apply Kd.V_drewN | apply Kd.V_drew)); exact HL316_0.out) hb); have n4_ := Aside0.mk (Kd.C_below (by repeat (first | (with_reducible exact HR312_0.out) | (with_reducible refine Kd.C_alloc ?_ _) | (with_reducible refine Kd.C_drewN ?_ _) | (with_reducible refine Kd.C_drew ?_) | exact HR312_0.out)) hb); have n5_ := Aside0.mk (Kd.C_below (by repeat (first | (with_reducible exact HR316_0.out) | (with_reducible refine Kd.C_alloc ?_ _) | (with_reducible refine Kd.C_drewN ?_ _) | (with_reducible refine Kd.C_drew ?_) | exact HR316_0.out)) hb); have n6_ := Aside0.mk (below_step (by repeat (first | (with_reducible first | exact HB.out | apply below_alloc | apply pw_below_drewN | apply below_drew1) | exact HB.out)) hb); clear HO_7; clear HO_8; clear HL312_0; clear HL316_0; clear HR312_0; clear HR316_0; clear HB; have HO_7 := n0_; have HO_8 := n1_; have HL312_0 := n2_; have HL316_0 := n3_; have HR312_0 := n4_; have HR316_0 := n5_; have HB := n6_; clear n0_ n1_ n2_ n3_ n4_ n5_ n6_; (try clear hb); (try clear hb2); (try clear hk); (try clear hi)))
                                go_ret
                                exact ⟨by first | rfl | (simp [errW_none, errW_some] <;> rfl) | (simp [*, errW_none, errW_some] <;> rfl), by repeat (first | (with_reducible first | exact HB.out | apply below_alloc | apply pw_below_drewN | apply below_drew1) | exact HB.out)⟩
                              · rw [if_neg c29] at H
                                have c29b0 : decide (x10_2 < t311) = false := decide_eq_false c29
                                clear c29
                                by_cases c31 : x10_2 = t311
                                · rw [if_pos c31] at H
                                  have c31b0 : (x10_2 == t311) = true := beq_iff_eq.mpr c31
                                  have c31b1 : (x10_2 != t311) = false := bne_eq_false_iff_eq.mpr c31
                                  clear c31
                                  have H' := Aside0.mk H
                                  clear H
                                  have p312 : 0 ≤ (x10_2 : Int) := of_decide_eq_true (by first | (with_reducible assumption) | assumption)
                                  have q312 : x10_2 < (t305.length : Int) := of_decide_eq_true (by first | (with_reducible assumption) | assumption)
                                  obtain ⟨ad312, A312_0, c312_0, e312, hx312_0, hl312_0, hi312_0⟩ := at_L4 (Kd.N_reads' HO_7.out).2.2 x10_2 p312 q312
                                  cases e312
                                  obtain ⟨ce312, hce312, hMe312, hcc312⟩ := Kd.N_get HO_7.out [] x10_2 p312 (by first | exact q312 | exact of_decide_eq_true (by first | (with_reducible assumption) | assumption) | (have e_ := (Kd.N_reads' HO_7.out).1; omega))
                                  obtain ⟨ua312_0, uc312_0, rfl, ul312_0, ge312_0⟩ := Kd.FK_slice_open hMe312
                                  have hv312_0 := hcc312 0 _ rfl
                                  rw [Nat.add_zero, show ((Kd.slice 39 k39)).sz = 1 from rfl, Nat.mul_one] at hv312_0
                                  replace hv312_0 := Option.some.inj (hv312_0.symm.trans hx312_0)
                                  injection hv312_0 with hva_ hvn_ hvc_
                                  rw [hva_] at ge312_0
                                  rw [hvc_] at ul312_0
                                  have HL312_0 := Aside0.mk (show Kd.V k39 39 _ w.heap.size _ _ (rd_L4 t305 x10_2) from Kd.V_mk ul312_0 ge312_0)
                                  clear hva_ hvn_ hvc_ ge312_0 ul312_0
                                  clear hcc312 hce312
                                  have HR312_0 := Aside0.mk hi312_0
                                  have HC312_0 := Aside0.mk hl312_0
                                  clear hi312_0 hl312_0
                                  replace p312 := eq_true p312
                                  replace q312 := eq_true q312
                                  have p316 : 0 ≤ (x10_2 : Int) := of_decide_eq_true (by first | (with_reducible assumption) | assumption)
                                  have q316 : x10_2 < (t305.length : Int) := of_decide_eq_true (by first | (with_reducible assumption) | assumption)
                                  obtain ⟨ad316, A316_0, c316_0, e316, hx316_0, hl316_0, hi316_0⟩ := at_L4 (Kd.N_reads' HO_7.out).2.2 x10_2 p316 q316
                                  obtain rfl : ad312 = ad316 := (by injection e316)
                                  obtain ⟨ce316, hce316, hMe316, hcc316⟩ := Kd.N_get HO_7.out [] x10_2 p316 (by first | exact q316 | exact of_decide_eq_true (by first | (with_reducible assumption) | assumption) | (have e_ := (Kd.N_reads' HO_7.out).1; omega))
                                  obtain ⟨ua316_0, uc316_0, rfl, ul316_0, ge316_0⟩ := Kd.FK_slice_open hMe316
                                  have hv316_0 := hcc316 0 _ rfl
                                  rw [Nat.add_zero, show ((Kd.slice 39 k39)).sz = 1 from rfl, Nat.mul_one] at hv316_0
                                  replace hv316_0 := Option.some.inj (hv316_0.symm.trans hx316_0)
                                  injection hv316_0 with hva_ hvn_ hvc_
                                  rw [hva_] at ge316_0
                                  rw [hvc_] at ul316_0
                                  have HL316_0 := Aside0.mk (show Kd.V k39 39 _ w.heap.size _ _ (rd_L4 t305 x10_2) from Kd.V_mk ul316_0 ge316_0)
                                  clear hva_ hvn_ hvc_ ge316_0 ul316_0
                                  clear hcc316 hce316
                                  have HR316_0 := Aside0.mk hi316_0
                                  have HC316_0 := Aside0.mk hl316_0
                                  clear hi316_0 hl316_0
                                  replace p316 := eq_true p316
                                  replace q316 := eq_true q316
                                  have ea_ := Option.some.inj (hx312_0.symm.trans hx316_0)
                                  injection ea_ with ea_ en_ ec_
                                  subst ea_
                                  subst ec_
                                  clear en_
                                  go_wp2_with (first | ((with_reducible refine gate_callee (f := 12) rfl ?_); refine goesL_ (some 66) rfl rfl Try.func12 (by kernel_rfl) rfl #[.slice A312_0 (rd_L4 t305 x10_2).length c312_0, .slice Ao11 t308.length co11, .int .u64 a2] rfl (by (try simp only [List.map_toArray, List.map_cons, List.map_nil]); first | done | rfl | (simp only [List.length_drop, List.length_take]; rfl)) ?_; (with_reducible refine (policy_All.calls _ _ (rd_L4 t305 x10_2) _ _ t308 a2 t317 _ ?side1 ?side2 ?side3 ?side4 A23.out).mono ?_); (case side1 => repeat (first | exact (by repeat (first | (with_reducible exact HR316_0.out) | (with_reducible refine Kd.C_alloc ?_ _) | (with_reducible refine Kd.C_drewN ?_ _) | (with_reducible refine Kd.C_drew ?_) | exact HR316_0.out)) | (with_reducible refine Kd.C_alloc ?_ _) | (with_reducible refine Kd.C_drewN ?_ _) | (with_reducible refine Kd.C_drew ?_))); (case side2 => exact HC316_0.out); (case side3 => repeat (first | exact (Kd.N_reads' HO_8.out).2.2 | (with_reducible refine Kd.C_alloc ?_ _) | (with_reducible refine Kd.C_drewN ?_ _) | (with_reducible refine Kd.C_drew ?_))); (case side4 => exact (Kd.N_reads' HO_8.out).2.1); rintro e w32 ⟨rfl, hb⟩; refine ⟨_, rfl, ?_⟩; have n0_ := Aside0.mk (Kd.N_below (by (with_reducible repeat (first | apply Kd.N_alloc | apply Kd.N_drewN | apply Kd.N_drew)); exact HO_7.out) hb); have n1_ := Aside0.mk (Kd.N_below (by (with_reducible repeat (first | apply Kd.N_alloc | apply Kd.N_drewN | apply Kd.N_drew)); exact HO_8.out) hb); have n2_ := Aside0.mk (Kd.V_below (by (with_reducible repeat (first | apply Kd.V_alloc | apply Kd.V_drewN | apply Kd.V_drew)); exact HL312_0.out) hb); have n3_ := Aside0.mk (Kd.V_below (by (with_reducible repeat (first | apply Kd.V_alloc | apply Kd.V_drewN | apply Kd.V_drew)); exact HL316_0.out) hb); have n4_ := Aside0.mk (Kd.C_below (by repeat (first | (with_reducible exact HR312_0.out) | (with_reducible refine Kd.C_alloc ?_ _) | (with_reducible refine Kd.C_drewN ?_ _) | (with_reducible refine Kd.C_drew ?_) | exact HR312_0.out)) hb); have n5_ := Aside0.mk (Kd.C_below (by repeat (first | (with_reducible exact HR316_0.out) | (with_reducible refine Kd.C_alloc ?_ _) | (with_reducible refine Kd.C_drewN ?_ _) | (with_reducible refine Kd.C_drew ?_) | exact HR316_0.out)) hb); have n6_ := Aside0.mk (below_step (by repeat (first | (with_reducible first | exact HB.out | apply below_alloc | apply pw_below_drewN | apply below_drew1) | exact HB.out)) hb); clear HO_7; clear HO_8; clear HL312_0; clear HL316_0; clear HR312_0; clear HR316_0; clear HB; have HO_7 := n0_; have HO_8 := n1_; have HL312_0 := n2_; have HL316_0 := n3_; have HR312_0 := n4_; have HR316_0 := n5_; have HB := n6_; clear n0_ n1_ n2_ n3_ n4_ n5_ n6_; (try clear hb); (try clear hb2); (try clear hk); (try clear hi)))
                                  go_roundg k3
                                  case measure => have := HJ6.out; have := HK2.out; have := HK3.out; omega
                                  case rel => exact ⟨(wrap64 (x10_2 + 1)), (by first | rfl | (simp; done) | (simp [*]; done)), H', ⟨by have := HJ6.out; have := HK2.out; have := HK3.out; omega⟩, ⟨by (with_reducible repeat (first | apply Kd.N_alloc | apply Kd.N_drewN | apply Kd.N_drew)); exact HO_7.out⟩, ⟨by (with_reducible repeat (first | apply Kd.N_alloc | apply Kd.N_drewN | apply Kd.N_drew)); exact HO_8.out⟩, ⟨by repeat (first | (with_reducible first | exact HB.out | apply below_alloc | apply pw_below_drewN | apply below_drew1) | exact HB.out)⟩⟩
                                · rw [if_neg c31] at H
                                  have c31b0 : (x10_2 == t311) = false := beq_eq_false_iff_ne.mpr c31
                                  have c31b1 : (x10_2 != t311) = true := bne_iff_ne.mpr c31
                                  have H' := Aside0.mk H
                                  clear H
                                  have p312 : 0 ≤ (x10_2 : Int) := of_decide_eq_true (by first | (with_reducible assumption) | assumption)
                                  have q312 : x10_2 < (t305.length : Int) := of_decide_eq_true (by first | (with_reducible assumption) | assumption)
                                  obtain ⟨ad312, A312_0, c312_0, e312, hx312_0, hl312_0, hi312_0⟩ := at_L4 (Kd.N_reads' HO_7.out).2.2 x10_2 p312 q312
                                  cases e312
                                  obtain ⟨ce312, hce312, hMe312, hcc312⟩ := Kd.N_get HO_7.out [] x10_2 p312 (by first | exact q312 | exact of_decide_eq_true (by first | (with_reducible assumption) | assumption) | (have e_ := (Kd.N_reads' HO_7.out).1; omega))
                                  obtain ⟨ua312_0, uc312_0, rfl, ul312_0, ge312_0⟩ := Kd.FK_slice_open hMe312
                                  have hv312_0 := hcc312 0 _ rfl
                                  rw [Nat.add_zero, show ((Kd.slice 39 k39)).sz = 1 from rfl, Nat.mul_one] at hv312_0
                                  replace hv312_0 := Option.some.inj (hv312_0.symm.trans hx312_0)
                                  injection hv312_0 with hva_ hvn_ hvc_
                                  rw [hva_] at ge312_0
                                  rw [hvc_] at ul312_0
                                  have HL312_0 := Aside0.mk (show Kd.V k39 39 _ w.heap.size _ _ (rd_L4 t305 x10_2) from Kd.V_mk ul312_0 ge312_0)
                                  clear hva_ hvn_ hvc_ ge312_0 ul312_0
                                  clear hcc312 hce312
                                  have HR312_0 := Aside0.mk hi312_0
                                  have HC312_0 := Aside0.mk hl312_0
                                  clear hi312_0 hl312_0
                                  replace p312 := eq_true p312
                                  replace q312 := eq_true q312
                                  have p316 : 0 ≤ (x10_2 : Int) := of_decide_eq_true (by first | (with_reducible assumption) | assumption)
                                  have q316 : x10_2 < (t305.length : Int) := of_decide_eq_true (by first | (with_reducible assumption) | assumption)
                                  obtain ⟨ad316, A316_0, c316_0, e316, hx316_0, hl316_0, hi316_0⟩ := at_L4 (Kd.N_reads' HO_7.out).2.2 x10_2 p316 q316
                                  obtain rfl : ad312 = ad316 := (by injection e316)
                                  obtain ⟨ce316, hce316, hMe316, hcc316⟩ := Kd.N_get HO_7.out [] x10_2 p316 (by first | exact q316 | exact of_decide_eq_true (by first | (with_reducible assumption) | assumption) | (have e_ := (Kd.N_reads' HO_7.out).1; omega))
                                  obtain ⟨ua316_0, uc316_0, rfl, ul316_0, ge316_0⟩ := Kd.FK_slice_open hMe316
                                  have hv316_0 := hcc316 0 _ rfl
                                  rw [Nat.add_zero, show ((Kd.slice 39 k39)).sz = 1 from rfl, Nat.mul_one] at hv316_0
                                  replace hv316_0 := Option.some.inj (hv316_0.symm.trans hx316_0)
                                  injection hv316_0 with hva_ hvn_ hvc_
                                  rw [hva_] at ge316_0
                                  rw [hvc_] at ul316_0
                                  have HL316_0 := Aside0.mk (show Kd.V k39 39 _ w.heap.size _ _ (rd_L4 t305 x10_2) from Kd.V_mk ul316_0 ge316_0)
                                  clear hva_ hvn_ hvc_ ge316_0 ul316_0
                                  clear hcc316 hce316
                                  have HR316_0 := Aside0.mk hi316_0
                                  have HC316_0 := Aside0.mk hl316_0
                                  clear hi316_0 hl316_0
                                  replace p316 := eq_true p316
                                  replace q316 := eq_true q316
                                  have ea_ := Option.some.inj (hx312_0.symm.trans hx316_0)
                                  injection ea_ with ea_ en_ ec_
                                  subst ea_
                                  subst ec_
                                  clear en_
                                  go_wp2_with (first | ((with_reducible refine gate_callee (f := 12) rfl ?_); refine goesL_ (some 66) rfl rfl Try.func12 (by kernel_rfl) rfl #[.slice A312_0 (rd_L4 t305 x10_2).length c312_0, .slice Ao11 t308.length co11, .int .u64 a2] rfl (by (try simp only [List.map_toArray, List.map_cons, List.map_nil]); first | done | rfl | (simp only [List.length_drop, List.length_take]; rfl)) ?_; (with_reducible refine (policy_All.calls _ _ (rd_L4 t305 x10_2) _ _ t308 a2 t317 _ ?side1 ?side2 ?side3 ?side4 A23.out).mono ?_); (case side1 => repeat (first | exact (by repeat (first | (with_reducible exact HR316_0.out) | (with_reducible refine Kd.C_alloc ?_ _) | (with_reducible refine Kd.C_drewN ?_ _) | (with_reducible refine Kd.C_drew ?_) | exact HR316_0.out)) | (with_reducible refine Kd.C_alloc ?_ _) | (with_reducible refine Kd.C_drewN ?_ _) | (with_reducible refine Kd.C_drew ?_))); (case side2 => exact HC316_0.out); (case side3 => repeat (first | exact (Kd.N_reads' HO_8.out).2.2 | (with_reducible refine Kd.C_alloc ?_ _) | (with_reducible refine Kd.C_drewN ?_ _) | (with_reducible refine Kd.C_drew ?_))); (case side4 => exact (Kd.N_reads' HO_8.out).2.1); rintro e w33 ⟨rfl, hb⟩; refine ⟨_, rfl, ?_⟩; have n0_ := Aside0.mk (Kd.N_below (by (with_reducible repeat (first | apply Kd.N_alloc | apply Kd.N_drewN | apply Kd.N_drew)); exact HO_7.out) hb); have n1_ := Aside0.mk (Kd.N_below (by (with_reducible repeat (first | apply Kd.N_alloc | apply Kd.N_drewN | apply Kd.N_drew)); exact HO_8.out) hb); have n2_ := Aside0.mk (Kd.V_below (by (with_reducible repeat (first | apply Kd.V_alloc | apply Kd.V_drewN | apply Kd.V_drew)); exact HL312_0.out) hb); have n3_ := Aside0.mk (Kd.V_below (by (with_reducible repeat (first | apply Kd.V_alloc | apply Kd.V_drewN | apply Kd.V_drew)); exact HL316_0.out) hb); have n4_ := Aside0.mk (Kd.C_below (by repeat (first | (with_reducible exact HR312_0.out) | (with_reducible refine Kd.C_alloc ?_ _) | (with_reducible refine Kd.C_drewN ?_ _) | (with_reducible refine Kd.C_drew ?_) | exact HR312_0.out)) hb); have n5_ := Aside0.mk (Kd.C_below (by repeat (first | (with_reducible exact HR316_0.out) | (with_reducible refine Kd.C_alloc ?_ _) | (with_reducible refine Kd.C_drewN ?_ _) | (with_reducible refine Kd.C_drew ?_) | exact HR316_0.out)) hb); have n6_ := Aside0.mk (below_step (by repeat (first | (with_reducible first | exact HB.out | apply below_alloc | apply pw_below_drewN | apply below_drew1) | exact HB.out)) hb); clear HO_7; clear HO_8; clear HL312_0; clear HL316_0; clear HR312_0; clear HR316_0; clear HB; have HO_7 := n0_; have HO_8 := n1_; have HL312_0 := n2_; have HL316_0 := n3_; have HR312_0 := n4_; have HR316_0 := n5_; have HB := n6_; clear n0_ n1_ n2_ n3_ n4_ n5_ n6_; (try clear hb); (try clear hb2); (try clear hk); (try clear hi)))
                                  go_roundg k3
                                  case measure => have := HJ6.out; have := HK2.out; have := HK3.out; omega
                                  case rel => exact ⟨(wrap64 (x10_2 + 1)), (by first | rfl | (simp; done) | (simp [*]; done)), H', ⟨by have := HJ6.out; have := HK2.out; have := HK3.out; omega⟩, ⟨by (with_reducible repeat (first | apply Kd.N_alloc | apply Kd.N_drewN | apply Kd.N_drew)); exact HO_7.out⟩, ⟨by (with_reducible repeat (first | apply Kd.N_alloc | apply Kd.N_drewN | apply Kd.N_drew)); exact HO_8.out⟩, ⟨by repeat (first | (with_reducible first | exact HB.out | apply below_alloc | apply pw_below_drewN | apply below_drew1) | exact HB.out)⟩⟩
                          · replace c26 := Bool.eq_false_iff.mpr c26
                            subst c26
                            have H1 : (if x10_2 = t311 then (some false) else (telemeterlaw12_PolicyRows.l0 k3 a2 t305 t308 t311 (wrap64 (x10_2 + 1)))) = some r := by rw [if_neg (show ¬ (false = true) by decide)] at H; exact H
                            clear H
                            have H := H1
                            clear H1
                            by_cases c34 : x10_2 = t311
                            · rw [if_pos c34] at H
                              have c34b0 : (x10_2 == t311) = true := beq_iff_eq.mpr c34
                              have c34b1 : (x10_2 != t311) = false := bne_eq_false_iff_eq.mpr c34
                              clear c34
                              obtain rfl := Option.some.inj H
                              have p312 : 0 ≤ (x10_2 : Int) := of_decide_eq_true (by first | (with_reducible assumption) | assumption)
                              have q312 : x10_2 < (t305.length : Int) := of_decide_eq_true (by first | (with_reducible assumption) | assumption)
                              obtain ⟨ad312, A312_0, c312_0, e312, hx312_0, hl312_0, hi312_0⟩ := at_L4 (Kd.N_reads' HO_7.out).2.2 x10_2 p312 q312
                              cases e312
                              obtain ⟨ce312, hce312, hMe312, hcc312⟩ := Kd.N_get HO_7.out [] x10_2 p312 (by first | exact q312 | exact of_decide_eq_true (by first | (with_reducible assumption) | assumption) | (have e_ := (Kd.N_reads' HO_7.out).1; omega))
                              obtain ⟨ua312_0, uc312_0, rfl, ul312_0, ge312_0⟩ := Kd.FK_slice_open hMe312
                              have hv312_0 := hcc312 0 _ rfl
                              rw [Nat.add_zero, show ((Kd.slice 39 k39)).sz = 1 from rfl, Nat.mul_one] at hv312_0
                              replace hv312_0 := Option.some.inj (hv312_0.symm.trans hx312_0)
                              injection hv312_0 with hva_ hvn_ hvc_
                              rw [hva_] at ge312_0
                              rw [hvc_] at ul312_0
                              have HL312_0 := Aside0.mk (show Kd.V k39 39 _ w.heap.size _ _ (rd_L4 t305 x10_2) from Kd.V_mk ul312_0 ge312_0)
                              clear hva_ hvn_ hvc_ ge312_0 ul312_0
                              clear hcc312 hce312
                              have HR312_0 := Aside0.mk hi312_0
                              have HC312_0 := Aside0.mk hl312_0
                              clear hi312_0 hl312_0
                              replace p312 := eq_true p312
                              replace q312 := eq_true q312
                              have p316 : 0 ≤ (x10_2 : Int) := of_decide_eq_true (by first | (with_reducible assumption) | assumption)
                              have q316 : x10_2 < (t305.length : Int) := of_decide_eq_true (by first | (with_reducible assumption) | assumption)
                              obtain ⟨ad316, A316_0, c316_0, e316, hx316_0, hl316_0, hi316_0⟩ := at_L4 (Kd.N_reads' HO_7.out).2.2 x10_2 p316 q316
                              obtain rfl : ad312 = ad316 := (by injection e316)
                              obtain ⟨ce316, hce316, hMe316, hcc316⟩ := Kd.N_get HO_7.out [] x10_2 p316 (by first | exact q316 | exact of_decide_eq_true (by first | (with_reducible assumption) | assumption) | (have e_ := (Kd.N_reads' HO_7.out).1; omega))
                              obtain ⟨ua316_0, uc316_0, rfl, ul316_0, ge316_0⟩ := Kd.FK_slice_open hMe316
                              have hv316_0 := hcc316 0 _ rfl
                              rw [Nat.add_zero, show ((Kd.slice 39 k39)).sz = 1 from rfl, Nat.mul_one] at hv316_0
                              replace hv316_0 := Option.some.inj (hv316_0.symm.trans hx316_0)
                              injection hv316_0 with hva_ hvn_ hvc_
                              rw [hva_] at ge316_0
                              rw [hvc_] at ul316_0
                              have HL316_0 := Aside0.mk (show Kd.V k39 39 _ w.heap.size _ _ (rd_L4 t305 x10_2) from Kd.V_mk ul316_0 ge316_0)
                              clear hva_ hvn_ hvc_ ge316_0 ul316_0
                              clear hcc316 hce316
                              have HR316_0 := Aside0.mk hi316_0
                              have HC316_0 := Aside0.mk hl316_0
                              clear hi316_0 hl316_0
                              replace p316 := eq_true p316
                              replace q316 := eq_true q316
                              have ea_ := Option.some.inj (hx312_0.symm.trans hx316_0)
                              injection ea_ with ea_ en_ ec_
                              subst ea_
                              subst ec_
                              clear en_
                              go_wp2_with (first | ((with_reducible refine gate_callee (f := 12) rfl ?_); refine goesL_ (some 66) rfl rfl Try.func12 (by kernel_rfl) rfl #[.slice A312_0 (rd_L4 t305 x10_2).length c312_0, .slice Ao11 t308.length co11, .int .u64 a2] rfl (by (try simp only [List.map_toArray, List.map_cons, List.map_nil]); first | done | rfl | (simp only [List.length_drop, List.length_take]; rfl)) ?_; (with_reducible refine (policy_All.calls _ _ (rd_L4 t305 x10_2) _ _ t308 a2 t317 _ ?side1 ?side2 ?side3 ?side4 A23.out).mono ?_); (case side1 => repeat (first | exact (by repeat (first | (with_reducible exact HR316_0.out) | (with_reducible refine Kd.C_alloc ?_ _) | (with_reducible refine Kd.C_drewN ?_ _) | (with_reducible refine Kd.C_drew ?_) | exact HR316_0.out)) | (with_reducible refine Kd.C_alloc ?_ _) | (with_reducible refine Kd.C_drewN ?_ _) | (with_reducible refine Kd.C_drew ?_))); (case side2 => exact HC316_0.out); (case side3 => repeat (first | exact (Kd.N_reads' HO_8.out).2.2 | (with_reducible refine Kd.C_alloc ?_ _) | (with_reducible refine Kd.C_drewN ?_ _) | (with_reducible refine Kd.C_drew ?_))); (case side4 => exact (Kd.N_reads' HO_8.out).2.1); rintro e w35 ⟨rfl, hb⟩; refine ⟨_, rfl, ?_⟩; have n0_ := Aside0.mk (Kd.N_below (by (with_reducible repeat (first | apply Kd.N_alloc | apply Kd.N_drewN | apply Kd.N_drew)); exact HO_7.out) hb); have n1_ := Aside0.mk (Kd.N_below (by (with_reducible repeat (first | apply Kd.N_alloc | apply Kd.N_drewN | apply Kd.N_drew)); exact HO_8.out) hb); have n2_ := Aside0.mk (Kd.V_below (by (with_reducible repeat (first | apply Kd.V_alloc | apply Kd.V_drewN | apply Kd.V_drew)); exact HL312_0.out) hb); have n3_ := Aside0.mk (Kd.V_below (by (with_reducible repeat (first | apply Kd.V_alloc | apply Kd.V_drewN | apply Kd.V_drew)); exact HL316_0.out) hb); have n4_ := Aside0.mk (Kd.C_below (by repeat (first | (with_reducible exact HR312_0.out) | (with_reducible refine Kd.C_alloc ?_ _) | (with_reducible refine Kd.C_drewN ?_ _) | (with_reducible refine Kd.C_drew ?_) | exact HR312_0.out)) hb); have n5_ := Aside0.mk (Kd.C_below (by repeat (first | (with_reducible exact HR316_0.out) | (with_reducible refine Kd.C_alloc ?_ _) | (with_reducible refine Kd.C_drewN ?_ _) | (with_reducible refine Kd.C_drew ?_) | exact HR316_0.out)) hb); have n6_ := Aside0.mk (below_step (by repeat (first | (with_reducible first | exact HB.out | apply below_alloc | apply pw_below_drewN | apply below_drew1) | exact HB.out)) hb); clear HO_7; clear HO_8; clear HL312_0; clear HL316_0; clear HR312_0; clear HR316_0; clear HB; have HO_7 := n0_; have HO_8 := n1_; have HL312_0 := n2_; have HL316_0 := n3_; have HR312_0 := n4_; have HR316_0 := n5_; have HB := n6_; clear n0_ n1_ n2_ n3_ n4_ n5_ n6_; (try clear hb); (try clear hb2); (try clear hk); (try clear hi)))
                              go_ret
                              exact ⟨by first | rfl | (simp [errW_none, errW_some] <;> rfl) | (simp [*, errW_none, errW_some] <;> rfl), by repeat (first | (with_reducible first | exact HB.out | apply below_alloc | apply pw_below_drewN | apply below_drew1) | exact HB.out)⟩
                            · rw [if_neg c34] at H
                              have c34b0 : (x10_2 == t311) = false := beq_eq_false_iff_ne.mpr c34
                              have c34b1 : (x10_2 != t311) = true := bne_iff_ne.mpr c34
                              have H' := Aside0.mk H
                              clear H
                              have p312 : 0 ≤ (x10_2 : Int) := of_decide_eq_true (by first | (with_reducible assumption) | assumption)
                              have q312 : x10_2 < (t305.length : Int) := of_decide_eq_true (by first | (with_reducible assumption) | assumption)
                              obtain ⟨ad312, A312_0, c312_0, e312, hx312_0, hl312_0, hi312_0⟩ := at_L4 (Kd.N_reads' HO_7.out).2.2 x10_2 p312 q312
                              cases e312
                              obtain ⟨ce312, hce312, hMe312, hcc312⟩ := Kd.N_get HO_7.out [] x10_2 p312 (by first | exact q312 | exact of_decide_eq_true (by first | (with_reducible assumption) | assumption) | (have e_ := (Kd.N_reads' HO_7.out).1; omega))
                              obtain ⟨ua312_0, uc312_0, rfl, ul312_0, ge312_0⟩ := Kd.FK_slice_open hMe312
                              have hv312_0 := hcc312 0 _ rfl
                              rw [Nat.add_zero, show ((Kd.slice 39 k39)).sz = 1 from rfl, Nat.mul_one] at hv312_0
                              replace hv312_0 := Option.some.inj (hv312_0.symm.trans hx312_0)
                              injection hv312_0 with hva_ hvn_ hvc_
                              rw [hva_] at ge312_0
                              rw [hvc_] at ul312_0
                              have HL312_0 := Aside0.mk (show Kd.V k39 39 _ w.heap.size _ _ (rd_L4 t305 x10_2) from Kd.V_mk ul312_0 ge312_0)
                              clear hva_ hvn_ hvc_ ge312_0 ul312_0
                              clear hcc312 hce312
                              have HR312_0 := Aside0.mk hi312_0
                              have HC312_0 := Aside0.mk hl312_0
                              clear hi312_0 hl312_0
                              replace p312 := eq_true p312
                              replace q312 := eq_true q312
                              have p316 : 0 ≤ (x10_2 : Int) := of_decide_eq_true (by first | (with_reducible assumption) | assumption)
                              have q316 : x10_2 < (t305.length : Int) := of_decide_eq_true (by first | (with_reducible assumption) | assumption)
                              obtain ⟨ad316, A316_0, c316_0, e316, hx316_0, hl316_0, hi316_0⟩ := at_L4 (Kd.N_reads' HO_7.out).2.2 x10_2 p316 q316
                              obtain rfl : ad312 = ad316 := (by injection e316)
                              obtain ⟨ce316, hce316, hMe316, hcc316⟩ := Kd.N_get HO_7.out [] x10_2 p316 (by first | exact q316 | exact of_decide_eq_true (by first | (with_reducible assumption) | assumption) | (have e_ := (Kd.N_reads' HO_7.out).1; omega))
                              obtain ⟨ua316_0, uc316_0, rfl, ul316_0, ge316_0⟩ := Kd.FK_slice_open hMe316
                              have hv316_0 := hcc316 0 _ rfl
                              rw [Nat.add_zero, show ((Kd.slice 39 k39)).sz = 1 from rfl, Nat.mul_one] at hv316_0
                              replace hv316_0 := Option.some.inj (hv316_0.symm.trans hx316_0)
                              injection hv316_0 with hva_ hvn_ hvc_
                              rw [hva_] at ge316_0
                              rw [hvc_] at ul316_0
                              have HL316_0 := Aside0.mk (show Kd.V k39 39 _ w.heap.size _ _ (rd_L4 t305 x10_2) from Kd.V_mk ul316_0 ge316_0)
                              clear hva_ hvn_ hvc_ ge316_0 ul316_0
                              clear hcc316 hce316
                              have HR316_0 := Aside0.mk hi316_0
                              have HC316_0 := Aside0.mk hl316_0
                              clear hi316_0 hl316_0
                              replace p316 := eq_true p316
                              replace q316 := eq_true q316
                              have ea_ := Option.some.inj (hx312_0.symm.trans hx316_0)
                              injection ea_ with ea_ en_ ec_
                              subst ea_
                              subst ec_
                              clear en_
                              go_wp2_with (first | ((with_reducible refine gate_callee (f := 12) rfl ?_); refine goesL_ (some 66) rfl rfl Try.func12 (by kernel_rfl) rfl #[.slice A312_0 (rd_L4 t305 x10_2).length c312_0, .slice Ao11 t308.length co11, .int .u64 a2] rfl (by (try simp only [List.map_toArray, List.map_cons, List.map_nil]); first | done | rfl | (simp only [List.length_drop, List.length_take]; rfl)) ?_; (with_reducible refine (policy_All.calls _ _ (rd_L4 t305 x10_2) _ _ t308 a2 t317 _ ?side1 ?side2 ?side3 ?side4 A23.out).mono ?_); (case side1 => repeat (first | exact (by repeat (first | (with_reducible exact HR316_0.out) | (with_reducible refine Kd.C_alloc ?_ _) | (with_reducible refine Kd.C_drewN ?_ _) | (with_reducible refine Kd.C_drew ?_) | exact HR316_0.out)) | (with_reducible refine Kd.C_alloc ?_ _) | (with_reducible refine Kd.C_drewN ?_ _) | (with_reducible refine Kd.C_drew ?_))); (case side2 => exact HC316_0.out); (case side3 => repeat (first | exact (Kd.N_reads' HO_8.out).2.2 | (with_reducible refine Kd.C_alloc ?_ _) | (with_reducible refine Kd.C_drewN ?_ _) | (with_reducible refine Kd.C_drew ?_))); (case side4 => exact (Kd.N_reads' HO_8.out).2.1); rintro e w36 ⟨rfl, hb⟩; refine ⟨_, rfl, ?_⟩; have n0_ := Aside0.mk (Kd.N_below (by (with_reducible repeat (first | apply Kd.N_alloc | apply Kd.N_drewN | apply Kd.N_drew)); exact HO_7.out) hb); have n1_ := Aside0.mk (Kd.N_below (by (with_reducible repeat (first | apply Kd.N_alloc | apply Kd.N_drewN | apply Kd.N_drew)); exact HO_8.out) hb); have n2_ := Aside0.mk (Kd.V_below (by (with_reducible repeat (first | apply Kd.V_alloc | apply Kd.V_drewN | apply Kd.V_drew)); exact HL312_0.out) hb); have n3_ := Aside0.mk (Kd.V_below (by (with_reducible repeat (first | apply Kd.V_alloc | apply Kd.V_drewN | apply Kd.V_drew)); exact HL316_0.out) hb); have n4_ := Aside0.mk (Kd.C_below (by repeat (first | (with_reducible exact HR312_0.out) | (with_reducible refine Kd.C_alloc ?_ _) | (with_reducible refine Kd.C_drewN ?_ _) | (with_reducible refine Kd.C_drew ?_) | exact HR312_0.out)) hb); have n5_ := Aside0.mk (Kd.C_below (by repeat (first | (with_reducible exact HR316_0.out) | (with_reducible refine Kd.C_alloc ?_ _) | (with_reducible refine Kd.C_drewN ?_ _) | (with_reducible refine Kd.C_drew ?_) | exact HR316_0.out)) hb); have n6_ := Aside0.mk (below_step (by repeat (first | (with_reducible first | exact HB.out | apply below_alloc | apply pw_below_drewN | apply below_drew1) | exact HB.out)) hb); clear HO_7; clear HO_8; clear HL312_0; clear HL316_0; clear HR312_0; clear HR316_0; clear HB; have HO_7 := n0_; have HO_8 := n1_; have HL312_0 := n2_; have HL316_0 := n3_; have HR312_0 := n4_; have HR316_0 := n5_; have HB := n6_; clear n0_ n1_ n2_ n3_ n4_ n5_ n6_; (try clear hb); (try clear hb2); (try clear hk); (try clear hi)))
                              go_roundg k3
                              case measure => have := HJ6.out; have := HK2.out; have := HK3.out; omega
                              case rel => exact ⟨(wrap64 (x10_2 + 1)), (by first | rfl | (simp; done) | (simp [*]; done)), H', ⟨by have := HJ6.out; have := HK2.out; have := HK3.out; omega⟩, ⟨by (with_reducible repeat (first | apply Kd.N_alloc | apply Kd.N_drewN | apply Kd.N_drew)); exact HO_7.out⟩, ⟨by (with_reducible repeat (first | apply Kd.N_alloc | apply Kd.N_drewN | apply Kd.N_drew)); exact HO_8.out⟩, ⟨by repeat (first | (with_reducible first | exact HB.out | apply below_alloc | apply pw_below_drewN | apply below_drew1) | exact HB.out)⟩⟩
                    · rw [if_neg c17] at H
                      exact absurd H (by simp)
                  · rw [if_neg c16] at H
                    exact absurd H (by simp)
            · rw [if_neg c15] at H
              have c15b0 : decide (x10_2 < (t305.length : Int)) = false := decide_eq_false c15
              clear c15
              have H' := Aside0.mk H
              clear H
              go_wp2
              go_loopg [13, 14] k2 (fun kq v13 v14 w' => ∃ (x13_3 : List (S36)) (x14_3 : Int), v14 = .int .i64 x14_3 ∧ Aside0 (telemeterlaw12_PolicyRows.l2 kq a2 t305 t308 t311 x13_3 x14_3 = some r) ∧ Aside0 (kq ≤ k2) ∧ Aside0 (Kd.N (Kd.slice 39 k39) 30 w' w.heap.size (fun k_ => some k_ ≠ ((.slice Ao11 t308.length co11) : Value).ownBlock ∧ some k_ ≠ (v13 : Value).ownBlock) (.slice Ao10 t305.length co10) t305) ∧ Aside0 (Kd.N k36 36 w' w.heap.size (fun k_ => some k_ ≠ ((.slice Ao10 t305.length co10) : Value).ownBlock ∧ some k_ ≠ (v13 : Value).ownBlock) (.slice Ao11 t308.length co11) t308) ∧ Aside0 (Kd.N k36 36 w' w.heap.size (fun k_ => some k_ ≠ ((.slice Ao10 t305.length co10) : Value).ownBlock ∧ some k_ ≠ ((.slice Ao11 t308.length co11) : Value).ownBlock) v13 x13_3) ∧ Aside0 (Below w.heap.size w w'))
              case atStart => exact ⟨(([] : List (S36))), (wrap64 ((t308.length : Int) - 1)), (by first | rfl | (simp; done) | (simp [*]; done)), H', ⟨Nat.le_refl _⟩, ⟨by (with_reducible repeat (first | apply Kd.N_alloc | apply Kd.N_drewN | apply Kd.N_drew)); exact Kd.N_mono HO_7.out (fun _ hk => ⟨hk, (by simp [Value.ownBlock])⟩)⟩, ⟨by (with_reducible repeat (first | apply Kd.N_alloc | apply Kd.N_drewN | apply Kd.N_drew)); exact Kd.N_mono HO_8.out (fun _ hk => ⟨hk, (by simp [Value.ownBlock])⟩)⟩, ⟨by first | exact Kd.S_nil _ _ _ _ _ | exact Kd.N_nil _ _ _ _ _ | exact Kd.V_nil _ _ _ _ _ | exact Kd.Q_nil _ _ _ _ _ | exact Kd.R_nil _ _ _ _ _⟩, ⟨by repeat (first | (with_reducible first | exact HB.out | apply below_alloc | apply pw_below_drewN | apply below_drew1) | exact HB.out)⟩⟩
              case round =>
                clear H'
                try clear c1
                try clear c2
                try clear p2
                try clear c3
                try clear p3
                try clear q3
                try clear hx3
                try clear p6
                try clear c8
                try clear c9
                try clear c11
                try clear c12
                try clear c13
                try clear c13b0
                try clear c14
                try clear c15
                try clear c15b0
                try clear c16
                try clear c16b0
                try clear c17
                try clear c17b0
                try clear c18
                try clear c18b0
                try clear c19
                try clear c20
                try clear c20b0
                try clear c24
                try clear c24b0
                try clear c24b1
                try clear c24b2
                try clear c26
                try clear c27
                try clear c27b0
                try clear c29
                try clear c29b0
                try clear c31
                try clear c31b0
                try clear c31b1
                try clear p31
                try clear q31
                try clear hx31
                try clear c34
                try clear c34b0
                try clear c34b1
                try clear hx312_0
                try clear hx313_0
                try clear hx314_0
                try clear hx314_1
                try clear hx314_2
                try clear hx314_3
                try clear hx316_0
                try clear p2
                try clear p312
                try clear p313
                try clear p314
                try clear p316
                try clear q312
                try clear q313
                try clear q314
                try clear q316
                obtain ⟨x13_3, x14_3, rfl, HA, HK3, HO_7, HO_8, HO_13, HB⟩ := hrel
                cases gk with
                | zero => exact absurd HA.out (by simp [telemeterlaw12_PolicyRows.l2])
                | succ k3 =>
                  have H := HA.out
                  clear HA
                  simp only [telemeterlaw12_PolicyRows.l2] at H
                  by_cases c37 : x14_3 ≥ 0
                  · rw [if_pos c37] at H
                    have c37b0 : decide (0 ≤ x14_3) = true := decide_eq_true c37
                    clear c37
                    by_cases c38 : 0 ≤ x14_3
                    · rw [if_pos c38] at H
                      have c38b0 : decide (0 ≤ x14_3) = true := decide_eq_true c38
                      clear c38
                      by_cases c39 : x14_3 < (t308.length : Int)
                      · rw [if_pos c39] at H
                        have c39b0 : decide (x14_3 < (t308.length : Int)) = true := decide_eq_true c39
                        clear c39
                        by_cases c40 : x13_3.length < 1353245080339
                        · rw [if_pos c40] at H
                          have LMc40 := Aside0.mk c40
                          clear c40
                          obtain ⟨y319, hy319⟩ : ∃ y_ : List (S36), y_ = (x13_3 ++ [(⟨(rd_T36 t308 x14_3).f0, (rd_T36 t308 x14_3).f1, (rd_T36 t308 x14_3).f2, (rd_T36 t308 x14_3).f3, (rd_T36 t308 x14_3).f4, (rd_T36 t308 x14_3).f5, (rd_T36 t308 x14_3).f6, (rd_T36 t308 x14_3).f7, (rd_T36 t308 x14_3).f8, (rd_T36 t308 x14_3).f9⟩ : S36)]) := ⟨_, rfl⟩
                          replace H : (telemeterlaw12_PolicyRows.l2 k3 a2 t305 t308 t311 y319 (wrap64 (x14_3 - 1))) = some r := by first | (rw [hy319]; with_reducible exact H) | (have H2_ := (Option.bind_some _ _).symm.trans H; rw [hy319]; with_reducible exact H2_) | (have H2_ := (Option.bind_some _ _).symm.trans H; with_reducible exact H2_) | with_reducible exact H | (rw [hy319]; exact H) | exact H
                          have Ny319 := Aside0.mk hy319
                          clear hy319
                          have H' := Aside0.mk H
                          clear H
                          have p318 : 0 ≤ (x14_3 : Int) := of_decide_eq_true (by first | (with_reducible assumption) | assumption)
                          have q318 : x14_3 < (t308.length : Int) := of_decide_eq_true (by first | (with_reducible assumption) | assumption)
                          obtain ⟨ad318, A318_8, c318_8, e318, hx318_0, hx318_1, hx318_2, hx318_3, hx318_4, hx318_5, hx318_6, hx318_7, hx318_8, hx318_9, hl318_8, hi318_8⟩ := at_T36 (Kd.N_reads' HO_8.out).2.2 x14_3 p318 q318
                          cases e318
                          obtain ⟨ce318, hce318, hMe318, hcc318⟩ := Kd.N_get HO_8.out z36 x14_3 p318 (by first | exact q318 | exact of_decide_eq_true (by first | (with_reducible assumption) | assumption) | (have e_ := (Kd.N_reads' HO_8.out).1; omega))
                          obtain ⟨ua318_8, uc318_8, rfl, ul318_8, ge318_8⟩ := k36_openF hMe318
                          have hv318_8 := hcc318 8 _ rfl
                          rw [add_field _ _ 8 (by omega)] at hv318_8
                          replace hv318_8 := Option.some.inj (hv318_8.symm.trans hx318_8)
                          injection hv318_8 with hva_ hvn_ hvc_
                          rw [hva_] at ge318_8
                          rw [hvc_] at ul318_8
                          have HL318_8 := Aside0.mk (show Kd.V k64 64 _ w.heap.size _ _ ((rd_T36 t308 x14_3).f8) from Kd.V_mk ul318_8 ge318_8)
                          clear hva_ hvn_ hvc_ ge318_8 ul318_8
                          clear hcc318 hce318
                          have HR318_8 := Aside0.mk hi318_8
                          have HC318_8 := Aside0.mk hl318_8
                          clear hi318_8 hl318_8
                          replace p318 := eq_true p318
                          replace q318 := eq_true q318
                          go_wp2_with (first | ((with_reducible refine gate_builtin (b := .append) (xs := #[.tmp 96, .tmp 101]) rfl ?_); (try (refine gate_guard (by rfl) ?_; dsimp only)); at_builtin; refine Kd.N_append k36 (w0 := w) w.heap.size rfl (.tmp 96) (.tmp 101) 28 36 (.agg #[(.int .u64 0), (.int .u64 0), (.int .u64 0), (.int .u64 0), (.string ⟨#[]⟩), (.int .i64 0), (.int .i64 0), (.bool false), (.slice none 0 0), (.int .u64 0)]) 104 rfl Try.underlying28 info36 rfl (by decide) (by omega) u13 x13_3 (⟨(rd_T36 t308 x14_3).f0, (rd_T36 t308 x14_3).f1, (rd_T36 t308 x14_3).f2, (rd_T36 t308 x14_3).f3, (rd_T36 t308 x14_3).f4, (rd_T36 t308 x14_3).f5, (rd_T36 t308 x14_3).f6, (rd_T36 t308 x14_3).f7, (rd_T36 t308 x14_3).f8, (rd_T36 t308 x14_3).f9⟩ : S36) [.int .u64 ((rd_T36 t308 x14_3).f0), .int .u64 ((rd_T36 t308 x14_3).f1), .int .u64 ((rd_T36 t308 x14_3).f2), .int .u64 ((rd_T36 t308 x14_3).f3), .string ((rd_T36 t308 x14_3).f4), .int .i64 ((rd_T36 t308 x14_3).f5), .int .i64 ((rd_T36 t308 x14_3).f6), .bool ((rd_T36 t308 x14_3).f7), .slice A318_8 ((rd_T36 t308 x14_3).f8).length c318_8, .int .u64 ((rd_T36 t308 x14_3).f9)] (fun k_ => some k_ ≠ (.slice Ao10 t305.length co10 : Value).ownBlock ∧ some k_ ≠ (.slice (some ad318) t308.length co11 : Value).ownBlock) (fun k_ => ((fun k_ => some k_ ≠ (.slice Ao10 t305.length co10 : Value).ownBlock ∧ some k_ ≠ (.slice (some ad318) t308.length co11 : Value).ownBlock)) k_ ∧ some k_ ≠ (u13 : Value).ownBlock) rfl rfl ?aP (fun _ hk => hk) ?aF ?aO ?aB ?aS ?aL ?_; (case aP => exact (k36_mkF _ _ (⟨(rd_T36 t308 x14_3).f0, (rd_T36 t308 x14_3).f1, (rd_T36 t308 x14_3).f2, (rd_T36 t308 x14_3).f3, (rd_T36 t308 x14_3).f4, (rd_T36 t308 x14_3).f5, (rd_T36 t308 x14_3).f6, (rd_T36 t308 x14_3).f7, (rd_T36 t308 x14_3).f8, (rd_T36 t308 x14_3).f9⟩ : S36) (Kd.V_reads' (Kd.V_mono (ok' := (fun k_ => ((fun k_ => some k_ ≠ (.slice Ao10 t305.length co10 : Value).ownBlock ∧ some k_ ≠ (.slice (some ad318) t308.length co11 : Value).ownBlock)) k_ ∧ some k_ ≠ (u13 : Value).ownBlock)) (HL318_8.out) (fun k_ hk => ⟨⟨hk.1.1, hk.2⟩, hk.1.2⟩))).2.1 (Kd.V_F (Kd.V_mono (ok' := (fun k_ => ((fun k_ => some k_ ≠ (.slice Ao10 t305.length co10 : Value).ownBlock ∧ some k_ ≠ (.slice (some ad318) t308.length co11 : Value).ownBlock)) k_ ∧ some k_ ≠ (u13 : Value).ownBlock)) (HL318_8.out) (fun k_ hk => ⟨⟨hk.1.1, hk.2⟩, hk.1.2⟩))))); (case aB => exact (by repeat (first | (with_reducible first | exact HB.out | apply below_alloc | apply pw_below_drewN | apply below_drew1) | exact HB.out))); (case aF => exact (fun k_ hk => ⟨Kd.fresh' (Kd.N_lt (by (with_reducible repeat (first | apply Kd.N_alloc | apply Kd.N_drewN | apply Kd.N_drew)); exact HO_7.out)) k_ hk, Kd.fresh' (Kd.N_lt (by (with_reducible repeat (first | apply Kd.N_alloc | apply Kd.N_drewN | apply Kd.N_drew)); exact HO_8.out)) k_ hk⟩)); (case aO => exact (by (with_reducible repeat (first | apply Kd.N_alloc | apply Kd.N_drewN | apply Kd.N_drew)); exact HO_13.out)); (case aS => exact (below_size (by repeat (first | (with_reducible first | exact HB.out | apply below_alloc | apply pw_below_drewN | apply below_drew1) | exact HB.out)))); (case aL => have := LMc40.out; omega); intro v320 w41 ho hb hg hat; rw [← Ny319.out] at ho; have n0_ := Aside0.mk (Kd.N_afterv (ok := (fun k_ => some k_ ≠ (.slice (some ad318) t308.length co11 : Value).ownBlock)) (by (with_reducible repeat (first | apply Kd.N_alloc | apply Kd.N_drewN | apply Kd.N_drew)); exact HO_7.out) hg hat); have n1_ := Aside0.mk (Kd.N_afterv (ok := (fun k_ => some k_ ≠ (.slice Ao10 t305.length co10 : Value).ownBlock)) (by (with_reducible repeat (first | apply Kd.N_alloc | apply Kd.N_drewN | apply Kd.N_drew)); exact HO_8.out) hg hat); have n2_ := Aside0.mk (Kd.V_afterv (ok := (fun k_ => some k_ ≠ (.slice Ao10 t305.length co10 : Value).ownBlock ∧ some k_ ≠ (.slice (some ad318) t308.length co11 : Value).ownBlock)) (by (with_reducible repeat (first | apply Kd.V_alloc | apply Kd.V_drewN | apply Kd.V_drew)); exact Kd.V_mono HL318_8.out (fun _ hk => ⟨⟨hk.1.1, hk.2⟩, hk.1.2⟩)) hg hat); have n3_ := Aside0.mk (hb); have n4_ := Aside0.mk (ho); clear HO_7; clear HO_8; clear HL318_8; clear HB; clear HO_13; have HO_7 := n0_; have HO_8 := n1_; have HL318_8 := n2_; have HB := n3_; have HO321 := n4_; clear n0_ n1_ n2_ n3_ n4_; clear ho hb hg hat))
                          go_roundg k3
                          case measure => have := HJ6.out; have := HK2.out; have := HK3.out; omega
                          case rel => exact ⟨(y319), (wrap64 (x14_3 - 1)), (by first | rfl | (simp; done) | (simp [*]; done)), H', ⟨by have := HJ6.out; have := HK2.out; have := HK3.out; omega⟩, ⟨by (with_reducible repeat (first | apply Kd.N_alloc | apply Kd.N_drewN | apply Kd.N_drew)); exact HO_7.out⟩, ⟨by (with_reducible repeat (first | apply Kd.N_alloc | apply Kd.N_drewN | apply Kd.N_drew)); exact HO_8.out⟩, ⟨by (with_reducible repeat (first | apply Kd.N_alloc | apply Kd.N_drewN | apply Kd.N_drew)); exact HO321.out⟩, ⟨by repeat (first | (with_reducible first | exact HB.out | apply below_alloc | apply pw_below_drewN | apply below_drew1) | exact HB.out)⟩⟩
                        · rw [if_neg c40] at H
                          exact absurd H (by simp)
                      · rw [if_neg c39] at H
                        exact absurd H (by simp)
                    · rw [if_neg c38] at H
                      exact absurd H (by simp)
                  · rw [if_neg c37] at H
                    have c37b0 : decide (0 ≤ x14_3) = false := decide_eq_false c37
                    clear c37
                    replace H := Option.bind_eq_some_iff.mp H
                    obtain ⟨t322, A420, H⟩ := H
                    replace H : (if t322 = true then ((policy_Which.f t305 x13_3 a2).bind fun t323 => (if t323 = t311 then ((policy_Length.f k3 x13_3).bind fun t324 => ((policy_Length.f k3 t308).bind fun t325 => (some (t324 == t325)))) else (some false))) else (some false)) = some r := H
                    have A42 := Aside0.mk A420
                    clear A420
                    by_cases c43 : t322 = true
                    · subst c43
                      have H1 : ((policy_Which.f t305 x13_3 a2).bind fun t323 => (if t323 = t311 then ((policy_Length.f k3 x13_3).bind fun t324 => ((policy_Length.f k3 t308).bind fun t325 => (some (t324 == t325)))) else (some false))) = some r := by rw [if_pos rfl] at H; exact H
                      clear H
                      have H := H1
                      clear H1
                      replace H := Option.bind_eq_some_iff.mp H
                      obtain ⟨t323, A440, H⟩ := H
                      replace H : (if t323 = t311 then ((policy_Length.f k3 x13_3).bind fun t324 => ((policy_Length.f k3 t308).bind fun t325 => (some (t324 == t325)))) else (some false)) = some r := H
                      have A44 := Aside0.mk A440
                      clear A440
                      by_cases c45 : t323 = t311
                      · rw [if_pos c45] at H
                        have c45b0 : (t323 == t311) = true := beq_iff_eq.mpr c45
                        have c45b1 : (t323 != t311) = false := bne_eq_false_iff_eq.mpr c45
                        clear c45
                        replace H := Option.bind_eq_some_iff.mp H
                        obtain ⟨t324, A460, H⟩ := H
                        replace H : ((policy_Length.f k3 t308).bind fun t325 => (some (t324 == t325))) = some r := H
                        have A46 := Aside0.mk A460
                        clear A460
                        replace H := Option.bind_eq_some_iff.mp H
                        obtain ⟨t325, A470, H⟩ := H
                        replace H : (some (t324 == t325)) = some r := H
                        have A47 := Aside0.mk A470
                        clear A470
                        obtain rfl := Option.some.inj H
                        go_wp2_with (first | ((with_reducible refine gate_callee (f := 10) rfl ?_); refine goesL_ (some 103) rfl rfl Try.func10 (by kernel_rfl) rfl #[] rfl (by (try simp only [List.map_toArray, List.map_cons, List.map_nil]); first | done | rfl | (simp only [List.length_drop, List.length_take]; rfl)) ?_; (with_reducible refine (telemeterlaw12_known.calls k3  true _ A42.out).mono ?_); rintro e w48 ⟨rfl, hb⟩; refine ⟨_, rfl, ?_⟩; have n0_ := Aside0.mk (Kd.N_below (by (with_reducible repeat (first | apply Kd.N_alloc | apply Kd.N_drewN | apply Kd.N_drew)); exact HO_7.out) hb); have n1_ := Aside0.mk (Kd.N_below (by (with_reducible repeat (first | apply Kd.N_alloc | apply Kd.N_drewN | apply Kd.N_drew)); exact HO_8.out) hb); have n2_ := Aside0.mk (Kd.N_below (by (with_reducible repeat (first | apply Kd.N_alloc | apply Kd.N_drewN | apply Kd.N_drew)); exact HO_13.out) hb); have n3_ := Aside0.mk (below_step (by repeat (first | (with_reducible first | exact HB.out | apply below_alloc | apply pw_below_drewN | apply below_drew1) | exact HB.out)) hb); clear HO_7; clear HO_8; clear HO_13; clear HB; have HO_7 := n0_; have HO_8 := n1_; have HO_13 := n2_; have HB := n3_; clear n0_ n1_ n2_ n3_; (try clear hb); (try clear hb2); (try clear hk); (try clear hi); obtain ⟨Ao49, co49, eo49⟩ := Kd.N_slice HO_13.out; subst eo49) | (go_at_call 13; (with_reducible refine (policy_Which.calls _ _ t305 _ _ x13_3 a2 t323 _ ?side1 ?side2 ?side3 ?side4 A44.out).mono ?_); (case side1 => repeat (first | exact (Kd.N_reads' HO_7.out).2.2 | (with_reducible refine Kd.C_alloc ?_ _) | (with_reducible refine Kd.C_drewN ?_ _) | (with_reducible refine Kd.C_drew ?_))); (case side2 => exact (Kd.N_reads' HO_7.out).2.1); (case side3 => repeat (first | exact (Kd.N_reads' HO_13.out).2.2 | (with_reducible refine Kd.C_alloc ?_ _) | (with_reducible refine Kd.C_drewN ?_ _) | (with_reducible refine Kd.C_drew ?_))); (case side4 => exact (Kd.N_reads' HO_13.out).2.1); rintro e w50 ⟨rfl, hb⟩; have n0_ := Aside0.mk (Kd.N_below (by (with_reducible repeat (first | apply Kd.N_alloc | apply Kd.N_drewN | apply Kd.N_drew)); exact HO_7.out) hb); have n1_ := Aside0.mk (Kd.N_below (by (with_reducible repeat (first | apply Kd.N_alloc | apply Kd.N_drewN | apply Kd.N_drew)); exact HO_8.out) hb); have n2_ := Aside0.mk (Kd.N_below (by (with_reducible repeat (first | apply Kd.N_alloc | apply Kd.N_drewN | apply Kd.N_drew)); exact HO_13.out) hb); have n3_ := Aside0.mk (below_step (by repeat (first | (with_reducible first | exact HB.out | apply below_alloc | apply pw_below_drewN | apply below_drew1) | exact HB.out)) hb); clear HO_7; clear HO_8; clear HO_13; clear HB; have HO_7 := n0_; have HO_8 := n1_; have HO_13 := n2_; have HB := n3_; clear n0_ n1_ n2_ n3_; (try clear hb); (try clear hb2); (try clear hk); (try clear hi)) | (go_at_call 19; (with_reducible refine (policy_Length.calls k3 _ _ x13_3 t324 _ ?side1 ?side2 A46.out).mono ?_); (case side1 => repeat (first | exact (Kd.N_reads' HO_13.out).2.2 | (with_reducible refine Kd.C_alloc ?_ _) | (with_reducible refine Kd.C_drewN ?_ _) | (with_reducible refine Kd.C_drew ?_))); (case side2 => exact (Kd.N_reads' HO_13.out).2.1); rintro e w51 ⟨rfl, hb⟩; have n0_ := Aside0.mk (Kd.N_below (by (with_reducible repeat (first | apply Kd.N_alloc | apply Kd.N_drewN | apply Kd.N_drew)); exact HO_7.out) hb); have n1_ := Aside0.mk (Kd.N_below (by (with_reducible repeat (first | apply Kd.N_alloc | apply Kd.N_drewN | apply Kd.N_drew)); exact HO_8.out) hb); have n2_ := Aside0.mk (Kd.N_below (by (with_reducible repeat (first | apply Kd.N_alloc | apply Kd.N_drewN | apply Kd.N_drew)); exact HO_13.out) hb); have n3_ := Aside0.mk (below_step (by repeat (first | (with_reducible first | exact HB.out | apply below_alloc | apply pw_below_drewN | apply below_drew1) | exact HB.out)) hb); clear HO_7; clear HO_8; clear HO_13; clear HB; have HO_7 := n0_; have HO_8 := n1_; have HO_13 := n2_; have HB := n3_; clear n0_ n1_ n2_ n3_; (try clear hb); (try clear hb2); (try clear hk); (try clear hi)) | (go_at_call 19; (with_reducible refine (policy_Length.calls k3 _ _ t308 t325 _ ?side1 ?side2 A47.out).mono ?_); (case side1 => repeat (first | exact (Kd.N_reads' HO_8.out).2.2 | (with_reducible refine Kd.C_alloc ?_ _) | (with_reducible refine Kd.C_drewN ?_ _) | (with_reducible refine Kd.C_drew ?_))); (case side2 => exact (Kd.N_reads' HO_8.out).2.1); rintro e w52 ⟨rfl, hb⟩; have n0_ := Aside0.mk (Kd.N_below (by (with_reducible repeat (first | apply Kd.N_alloc | apply Kd.N_drewN | apply Kd.N_drew)); exact HO_7.out) hb); have n1_ := Aside0.mk (Kd.N_below (by (with_reducible repeat (first | apply Kd.N_alloc | apply Kd.N_drewN | apply Kd.N_drew)); exact HO_8.out) hb); have n2_ := Aside0.mk (Kd.N_below (by (with_reducible repeat (first | apply Kd.N_alloc | apply Kd.N_drewN | apply Kd.N_drew)); exact HO_13.out) hb); have n3_ := Aside0.mk (below_step (by repeat (first | (with_reducible first | exact HB.out | apply below_alloc | apply pw_below_drewN | apply below_drew1) | exact HB.out)) hb); clear HO_7; clear HO_8; clear HO_13; clear HB; have HO_7 := n0_; have HO_8 := n1_; have HO_13 := n2_; have HB := n3_; clear n0_ n1_ n2_ n3_; (try clear hb); (try clear hb2); (try clear hk); (try clear hi)))
                        go_ret
                        exact ⟨by first | rfl | (simp [errW_none, errW_some] <;> rfl) | (simp [*, errW_none, errW_some] <;> rfl), by repeat (first | (with_reducible first | exact HB.out | apply below_alloc | apply pw_below_drewN | apply below_drew1) | exact HB.out)⟩
                      · rw [if_neg c45] at H
                        have c45b0 : (t323 == t311) = false := beq_eq_false_iff_ne.mpr c45
                        have c45b1 : (t323 != t311) = true := bne_iff_ne.mpr c45
                        obtain rfl := Option.some.inj H
                        go_wp2_with (first | ((with_reducible refine gate_callee (f := 10) rfl ?_); refine goesL_ (some 103) rfl rfl Try.func10 (by kernel_rfl) rfl #[] rfl (by (try simp only [List.map_toArray, List.map_cons, List.map_nil]); first | done | rfl | (simp only [List.length_drop, List.length_take]; rfl)) ?_; (with_reducible refine (telemeterlaw12_known.calls k3  true _ A42.out).mono ?_); rintro e w53 ⟨rfl, hb⟩; refine ⟨_, rfl, ?_⟩; have n0_ := Aside0.mk (Kd.N_below (by (with_reducible repeat (first | apply Kd.N_alloc | apply Kd.N_drewN | apply Kd.N_drew)); exact HO_7.out) hb); have n1_ := Aside0.mk (Kd.N_below (by (with_reducible repeat (first | apply Kd.N_alloc | apply Kd.N_drewN | apply Kd.N_drew)); exact HO_8.out) hb); have n2_ := Aside0.mk (Kd.N_below (by (with_reducible repeat (first | apply Kd.N_alloc | apply Kd.N_drewN | apply Kd.N_drew)); exact HO_13.out) hb); have n3_ := Aside0.mk (below_step (by repeat (first | (with_reducible first | exact HB.out | apply below_alloc | apply pw_below_drewN | apply below_drew1) | exact HB.out)) hb); clear HO_7; clear HO_8; clear HO_13; clear HB; have HO_7 := n0_; have HO_8 := n1_; have HO_13 := n2_; have HB := n3_; clear n0_ n1_ n2_ n3_; (try clear hb); (try clear hb2); (try clear hk); (try clear hi); obtain ⟨Ao54, co54, eo54⟩ := Kd.N_slice HO_13.out; subst eo54) | (go_at_call 13; (with_reducible refine (policy_Which.calls _ _ t305 _ _ x13_3 a2 t323 _ ?side1 ?side2 ?side3 ?side4 A44.out).mono ?_); (case side1 => repeat (first | exact (Kd.N_reads' HO_7.out).2.2 | (with_reducible refine Kd.C_alloc ?_ _) | (with_reducible refine Kd.C_drewN ?_ _) | (with_reducible refine Kd.C_drew ?_))); (case side2 => exact (Kd.N_reads' HO_7.out).2.1); (case side3 => repeat (first | exact (Kd.N_reads' HO_13.out).2.2 | (with_reducible refine Kd.C_alloc ?_ _) | (with_reducible refine Kd.C_drewN ?_ _) | (with_reducible refine Kd.C_drew ?_))); (case side4 => exact (Kd.N_reads' HO_13.out).2.1); rintro e w55 ⟨rfl, hb⟩; have n0_ := Aside0.mk (Kd.N_below (by (with_reducible repeat (first | apply Kd.N_alloc | apply Kd.N_drewN | apply Kd.N_drew)); exact HO_7.out) hb); have n1_ := Aside0.mk (Kd.N_below (by (with_reducible repeat (first | apply Kd.N_alloc | apply Kd.N_drewN | apply Kd.N_drew)); exact HO_8.out) hb); have n2_ := Aside0.mk (Kd.N_below (by (with_reducible repeat (first | apply Kd.N_alloc | apply Kd.N_drewN | apply Kd.N_drew)); exact HO_13.out) hb); have n3_ := Aside0.mk (below_step (by repeat (first | (with_reducible first | exact HB.out | apply below_alloc | apply pw_below_drewN | apply below_drew1) | exact HB.out)) hb); clear HO_7; clear HO_8; clear HO_13; clear HB; have HO_7 := n0_; have HO_8 := n1_; have HO_13 := n2_; have HB := n3_; clear n0_ n1_ n2_ n3_; (try clear hb); (try clear hb2); (try clear hk); (try clear hi)))
                        go_ret
                        exact ⟨by first | rfl | (simp [errW_none, errW_some] <;> rfl) | (simp [*, errW_none, errW_some] <;> rfl), by repeat (first | (with_reducible first | exact HB.out | apply below_alloc | apply pw_below_drewN | apply below_drew1) | exact HB.out)⟩
                    · replace c43 := Bool.eq_false_iff.mpr c43
                      subst c43
                      have H1 : (some false) = some r := by rw [if_neg (show ¬ (false = true) by decide)] at H; exact H
                      clear H
                      have H := H1
                      clear H1
                      obtain rfl := Option.some.inj H
                      go_wp2_with (first | ((with_reducible refine gate_callee (f := 10) rfl ?_); refine goesL_ (some 103) rfl rfl Try.func10 (by kernel_rfl) rfl #[] rfl (by (try simp only [List.map_toArray, List.map_cons, List.map_nil]); first | done | rfl | (simp only [List.length_drop, List.length_take]; rfl)) ?_; (with_reducible refine (telemeterlaw12_known.calls k3  false _ A42.out).mono ?_); rintro e w56 ⟨rfl, hb⟩; refine ⟨_, rfl, ?_⟩; have n0_ := Aside0.mk (Kd.N_below (by (with_reducible repeat (first | apply Kd.N_alloc | apply Kd.N_drewN | apply Kd.N_drew)); exact HO_7.out) hb); have n1_ := Aside0.mk (Kd.N_below (by (with_reducible repeat (first | apply Kd.N_alloc | apply Kd.N_drewN | apply Kd.N_drew)); exact HO_8.out) hb); have n2_ := Aside0.mk (Kd.N_below (by (with_reducible repeat (first | apply Kd.N_alloc | apply Kd.N_drewN | apply Kd.N_drew)); exact HO_13.out) hb); have n3_ := Aside0.mk (below_step (by repeat (first | (with_reducible first | exact HB.out | apply below_alloc | apply pw_below_drewN | apply below_drew1) | exact HB.out)) hb); clear HO_7; clear HO_8; clear HO_13; clear HB; have HO_7 := n0_; have HO_8 := n1_; have HO_13 := n2_; have HB := n3_; clear n0_ n1_ n2_ n3_; (try clear hb); (try clear hb2); (try clear hk); (try clear hi)))
                      go_ret
                      exact ⟨by first | rfl | (simp [errW_none, errW_some] <;> rfl) | (simp [*, errW_none, errW_some] <;> rfl), by repeat (first | (with_reducible first | exact HB.out | apply below_alloc | apply pw_below_drewN | apply below_drew1) | exact HB.out)⟩

end Go.Proofs.Ytbjoleelfihikaa.Px
