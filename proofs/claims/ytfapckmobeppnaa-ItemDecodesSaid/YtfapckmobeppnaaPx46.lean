-- Laid by a program of this session (wip/xprint.py: the kit's print.py, with functions given by hand). Lean checks it.
import Derived.Test.YtfapckmobeppnaaPx0
import Derived.Test.YtfapckmobeppnaaPx45
namespace Go.Proofs.Ytfapckmobeppnaa.Px
open Go.RowKit Go.Proofs.YtfapckmobeppnaaW.PrintWords Go.Proofs.YtfapckmobeppnaaW.PrintLast Go.Proofs.YtfapckmobeppnaaW.PrintMore
attribute [local go_sem] max2_int min2_int max_two min_two max_three min_three max_four min_four   -- for this text's walks alone
set_option linter.unusedVariables false
set_option linter.unusedSimpArgs false

/-! ### telemeterref01_GetText: function 56 -/
def telemeterref01_GetText.j0 : Nat → List Int → Int → Int → Bool → Option (ByteArray × Int × Int)
 | 0, _, _, _, _ => none
 | k + 1, x0, x9, x10, x29 => if x29 = true then (some ((⟨#[]⟩ : ByteArray), 0, 3)) else (if x9 > (IntKind.u64.wrap (wrap64 ((x0.length : Int) - x10))) then (some ((⟨#[]⟩ : ByteArray), 0, 10)) else (if 0 ≤ x10 then (if x10 ≤ (wrap64 (x10 + (wrap64 (x9)))) then (if (wrap64 (x10 + (wrap64 (x9)))) ≤ (x0.length : Int) then (some (strOfNums ((x0.take ((wrap64 (x10 + (wrap64 (x9)))) : Int).toNat).drop (x10 : Int).toNat), wrap64 (x10 + (wrap64 (x9))), 0)) else (none)) else (none)) else (none)))
def telemeterref01_GetText.f (k : Nat) (l0 : List Int) (a1 : Int) (a2 : Int) : Option (ByteArray × Int × Int) := (telemeterref01_Get.f k l0 a1).bind fun bt395 => (if bt395.2.2 = 0 then (if a2 < 0 then (telemeterref01_GetText.j0 k l0 bt395.1 bt395.2.1 true) else (telemeterref01_GetText.j0 k l0 bt395.1 bt395.2.1 (decide (bt395.1 > (IntKind.u64.wrap (a2)))))) else (some ((⟨#[]⟩ : ByteArray), 0, bt395.2.2)))
theorem telemeterref01_GetText.mono_l : ∀ k, (∀ y0 y1 y2 y3, LeO (telemeterref01_GetText.j0 k y0 y1 y2 y3) (telemeterref01_GetText.j0 (k + 1) y0 y1 y2 y3))
 | 0 => fun _ _ _ _ r h => by simp [telemeterref01_GetText.j0] at h
 | k + 1 => by
  have ih0 := telemeterref01_GetText.mono_l k
  ·intro y0 y1 y2 y3
   unfold telemeterref01_GetText.j0
   repeat' first
   | (with_reducible exact ih0 _ _ _ _)
   | (with_reducible exact telemeterref01_Get.mono _ _ _)
   | (with_reducible exact LeO.refl _)
   | (with_reducible exact LeO.none _)
   | (with_reducible refine LeO.ite ?_ ?_)
   | (with_reducible refine LeO.bind ?_ (fun _ => ?_))
   | exact ih0 _ _ _ _
   | exact telemeterref01_Get.mono _ _ _
   | exact LeO.none _
   | refine LeO.ite ?_ ?_
   | refine LeO.bind ?_ (fun _ => ?_)
theorem telemeterref01_GetText.mono : ∀ a0 a1 a2 k, LeO (telemeterref01_GetText.f k a0 a1 a2) (telemeterref01_GetText.f (k + 1) a0 a1 a2) := by
 intro a0 a1 a2 k
 have ih0 := telemeterref01_GetText.mono_l k
 unfold telemeterref01_GetText.f
 repeat' first
   | (with_reducible exact ih0 _ _ _ _)
   | (with_reducible exact telemeterref01_Get.mono _ _ _)
   | (with_reducible exact LeO.refl _)
   | (with_reducible exact LeO.none _)
   | (with_reducible refine LeO.ite ?_ ?_)
   | (with_reducible refine LeO.bind ?_ (fun _ => ?_))
   | exact ih0 _ _ _ _
   | exact telemeterref01_Get.mono _ _ _
   | exact LeO.none _
   | refine LeO.ite ?_ ?_
   | refine LeO.bind ?_ (fun _ => ?_)
set_option maxHeartbeats 8000000 in
set_option maxRecDepth 100000 in
theorem telemeterref01_GetText.calls (k : Nat) (A0 : Option Addr) (c0 : Nat) (l0 : List Int) (a1 : Int) (a2 : Int) (r1 : ByteArray) (r2 : Int) (r3 : Int) (w : World) (hr0 : Kd.C (Kd.int .u8) w A0 l0.length l0) (hc0 : l0.length ≤ c0) (h : telemeterref01_GetText.f k l0 a1 a2 = some (r1, r2, r3)) :
  Calls Try.prog 56 #[.slice A0 l0.length c0, .int .i64 a1, .int .i64 a2] w fun e w' => e = .returned (.tuple #[.string r1, .int .i64 r2, .int .i64 r3]) ∧ Below w.heap.size w w' := by
 have HR0 := Aside0.mk hr0
 have HC0 := Aside0.mk hc0
 clear hr0 hc0
 have HB := Aside0.mk (Below.refl w.heap.size w)
 have H : ((telemeterref01_Get.f k l0 a1).bind fun bt395 => (if bt395.2.2 = 0 then (if a2 < 0 then (telemeterref01_GetText.j0 k l0 bt395.1 bt395.2.1 true) else (telemeterref01_GetText.j0 k l0 bt395.1 bt395.2.1 (decide (bt395.1 > (IntKind.u64.wrap (a2)))))) else (some ((⟨#[]⟩ : ByteArray), 0, bt395.2.2)))) = some (r1, r2, r3) := h
 clear h
 replace H := Option.bind_eq_some_iff.mp H
 obtain ⟨⟨t395, t396, t397⟩, A40, H⟩ := H
 replace H : (if t397 = 0 then (if a2 < 0 then (telemeterref01_GetText.j0 k l0 t395 t396 true) else (telemeterref01_GetText.j0 k l0 t395 t396 (decide (t395 > (IntKind.u64.wrap (a2)))))) else (some ((⟨#[]⟩ : ByteArray), 0, t397))) = some (r1, r2, r3) := H
 have A4 := Aside0.mk A40
 clear A40
 by_cases c5 : t397 = 0
 ·rw [if_pos c5] at H
  have c5b0 : (t397 == 0) = true := beq_iff_eq.mpr c5
  have c5b1 : (t397 != 0) = false := bne_eq_false_iff_eq.mpr c5
  clear c5
  have HC6 := Aside0.mk H
  clear H
  go_enter Try.func56, Try.ntmps56
  go_upto_region 4 with (first | ((with_reducible refine gate_callee (f := 55) rfl ?_); refine goesL_ (some 15) rfl rfl Try.func55 (by kernel_rfl) rfl #[.slice A0 l0.length c0, .int .i64 a1] rfl (by (try simp only [List.map_toArray, List.map_cons, List.map_nil]); first | done | rfl | (simp only [List.length_drop, List.length_take]; rfl)) ?_; (with_reducible refine (telemeterref01_Get.calls k _ _ l0 a1 t395 t396 t397 _ ?side1 ?side2 A4.out).mono ?_); (case side1 => repeat (first | exact HR0.out | (with_reducible refine Kd.C_alloc ?_ _) | (with_reducible refine Kd.C_drewN ?_ _) | (with_reducible refine Kd.C_drew ?_))); (case side2 => exact HC0.out); rintro e w7 ⟨rfl, hb⟩; refine ⟨_, rfl, ?_⟩; have n0_ := Aside0.mk (below_step (by repeat (first | (with_reducible first | exact HB.out | apply below_alloc | apply pw_below_drewN | apply below_drew1) | exact HB.out)) hb); clear HB; have HB := n0_; clear n0_; (try clear hb); (try clear hb2); (try clear hk); (try clear hi)))
  (try simp only [Act.put, List.setIfInBounds_toArray, List.set_cons_zero, List.set_cons_succ])
  go_cut [29] (fun v29 wc => ∃ (kq : Nat) (x29_5 : Bool), v29 = .bool x29_5 ∧ Aside0 (telemeterref01_GetText.j0 kq l0 t395 t396 x29_5 = some (r1, r2, r3)) ∧ Aside0 (kq ≤ k) ∧ Aside0 (Below w.heap.size w wc))
  case first =>
   have H := HC6.out
   clear HC6
   by_cases c8 : a2 < 0
   ·rw [if_pos c8] at H
    have c8b0 : decide (a2 < 0) = true := decide_eq_true c8
    clear c8
    (first | rw [c8b0] | (simp only [i64_w, i32_w]; rw [c8b0]) | skip)
    have H' := Aside0.mk H
    clear H
    go_wp2
    go_meet
    case rel => exact ⟨_, (true), (by first | rfl | (simp; done) | (simp [*]; done)), H', ⟨by first | omega | exact Nat.le_refl _⟩, ⟨by repeat (first | (with_reducible first | exact HB.out | apply below_alloc | apply pw_below_drewN | apply below_drew1) | exact HB.out)⟩⟩
   ·rw [if_neg c8] at H
    have c8b0 : decide (a2 < 0) = false := decide_eq_false c8
    clear c8
    (first | rw [c8b0] | (simp only [i64_w, i32_w]; rw [c8b0]) | skip)
    have H' := Aside0.mk H
    clear H
    go_wp2
    go_meet
    case rel => exact ⟨_, (decide (t395 > (IntKind.u64.wrap (a2)))), (by first | rfl | (simp; done) | (simp [*]; done)), H', ⟨by first | omega | exact Nat.le_refl _⟩, ⟨by repeat (first | (with_reducible first | exact HB.out | apply below_alloc | apply pw_below_drewN | apply below_drew1) | exact HB.out)⟩⟩
  case rest =>
   clear HC6
   try clear p2
   try clear c5
   try clear c5b0
   try clear c5b1
   try clear c8
   try clear c8b0
   obtain ⟨kq, x29_5, rfl, HA, HJ5, HB⟩ := hcut
   cases kq with
   | zero => exact absurd HA.out (by simp [telemeterref01_GetText.j0])
   | succ kj5 =>
    have H := HA.out
    clear HA
    simp only [telemeterref01_GetText.j0] at H
    by_cases c9 : x29_5 = true
    ·subst c9
     have H1 : (some ((⟨#[]⟩ : ByteArray), 0, 3)) = some (r1, r2, r3) := by rw [if_pos rfl] at H; exact H
     clear H
     have H := H1
     clear H1
     simp only [Option.some.injEq, Prod.mk.injEq] at H
     obtain ⟨rfl, rfl, rfl⟩ := H
     go_wp2
     go_ret3
     exact ⟨by first | rfl | (simp [errW_none, errW_some] <;> rfl) | (simp [*, errW_none, errW_some] <;> rfl), by repeat (first | (with_reducible first | exact HB.out | apply below_alloc | apply pw_below_drewN | apply below_drew1) | exact HB.out)⟩
    ·replace c9 := Bool.eq_false_iff.mpr c9
     subst c9
     have H1 : (if t395 > (IntKind.u64.wrap (wrap64 ((l0.length : Int) - t396))) then (some ((⟨#[]⟩ : ByteArray), 0, 10)) else (if 0 ≤ t396 then (if t396 ≤ (wrap64 (t396 + (wrap64 (t395)))) then (if (wrap64 (t396 + (wrap64 (t395)))) ≤ (l0.length : Int) then (some (strOfNums ((l0.take ((wrap64 (t396 + (wrap64 (t395)))) : Int).toNat).drop (t396 : Int).toNat), wrap64 (t396 + (wrap64 (t395))), 0)) else (none)) else (none)) else (none))) = some (r1, r2, r3) := by rw [if_neg (show ¬ (false = true) by decide)] at H; exact H
     clear H
     have H := H1
     clear H1
     by_cases c10 : t395 > (IntKind.u64.wrap (wrap64 ((l0.length : Int) - t396)))
     ·rw [if_pos c10] at H
      have c10b0 : decide ((IntKind.u64.wrap (wrap64 ((l0.length : Int) - t396))) < t395) = true := decide_eq_true c10
      clear c10
      simp only [Option.some.injEq, Prod.mk.injEq] at H
      obtain ⟨rfl, rfl, rfl⟩ := H
      go_wp2
      go_ret3
      exact ⟨by first | rfl | (simp [errW_none, errW_some] <;> rfl) | (simp [*, errW_none, errW_some] <;> rfl), by repeat (first | (with_reducible first | exact HB.out | apply below_alloc | apply pw_below_drewN | apply below_drew1) | exact HB.out)⟩
     ·rw [if_neg c10] at H
      have c10b0 : decide ((IntKind.u64.wrap (wrap64 ((l0.length : Int) - t396))) < t395) = false := decide_eq_false c10
      clear c10
      by_cases c11 : 0 ≤ t396
      ·rw [if_pos c11] at H
       have c11b0 := eq_true c11
       have c11b1 : decide (0 ≤ t396) = true := decide_eq_true c11
       clear c11
       by_cases c12 : t396 ≤ (wrap64 (t396 + (wrap64 (t395))))
       ·rw [if_pos c12] at H
        have c12b0 := eq_true c12
        have c12b1 : decide (t396 ≤ (wrap64 (t396 + (wrap64 (t395))))) = true := decide_eq_true c12
        by_cases c13 : (wrap64 (t396 + (wrap64 (t395)))) ≤ (l0.length : Int)
        ·rw [if_pos c13] at H
         have c13b0 := eq_true c13
         have c13b1 : decide ((wrap64 (t396 + (wrap64 (t395)))) ≤ (l0.length : Int)) = true := decide_eq_true c13
         simp only [Option.some.injEq, Prod.mk.injEq] at H
         obtain ⟨rfl, rfl, rfl⟩ := H
         obtain ⟨i014, hi014, _, hsz14, _⟩ := info_parts info5
         obtain ⟨A14, hcut14, hA14, hC14⟩ := print_mid_of (P := Try.prog) (Value.int .u8) 0 22 5 .i64 .i64 Try.underlying22 hi014 hsz14 A0 c0 l0 t396 (wrap64 (t396 + (wrap64 (t395)))) (of_decide_eq_true (by first | (with_reducible assumption) | assumption)) (by first | omega | exact of_decide_eq_true (by first | (with_reducible assumption) | assumption)) (of_decide_eq_true (by first | (with_reducible assumption) | assumption)) HC0.out
         have HR398 := Aside0.mk (Kd.C_of_reads (h1 := fun _ => rfl) (hA14 _ (Kd.reads_of_C HR0.out)))
         have HC398 := Aside0.mk hC14
         clear hA14 hC14 hi014 hsz14
         have hcv15 := Kd.C_string (P := Try.prog) (A := A14) (c := (c0 - t396.toNat)) Try.underlying22 Try.underlying5 Try.underlying9 (Kd.C_below HR398.out HB.out)
         try (have hcv15n := hcv15; simp only [List.length_take, List.length_drop] at hcv15n; (try rw [Nat.min_eq_left (by simp only [decide_eq_true_eq, decide_eq_false_iff_not, eq_iff_iff, iff_true] at *; omega)] at hcv15n))
         try (have hcv15d := fun m_ => Kd.C_string (P := Try.prog) (A := A14) (c := (c0 - t396.toNat)) Try.underlying22 Try.underlying5 Try.underlying9 (Kd.C_drewN ((Kd.C_below HR398.out HB.out)) m_))
         try (have hcv15e := fun m_ => Kd.C_string (P := Try.prog) (A := A14) (c := (c0 - t396.toNat)) Try.underlying22 Try.underlying5 Try.underlying9 (Kd.C_drewN ((Kd.C_below HR398.out HB.out)) m_); simp only [List.length_take, List.length_drop] at hcv15e; (try rw [Nat.min_eq_left (by simp only [decide_eq_true_eq, decide_eq_false_iff_not, eq_iff_iff, iff_true] at *; omega)] at hcv15e))
         go_wp2
         go_ret3
         exact ⟨by first | rfl | (simp [errW_none, errW_some] <;> rfl) | (simp [*, errW_none, errW_some] <;> rfl), by repeat (first | (with_reducible first | exact HB.out | apply below_alloc | apply pw_below_drewN | apply below_drew1) | exact HB.out)⟩
        ·rw [if_neg c13] at H
         exact absurd H (by simp)
       ·rw [if_neg c12] at H
        exact absurd H (by simp)
      ·rw [if_neg c11] at H
       exact absurd H (by simp)
 ·rw [if_neg c5] at H
  have c5b0 : (t397 == 0) = false := beq_eq_false_iff_ne.mpr c5
  have c5b1 : (t397 != 0) = true := bne_iff_ne.mpr c5
  simp only [Option.some.injEq, Prod.mk.injEq] at H
  obtain ⟨rfl, rfl, rfl⟩ := H
  go_enter Try.func56, Try.ntmps56
  go_wp2_with (first | ((with_reducible refine gate_callee (f := 55) rfl ?_); refine goesL_ (some 15) rfl rfl Try.func55 (by kernel_rfl) rfl #[.slice A0 l0.length c0, .int .i64 a1] rfl (by (try simp only [List.map_toArray, List.map_cons, List.map_nil]); first | done | rfl | (simp only [List.length_drop, List.length_take]; rfl)) ?_; (with_reducible refine (telemeterref01_Get.calls k _ _ l0 a1 t395 t396 t397 _ ?side1 ?side2 A4.out).mono ?_); (case side1 => repeat (first | exact HR0.out | (with_reducible refine Kd.C_alloc ?_ _) | (with_reducible refine Kd.C_drewN ?_ _) | (with_reducible refine Kd.C_drew ?_))); (case side2 => exact HC0.out); rintro e w16 ⟨rfl, hb⟩; refine ⟨_, rfl, ?_⟩; have n0_ := Aside0.mk (below_step (by repeat (first | (with_reducible first | exact HB.out | apply below_alloc | apply pw_below_drewN | apply below_drew1) | exact HB.out)) hb); clear HB; have HB := n0_; clear n0_; (try clear hb); (try clear hb2); (try clear hk); (try clear hi)))
  go_ret3
  exact ⟨by first | rfl | (simp [errW_none, errW_some] <;> rfl) | (simp [*, errW_none, errW_some] <;> rfl), by repeat (first | (with_reducible first | exact HB.out | apply below_alloc | apply pw_below_drewN | apply below_drew1) | exact HB.out)⟩

end Go.Proofs.Ytfapckmobeppnaa.Px
