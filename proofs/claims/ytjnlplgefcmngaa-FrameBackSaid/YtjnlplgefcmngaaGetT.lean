/- num.GetText by hand, out of num.Get's contract. -/
import Derived.Test.YtjnlplgefcmngaaGet
import Derived.WalkKit
import Derived.KernelRfl
import Derived.Test.YtjnlplgefcmngaaWWords
import Derived.Test.YtjnlplgefcmngaaWLast
import Derived.Test.YtjnlplgefcmngaaWMore
namespace Go.Proofs.Ytjnlplgefcmngaa.Px
open Go.RowKit Go.Proofs.YtjnlplgefcmngaaW.PrintWords Go.Proofs.YtjnlplgefcmngaaW.PrintLast Go.Proofs.YtjnlplgefcmngaaW.PrintMore
attribute [local go_sem] max2_int min2_int max_two min_two
set_option linter.unusedVariables false

def num_GetText.f (l0 : List Int) (a1 a2 : Int) : Option (ByteArray × Int × Int) :=
  (num_Get.f l0 a1).bind fun x =>
    if x.2.2 = 0 then
      (if 0 ≤ x.1 ∧ x.1 < 18446744073709551616 ∧ 0 ≤ x.2.1 ∧ x.2.1 ≤ (l0.length : Int) ∧ a2 < 9223372036854775808 ∧ l0.length ≤ 140737488355328 then
        (if a2 < 0 then some (⟨#[]⟩, 0, 3) else if a2 < x.1 then some (⟨#[]⟩, 0, 3) else if (l0.length : Int) - x.2.1 < x.1 then some (⟨#[]⟩, 0, 10)
          else some (strOfNums ((l0.drop x.2.1.toNat).take x.1.toNat), x.2.1 + x.1, 0))
      else none)
    else some (⟨#[]⟩, 0, x.2.2)

set_option maxHeartbeats 4000000 in
set_option maxRecDepth 100000 in
theorem Num.GetText_same (A0 : Option Addr) (c0 : Nat) (l0 : List Int) (a1 : Int) (a2 : Int) (r1 : ByteArray) (r2 : Int) (r3 : Int) (w : World) (hr0 : Kd.C (Kd.int .u8) w A0 l0.length l0) (hc0 : l0.length ≤ c0) (h : num_GetText.f l0 a1 a2 = some (r1, r2, r3)) :
    Calls Try.prog 48 #[.slice A0 l0.length c0, .int .i64 a1, .int .i64 a2] w fun e w' => e = .returned (.tuple #[.string r1, .int .i64 r2, .int .u16 r3]) ∧ w = w' := by
  unfold num_GetText.f at h
  obtain ⟨⟨n, up, er⟩, hg, h⟩ := Option.bind_eq_some_iff.mp h
  have HG := Num.Get_same A0 c0 l0 a1 n up er w hr0 hc0 hg
  clear hg
  by_cases c5 : er = 0
  · simp only [if_pos c5] at h
    subst c5
    by_cases hd : 0 ≤ n ∧ n < 18446744073709551616 ∧ 0 ≤ up ∧ up ≤ (l0.length : Int) ∧ a2 < 9223372036854775808 ∧ l0.length ≤ 140737488355328
    · rw [if_pos hd] at h
      obtain ⟨d1, d2, d3, d4, d5, d6⟩ := hd
      by_cases c1 : a2 < 0
      · rw [if_pos c1] at h
        simp only [Option.some.injEq, Prod.mk.injEq] at h
        obtain ⟨rfl, rfl, rfl⟩ := h
        have b1 : decide (a2 < 0) = true := decide_eq_true c1
        clear c1
        go_enter Try.func48, Try.ntmps48
        go_wp2_with (go_at_call 35; refine HG.mono ?_; rintro e w' ⟨rfl, rfl⟩)
        go_ret3
        exact ⟨rfl, rfl⟩
      · rw [if_neg c1] at h
        have b1 : decide (a2 < 0) = false := decide_eq_false c1
        have e1 : IntKind.u64.wrap a2 = a2 := by simp only [IntKind.wrap, IntKind.signed, IntKind.bits]; simp; omega
        have e2 : wrap64 ((l0.length : Int) - up) = (l0.length : Int) - up := by unfold wrap64; omega
        have e3 : IntKind.u64.wrap ((l0.length : Int) - up) = (l0.length : Int) - up := by simp only [IntKind.wrap, IntKind.signed, IntKind.bits]; simp; omega
        by_cases c2 : a2 < n
        · rw [if_pos c2] at h
          simp only [Option.some.injEq, Prod.mk.injEq] at h
          obtain ⟨rfl, rfl, rfl⟩ := h
          have b2 : decide (a2 < n) = true := decide_eq_true c2
          go_enter Try.func48, Try.ntmps48
          go_wp2_with (go_at_call 35; refine HG.mono ?_; rintro e w' ⟨rfl, rfl⟩)
          go_ret3
          exact ⟨rfl, rfl⟩
        · rw [if_neg c2] at h
          have b2 : decide (a2 < n) = false := decide_eq_false c2
          by_cases c3 : (l0.length : Int) - up < n
          · rw [if_pos c3] at h
            simp only [Option.some.injEq, Prod.mk.injEq] at h
            obtain ⟨rfl, rfl, rfl⟩ := h
            have b3 : decide ((l0.length : Int) - up < n) = true := decide_eq_true c3
            go_enter Try.func48, Try.ntmps48
            go_wp2_with (go_at_call 35; refine HG.mono ?_; rintro e w' ⟨rfl, rfl⟩)
            go_ret3
            exact ⟨rfl, rfl⟩
          · rw [if_neg c3] at h
            simp only [Option.some.injEq, Prod.mk.injEq] at h
            obtain ⟨rfl, rfl, rfl⟩ := h
            have b3 : decide ((l0.length : Int) - up < n) = false := decide_eq_false c3
            have e4 : wrap64 n = n := by unfold wrap64; omega
            have e5 : wrap64 (up + n) = up + n := by unfold wrap64; omega
            obtain ⟨i013, hi013, _, hsz13, _⟩ := info_parts Num.info5
            obtain ⟨A13, hcut13, hA13, hC13⟩ := print_mid_of (P := Try.prog) (Value.int .u8) 0 23 5 .i64 .i64 Try.underlying23 hi013 hsz13 A0 c0 l0 up (up + n) d3 (by omega) (by omega) hc0
            have HR110 := Kd.C_of_reads (h1 := fun _ => rfl) (hA13 _ (Kd.reads_of_C hr0))
            have hcv14 := Kd.C_string (P := Try.prog) (A := A13) (c := (c0 - up.toNat)) Try.underlying23 Try.underlying5 Try.underlying9 HR110
            have hfin : (l0.take (up + n).toNat).drop up.toNat = (l0.drop up.toNat).take n.toNat := by
              rw [List.drop_take, show (up + n).toNat - up.toNat = n.toNat from by omega]
            rw [hfin] at HR110 hcv14 hC13
            simp only [hfin] at hcut13
            generalize (l0.drop up.toNat).take n.toNat = t at *
            clear hfin hA13
            clear hsz13 hi013 c1 c2 c3
            go_enter Try.func48, Try.ntmps48
            go_wp2_with (go_at_call 35; refine HG.mono ?_; rintro e w' ⟨rfl, rfl⟩)
            go_ret3
            exact ⟨by simp [e5], rfl⟩
    · rw [if_neg hd] at h
      cases h
  · simp only [if_neg c5] at h
    simp only [Option.some.injEq, Prod.mk.injEq] at h
    obtain ⟨rfl, rfl, rfl⟩ := h
    have b1 : (er == 0) = false := beq_eq_false_iff_ne.mpr c5
    have b2 : (er != 0) = true := bne_iff_ne.mpr c5
    go_enter Try.func48, Try.ntmps48
    go_wp2_with (go_at_call 35; refine HG.mono ?_; rintro e w' ⟨rfl, rfl⟩)
    go_ret3
    exact ⟨rfl, rfl⟩

theorem Num.GetText_calls (A0 : Option Addr) (c0 : Nat) (l0 : List Int) (a1 : Int) (a2 : Int) (r1 : ByteArray) (r2 : Int) (r3 : Int) (w : World) (hr0 : Kd.C (Kd.int .u8) w A0 l0.length l0) (hc0 : l0.length ≤ c0) (h : num_GetText.f l0 a1 a2 = some (r1, r2, r3)) :
    Calls Try.prog 48 #[.slice A0 l0.length c0, .int .i64 a1, .int .i64 a2] w fun e w' => e = .returned (.tuple #[.string r1, .int .i64 r2, .int .u16 r3]) ∧ Drawn0 w w' :=
  (Num.GetText_same A0 c0 l0 a1 a2 r1 r2 r3 w hr0 hc0 h).mono fun e w' ⟨he, hw⟩ => ⟨he, by rw [← hw]; exact Drawn0.refl _⟩

end Go.Proofs.Ytjnlplgefcmngaa.Px
