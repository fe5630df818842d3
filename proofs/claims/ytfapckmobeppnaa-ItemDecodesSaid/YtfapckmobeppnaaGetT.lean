/- num.Get by hand: a loop with a label. -/
import Derived.Test.YtfapckmobeppnaaProg
import Derived.WalkKit
import Derived.KernelRfl
import Derived.Test.YtfapckmobeppnaaWWords
import Derived.Test.YtfapckmobeppnaaWLast
import Derived.Test.YtfapckmobeppnaaWArr
namespace Go.Proofs.Ytfapckmobeppnaa.Px
open Go.RowKit Go.Proofs.YtfapckmobeppnaaW.PrintWords Go.Proofs.YtfapckmobeppnaaW.PrintLast Go.Proofs.YtfapckmobeppnaaW.PrintMore
attribute [local go_sem] max2_int min2_int max_two min_two
set_option linter.unusedVariables false

/-- the place of the first byte below 128, from k on -/
def stopAt (t : List Int) (k : Nat) : Option Nat :=
 if k < t.length then (if rd t k < 128 then some k else stopAt t (k + 1)) else none
termination_by t.length - k

/-- what the first k bytes come to -/
def accV (t : List Int) : Nat → Int
 | 0 => 0
 | k + 1 => Go.bits .or .u64 (accV t k) (IntKind.u64.wrap ((IntKind.u64.wrap (Go.bits .andNot .u8 (rd t k) 128)) * 2 ^ (7 * k)))

def num_Get.f (l0 : List Int) (a1 : Int) : Option (Int × Int × Int) :=
 if l0.length ≤ 140737488355328 then
  (if a1 < 0 then some (0, 0, 1) else if (l0.length : Int) < a1 then some (0, 0, 1) else
   (match stopAt ((l0.drop a1.toNat).take 10) 0 with
    | none => if ((l0.drop a1.toNat).length : Int) < 10 then some (0, 0, 10) else some (0, 0, 31)
    | some e => if 0 < e ∧ rd (l0.drop a1.toNat) e = 0 then some (0, 0, 31) else if e = 9 ∧ 1 < rd (l0.drop a1.toNat) e then some (0, 0, 31)
      else some (accV ((l0.drop a1.toNat).take 10) (e + 1), a1 + e + 1, 0)))
 else none

theorem Num.info5 : (Try.prog.info? 5).map (fun i => (i.zero, i.size, i.bytes)) = some (some (.int .u8 0), 1, 1) := by kernel_rfl

set_option maxHeartbeats 4000000 in
set_option maxRecDepth 100000 in
theorem Num.Get_neg (A0 : Option Addr) (c0 : Nat) (l0 : List Int) (a1 : Int) (w : World) (h : a1 < 0) :
  Calls Try.prog 54 #[.slice A0 l0.length c0, .int .i64 a1] w fun e w' => e = .returned (.tuple #[.int .u64 0, .int .i64 0, .int .u16 1]) ∧ w = w' := by
 have c4b0 : decide (a1 < 0) = true := decide_eq_true h
 clear h
 go_enter Try.func54, Try.ntmps54
 go_wp2
 go_step3
 go_wp2
 try rw [Exit.noGoto_ret]
 go_ret3
 exact ⟨rfl, rfl⟩

set_option maxHeartbeats 4000000 in
set_option maxRecDepth 100000 in
theorem Num.Get_far (A0 : Option Addr) (c0 : Nat) (l0 : List Int) (a1 : Int) (w : World) (h0 : 0 ≤ a1) (h : (l0.length : Int) < a1) :
  Calls Try.prog 54 #[.slice A0 l0.length c0, .int .i64 a1] w fun e w' => e = .returned (.tuple #[.int .u64 0, .int .i64 0, .int .u16 1]) ∧ w = w' := by
 have c4b0 : decide (a1 < 0) = false := decide_eq_false (by omega)
 have c4b1 : decide ((l0.length : Int) < a1) = true := decide_eq_true (by omega)
 clear h h0
 go_enter Try.func54, Try.ntmps54
 go_wp2
 go_step3
 go_wp2
 try rw [Exit.noGoto_ret]
 go_ret3
 exact ⟨rfl, rfl⟩

set_option maxHeartbeats 8000000 in
set_option maxRecDepth 100000 in
theorem Num.Get_in (A0 : Option Addr) (c0 : Nat) (l0 : List Int) (a1 : Int) (r1 r2 r3 : Int) (w : World) (hr0 : Kd.C (Kd.int .u8) w A0 l0.length l0) (hc0 : l0.length ≤ c0) (hl : l0.length ≤ 140737488355328) (g0 : 0 ≤ a1) (g1 : a1 ≤ (l0.length : Int)) (h : num_Get.f l0 a1 = some (r1, r2, r3)) :
  Calls Try.prog 54 #[.slice A0 l0.length c0, .int .i64 a1] w fun e w' => e = .returned (.tuple #[.int .u64 r1, .int .i64 r2, .int .u16 r3]) ∧ w = w' := by
 have c4b0 : decide (a1 < 0) = false := decide_eq_false (by omega)
 have c4b1 : decide ((l0.length : Int) < a1) = false := decide_eq_false (by omega)
 obtain ⟨i012, hi012, _, hsz12, _⟩ := info_parts Num.info5
 obtain ⟨A12, hcut12, hA12, hC12⟩ := print_drop_of (P := Try.prog) (Value.int .u8) 0 22 5 .i64 Try.underlying22 hi012 hsz12 A0 c0 l0 a1 g0 g1 hc0
 have HR1 := Kd.C_of_reads (h1 := fun _ => rfl) (hA12 _ (Kd.reads_of_C hr0))
 unfold num_Get.f at h
 rw [if_pos hl, if_neg (by omega), if_neg (by omega)] at h
 have hlen : (l0.drop a1.toNat).length ≤ 140737488355328 := by rw [List.length_drop]; omega
 generalize l0.drop a1.toNat = l1 at *
 clear hA12 hr0
 obtain ⟨j, hj⟩ : ∃ j : Int, (if 10 < (l1.length : Int) then 10 else (l1.length : Int)) = j := ⟨_, rfl⟩
 have hj0 : 0 ≤ j := by rw [← hj]; split <;> omega
 have hj1 : j ≤ (l1.length : Int) := by rw [← hj]; split <;> omega
 have hj2 : j ≤ 10 := by rw [← hj]; split <;> omega
 have hj3 : l1.take 10 = l1.take j.toNat := by
  rw [← hj]; split
  ·rfl
  ·rw [List.take_of_length_le (by omega), List.take_of_length_le (by omega)]
 have hj4 : (l1.take j.toNat).length = j.toNat := by rw [List.length_take]; omega
 rw [hj3] at h
 obtain ⟨hcut13, hA13, hC13⟩ := print_take_of (P := Try.prog) (Value.int .u8) 0 22 5 .i64 Try.underlying22 hi012 hsz12 A12 (c0 - a1.toNat) l1 j hj0 hj1 hC12
 have HR2 := Kd.C_of_reads (h1 := fun _ => rfl) (hA13 _ (Kd.reads_of_C HR1))
 have hrd : ∀ k : Nat, k < (l1.take j.toNat).length → rd (l1.take j.toNat) (k : Int) = rd l1 (k : Int) := by
  intro k hk
  simp only [rd, Int.toNat_natCast]
  rw [List.getD_eq_getElem?_getD, List.getD_eq_getElem?_getD, List.getElem?_take_of_lt (by omega)]
 clear hj3 hA13 hi012 hsz12
 generalize l1.take j.toNat = t at *
 have H := Aside0.mk h
 have HH := Aside0.mk hj4
 have HD := Aside0.mk hrd
 have HL := Aside0.mk hlen
 have HJ := Aside0.mk hj
 have HS0 : Aside0 (stopAt t 0 = stopAt t 0) := ⟨rfl⟩
 have ht10 : t.length ≤ 10 := by omega
 clear h hj4 hrd hlen
 go_enter Try.func54, Try.ntmps54
 go_wp2
 go_step3
 go_wp2
 go_step3
 go_wp2
 go_loop [8, 9, 29] (fun v8 v9 v29 => ∃ k : Nat, v8 = .int .u64 (accV t k) ∧ v9 = .int .i64 (-1) ∧ v29 = .int .i64 (k : Int) ∧ Aside0 (k ≤ t.length) ∧ Aside0 (stopAt t 0 = stopAt t k)) (fun _ _ v29 => t.length - (intOf v29).toNat)
 case atStart => exact ⟨0, rfl, rfl, rfl, ⟨Nat.zero_le _⟩, ⟨rfl⟩⟩
 case round =>
  obtain ⟨k, rfl, rfl, rfl, HK, HS⟩ := hrel
  have H0 := H.out
  rw [HS.out, stopAt] at H0
  have hHK := HK.out
  by_cases hk : k < t.length
  ·rw [if_pos hk] at H0
   have b1 : decide ((k : Int) < (t.length : Int)) = true := decide_eq_true (by omega)
   have hk9 : k < 10 := by omega
   have hkl : (k : Int) < (l1.length : Int) := by have := HH.out; omega
   obtain ⟨ad, e, hx⟩ := Kd.at_int HR2 (k : Int) (by omega) (by omega)
   cases e
   rw [Int.toNat_natCast] at hx
   have hD := HD.out k hk
   by_cases hb : rd t k < 128
   ·rw [if_pos hb] at H0
    have b2 : decide (rd t k < 128) = true := decide_eq_true hb
    have b4 : decide ((k : Int) < 0) = false := decide_eq_false (by omega)
    simp only [← hD] at H0
    clear hD hb
    by_cases e1 : 0 < k ∧ rd t k = 0
    ·rw [if_pos e1] at H0
     simp only [Option.some.injEq, Prod.mk.injEq] at H0
     obtain ⟨rfl, rfl, rfl⟩ := H0
     have b5 : 0 < k := by omega
     have b6 : (rd t k == 0) = true := by rw [beq_iff_eq]; exact e1.2
     clear e1
     go_wp2
     try rw [Exit.noGoto_ret]
     go_ret3
     exact ⟨rfl, rfl⟩
    ·rw [if_neg e1] at H0
     by_cases e2 : k = 9 ∧ 1 < rd t k
     ·rw [if_pos e2] at H0
      simp only [Option.some.injEq, Prod.mk.injEq] at H0
      obtain ⟨rfl, rfl, rfl⟩ := H0
      have b5 : 0 < k := by omega
      have b6 : (rd t k == 0) = false := by rw [beq_eq_false_iff_ne]; omega
      have b7 : ((k : Int) == 9) = true := by rw [beq_iff_eq]; omega
      have b8 : decide (1 < rd t k) = true := decide_eq_true e2.2
      clear e1 e2
      go_wp2
      try rw [Exit.noGoto_ret]
      go_ret3
      exact ⟨rfl, rfl⟩
     ·rw [if_neg e2] at H0
      simp only [Option.some.injEq, Prod.mk.injEq] at H0
      obtain ⟨rfl, rfl, rfl⟩ := H0
      by_cases e3 : 0 < k
      ·have b5 : 0 < k := by omega
       have b6 : (rd t k == 0) = false := by rw [beq_eq_false_iff_ne]; omega
       by_cases e4 : k = 9
       ·have b7 : ((k : Int) == 9) = true := by rw [beq_iff_eq]; omega
        have b8 : decide (1 < rd t k) = false := decide_eq_false (by omega)
        clear e1 e2 e3 e4
        go_wp2
        try rw [Exit.noGoto_ret]
        go_ret3
        exact ⟨rfl, rfl⟩
       ·have b7 : ((k : Int) == 9) = false := by rw [beq_eq_false_iff_ne]; omega
        clear e1 e2 e3 e4
        go_wp2
        try rw [Exit.noGoto_ret]
        go_ret3
        exact ⟨rfl, rfl⟩
      ·have b5 : ¬ 0 < k := by omega
       have b7 : ((k : Int) == 9) = false := by rw [beq_eq_false_iff_ne]; omega
       clear e1 e2 e3
       go_wp2
       try rw [Exit.noGoto_ret]
       go_ret3
       exact ⟨rfl, rfl⟩
   ·rw [if_neg hb] at H0
    have b2 : decide (rd t k < 128) = false := decide_eq_false hb
    have HS1 : Aside0 (stopAt t 0 = stopAt t (k + 1)) := ⟨by rw [HS.out, stopAt, if_pos hk, if_neg hb]⟩
    clear H0 hb hD
    go_wp2
    go_round
    case rel => exact ⟨k + 1, rfl, rfl, by go_num, ⟨hk⟩, HS1⟩
    case measure => simp [intOf]; omega
  ·rw [if_neg hk] at H0
   have b1 : decide ((k : Int) < (t.length : Int)) = false := decide_eq_false (by omega)
   by_cases h10 : (l1.length : Int) < 10
   ·have b3 : decide ((l1.length : Int) < 10) = true := decide_eq_true h10
    simp only [if_pos h10] at H0
    simp only [Option.some.injEq, Prod.mk.injEq] at H0
    obtain ⟨rfl, rfl, rfl⟩ := H0
    go_wp2
    try rw [Exit.noGoto_ret]
    go_ret3
    exact ⟨rfl, rfl⟩
   ·have b3 : decide ((l1.length : Int) < 10) = false := decide_eq_false h10
    simp only [if_neg h10] at H0
    simp only [Option.some.injEq, Prod.mk.injEq] at H0
    obtain ⟨rfl, rfl, rfl⟩ := H0
    go_wp2
    try rw [Exit.noGoto_ret]
    go_ret3
    exact ⟨rfl, rfl⟩

theorem Num.Get_same (A0 : Option Addr) (c0 : Nat) (l0 : List Int) (a1 : Int) (r1 : Int) (r2 : Int) (r3 : Int) (w : World) (hr0 : Kd.C (Kd.int .u8) w A0 l0.length l0) (hc0 : l0.length ≤ c0) (h : num_Get.f l0 a1 = some (r1, r2, r3)) :
  Calls Try.prog 54 #[.slice A0 l0.length c0, .int .i64 a1] w fun e w' => e = .returned (.tuple #[.int .u64 r1, .int .i64 r2, .int .u16 r3]) ∧ w = w' := by
 by_cases hl : l0.length ≤ 140737488355328
 ·by_cases h0 : a1 < 0
  ·unfold num_Get.f at h
   rw [if_pos hl, if_pos h0] at h
   simp only [Option.some.injEq, Prod.mk.injEq] at h
   obtain ⟨rfl, rfl, rfl⟩ := h
   exact Num.Get_neg A0 c0 l0 a1 w h0
  ·by_cases h1 : (l0.length : Int) < a1
   ·unfold num_Get.f at h
    rw [if_pos hl, if_neg h0, if_pos h1] at h
    simp only [Option.some.injEq, Prod.mk.injEq] at h
    obtain ⟨rfl, rfl, rfl⟩ := h
    exact Num.Get_far A0 c0 l0 a1 w (by omega) h1
   ·exact Num.Get_in A0 c0 l0 a1 r1 r2 r3 w hr0 hc0 hl (by omega) (by omega) h
 ·unfold num_Get.f at h
  rw [if_neg hl] at h
  cases h

end Go.Proofs.Ytfapckmobeppnaa.Px

/- num.GetText by hand, out of num.Get's contract. -/
namespace Go.Proofs.Ytfapckmobeppnaa.Px
open Go.RowKit Go.Proofs.YtfapckmobeppnaaW.PrintWords Go.Proofs.YtfapckmobeppnaaW.PrintLast Go.Proofs.YtfapckmobeppnaaW.PrintMore
attribute [local go_sem] max2_int min2_int max_two min_two
set_option linter.unusedVariables false

def num_GetText.f (l0 : List Int) (a1 a2 : Int) : Option (ByteArray × Int × Int) :=
 (num_Get.f l0 a1).bind fun x =>
  if x.2.2 = 0 then
   (if 0 ≤ x.1 ∧ x.1 < 18446744073709551616 ∧ 0 ≤ x.2.1 ∧ x.2.1 ≤ (l0.length : Int) ∧ a2 < 9223372036854775808 ∧ l0.length ≤ 140737488355328 then
    (if a2 < 0 then some (⟨#[]⟩, 0, 3) else if a2 < x.1 then some (⟨#[]⟩, 0, 3) else if (l0.length : Int) - x.2.1 < x.1 then some (⟨#[]⟩, 0, 10)
     else some (strOfNums ((l0.drop x.2.1.toNat).take x.1.toNat), x.2.1 + x.1, 0))
   else none)
  else some (⟨#[]⟩, 0, x.2.2)

set_option maxHeartbeats 4000000 in
set_option maxRecDepth 100000 in
theorem Num.GetText_same (A0 : Option Addr) (c0 : Nat) (l0 : List Int) (a1 : Int) (a2 : Int) (r1 : ByteArray) (r2 : Int) (r3 : Int) (w : World) (hr0 : Kd.C (Kd.int .u8) w A0 l0.length l0) (hc0 : l0.length ≤ c0) (h : num_GetText.f l0 a1 a2 = some (r1, r2, r3)) :
  Calls Try.prog 53 #[.slice A0 l0.length c0, .int .i64 a1, .int .i64 a2] w fun e w' => e = .returned (.tuple #[.string r1, .int .i64 r2, .int .u16 r3]) ∧ w = w' := by
 unfold num_GetText.f at h
 obtain ⟨⟨n, up, er⟩, hg, h⟩ := Option.bind_eq_some_iff.mp h
 have HG := Num.Get_same A0 c0 l0 a1 n up er w hr0 hc0 hg
 clear hg
 by_cases c5 : er = 0
 ·simp only [if_pos c5] at h
  subst c5
  by_cases hd : 0 ≤ n ∧ n < 18446744073709551616 ∧ 0 ≤ up ∧ up ≤ (l0.length : Int) ∧ a2 < 9223372036854775808 ∧ l0.length ≤ 140737488355328
  ·rw [if_pos hd] at h
   obtain ⟨d1, d2, d3, d4, d5, d6⟩ := hd
   by_cases c1 : a2 < 0
   ·rw [if_pos c1] at h
    simp only [Option.some.injEq, Prod.mk.injEq] at h
    obtain ⟨rfl, rfl, rfl⟩ := h
    have b1 : decide (a2 < 0) = true := decide_eq_true c1
    clear c1
    go_enter Try.func53, Try.ntmps53
    go_wp2_with (go_at_call 54; refine HG.mono ?_; rintro e w' ⟨rfl, rfl⟩)
    go_ret3
    exact ⟨rfl, rfl⟩
   ·rw [if_neg c1] at h
    have b1 : decide (a2 < 0) = false := decide_eq_false c1
    have e1 : IntKind.u64.wrap a2 = a2 := by simp only [IntKind.wrap, IntKind.signed, IntKind.bits]; simp; omega
    have e2 : wrap64 ((l0.length : Int) - up) = (l0.length : Int) - up := by unfold wrap64; omega
    have e3 : IntKind.u64.wrap ((l0.length : Int) - up) = (l0.length : Int) - up := by simp only [IntKind.wrap, IntKind.signed, IntKind.bits]; simp; omega
    by_cases c2 : a2 < n
    ·rw [if_pos c2] at h
     simp only [Option.some.injEq, Prod.mk.injEq] at h
     obtain ⟨rfl, rfl, rfl⟩ := h
     have b2 : decide (a2 < n) = true := decide_eq_true c2
     go_enter Try.func53, Try.ntmps53
     go_wp2_with (go_at_call 54; refine HG.mono ?_; rintro e w' ⟨rfl, rfl⟩)
     go_ret3
     exact ⟨rfl, rfl⟩
    ·rw [if_neg c2] at h
     have b2 : decide (a2 < n) = false := decide_eq_false c2
     by_cases c3 : (l0.length : Int) - up < n
     ·rw [if_pos c3] at h
      simp only [Option.some.injEq, Prod.mk.injEq] at h
      obtain ⟨rfl, rfl, rfl⟩ := h
      have b3 : decide ((l0.length : Int) - up < n) = true := decide_eq_true c3
      go_enter Try.func53, Try.ntmps53
      go_wp2_with (go_at_call 54; refine HG.mono ?_; rintro e w' ⟨rfl, rfl⟩)
      go_ret3
      exact ⟨rfl, rfl⟩
     ·rw [if_neg c3] at h
      simp only [Option.some.injEq, Prod.mk.injEq] at h
      obtain ⟨rfl, rfl, rfl⟩ := h
      have b3 : decide ((l0.length : Int) - up < n) = false := decide_eq_false c3
      have e4 : wrap64 n = n := by unfold wrap64; omega
      have e5 : wrap64 (up + n) = up + n := by unfold wrap64; omega
      obtain ⟨i013, hi013, _, hsz13, _⟩ := info_parts Num.info5
      obtain ⟨A13, hcut13, hA13, hC13⟩ := print_mid_of (P := Try.prog) (Value.int .u8) 0 22 5 .i64 .i64 Try.underlying22 hi013 hsz13 A0 c0 l0 up (up + n) d3 (by omega) (by omega) hc0
      have HR110 := Kd.C_of_reads (h1 := fun _ => rfl) (hA13 _ (Kd.reads_of_C hr0))
      have hcv14 := Kd.C_string (P := Try.prog) (A := A13) (c := (c0 - up.toNat)) Try.underlying22 Try.underlying5 Try.underlying9 HR110
      have hfin : (l0.take (up + n).toNat).drop up.toNat = (l0.drop up.toNat).take n.toNat := by
       rw [List.drop_take, show (up + n).toNat - up.toNat = n.toNat from by omega]
      rw [hfin] at HR110 hcv14 hC13
      simp only [hfin] at hcut13
      generalize (l0.drop up.toNat).take n.toNat = t at *
      clear hfin hA13
      clear hsz13 hi013 c1 c2 c3
      go_enter Try.func53, Try.ntmps53
      go_wp2_with (go_at_call 54; refine HG.mono ?_; rintro e w' ⟨rfl, rfl⟩)
      go_ret3
      exact ⟨by simp [e5], rfl⟩
  ·rw [if_neg hd] at h
   cases h
 ·simp only [if_neg c5] at h
  simp only [Option.some.injEq, Prod.mk.injEq] at h
  obtain ⟨rfl, rfl, rfl⟩ := h
  have b1 : (er == 0) = false := beq_eq_false_iff_ne.mpr c5
  have b2 : (er != 0) = true := bne_iff_ne.mpr c5
  go_enter Try.func53, Try.ntmps53
  go_wp2_with (go_at_call 54; refine HG.mono ?_; rintro e w' ⟨rfl, rfl⟩)
  go_ret3
  exact ⟨rfl, rfl⟩

end Go.Proofs.Ytfapckmobeppnaa.Px
