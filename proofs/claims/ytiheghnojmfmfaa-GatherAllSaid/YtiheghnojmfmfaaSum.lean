/- Plain facts on checks of bytes: one byte more, the way back, four bytes. No program in sight. -/
import Derived.Test.YtiheghnojmfmfaaNumQ
import Derived.Test.YtiheghnojmfmfaaProg
import Derived.WalkKit
import Derived.KernelRfl
namespace Go.Proofs.Ytiheghnojmfmfaa.Px
open Go.RowKit Go.Proofs.YtiheghnojmfmfaaW.PrintWords Go.Proofs.YtiheghnojmfmfaaW.PrintLast Go.Proofs.YtiheghnojmfmfaaW.PrintMore
set_option linter.unusedVariables false
set_option linter.unusedSimpArgs false

/-- half of it, and, if it was odd, xor edb88320 -/
def bitC (c : Nat) : Nat := if c % 2 = 1 then (c / 2) ^^^ 3988292384 else c / 2
def bitsC : Nat → Nat → Nat
  | 0, c => c
  | k + 1, c => bitsC k (bitC c)
/-- a check with one byte more -/
def byteC (c : Nat) (b : Int) : Nat := bitsC 8 (c ^^^ b.toNat)
def foldC (c : Nat) (l : List Int) : Nat := l.foldl byteC c
def sumL (l : List Int) : Nat := foldC 4294967295 l ^^^ 4294967295
def fourL (n : Nat) : List Int := [((n / 16777216 % 256 : Nat) : Int), ((n / 65536 % 256 : Nat) : Int), ((n / 256 % 256 : Nat) : Int), ((n % 256 : Nat) : Int)]

theorem xor_lt {a b : Nat} (ha : a < 4294967296) (hb : b < 4294967296) : a ^^^ b < 4294967296 := Nat.xor_lt_two_pow (n := 32) ha hb
theorem bitC_lt {c : Nat} (h : c < 4294967296) : bitC c < 4294967296 := by
  unfold bitC; split
  · exact xor_lt (by omega) (by decide)
  · omega
theorem bitsC_lt (k : Nat) : ∀ {c : Nat}, c < 4294967296 → bitsC k c < 4294967296 := by
  induction k with
  | zero => exact fun h => h
  | succ k ih => exact fun h => ih (bitC_lt h)
theorem byteC_lt {c : Nat} {b : Int} (h : c < 4294967296) (hb : 0 ≤ b ∧ b ≤ 255) : byteC c b < 4294967296 := bitsC_lt 8 (xor_lt h (by omega))
theorem foldC_lt (l : List Int) (hl : bytesP l) : ∀ {c : Nat}, c < 4294967296 → foldC c l < 4294967296 := by
  induction l with
  | nil => exact fun h => h
  | cons x xs ih => exact fun h => ih (fun y hy => hl y (by simp [hy])) (byteC_lt h (hl x (by simp)))
theorem sumL_lt (l : List Int) (hl : bytesP l) : sumL l < 4294967296 := xor_lt (foldC_lt l hl (by decide)) (by decide)

theorem xor_cancel {a b c : Nat} (h : a ^^^ c = b ^^^ c) : a = b := by
  have := congrArg (· ^^^ c) h
  simpa [Nat.xor_assoc] using this
theorem xor_cancel_left {a b c : Nat} (h : c ^^^ a = c ^^^ b) : a = b := by
  rw [Nat.xor_comm c a, Nat.xor_comm c b] at h; exact xor_cancel h

/-- the greatest digit tells whether it was odd -/
theorem half_top {a : Nat} (h : a < 2147483648) : 2147483648 ≤ a ^^^ 3988292384 := by
  have h1 : (a ^^^ 3988292384).testBit 31 = true := by
    rw [Nat.testBit_xor, Nat.testBit_lt_two_pow (show a < 2 ^ 31 from h)]; decide
  have := Nat.ge_two_pow_of_testBit h1
  exact this
theorem bitC_inj {a b : Nat} (ha : a < 4294967296) (hb : b < 4294967296) (h : bitC a = bitC b) : a = b := by
  unfold bitC at h
  by_cases h1 : a % 2 = 1 <;> by_cases h2 : b % 2 = 1
  · rw [if_pos h1, if_pos h2] at h
    have := xor_cancel h; omega
  · rw [if_pos h1, if_neg h2] at h
    have := half_top (a := a / 2) (by omega); omega
  · rw [if_neg h1, if_pos h2] at h
    have := half_top (a := b / 2) (by omega); omega
  · rw [if_neg h1, if_neg h2] at h; omega
theorem bitsC_inj (k : Nat) : ∀ {a b : Nat}, a < 4294967296 → b < 4294967296 → bitsC k a = bitsC k b → a = b := by
  induction k with
  | zero => exact fun _ _ h => h
  | succ k ih => exact fun ha hb h => bitC_inj ha hb (ih (bitC_lt ha) (bitC_lt hb) h)
theorem byteC_inj {a b : Nat} {x : Int} (ha : a < 4294967296) (hb : b < 4294967296) (hx : 0 ≤ x ∧ x ≤ 255) (h : byteC a x = byteC b x) : a = b :=
  xor_cancel (bitsC_inj 8 (xor_lt ha (by omega)) (xor_lt hb (by omega)) h)
theorem byteC_inj2 {a : Nat} {x y : Int} (ha : a < 4294967296) (hx : 0 ≤ x ∧ x ≤ 255) (hy : 0 ≤ y ∧ y ≤ 255) (h : byteC a x = byteC a y) : x = y := by
  have := xor_cancel_left (bitsC_inj 8 (xor_lt ha (by omega)) (xor_lt ha (by omega)) h)
  omega
theorem foldC_inj (l : List Int) (hl : bytesP l) : ∀ {a b : Nat}, a < 4294967296 → b < 4294967296 → foldC a l = foldC b l → a = b := by
  induction l with
  | nil => exact fun _ _ h => h
  | cons x xs ih =>
    intro a b ha hb h
    have hx := hl x (by simp)
    exact byteC_inj ha hb hx (ih (fun y hy => hl y (by simp [hy])) (byteC_lt ha hx) (byteC_lt hb hx) h)

/-- bytes of which one is another one have another sum -/
theorem sumL_set (l : List Int) (hl : bytesP l) (k : Nat) (hk : k < l.length) (y : Int) (hy : 0 ≤ y ∧ y ≤ 255) (hne : y ≠ l[k]) : sumL (l.set k y) ≠ sumL l := by
  have key : ∀ (l : List Int), bytesP l → ∀ (k : Nat) (hk : k < l.length), y ≠ l[k] → ∀ c : Nat, c < 4294967296 → foldC c (l.set k y) ≠ foldC c l := by
    intro l
    induction l with
    | nil => intro _ k hk; simp at hk
    | cons x xs ih =>
      intro hl k hk hne c hc
      have hx := hl x (by simp)
      have hxs : bytesP xs := fun z hz => hl z (by simp [hz])
      cases k with
      | zero =>
        intro h
        have := foldC_inj xs hxs (byteC_lt hc hy) (byteC_lt hc hx) h
        exact hne (byteC_inj2 hc hy hx this)
      | succ k =>
        exact ih hxs k (by simpa using hk) (by simpa using hne) _ (byteC_lt hc hx)
  intro h
  exact key l hl k hk hne _ (by decide) (xor_cancel h)

theorem fourL_inj {a b : Nat} (ha : a < 4294967296) (hb : b < 4294967296) (h : fourL a = fourL b) : a = b := by
  simp only [fourL, List.cons.injEq, Int.natCast_inj, and_true] at h
  omega
theorem fourL_bytes (n : Nat) : bytesP (fourL n) := by
  intro x hx
  simp only [fourL, List.mem_cons, List.not_mem_nil, or_false] at hx
  omega
theorem fourL_length (n : Nat) : (fourL n).length = 4 := rfl

end Go.Proofs.Ytiheghnojmfmfaa.Px

/- frame.Sum by hand: a fold whose step is handed over as a function value. -/
namespace Go.Proofs.Ytiheghnojmfmfaa.Px
open Go.RowKit Go.Proofs.YtiheghnojmfmfaaW.PrintWords Go.Proofs.YtiheghnojmfmfaaW.PrintLast Go.Proofs.YtiheghnojmfmfaaW.PrintMore
set_option linter.unusedVariables false
set_option linter.unusedSimpArgs false

theorem wraps_u32 (n : Int) (h₀ : 0 ≤ n) (h₁ : n < 2 ^ 32) : IntKind.u32.wrap n = n := by rw [IntKind.wrap_u32]; omega

theorem bits_xor_nat (a b : Nat) (ha : a < 4294967296) (hb : b < 4294967296) : Go.bits .xor .u32 (a : Int) (b : Int) = ((a ^^^ b : Nat) : Int) := by
  have ha' : a % 2 ^ 32 = a := Nat.mod_eq_of_lt ha
  have hb' : b % 2 ^ 32 = b := Nat.mod_eq_of_lt hb
  simp only [Go.bits, IntKind.bits]
  rw [BitVec.ofInt_natCast, BitVec.ofInt_natCast]
  show IntKind.u32.wrap ((BitVec.ofNat 32 a ^^^ BitVec.ofNat 32 b).toNat : Int) = _
  rw [BitVec.toNat_xor, BitVec.toNat_ofNat, BitVec.toNat_ofNat, ha', hb', IntKind.wrap_u32]
  have := xor_lt ha hb
  omega

/-- the eight steps' one step, as the code has it -/
theorem bit_step (c : Nat) (hc : c < 4294967296) :
    Go.bits .xor .u32 ((c : Int) / 2) (Go.bits .and .u32 ((-(Go.bits .and .u32 (c : Int) 1)) % 4294967296) 3988292384) = ((bitC c : Nat) : Int) := by
  have e1 : Go.bits .and .u32 (c : Int) 1 = ((c % 2 : Nat) : Int) := by
    rw [show (1 : Int) = ((1 : Nat) : Int) from rfl, (bits_nat .u32 32 (by decide) wraps_u32 c 1 hc (by decide)).1, Nat.and_one_is_mod]
  have e2 : ((c : Int) / 2) = ((c / 2 : Nat) : Int) := by omega
  rw [e1, e2]
  unfold bitC
  by_cases h : c % 2 = 1
  · rw [if_pos h, h]
    have e3 : Go.bits .and .u32 ((-((1 : Nat) : Int)) % 4294967296) 3988292384 = ((3988292384 : Nat) : Int) := by decide +kernel
    rw [e3, bits_xor_nat _ _ (by omega) (by decide)]
  · rw [if_neg h, show c % 2 = 0 from by omega]
    have e3 : Go.bits .and .u32 ((-((0 : Nat) : Int)) % 4294967296) 3988292384 = ((0 : Nat) : Int) := by decide +kernel
    rw [e3, bits_xor_nat _ _ (by omega) (by decide), Nat.xor_zero]

theorem bitsC_add (k : Nat) : ∀ c, bitsC (k + 1) c = bitC (bitsC k c) := by
  induction k with
  | zero => intro c; rfl
  | succ k ih => intro c; rw [bitsC, ih]; rfl

set_option maxHeartbeats 4000000 in
set_option maxRecDepth 100000 in
theorem Frm.with_calls (c : Nat) (b : Int) (hc : c < 4294967296) (hb : 0 ≤ b ∧ b ≤ 255) (w : World) :
    Calls Try.prog 46 #[.int .u32 (c : Int), .int .u8 b] w fun e w' => e = .returned (.int .u32 ((byteC c b : Nat) : Int)) ∧ w = w' := by
  obtain ⟨x, hx⟩ : ∃ x : Nat, c ^^^ b.toNat = x := ⟨_, rfl⟩
  have hx0 : x < 4294967296 := by rw [← hx]; exact xor_lt hc (by omega)
  have e0 : Go.bits .xor .u32 (c : Int) b = (x : Int) := by
    rw [← hx]
    have := bits_xor_nat c b.toNat hc (by omega)
    rw [Int.toNat_of_nonneg hb.1] at this
    exact this
  have hfin : byteC c b = bitsC 8 x := by unfold byteC; rw [hx]
  rw [hfin]
  clear hfin hx
  have hb0 := hb.1
  have hb1 := hb.2
  clear hb
  have ec : IntKind.u32.wrap b = b := by rw [IntKind.wrap_u32]; omega
  go_enter Try.func46, Try.ntmps46
  go_wp2
  go_loop [0, 10] (fun v0 v10 => ∃ k : Nat, v0 = .int .u32 ((bitsC k x : Nat) : Int) ∧ v10 = .int .i64 (k : Int) ∧ k ≤ 8) (fun _ v10 => 8 - (intOf v10).toNat)
  case atStart => exact ⟨0, by first | rfl | simp [bitsC, *], rfl, by omega⟩
  case round =>
    obtain ⟨k, rfl, rfl, hk⟩ := hrel
    have hlt := bitsC_lt k hx0
    have hstep := bit_step _ hlt
    rw [← bitsC_add] at hstep
    by_cases hk8 : k < 8
    · have b1 : decide ((k : Int) < 8) = true := decide_eq_true (by omega)
      have HS := Aside0.mk hstep
      have HL := Aside0.mk hlt
      clear hstep hlt
      go_wp2
      refine ⟨⟨k + 1, ?_, by go_num, by omega⟩, by simp [intOf]; omega⟩
      rw [HS.out]
    · obtain rfl : k = 8 := by omega
      have b1 : decide ((8 : Int) < 8) = false := by decide
      clear hstep hlt
      go_wp2
      go_ret
      exact ⟨rfl, rfl⟩

theorem foldC_snoc (l : List Int) (k : Nat) (h : k < l.length) (c : Nat) : foldC c (l.take (k + 1)) = byteC (foldC c (l.take k)) l[k] := by
  rw [List.take_succ_eq_append_getElem h, foldC, List.foldl_append]; rfl

set_option maxHeartbeats 4000000 in
set_option maxRecDepth 100000 in
theorem Frm.fold_calls (c : Nat) (A0 : Option Addr) (c0 : Nat) (l0 : List Int) (hc : c < 4294967296) (hb : bytesP l0) (hl : l0.length ≤ 140737488355328) (w : World) (hr0 : Kd.C (Kd.int .u8) w A0 l0.length l0) (hc0 : l0.length ≤ c0) :
    Calls Try.prog 45 #[.int .u32 (c : Int), .slice A0 l0.length c0, .func (.func 46) #[] #[]] w fun e w' => e = .returned (.int .u32 ((foldC c l0 : Nat) : Int)) ∧ w = w' := by
  have HC := Aside0.mk hb
  clear hb
  go_enter Try.func45, Try.ntmps45
  go_wp2
  go_loop [0, 11] (fun v0 v11 => ∃ k : Nat, v0 = .int .u32 ((foldC c (l0.take k) : Nat) : Int) ∧ v11 = .int .i64 (k : Int) ∧ k ≤ l0.length) (fun _ v11 => l0.length - (intOf v11).toNat)
  case atStart => exact ⟨0, by simp [foldC], rfl, by omega⟩
  case round =>
    obtain ⟨k, rfl, rfl, hk⟩ := hrel
    by_cases hkl : k < l0.length
    · have b1 : decide ((k : Int) < (l0.length : Int)) = true := decide_eq_true (by omega)
      have hlt := foldC_lt (l0.take k) (HC.out.take k) hc
      have HS := Aside0.mk (foldC_snoc l0 k hkl c)
      have hx := HC.out l0[k] (List.getElem_mem hkl)
      obtain ⟨ad, e, hcell⟩ := Kd.at_int hr0 (k : Int) (by omega) (by omega)
      cases e
      rw [Int.toNat_natCast, rd_eq l0 k hkl] at hcell
      have HW := Aside0.mk (fun W => Frm.with_calls (foldC c (l0.take k)) l0[k] hlt hx W)
      clear hlt hx
      go_wp2_with fail
      refine (HW.out _).mono ?_
      rintro e w' ⟨rfl, rfl⟩
      go_wp2
      refine ⟨⟨k + 1, ?_, by go_num, by omega⟩, by simp [intOf]; omega⟩
      rw [HS.out]
    · obtain rfl : k = l0.length := by omega
      have b1 : decide ((l0.length : Int) < (l0.length : Int)) = false := decide_eq_false (by omega)
      go_wp2
      go_ret
      exact ⟨by simp [List.take_length], rfl⟩

def frame_Sum.f (l0 : List Int) : Option Int := if (l0.all fun x => decide (0 ≤ x ∧ x ≤ 255)) = true ∧ l0.length ≤ 140737488355328 then some ((sumL l0 : Nat) : Int) else none

theorem bytesP_of_all {l : List Int} (h : (l.all fun x => decide (0 ≤ x ∧ x ≤ 255)) = true) : bytesP l := by
  intro x hx
  have := List.all_eq_true.1 h x hx
  simpa using this
theorem all_of_bytesP {l : List Int} (h : bytesP l) : (l.all fun x => decide (0 ≤ x ∧ x ≤ 255)) = true := by
  rw [List.all_eq_true]; intro x hx; simpa using h x hx

theorem bits_not (n : Nat) (h : n < 4294967296) : Go.bits .xor .u32 IntKind.u32.max (n : Int) = ((n ^^^ 4294967295 : Nat) : Int) := by
  have e : IntKind.u32.max = ((4294967295 : Nat) : Int) := by decide
  rw [e, bits_xor_nat _ _ (by decide) h, Nat.xor_comm]

set_option maxHeartbeats 4000000 in
set_option maxRecDepth 100000 in
theorem Frm.Sum_same (A0 : Option Addr) (c0 : Nat) (l0 : List Int) (r : Int) (w : World) (hr0 : Kd.C (Kd.int .u8) w A0 l0.length l0) (hc0 : l0.length ≤ c0) (h : frame_Sum.f l0 = some r) :
    Calls Try.prog 28 #[.slice A0 l0.length c0] w fun e w' => e = .returned (.int .u32 r) ∧ w = w' := by
  unfold frame_Sum.f at h
  by_cases hd : (l0.all fun x => decide (0 ≤ x ∧ x ≤ 255)) = true ∧ l0.length ≤ 140737488355328
  · rw [if_pos hd] at h
    simp only [Option.some.injEq] at h
    subst h
    have hb := bytesP_of_all hd.1
    have HF := Aside0.mk (Frm.fold_calls 4294967295 A0 c0 l0 (by decide) hb hd.2 w hr0 hc0)
    have HN := Aside0.mk (bits_not _ (foldC_lt l0 hb (c := 4294967295) (by decide)))
    clear hd hb
    go_enter Try.func28, Try.ntmps28
    go_wp2_with fail
    refine (HF.out).mono ?_
    rintro e w' ⟨rfl, rfl⟩
    go_wp2
    go_ret
    refine ⟨?_, rfl⟩
    show Ending.returned (Value.int IntKind.u32 (Go.bits .xor .u32 IntKind.u32.max ((foldC 4294967295 l0 : Nat) : Int))) = _
    rw [HN.out]
    rfl
  · rw [if_neg hd] at h; cases h

theorem Frm.Sum_calls (A0 : Option Addr) (c0 : Nat) (l0 : List Int) (r : Int) (w : World) (hr0 : Kd.C (Kd.int .u8) w A0 l0.length l0) (hc0 : l0.length ≤ c0) (h : frame_Sum.f l0 = some r) :
    Calls Try.prog 28 #[.slice A0 l0.length c0] w fun e w' => e = .returned (.int .u32 r) ∧ Drawn0 w w' :=
  (Frm.Sum_same A0 c0 l0 r w hr0 hc0 h).mono fun e w' ⟨he, hw⟩ => ⟨he, by rw [← hw]; exact Drawn0.refl _⟩

end Go.Proofs.Ytiheghnojmfmfaa.Px
