/- Plain facts on checks of bytes: one byte more, the way back, four bytes. No program in sight. -/
import Derived.Test.YtjnlplgefcmngaaNumQ
namespace Go.Proofs.Ytjnlplgefcmngaa.Px
open Go.RowKit Go.Proofs.YtjnlplgefcmngaaW.PrintWords Go.Proofs.YtjnlplgefcmngaaW.PrintLast Go.Proofs.YtjnlplgefcmngaaW.PrintMore
set_option linter.unusedVariables false
set_option linter.unusedSimpArgs false

/-- half of it, and, if it was odd, xor edb88320 -/
def bitC (c : Nat) : Nat := if c % 2 = 1 then (c / 2) ^^^ 3988292384 else c / 2
def bitsC : Nat → Nat → Nat
  | 0, c => c
  | k + 1, c => bitsC k (bitC c)
/-- a check with one byte more -/
def byteC (c : Nat) (b : Int) : Nat := bitsC 8 (c ^^^ b.toNat)
def foldC (c : Nat) (l : List Int) : Nat := l.foldl byteC c
def sumL (l : List Int) : Nat := foldC 4294967295 l ^^^ 4294967295
def fourL (n : Nat) : List Int := [((n / 16777216 % 256 : Nat) : Int), ((n / 65536 % 256 : Nat) : Int), ((n / 256 % 256 : Nat) : Int), ((n % 256 : Nat) : Int)]

theorem xor_lt {a b : Nat} (ha : a < 4294967296) (hb : b < 4294967296) : a ^^^ b < 4294967296 := Nat.xor_lt_two_pow (n := 32) ha hb
theorem bitC_lt {c : Nat} (h : c < 4294967296) : bitC c < 4294967296 := by
  unfold bitC; split
  · exact xor_lt (by omega) (by decide)
  · omega
theorem bitsC_lt (k : Nat) : ∀ {c : Nat}, c < 4294967296 → bitsC k c < 4294967296 := by
  induction k with
  | zero => exact fun h => h
  | succ k ih => exact fun h => ih (bitC_lt h)
theorem byteC_lt {c : Nat} {b : Int} (h : c < 4294967296) (hb : 0 ≤ b ∧ b ≤ 255) : byteC c b < 4294967296 := bitsC_lt 8 (xor_lt h (by omega))
theorem foldC_lt (l : List Int) (hl : bytesP l) : ∀ {c : Nat}, c < 4294967296 → foldC c l < 4294967296 := by
  induction l with
  | nil => exact fun h => h
  | cons x xs ih => exact fun h => ih (fun y hy => hl y (by simp [hy])) (byteC_lt h (hl x (by simp)))
theorem sumL_lt (l : List Int) (hl : bytesP l) : sumL l < 4294967296 := xor_lt (foldC_lt l hl (by decide)) (by decide)

theorem xor_cancel {a b c : Nat} (h : a ^^^ c = b ^^^ c) : a = b := by
  have := congrArg (· ^^^ c) h
  simpa [Nat.xor_assoc] using this
theorem xor_cancel_left {a b c : Nat} (h : c ^^^ a = c ^^^ b) : a = b := by
  rw [Nat.xor_comm c a, Nat.xor_comm c b] at h; exact xor_cancel h

/-- the greatest digit tells whether it was odd -/
theorem half_top {a : Nat} (h : a < 2147483648) : 2147483648 ≤ a ^^^ 3988292384 := by
  have h1 : (a ^^^ 3988292384).testBit 31 = true := by
    rw [Nat.testBit_xor, Nat.testBit_lt_two_pow (show a < 2 ^ 31 from h)]; decide
  have := Nat.ge_two_pow_of_testBit h1
  exact this
theorem bitC_inj {a b : Nat} (ha : a < 4294967296) (hb : b < 4294967296) (h : bitC a = bitC b) : a = b := by
  unfold bitC at h
  by_cases h1 : a % 2 = 1 <;> by_cases h2 : b % 2 = 1
  · rw [if_pos h1, if_pos h2] at h
    have := xor_cancel h; omega
  · rw [if_pos h1, if_neg h2] at h
    have := half_top (a := a / 2) (by omega); omega
  · rw [if_neg h1, if_pos h2] at h
    have := half_top (a := b / 2) (by omega); omega
  · rw [if_neg h1, if_neg h2] at h; omega
theorem bitsC_inj (k : Nat) : ∀ {a b : Nat}, a < 4294967296 → b < 4294967296 → bitsC k a = bitsC k b → a = b := by
  induction k with
  | zero => exact fun _ _ h => h
  | succ k ih => exact fun ha hb h => bitC_inj ha hb (ih (bitC_lt ha) (bitC_lt hb) h)
theorem byteC_inj {a b : Nat} {x : Int} (ha : a < 4294967296) (hb : b < 4294967296) (hx : 0 ≤ x ∧ x ≤ 255) (h : byteC a x = byteC b x) : a = b :=
  xor_cancel (bitsC_inj 8 (xor_lt ha (by omega)) (xor_lt hb (by omega)) h)
theorem byteC_inj2 {a : Nat} {x y : Int} (ha : a < 4294967296) (hx : 0 ≤ x ∧ x ≤ 255) (hy : 0 ≤ y ∧ y ≤ 255) (h : byteC a x = byteC a y) : x = y := by
  have := xor_cancel_left (bitsC_inj 8 (xor_lt ha (by omega)) (xor_lt ha (by omega)) h)
  omega
theorem foldC_inj (l : List Int) (hl : bytesP l) : ∀ {a b : Nat}, a < 4294967296 → b < 4294967296 → foldC a l = foldC b l → a = b := by
  induction l with
  | nil => exact fun _ _ h => h
  | cons x xs ih =>
    intro a b ha hb h
    have hx := hl x (by simp)
    exact byteC_inj ha hb hx (ih (fun y hy => hl y (by simp [hy])) (byteC_lt ha hx) (byteC_lt hb hx) h)

/-- bytes of which one is another one have another sum -/
theorem sumL_set (l : List Int) (hl : bytesP l) (k : Nat) (hk : k < l.length) (y : Int) (hy : 0 ≤ y ∧ y ≤ 255) (hne : y ≠ l[k]) : sumL (l.set k y) ≠ sumL l := by
  have key : ∀ (l : List Int), bytesP l → ∀ (k : Nat) (hk : k < l.length), y ≠ l[k] → ∀ c : Nat, c < 4294967296 → foldC c (l.set k y) ≠ foldC c l := by
    intro l
    induction l with
    | nil => intro _ k hk; simp at hk
    | cons x xs ih =>
      intro hl k hk hne c hc
      have hx := hl x (by simp)
      have hxs : bytesP xs := fun z hz => hl z (by simp [hz])
      cases k with
      | zero =>
        intro h
        have := foldC_inj xs hxs (byteC_lt hc hy) (byteC_lt hc hx) h
        exact hne (byteC_inj2 hc hy hx this)
      | succ k =>
        exact ih hxs k (by simpa using hk) (by simpa using hne) _ (byteC_lt hc hx)
  intro h
  exact key l hl k hk hne _ (by decide) (xor_cancel h)

theorem fourL_inj {a b : Nat} (ha : a < 4294967296) (hb : b < 4294967296) (h : fourL a = fourL b) : a = b := by
  simp only [fourL, List.cons.injEq, Int.natCast_inj, and_true] at h
  omega
theorem fourL_bytes (n : Nat) : bytesP (fourL n) := by
  intro x hx
  simp only [fourL, List.mem_cons, List.not_mem_nil, or_false] at hx
  omega
theorem fourL_length (n : Nat) : (fourL n).length = 4 := rfl

end Go.Proofs.Ytjnlplgefcmngaa.Px
