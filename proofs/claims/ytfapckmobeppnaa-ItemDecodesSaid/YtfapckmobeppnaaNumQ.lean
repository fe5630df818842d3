/- Plain facts on numbers as bytes: putL, the way back, and what num.Get answers. No program in sight. -/
import Derived.Test.YtfapckmobeppnaaNum
import Derived.Test.YtfapckmobeppnaaGetT
import Derived.Laws.BitsLemmas
namespace Go.Proofs.Ytfapckmobeppnaa.Px
open Go.RowKit Go.Proofs.YtfapckmobeppnaaW.PrintWords Go.Proofs.YtfapckmobeppnaaW.PrintLast Go.Proofs.YtfapckmobeppnaaW.PrintMore
set_option linter.unusedVariables false
set_option linter.unusedSimpArgs false

/-- every number of a list is a byte -/
def bytesP (l : List Int) : Prop := ∀ x ∈ l, 0 ≤ x ∧ x ≤ 255

theorem u8_wf {x : Int} (h : (Lit.int .u8 x).wf = true) : 0 ≤ x ∧ x ≤ 255 := by
 simp only [Lit.wf, IntKind.min, IntKind.max, IntKind.signed, IntKind.bits, Bool.and_eq_true, decide_eq_true_eq] at h
 simp at h; omega
theorem wrap_u64 (n : Int) : IntKind.u64.wrap n = n % 18446744073709551616 := by simp [IntKind.wrap, IntKind.bits, IntKind.signed]
theorem wrap_u64_id {n : Int} (h0 : 0 ≤ n) (h : n < 18446744073709551616) : IntKind.u64.wrap n = n := by rw [wrap_u64]; omega
theorem wrap64_id {n : Int} (h0 : -9223372036854775808 ≤ n) (h : n < 9223372036854775808) : wrap64 n = n := by unfold wrap64; omega

theorem bytesP.append {a b : List Int} (ha : bytesP a) (hb : bytesP b) : bytesP (a ++ b) := fun x hx => (List.mem_append.1 hx).elim (ha x) (hb x)
theorem bytesP.take {a : List Int} (ha : bytesP a) (n : Nat) : bytesP (a.take n) := fun x hx => ha x (List.mem_of_mem_take hx)
theorem bytesP.drop {a : List Int} (ha : bytesP a) (n : Nat) : bytesP (a.drop n) := fun x hx => ha x (List.mem_of_mem_drop hx)
theorem bytesP_nil : bytesP [] := fun x hx => by cases hx
theorem bytesP_cons {x : Int} {l : List Int} (hx : 0 ≤ x ∧ x ≤ 255) (hl : bytesP l) : bytesP (x :: l) := fun y hy => (List.mem_cons.1 hy).elim (fun e => e ▸ hx) (hl y)

/-! ### putL -/
theorem putL_bytes (n : Nat) : bytesP (putL n) := by
 induction n using Nat.strongRecOn with
 | _ n ih =>
  by_cases h : n < 128
  ·rw [putL_small h]; exact bytesP_cons (by omega) bytesP_nil
  ·rw [putL_great h]; exact bytesP_cons (by omega) (ih _ (by omega))

theorem putL_pos (n : Nat) : 0 < (putL n).length := by
 by_cases h : n < 128
 ·rw [putL_small h]; simp
 ·rw [putL_great h]; simp

/-- the number that digits come to -/
def valL : List Int → Nat
 | [] => 0
 | x :: xs => x.toNat % 128 + 128 * valL xs

theorem valL_putL (n : Nat) : valL (putL n) = n := by
 induction n using Nat.strongRecOn with
 | _ n ih =>
  by_cases h : n < 128
  ·rw [putL_small h]; simp [valL]; omega
  ·rw [putL_great h, valL, ih _ (by omega)]; omega

theorem valL_lt (l : List Int) : valL l < 128 ^ l.length := by
 induction l with
 | nil => simp [valL]
 | cons x xs ih => rw [valL, List.length_cons, Nat.pow_succ]; omega

theorem valL_append (a : List Int) (x : Int) : valL (a ++ [x]) = valL a + (x.toNat % 128) * 128 ^ a.length := by
 induction a with
 | nil => simp [valL]
 | cons y ys ih =>
  rw [List.cons_append, valL, ih, valL, List.length_cons, Nat.pow_succ, Nat.mul_add, ← Nat.mul_assoc, Nat.mul_comm 128 (x.toNat % 128), Nat.mul_assoc, Nat.mul_comm 128 (128 ^ ys.length)]
  omega

/-- bytes that are a number: all but the last have the eighth digit; the last is no nought, if it isn't alone -/
def canL : List Int → Prop
 | [] => False
 | [x] => 0 ≤ x ∧ x < 128
 | x :: y :: xs => 128 ≤ x ∧ x ≤ 255 ∧ canL (y :: xs) ∧ (xs = [] → y ≠ 0)

theorem canL_pos {y : Int} {xs : List Int} (h : canL (y :: xs)) (h0 : xs = [] → y ≠ 0) : 1 ≤ valL (y :: xs) := by
 induction xs generalizing y with
 | nil =>
  have h1 : 0 ≤ y ∧ y < 128 := h
  have := h0 rfl
  simp only [valL]; omega
 | cons z zs ih =>
  obtain ⟨_, _, h2, h3⟩ := h
  have := ih h2 h3
  rw [valL]; omega

theorem putL_valL : ∀ (l : List Int), canL l → putL (valL l) = l
 | [], h => h.elim
 | [x], h => by
  have h1 : 0 ≤ x ∧ x < 128 := h
  have e : valL [x] = x.toNat := by simp only [valL]; omega
  rw [e, putL_small (by omega), Int.toNat_of_nonneg h1.1]
 | x :: y :: xs, h => by
  obtain ⟨h1, h2, h3, h4⟩ := h
  have hp := canL_pos h3 h4
  have ih := putL_valL (y :: xs) h3
  have e : valL (x :: y :: xs) = x.toNat % 128 + 128 * valL (y :: xs) := rfl
  have hd : valL (x :: y :: xs) / 128 = valL (y :: xs) := by rw [e]; omega
  have hm : valL (x :: y :: xs) % 128 = x.toNat % 128 := by rw [e]; omega
  rw [putL_great (by rw [e]; omega), hd, ih, hm]
  congr 1
  omega

theorem canL_putL (n : Nat) : canL (putL n) := by
 induction n using Nat.strongRecOn with
 | _ n ih =>
  by_cases h : n < 128
  ·rw [putL_small h]; exact (by omega : 0 ≤ (n : Int) ∧ (n : Int) < 128)
  ·rw [putL_great h]
   have h1 := ih (n / 128) (by omega)
   cases hq : putL (n / 128) with
   | nil => have := putL_pos (n / 128); rw [hq] at this; simp at this
   | cons y ys =>
    rw [hq] at h1
    refine ⟨by omega, by omega, h1, fun e => ?_⟩
    subst e
    have hv := valL_putL (n / 128)
    rw [hq] at hv
    simp only [valL] at hv
    intro e0; subst e0; simp at hv; omega

/-! ### where the first byte below 128 stands -/
def stopL : List Int → Option Nat
 | [] => none
 | x :: xs => if x < 128 then some 0 else (stopL xs).map (· + 1)

theorem rd_eq (t : List Int) (k : Nat) (h : k < t.length) : rd t (k : Int) = t[k] := by
 simp only [rd, Int.toNat_natCast, List.getD_eq_getElem?_getD, List.getElem?_eq_getElem h, Option.getD_some]

theorem stopAt_drop (t : List Int) (k : Nat) : stopAt t k = (stopL (t.drop k)).map (· + k) := by
 rw [stopAt]
 by_cases h : k < t.length
 ·rw [if_pos h, List.drop_eq_getElem_cons h, stopL, rd_eq t k h]
  by_cases h2 : t[k] < 128
  ·simp [h2]
  ·rw [if_neg h2, if_neg h2, stopAt_drop t (k + 1), Option.map_map]
   congr 1
   funext n
   simp only [Function.comp]; omega
 ·rw [if_neg h, List.drop_of_length_le (by omega)]; rfl
termination_by t.length - k

theorem stopAt_zero (t : List Int) : stopAt t 0 = stopL t := by rw [stopAt_drop]; simp

theorem stopL_lt {l : List Int} {e : Nat} (h : stopL l = some e) : e < l.length := by
 induction l generalizing e with
 | nil => cases h
 | cons x xs ih =>
  rw [stopL] at h
  by_cases h2 : x < 128
  ·rw [if_pos h2] at h; cases h; simp
  ·rw [if_neg h2] at h
   cases hs : stopL xs with
   | none => rw [hs] at h; cases h
   | some e' => rw [hs] at h; cases h; have := ih hs; simp; omega

theorem stopL_can {l : List Int} {e : Nat} (hb : bytesP l) (h : stopL l = some e) (h0 : 0 < e → rd l e ≠ 0) : canL (l.take (e + 1)) := by
 induction l generalizing e with
 | nil => cases h
 | cons x xs ih =>
  rw [stopL] at h
  have hx := hb x (by simp)
  by_cases h2 : x < 128
  ·rw [if_pos h2] at h; cases h
   simp only [List.take_succ_cons, List.take_zero]; exact (by omega : 0 ≤ x ∧ x < 128)
  ·rw [if_neg h2] at h
   cases hs : stopL xs with
   | none => rw [hs] at h; cases h
   | some e' =>
    rw [hs] at h; cases h
    have hl := stopL_lt hs
    have hr : rd (x :: xs) ((e' + 1 : Nat) : Int) = rd xs (e' : Int) := by simp [rd]
    have h0' : 0 < e' + 1 → rd (x :: xs) ((e' + 1 : Nat) : Int) ≠ 0 := h0
    have h1 : rd xs (e' : Int) ≠ 0 := by rw [← hr]; exact h0' (Nat.succ_pos _)
    show canL ((x :: xs).take (e' + 1 + 1))
    have hc := ih (fun y hy => hb y (by simp [hy])) hs (fun _ => h1)
    cases xs with
    | nil => simp at hl
    | cons y ys =>
     simp only [List.take_succ_cons] at hc ⊢
     refine ⟨by omega, by omega, hc, fun e => ?_⟩
     have : e' = 0 := by
      rcases Nat.eq_zero_or_pos e' with h' | h'
      ·exact h'
      ·have hle : (ys.take e').length = 0 := by rw [e]; rfl
       rw [List.length_take] at hle
       simp only [List.length_cons] at hl
       omega
     subst this
     simpa [rd] using h1

theorem canL_stop {l : List Int} (h : canL l) (rest : List Int) : stopL (l ++ rest) = some (l.length - 1) ∧ (1 < l.length → rd l ((l.length - 1 : Nat) : Int) ≠ 0) := by
 induction l with
 | nil => exact h.elim
 | cons x xs ih =>
  cases xs with
  | nil =>
   have h1 : 0 ≤ x ∧ x < 128 := h
   refine ⟨?_, fun h => by simp at h⟩
   simp [stopL, h1.2]
  | cons y ys =>
   obtain ⟨h1, h2, h3, h4⟩ := h
   obtain ⟨i1, i2⟩ := ih h3
   refine ⟨?_, fun _ => ?_⟩
   ·rw [List.cons_append, stopL, if_neg (by omega), i1]; simp
   ·have hr : rd (x :: y :: ys) (((x :: y :: ys).length - 1 : Nat) : Int) = rd (y :: ys) (((y :: ys).length - 1 : Nat) : Int) := by
     simp [rd]
    rw [hr]
    cases ys with
    | nil => simpa [rd] using h4 rfl
    | cons z zs => exact i2 (by simp)

/-! ### what the bytes come to -/
theorem andNot128 {x : Int} (h : 0 ≤ x ∧ x ≤ 255) : Go.bits .andNot .u8 x 128 = x % 128 := by
 have : ∀ y : Fin 256, Go.bits .andNot .u8 ((y.val : Nat) : Int) 128 = ((y.val % 128 : Nat) : Int) := by decide +kernel
 have h2 := this ⟨x.toNat, by omega⟩
 simp only [Int.toNat_of_nonneg h.1] at h2
 rw [h2]; omega

theorem bits_or_comm (k : IntKind) (x y : Int) : Go.bits .or k x y = Go.bits .or k y x := by
 simp only [Go.bits, BitVec.or_comm]

theorem wraps_u64 (n : Int) (h₀ : 0 ≤ n) (h₁ : n < 2 ^ 64) : IntKind.u64.wrap n = n := by rw [wrap_u64]; omega

theorem or_digit (k v c : Nat) (hk : k ≤ 9) (hv : v < 2 ^ (7 * k)) (hc : c < 128) :
  Go.bits .or .u64 ((v % 18446744073709551616 : Nat) : Int) (IntKind.u64.wrap ((c : Int) * 2 ^ (7 * k))) = (((v + c * 2 ^ (7 * k)) % 18446744073709551616 : Nat) : Int) := by
 have hM : (18446744073709551616 : Nat) = 2 ^ (7 * k) * 2 ^ (64 - 7 * k) := by rw [← Nat.pow_add, show 7 * k + (64 - 7 * k) = 64 from by omega]
 have hq : 0 < 2 ^ (64 - 7 * k) := Nat.two_pow_pos _
 have hd : 0 < 2 ^ (7 * k) := Nat.two_pow_pos _
 have hle : 2 ^ (7 * k) ≤ 18446744073709551616 := by rw [hM]; exact Nat.le_mul_of_pos_right _ hq
 have hv64 : v % 18446744073709551616 = v := Nat.mod_eq_of_lt (by omega)
 have hx : (IntKind.u64.wrap ((c : Int) * 2 ^ (7 * k))) = ((2 ^ (7 * k) * (c % 2 ^ (64 - 7 * k)) : Nat) : Int) := by
  have e : ((c : Int) * 2 ^ (7 * k)) = ((2 ^ (7 * k) * c : Nat) : Int) := by
   rw [Int.natCast_mul, Int.natCast_pow, Int.mul_comm]; rfl
  have e2 : (2 ^ (7 * k) * c) % 18446744073709551616 = 2 ^ (7 * k) * (c % 2 ^ (64 - 7 * k)) := by rw [hM, Nat.mul_mod_mul_left]
  rw [wrap_u64, e, ← e2]
  omega
 have hlt : 2 ^ (7 * k) * (c % 2 ^ (64 - 7 * k)) + v < 18446744073709551616 := by
  have h1 : c % 2 ^ (64 - 7 * k) + 1 ≤ 2 ^ (64 - 7 * k) := Nat.mod_lt _ hq
  have h2 := Nat.mul_le_mul_left (2 ^ (7 * k)) h1
  rw [← hM, Nat.mul_add] at h2
  omega
 rw [hx, hv64, bits_or_comm, bits_join .u64 64 (by decide) wraps_u64 (7 * k)]
 ·have : (v + c * 2 ^ (7 * k)) % 18446744073709551616 = 2 ^ (7 * k) * (c % 2 ^ (64 - 7 * k)) + v := by
   have e1 : c * 2 ^ (7 * k) = 2 ^ (7 * k) * (c % 2 ^ (64 - 7 * k)) + 18446744073709551616 * (c / 2 ^ (64 - 7 * k)) := by
    rw [hM, Nat.mul_assoc, ← Nat.mul_add, Nat.mod_add_div, Nat.mul_comm]
   rw [e1, ← Nat.add_assoc, Nat.add_mul_mod_self_left, Nat.add_comm v, Nat.mod_eq_of_lt hlt]
  rw [this, Int.natCast_add]
 ·omega
 ·have : (2 ^ (7 * k) * (c % 2 ^ (64 - 7 * k))) % 2 ^ (7 * k) = 0 := Nat.mul_mod_right _ _
  exact_mod_cast this
 ·have : 2 ^ (7 * k) * (c % 2 ^ (64 - 7 * k)) < 18446744073709551616 := by omega
  exact_mod_cast this
 ·omega
 ·exact_mod_cast hv
 ·have : v < 18446744073709551616 := by omega
  exact_mod_cast this

theorem accV_val (t : List Int) (hb : bytesP t) : ∀ k : Nat, k ≤ 10 → k ≤ t.length → accV t k = ((valL (t.take k) % 18446744073709551616 : Nat) : Int)
 | 0, _, _ => by simp [accV, valL]
 | k + 1, h10, hl => by
  have ih := accV_val t hb k (by omega) (by omega)
  have hk : k < t.length := by omega
  have hx := hb t[k] (List.getElem_mem hk)
  have htake : t.take (k + 1) = t.take k ++ [t[k]] := by rw [List.take_succ_eq_append_getElem hk]
  have hlt : (t.take k).length = k := by rw [List.length_take]; omega
  have hv := valL_lt (t.take k)
  rw [hlt] at hv
  have hp : (128 : Nat) ^ k = 2 ^ (7 * k) := by rw [show (128 : Nat) = 2 ^ 7 from rfl, ← Nat.pow_mul]
  rw [accV, ih, rd_eq t k hk, andNot128 hx, wrap_u64_id (n := t[k] % 128) (by omega) (by omega), htake, valL_append, hlt, hp]
  rw [hp] at hv
  have e : t[k] % 128 = ((t[k].toNat % 128 : Nat) : Int) := by omega
  rw [e]
  exact or_digit k _ _ (by omega) hv (by omega)

end Go.Proofs.Ytfapckmobeppnaa.Px

/- Plain facts: what num.Get, num.GetText, num.PutText answer. No program in sight. -/
namespace Go.Proofs.Ytfapckmobeppnaa.Px
open Go.RowKit Go.Proofs.YtfapckmobeppnaaW.PrintWords Go.Proofs.YtfapckmobeppnaaW.PrintLast Go.Proofs.YtfapckmobeppnaaW.PrintMore
set_option linter.unusedVariables false
set_option linter.unusedSimpArgs false

/-- what is told of the bytes from a place on -/
def getR (r : List Int) (p : Int) : Int × Int × Int :=
 match stopL (r.take 10) with
 | none => if r.length < 10 then (0, 0, 10) else (0, 0, 31)
 | some e => if (0 < e ∧ rd r e = 0) ∨ (e = 9 ∧ 1 < rd r e) then (0, 0, 31) else ((valL (r.take (e + 1)) : Int), p + e + 1, 0)

theorem bytes_getElem {t : List Int} (hb : bytesP t) (k : Nat) : 0 ≤ rd t k ∧ rd t k ≤ 255 := by
 by_cases h : k < t.length
 ·rw [rd_eq t k h]; exact hb _ (List.getElem_mem h)
 ·simp only [rd, Int.toNat_natCast, List.getD_eq_getElem?_getD]
  rw [List.getElem?_eq_none (by omega)]; simp

theorem stopL_small {l : List Int} {e : Nat} (h : stopL l = some e) : rd l e < 128 := by
 induction l generalizing e with
 | nil => cases h
 | cons x xs ih =>
  rw [stopL] at h
  by_cases h2 : x < 128
  ·rw [if_pos h2] at h; cases h; simpa [rd] using h2
  ·rw [if_neg h2] at h
   cases hs : stopL xs with
   | none => rw [hs] at h; cases h
   | some e' =>
    rw [hs] at h; cases h
    have := ih hs
    show rd (x :: xs) ((e' + 1 : Nat) : Int) < 128
    simpa [rd] using this

theorem valL_take_lt {r : List Int} {e : Nat} (hb : bytesP r) (hl : e < r.length) (he : e ≤ 9) (hx : e = 9 → rd r e ≤ 1) (hs : rd r e < 128) : valL (r.take (e + 1)) < 18446744073709551616 := by
 have h0 := valL_lt (r.take e)
 rw [List.length_take, Nat.min_eq_left (by omega)] at h0
 rw [List.take_succ_eq_append_getElem hl, valL_append, List.length_take, Nat.min_eq_left (by omega)]
 rw [rd_eq r e hl] at hx hs
 have hb' := hb r[e] (List.getElem_mem hl)
 rcases Nat.lt_or_ge e 9 with h | h
 ·have h1 : valL (r.take e) + r[e].toNat % 128 * 128 ^ e < 128 ^ (e + 1) := by
   rw [Nat.pow_succ]
   have : r[e].toNat % 128 ≤ 127 := by omega
   have := Nat.mul_le_mul_right (128 ^ e) this
   omega
  have h2 : 128 ^ (e + 1) ≤ 128 ^ 9 := Nat.pow_le_pow_right (by decide) (by omega)
  have h3 : (128 : Nat) ^ 9 = 9223372036854775808 := by decide
  omega
 ·obtain rfl : e = 9 := by omega
  have h3 : (128 : Nat) ^ 9 = 9223372036854775808 := by decide
  have := hx rfl
  rw [h3] at h0 ⊢
  have : r[9].toNat % 128 ≤ 1 := by omega
  have := Nat.mul_le_mul_right 9223372036854775808 this
  omega

theorem take_take10 (r : List Int) (e : Nat) (h : e < 10) : (r.take 10).take (e + 1) = r.take (e + 1) := by
 rw [List.take_take, Nat.min_eq_left (by omega)]
theorem rd_take10 (r : List Int) (e : Nat) (h : e < (r.take 10).length) : rd (r.take 10) e = rd r e := by
 have h2 : e < r.length := by rw [List.length_take] at h; omega
 rw [rd_eq _ _ h, rd_eq _ _ h2, List.getElem_take]

theorem get_eq (l : List Int) (p : Int) (hb : bytesP l) (hl : l.length ≤ 140737488355328) (h0 : 0 ≤ p) (h1 : p ≤ (l.length : Int)) : num_Get.f l p = some (getR (l.drop p.toNat) p) := by
 unfold num_Get.f getR
 rw [if_pos hl, if_neg (by omega), if_neg (by omega), stopAt_zero]
 have hbr := hb.drop p.toNat
 generalize l.drop p.toNat = r at *
 cases hs : stopL (r.take 10) with
 | none =>
  simp only
  by_cases h : r.length < 10
  ·rw [if_pos h, if_pos (by omega)]
  ·rw [if_neg h, if_neg (by omega)]
 | some e =>
  simp only
  have hlt := stopL_lt hs
  have he : e < 10 := by rw [List.length_take] at hlt; omega
  have hsm := stopL_small hs
  rw [rd_take10 r e hlt] at hsm
  have hlr : e < r.length := by rw [List.length_take] at hlt; omega
  by_cases c1 : 0 < e ∧ rd r e = 0
  ·rw [if_pos c1, if_pos (.inl c1)]
  ·rw [if_neg c1]
   by_cases c2 : e = 9 ∧ 1 < rd r e
   ·rw [if_pos c2, if_pos (.inr c2)]
   ·rw [if_neg c2, if_neg (by rintro (h | h); exact c1 h; exact c2 h)]
    rw [accV_val _ (hbr.take 10) (e + 1) (by omega) (by omega), take_take10 r e he]
    have := valL_take_lt hbr hlr (by omega) (fun h => by have := bytes_getElem hbr e; omega) hsm
    rw [Nat.mod_eq_of_lt this]

theorem get_neg (l : List Int) (p : Int) (hl : l.length ≤ 140737488355328) (h : p < 0) : num_Get.f l p = some (0, 0, 1) := by
 unfold num_Get.f; rw [if_pos hl, if_pos h]
theorem get_far (l : List Int) (p : Int) (hl : l.length ≤ 140737488355328) (h : (l.length : Int) < p) : num_Get.f l p = some (0, 0, 1) := by
 unfold num_Get.f; rw [if_pos hl, if_neg (by omega), if_pos h]

theorem canL_last {l : List Int} (h : canL l) : 0 ≤ rd l ((l.length - 1 : Nat) : Int) ∧ rd l ((l.length - 1 : Nat) : Int) < 128 := by
 induction l with
 | nil => exact h.elim
 | cons x xs ih =>
  cases xs with
  | nil => simpa [rd] using (show 0 ≤ x ∧ x < 128 from h)
  | cons y ys =>
   have := ih h.2.2.1
   simpa [rd] using this

/-- a number's last digit, if it has ten -/
theorem putL_last {n : Nat} (hn : n < 18446744073709551616) (h : (putL n).length = 10) : rd (putL n) 9 ≤ 1 := by
 have hv := valL_putL n
 have hc := canL_last (canL_putL n)
 rw [h] at hc
 have h9 : 9 < (putL n).length := by omega
 have e : putL n = (putL n).take 9 ++ [(putL n)[9]] := by
  rw [← List.take_succ_eq_append_getElem h9, List.take_of_length_le (by omega)]
 rw [e, valL_append, List.length_take, Nat.min_eq_left (by omega), show (128 : Nat) ^ 9 = 9223372036854775808 by decide] at hv
 have hr := rd_eq (putL n) 9 h9
 simp only [show (10 - 1 : Nat) = 9 from rfl] at hc
 rw [hr] at hc
 rw [show ((9 : Int)) = ((9 : Nat) : Int) from rfl, hr]
 have : (putL n)[9].toNat % 128 ≤ 1 := by
  rcases Nat.lt_or_ge ((putL n)[9].toNat % 128) 2 with h' | h'
  ·omega
  ·have := Nat.mul_le_mul_right 9223372036854775808 h'
   omega
 omega

theorem getR_put {n : Nat} (hn : n < 18446744073709551616) (rest : List Int) (p : Int) : getR (putL n ++ rest) p = ((n : Int), p + (putL n).length, 0) := by
 have hten := putL_ten hn
 have hpos := putL_pos n
 have hc := canL_putL n
 have htake : (putL n ++ rest).take 10 = putL n ++ rest.take (10 - (putL n).length) := by
  rw [List.take_append, List.take_of_length_le hten]
 obtain ⟨h1, h2⟩ := canL_stop hc (rest.take (10 - (putL n).length))
 have hrd : rd (putL n ++ rest) (((putL n).length - 1 : Nat) : Int) = rd (putL n) (((putL n).length - 1 : Nat) : Int) := by
  rw [rd_eq _ _ (by simp; omega), rd_eq _ _ (by omega), List.getElem_append_left]
 unfold getR
 rw [htake, h1]
 simp only
 rw [hrd, if_neg, show (putL n).length - 1 + 1 = (putL n).length from by omega, List.take_left, valL_putL]
 ·simp only [Prod.mk.injEq, true_and, and_true]; omega
 ·rintro (⟨h, h'⟩ | ⟨h, h'⟩)
  ·exact h2 (by omega) h'
  ·have := putL_last hn (by omega)
   rw [h] at h'
   exact absurd h' (Int.not_lt.2 this)

theorem get_put {n : Nat} (hn : n < 18446744073709551616) (hd rest : List Int) (hh : bytesP hd) (hr : bytesP rest) (hl : (hd ++ (putL n ++ rest)).length ≤ 140737488355328) :
  num_Get.f (hd ++ (putL n ++ rest)) (hd.length : Int) = some ((n : Int), (hd.length : Int) + (putL n).length, 0) := by
 rw [get_eq _ _ (hh.append ((putL_bytes n).append hr)) hl (by omega) (by simp only [List.length_append]; omega), Int.toNat_natCast, List.drop_left, getR_put hn]

/-- what is told is written so, and in no other way -/
theorem getR_inv {r : List Int} (hb : bytesP r) {p n q : Int} (h : getR r p = (n, q, 0)) :
  ∃ s rest, r = s ++ rest ∧ 0 ≤ n ∧ n < 18446744073709551616 ∧ putL n.toNat = s ∧ q = p + s.length := by
 unfold getR at h
 cases hs : stopL (r.take 10) with
 | none => rw [hs] at h; simp only at h; split at h <;> simp at h
 | some e =>
  rw [hs] at h
  simp only at h
  have hlt := stopL_lt hs
  have he : e < 10 := by rw [List.length_take] at hlt; omega
  have hlr : e < r.length := by rw [List.length_take] at hlt; omega
  have hsm := stopL_small hs
  by_cases c : (0 < e ∧ rd r e = 0) ∨ (e = 9 ∧ 1 < rd r e)
  ·rw [if_pos c] at h; simp at h
  ·rw [if_neg c] at h
   simp only [Prod.mk.injEq] at h
   obtain ⟨rfl, rfl, _⟩ := h
   have hr10 := rd_take10 r e hlt
   rw [hr10] at hsm
   have hcan := stopL_can (hb.take 10) hs (fun h0 => by rw [hr10]; exact fun h' => c (.inl ⟨h0, h'⟩))
   rw [take_take10 r e he] at hcan
   have hv := valL_take_lt hb hlr (by omega) (fun h => by have := bytes_getElem hb e; omega) hsm
   refine ⟨r.take (e + 1), r.drop (e + 1), (List.take_append_drop _ _).symm, by omega, by omega, ?_, ?_⟩
   ·rw [Int.toNat_natCast, putL_valL _ hcan]
   ·rw [List.length_take, Nat.min_eq_left (by omega)]; omega

/-- what is not written so is told to be wrong, or too short -/
theorem getR_codes (r : List Int) (p : Int) : (getR r p).2.2 = 0 ∨ getR r p = (0, 0, 10) ∨ getR r p = (0, 0, 31) := by
 unfold getR
 cases stopL (r.take 10) with
 | none => simp only; split <;> simp
 | some e => simp only; split <;> simp

theorem strOfNums_bytes {a b : List Int} (ha : bytesP a) (hb : bytesP b) (h : (strOfNums a).data.toList = (strOfNums b).data.toList) : a = b := by
 rw [strOfNums_data, strOfNums_data] at h
 induction a generalizing b with
 | nil => cases b with
  | nil => rfl
  | cons y ys => simp at h
 | cons x xs ih =>
  cases b with
  | nil => simp at h
  | cons y ys =>
   simp only [List.map_cons, List.cons.injEq] at h
   have hx := ha x (by simp)
   have hy := hb y (by simp)
   have e : x = y := by
    have := congrArg UInt8.toNat h.1
    rw [UInt8.toNat_ofNat', UInt8.toNat_ofNat'] at this
    omega
   rw [e, ih (fun z hz => ha z (by simp [hz])) (fun z hz => hb z (by simp [hz])) h.2]

theorem bytesOf_bytes (s : ByteArray) : bytesP (bytesOf s) := by
 intro x hx
 simp only [bytesOf, List.mem_map] at hx
 obtain ⟨b, _, rfl⟩ := hx
 have := b.toNat_lt
 omega
theorem bytesOf_len (s : ByteArray) : (bytesOf s).length = s.size := by unfold bytesOf; rw [List.length_map, Array.length_toList]; rfl
theorem strOfNums_bytesOf (s : ByteArray) : strOfNums (bytesOf s) = s := by
 have : (strOfNums (bytesOf s)).data.toList = s.data.toList := by
  rw [strOfNums_data, bytesOf, List.map_map]
  conv => rhs; rw [← List.map_id s.data.toList]
  refine List.map_congr_left fun b _ => ?_
  simp
 have h2 : (strOfNums (bytesOf s)).data = s.data := Array.toList_inj.1 this
 cases hs : strOfNums (bytesOf s)
 cases s
 rw [hs] at h2
 simp only at h2
 rw [h2]

end Go.Proofs.Ytfapckmobeppnaa.Px
