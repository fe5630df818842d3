/- Plain facts: what num.Get, num.GetText, num.PutText answer. No program in sight. -/
import Derived.Test.YtjnlplgefcmngaaNumP
namespace Go.Proofs.Ytjnlplgefcmngaa.Px
open Go.RowKit Go.Proofs.YtjnlplgefcmngaaW.PrintWords Go.Proofs.YtjnlplgefcmngaaW.PrintLast Go.Proofs.YtjnlplgefcmngaaW.PrintMore
set_option linter.unusedVariables false
set_option linter.unusedSimpArgs false

/-- what is told of the bytes from a place on -/
def getR (r : List Int) (p : Int) : Int × Int × Int :=
  match stopL (r.take 10) with
  | none => if r.length < 10 then (0, 0, 10) else (0, 0, 31)
  | some e => if (0 < e ∧ rd r e = 0) ∨ (e = 9 ∧ 1 < rd r e) then (0, 0, 31) else ((valL (r.take (e + 1)) : Int), p + e + 1, 0)

theorem bytes_getElem {t : List Int} (hb : bytesP t) (k : Nat) : 0 ≤ rd t k ∧ rd t k ≤ 255 := by
  by_cases h : k < t.length
  · rw [rd_eq t k h]; exact hb _ (List.getElem_mem h)
  · simp only [rd, Int.toNat_natCast, List.getD_eq_getElem?_getD]
    rw [List.getElem?_eq_none (by omega)]; simp

theorem stopL_small {l : List Int} {e : Nat} (h : stopL l = some e) : rd l e < 128 := by
  induction l generalizing e with
  | nil => cases h
  | cons x xs ih =>
    rw [stopL] at h
    by_cases h2 : x < 128
    · rw [if_pos h2] at h; cases h; simpa [rd] using h2
    · rw [if_neg h2] at h
      cases hs : stopL xs with
      | none => rw [hs] at h; cases h
      | some e' =>
        rw [hs] at h; cases h
        have := ih hs
        show rd (x :: xs) ((e' + 1 : Nat) : Int) < 128
        simpa [rd] using this

theorem valL_take_lt {r : List Int} {e : Nat} (hb : bytesP r) (hl : e < r.length) (he : e ≤ 9) (hx : e = 9 → rd r e ≤ 1) (hs : rd r e < 128) : valL (r.take (e + 1)) < 18446744073709551616 := by
  have h0 := valL_lt (r.take e)
  rw [List.length_take, Nat.min_eq_left (by omega)] at h0
  rw [List.take_succ_eq_append_getElem hl, valL_append, List.length_take, Nat.min_eq_left (by omega)]
  rw [rd_eq r e hl] at hx hs
  have hb' := hb r[e] (List.getElem_mem hl)
  rcases Nat.lt_or_ge e 9 with h | h
  · have h1 : valL (r.take e) + r[e].toNat % 128 * 128 ^ e < 128 ^ (e + 1) := by
      rw [Nat.pow_succ]
      have : r[e].toNat % 128 ≤ 127 := by omega
      have := Nat.mul_le_mul_right (128 ^ e) this
      omega
    have h2 : 128 ^ (e + 1) ≤ 128 ^ 9 := Nat.pow_le_pow_right (by decide) (by omega)
    have h3 : (128 : Nat) ^ 9 = 9223372036854775808 := by decide
    omega
  · obtain rfl : e = 9 := by omega
    have h3 : (128 : Nat) ^ 9 = 9223372036854775808 := by decide
    have := hx rfl
    rw [h3] at h0 ⊢
    have : r[9].toNat % 128 ≤ 1 := by omega
    have := Nat.mul_le_mul_right 9223372036854775808 this
    omega

theorem take_take10 (r : List Int) (e : Nat) (h : e < 10) : (r.take 10).take (e + 1) = r.take (e + 1) := by
  rw [List.take_take, Nat.min_eq_left (by omega)]
theorem rd_take10 (r : List Int) (e : Nat) (h : e < (r.take 10).length) : rd (r.take 10) e = rd r e := by
  have h2 : e < r.length := by rw [List.length_take] at h; omega
  rw [rd_eq _ _ h, rd_eq _ _ h2, List.getElem_take]

theorem get_eq (l : List Int) (p : Int) (hb : bytesP l) (hl : l.length ≤ 140737488355328) (h0 : 0 ≤ p) (h1 : p ≤ (l.length : Int)) : num_Get.f l p = some (getR (l.drop p.toNat) p) := by
  unfold num_Get.f getR
  rw [if_pos hl, if_neg (by omega), if_neg (by omega), stopAt_zero]
  have hbr := hb.drop p.toNat
  generalize l.drop p.toNat = r at *
  cases hs : stopL (r.take 10) with
  | none =>
    simp only
    by_cases h : r.length < 10
    · rw [if_pos h, if_pos (by omega)]
    · rw [if_neg h, if_neg (by omega)]
  | some e =>
    simp only
    have hlt := stopL_lt hs
    have he : e < 10 := by rw [List.length_take] at hlt; omega
    have hsm := stopL_small hs
    rw [rd_take10 r e hlt] at hsm
    have hlr : e < r.length := by rw [List.length_take] at hlt; omega
    by_cases c1 : 0 < e ∧ rd r e = 0
    · rw [if_pos c1, if_pos (.inl c1)]
    · rw [if_neg c1]
      by_cases c2 : e = 9 ∧ 1 < rd r e
      · rw [if_pos c2, if_pos (.inr c2)]
      · rw [if_neg c2, if_neg (by rintro (h | h); exact c1 h; exact c2 h)]
        rw [accV_val _ (hbr.take 10) (e + 1) (by omega) (by omega), take_take10 r e he]
        have := valL_take_lt hbr hlr (by omega) (fun h => by have := bytes_getElem hbr e; omega) hsm
        rw [Nat.mod_eq_of_lt this]

theorem get_neg (l : List Int) (p : Int) (hl : l.length ≤ 140737488355328) (h : p < 0) : num_Get.f l p = some (0, 0, 1) := by
  unfold num_Get.f; rw [if_pos hl, if_pos h]
theorem get_far (l : List Int) (p : Int) (hl : l.length ≤ 140737488355328) (h : (l.length : Int) < p) : num_Get.f l p = some (0, 0, 1) := by
  unfold num_Get.f; rw [if_pos hl, if_neg (by omega), if_pos h]

theorem canL_last {l : List Int} (h : canL l) : 0 ≤ rd l ((l.length - 1 : Nat) : Int) ∧ rd l ((l.length - 1 : Nat) : Int) < 128 := by
  induction l with
  | nil => exact h.elim
  | cons x xs ih =>
    cases xs with
    | nil => simpa [rd] using (show 0 ≤ x ∧ x < 128 from h)
    | cons y ys =>
      have := ih h.2.2.1
      simpa [rd] using this

/-- a number's last digit, if it has ten -/
theorem putL_last {n : Nat} (hn : n < 18446744073709551616) (h : (putL n).length = 10) : rd (putL n) 9 ≤ 1 := by
  have hv := valL_putL n
  have hc := canL_last (canL_putL n)
  rw [h] at hc
  have h9 : 9 < (putL n).length := by omega
  have e : putL n = (putL n).take 9 ++ [(putL n)[9]] := by
    rw [← List.take_succ_eq_append_getElem h9, List.take_of_length_le (by omega)]
  rw [e, valL_append, List.length_take, Nat.min_eq_left (by omega), show (128 : Nat) ^ 9 = 9223372036854775808 by decide] at hv
  have hr := rd_eq (putL n) 9 h9
  simp only [show (10 - 1 : Nat) = 9 from rfl] at hc
  rw [hr] at hc
  rw [show ((9 : Int)) = ((9 : Nat) : Int) from rfl, hr]
  have : (putL n)[9].toNat % 128 ≤ 1 := by
    rcases Nat.lt_or_ge ((putL n)[9].toNat % 128) 2 with h' | h'
    · omega
    · have := Nat.mul_le_mul_right 9223372036854775808 h'
      omega
  omega

theorem getR_put {n : Nat} (hn : n < 18446744073709551616) (rest : List Int) (p : Int) : getR (putL n ++ rest) p = ((n : Int), p + (putL n).length, 0) := by
  have hten := putL_ten hn
  have hpos := putL_pos n
  have hc := canL_putL n
  have htake : (putL n ++ rest).take 10 = putL n ++ rest.take (10 - (putL n).length) := by
    rw [List.take_append, List.take_of_length_le hten]
  obtain ⟨h1, h2⟩ := canL_stop hc (rest.take (10 - (putL n).length))
  have hrd : rd (putL n ++ rest) (((putL n).length - 1 : Nat) : Int) = rd (putL n) (((putL n).length - 1 : Nat) : Int) := by
    rw [rd_eq _ _ (by simp; omega), rd_eq _ _ (by omega), List.getElem_append_left]
  unfold getR
  rw [htake, h1]
  simp only
  rw [hrd, if_neg, show (putL n).length - 1 + 1 = (putL n).length from by omega, List.take_left, valL_putL]
  · simp only [Prod.mk.injEq, true_and, and_true]; omega
  · rintro (⟨h, h'⟩ | ⟨h, h'⟩)
    · exact h2 (by omega) h'
    · have := putL_last hn (by omega)
      rw [h] at h'
      exact absurd h' (Int.not_lt.2 this)

theorem get_put {n : Nat} (hn : n < 18446744073709551616) (hd rest : List Int) (hh : bytesP hd) (hr : bytesP rest) (hl : (hd ++ (putL n ++ rest)).length ≤ 140737488355328) :
    num_Get.f (hd ++ (putL n ++ rest)) (hd.length : Int) = some ((n : Int), (hd.length : Int) + (putL n).length, 0) := by
  rw [get_eq _ _ (hh.append ((putL_bytes n).append hr)) hl (by omega) (by simp only [List.length_append]; omega), Int.toNat_natCast, List.drop_left, getR_put hn]

theorem canL_take_none {l : List Int} (h : canL l) : ∀ i, i < l.length → stopL (l.take i) = none := by
  induction l with
  | nil => exact h.elim
  | cons x xs ih =>
    intro i hi
    cases i with
    | zero => rfl
    | succ i =>
      cases xs with
      | nil => simp at hi
      | cons y ys =>
        obtain ⟨h1, h2, h3, h4⟩ := h
        rw [List.take_succ_cons, stopL, if_neg (by omega), ih h3 i (by simpa using hi)]
        rfl

theorem get_cut {n : Nat} (hn : n < 18446744073709551616) (i : Nat) (hi : i < (putL n).length) : num_Get.f ((putL n).take i) 0 = some (0, 0, 10) := by
  have hten := putL_ten hn
  rw [get_eq _ _ ((putL_bytes n).take i) (by rw [List.length_take]; omega) (by omega) (by omega)]
  simp only [Int.toNat_zero, List.drop_zero]
  unfold getR
  rw [List.take_take, Nat.min_eq_right (by omega), canL_take_none (canL_putL n) i hi]
  simp only
  rw [if_pos (by rw [List.length_take]; omega)]

/-- what is told is written so, and in no other way -/
theorem getR_inv {r : List Int} (hb : bytesP r) {p n q : Int} (h : getR r p = (n, q, 0)) :
    ∃ s rest, r = s ++ rest ∧ 0 ≤ n ∧ n < 18446744073709551616 ∧ putL n.toNat = s ∧ q = p + s.length := by
  unfold getR at h
  cases hs : stopL (r.take 10) with
  | none => rw [hs] at h; simp only at h; split at h <;> simp at h
  | some e =>
    rw [hs] at h
    simp only at h
    have hlt := stopL_lt hs
    have he : e < 10 := by rw [List.length_take] at hlt; omega
    have hlr : e < r.length := by rw [List.length_take] at hlt; omega
    have hsm := stopL_small hs
    by_cases c : (0 < e ∧ rd r e = 0) ∨ (e = 9 ∧ 1 < rd r e)
    · rw [if_pos c] at h; simp at h
    · rw [if_neg c] at h
      simp only [Prod.mk.injEq] at h
      obtain ⟨rfl, rfl, _⟩ := h
      have hr10 := rd_take10 r e hlt
      rw [hr10] at hsm
      have hcan := stopL_can (hb.take 10) hs (fun h0 => by rw [hr10]; exact fun h' => c (.inl ⟨h0, h'⟩))
      rw [take_take10 r e he] at hcan
      have hv := valL_take_lt hb hlr (by omega) (fun h => by have := bytes_getElem hb e; omega) hsm
      refine ⟨r.take (e + 1), r.drop (e + 1), (List.take_append_drop _ _).symm, by omega, by omega, ?_, ?_⟩
      · rw [Int.toNat_natCast, putL_valL _ hcan]
      · rw [List.length_take, Nat.min_eq_left (by omega)]; omega

/-- what is not written so is told to be wrong, or too short -/
theorem getR_codes (r : List Int) (p : Int) : (getR r p).2.2 = 0 ∨ getR r p = (0, 0, 10) ∨ getR r p = (0, 0, 31) := by
  unfold getR
  cases stopL (r.take 10) with
  | none => simp only; split <;> simp
  | some e => simp only; split <;> simp

theorem strOfNums_bytes {a b : List Int} (ha : bytesP a) (hb : bytesP b) (h : (strOfNums a).data.toList = (strOfNums b).data.toList) : a = b := by
  rw [strOfNums_data, strOfNums_data] at h
  induction a generalizing b with
  | nil => cases b with
    | nil => rfl
    | cons y ys => simp at h
  | cons x xs ih =>
    cases b with
    | nil => simp at h
    | cons y ys =>
      simp only [List.map_cons, List.cons.injEq] at h
      have hx := ha x (by simp)
      have hy := hb y (by simp)
      have e : x = y := by
        have := congrArg UInt8.toNat h.1
        rw [UInt8.toNat_ofNat', UInt8.toNat_ofNat'] at this
        omega
      rw [e, ih (fun z hz => ha z (by simp [hz])) (fun z hz => hb z (by simp [hz])) h.2]

theorem bytesOf_bytes (s : ByteArray) : bytesP (bytesOf s) := by
  intro x hx
  simp only [bytesOf, List.mem_map] at hx
  obtain ⟨b, _, rfl⟩ := hx
  have := b.toNat_lt
  omega
theorem bytesOf_len (s : ByteArray) : (bytesOf s).length = s.size := by unfold bytesOf; rw [List.length_map, Array.length_toList]; rfl
theorem strOfNums_bytesOf (s : ByteArray) : strOfNums (bytesOf s) = s := by
  have : (strOfNums (bytesOf s)).data.toList = s.data.toList := by
    rw [strOfNums_data, bytesOf, List.map_map]
    conv => rhs; rw [← List.map_id s.data.toList]
    refine List.map_congr_left fun b _ => ?_
    simp
  have h2 : (strOfNums (bytesOf s)).data = s.data := Array.toList_inj.1 this
  cases hs : strOfNums (bytesOf s)
  cases s
  rw [hs] at h2
  simp only at h2
  rw [h2]

end Go.Proofs.Ytjnlplgefcmngaa.Px
