/- The document's Get and GetText come to the same plain functions as the program's. -/
import Derived.Test.YtfapckmobeppnaaRefA
import Derived.Test.YtfapckmobeppnaaPx46
namespace Go.Proofs.Ytfapckmobeppnaa.Px
open Go.RowKit Go.Proofs.YtfapckmobeppnaaW.PrintWords Go.Proofs.YtfapckmobeppnaaW.PrintLast Go.Proofs.YtfapckmobeppnaaW.PrintMore
set_option linter.unusedVariables false
set_option linter.unusedSimpArgs false

theorem rd_cons_succ (x : Int) (xs : List Int) (j : Nat) : rd (x :: xs) ((j + 1 : Nat) : Int) = rd xs (j : Int) := by simp [rd]

theorem stopL_of {l : List Int} : ∀ {i : Nat}, (∀ j : Nat, j < i → 128 ≤ rd l j) → i < l.length → rd l i < 128 → stopL l = some i := by
 induction l with
 | nil => intro i _ h; simp at h
 | cons x xs ih =>
  intro i h hi hs
  cases i with
  | zero => rw [stopL, if_pos (by simpa [rd] using hs)]
  | succ i =>
   have h0 : 128 ≤ x := by simpa [rd] using h 0 (by omega)
   rw [stopL, if_neg (by omega), ih (i := i) (fun j hj => by rw [← rd_cons_succ x]; exact h (j + 1) (by omega)) (by simpa using hi) (by rw [← rd_cons_succ x]; exact hs)]
   rfl

theorem stopL_none {l : List Int} : (∀ j : Nat, j < l.length → 128 ≤ rd l j) → stopL l = none := by
 induction l with
 | nil => intro _; rfl
 | cons x xs ih =>
  intro h
  have h0 : 128 ≤ x := by simpa [rd] using h 0 (by simp)
  rw [stopL, if_neg (by omega), ih (fun j hj => by rw [← rd_cons_succ x]; exact h (j + 1) (by simp; omega))]
  rfl

/-- is what was read written so? just where getR tells it -/
theorem choice {r : List Int} (hb : bytesP r) {e : Nat} (he : e < 10) (hl : e < r.length) (hbig : ∀ j : Nat, j < e → 128 ≤ rd r j) (hs : rd r e < 128) :
  putL (valL (r.take (e + 1)) % 18446744073709551616) = r.take (e + 1) ↔ ¬((0 < e ∧ rd r e = 0) ∨ (e = 9 ∧ 1 < rd r e)) := by
 have hst : stopL r = some e := stopL_of hbig hl hs
 have hlast : rd (r.take (e + 1)) (e : Int) = rd r (e : Int) := by
  rw [rd_eq _ _ (by rw [List.length_take]; omega), rd_eq _ _ hl, List.getElem_take]
 have hlen : (r.take (e + 1)).length = e + 1 := by rw [List.length_take]; omega
 constructor
 ·intro h hc
  have hn : valL (r.take (e + 1)) % 18446744073709551616 < 18446744073709551616 := Nat.mod_lt _ (by decide)
  generalize valL (r.take (e + 1)) % 18446744073709551616 = n at *
  rcases hc with ⟨h1, h2⟩ | ⟨h1, h2⟩
  ·have := (canL_stop (canL_putL n) []).2 (by rw [h, hlen]; omega)
   rw [h, hlen, show e + 1 - 1 = e from by omega, hlast] at this
   exact this h2
  ·subst h1
   have := putL_last hn (by rw [h, hlen])
   rw [h] at this
   rw [show ((9 : Int)) = ((9 : Nat) : Int) from rfl, hlast] at this
   omega
 ·intro hc
  have hv := valL_take_lt hb hl (by omega) (fun h => by have := bytes_getElem hb e; omega) hs
  rw [Nat.mod_eq_of_lt hv]
  exact putL_valL _ (stopL_can hb hst (fun h0 h' => hc (.inl ⟨h0, h'⟩)))

theorem accV_step {r : List Int} (hb : bytesP r) (i : Nat) (hi : i < r.length) : accV r (i + 1) = Go.bits .or .u64 (accV r i) (IntKind.u64.wrap ((rd r i % 128) * 2 ^ (7 * i))) := by
 have hx := bytes_getElem hb i
 rw [accV, andNot128 hx, wrap_u64_id (n := rd r i % 128) (by omega) (by omega)]

theorem w64_add (p i : Nat) (h : p + i < 9223372036854775808) : wrap64 ((p : Int) + (i : Int)) = ((p + i : Nat) : Int) := by unfold wrap64; omega
theorem w64_succ (i : Nat) (h : i + 1 < 9223372036854775808) : wrap64 ((i : Int) + 1) = ((i + 1 : Nat) : Int) := by unfold wrap64; omega
theorem w64_seven (i : Nat) (h : i < 10) : IntKind.u64.wrap (wrap64 (7 * (i : Int))) = ((7 * i : Nat) : Int) := by rw [wrap_u64]; unfold wrap64; omega
theorem shl_seven (x : Int) (hx : 0 ≤ x) (i : Nat) (h : i < 10) : shl .u64 (Int.tmod x 128) ((7 * i : Nat) : Int) = IntKind.u64.wrap ((x % 128) * 2 ^ (7 * i)) := by
 unfold shl
 have hm : min (7 * i) IntKind.u64.bits = 7 * i := by
  have hb64 : IntKind.u64.bits = 64 := rfl
  rw [hb64]; omega
 rw [Int.tmod_eq_emod_of_nonneg hx, Int.toNat_natCast, hm]

/-- one round of the document's loop, where there is a byte -/
theorem refGet_step (l : List Int) (hbl : bytesP l) (p i k : Nat) (hi : i < 10) (hpi : p + i < l.length) (hl : l.length ≤ 140737488355328) (acc : Int) :
  telemeterref01_Get.l0 (k + 1) l (p : Int) acc (i : Int) =
   if rd l ((p + i : Nat) : Int) < 128 then
    ((telemeterref01_Put.f k (Go.bits .or .u64 acc (IntKind.u64.wrap ((rd l ((p + i : Nat) : Int) % 128) * 2 ^ (7 * i))))).bind fun t =>
     if (strOfNums t).toList = (strOfNums ((l.drop p).take (i + 1))).toList then
      some (Go.bits .or .u64 acc (IntKind.u64.wrap ((rd l ((p + i : Nat) : Int) % 128) * 2 ^ (7 * i))), ((p + i + 1 : Nat) : Int), 0)
     else some (0, 0, 31))
   else telemeterref01_Get.l0 k l (p : Int) (Go.bits .or .u64 acc (IntKind.u64.wrap ((rd l ((p + i : Nat) : Int) % 128) * 2 ^ (7 * i)))) ((i + 1 : Nat) : Int) := by
 have hx := bytes_getElem hbl (p + i)
 have ecut : (l.take ((p + i + 1 : Nat) : Int).toNat).drop (p : Int).toNat = (l.drop p).take (i + 1) := by
  rw [Int.toNat_natCast, Int.toNat_natCast, List.drop_take, show p + i + 1 - p = i + 1 from by omega]
 rw [telemeterref01_Get.l0, if_pos (by omega), w64_add p i (by omega), if_neg (by omega), if_pos (by omega), if_pos (by omega), w64_seven i hi, if_pos (by omega),
  wrap_u64_id (n := rd l ((p + i : Nat) : Int)) hx.1 (by omega), shl_seven _ hx.1 i hi, w64_succ (p + i) (by omega), w64_succ i (by omega), ecut]
 by_cases hs : rd l ((p + i : Nat) : Int) < 128
 ·rw [if_pos hs, if_pos hs]
  congr 1
  funext t
  rw [if_pos (by omega), if_pos (by omega), if_pos (by omega)]
 ·rw [if_neg hs, if_neg hs]

theorem refGet_l0 (l : List Int) (hbl : bytesP l) (hl : l.length ≤ 140737488355328) (p : Nat) (hp : p ≤ l.length) (d : Nat) : ∀ (k i : Nat), i + d = 10 → d + 10 < k → (∀ j : Nat, j < i → 128 ≤ rd (l.drop p) j) → i ≤ (l.drop p).length →
  telemeterref01_Get.l0 k l (p : Int) (accV (l.drop p) i) (i : Int) = some (getR (l.drop p) p) := by
 have hb := hbl.drop p
 have hrl : (l.drop p).length = l.length - p := List.length_drop
 have hrd : ∀ j : Nat, j < (l.drop p).length → rd l ((p + j : Nat) : Int) = rd (l.drop p) (j : Int) := by
  intro j hj
  rw [rd_eq _ _ (by omega), rd_eq _ _ hj, List.getElem_drop]
 induction d with
 | zero =>
  intro k i hid hk hbig hil
  obtain ⟨k, rfl⟩ : ∃ m, k = m + 1 := ⟨k - 1, by omega⟩
  rw [telemeterref01_Get.l0, if_neg (by omega)]
  unfold getR
  rw [stopL_none (fun j hj => by rw [List.length_take] at hj; rw [rd_take10 _ _ (by rw [List.length_take]; omega)]; exact hbig j (by omega))]
  simp only
  rw [if_neg (by omega)]
 | succ d ih =>
  intro k i hid hk hbig hil
  obtain ⟨k, rfl⟩ : ∃ m, k = m + 1 := ⟨k - 1, by omega⟩
  by_cases hend : (l.drop p).length ≤ i
  ·rw [telemeterref01_Get.l0, if_pos (by omega), w64_add p i (by omega), if_pos (by omega)]
   unfold getR
   rw [stopL_none (fun j hj => by rw [List.length_take] at hj; rw [rd_take10 _ _ (by rw [List.length_take]; omega)]; exact hbig j (by omega))]
   simp only
   rw [if_pos (by omega)]
  ·have hi : i < (l.drop p).length := by omega
   rw [refGet_step l hbl p i k (by omega) (by omega) hl, hrd i hi, ← accV_step hb i hi]
   by_cases hs : rd (l.drop p) (i : Int) < 128
   ·rw [if_pos hs, accV_val _ hb (i + 1) (by omega) (by omega), RfA.put (by omega) (by omega) k (by omega), Option.bind_some, Int.toNat_natCast]
    have hch := choice hb (by omega : i < 10) hi hbig hs
    have hstop : stopL ((l.drop p).take 10) = some i := stopL_of (fun j hj => by rw [rd_take10 _ _ (by rw [List.length_take]; omega)]; exact hbig j hj) (by rw [List.length_take]; omega) (by rw [rd_take10 _ _ (by rw [List.length_take]; omega)]; exact hs)
    unfold getR
    rw [hstop]
    simp only
    by_cases hc : (0 < i ∧ rd (l.drop p) i = 0) ∨ (i = 9 ∧ 1 < rd (l.drop p) i)
    ·rw [if_pos hc, if_neg]
     intro h
     have := strOfNums_bytes (putL_bytes _) (hb.take _) (by rw [← ByteArray.toList_eq, ← ByteArray.toList_eq]; exact h)
     exact hch.1 this hc
    ·have hv := valL_take_lt hb hi (by omega) (fun h => by have := bytes_getElem hb i; omega) hs
     rw [if_neg hc, if_pos (by rw [hch.2 hc]), Nat.mod_eq_of_lt hv]
     simp only [Option.some.injEq, Prod.mk.injEq, true_and, and_true]
     omega
   ·rw [if_neg hs]
    refine ih k (i + 1) (by omega) (by omega) (fun j hj => ?_) (by omega)
    rcases Nat.lt_or_ge j i with h | h
    ·exact hbig j h
    ·obtain rfl : j = i := by omega
     omega

/-- the document's Get is the program's -/
theorem refGet_eq (l : List Int) (hb : bytesP l) (hl : l.length ≤ 140737488355328) (p : Int) (k : Nat) (hk : 22 ≤ k) : telemeterref01_Get.f k l p = num_Get.f l p := by
 obtain ⟨k, rfl⟩ : ∃ m, k = m + 1 := ⟨k - 1, by omega⟩
 unfold telemeterref01_Get.f
 by_cases h0 : p < 0
 ·rw [if_pos h0, telemeterref01_Get.j0, if_pos rfl, get_neg l p hl h0]
 ·rw [if_neg h0]
  by_cases h1 : (l.length : Int) < p
  ·rw [show decide (p > (l.length : Int)) = true from decide_eq_true h1, telemeterref01_Get.j0, if_pos rfl, get_far l p hl h1]
  ·rw [show decide (p > (l.length : Int)) = false from decide_eq_false (by omega), telemeterref01_Get.j0, if_neg (by decide), get_eq l p hb hl (by omega) (by omega)]
   obtain ⟨q, rfl⟩ : ∃ q : Nat, p = (q : Int) := ⟨p.toNat, by omega⟩
   rw [Int.toNat_natCast]
   exact refGet_l0 l hb hl q (by omega) 10 k 0 (by omega) (by omega) (fun j hj => by omega) (by omega)

end Go.Proofs.Ytfapckmobeppnaa.Px
