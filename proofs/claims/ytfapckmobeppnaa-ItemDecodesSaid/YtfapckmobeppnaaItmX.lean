/- Plain laws of Encode and Decode: what is written is told back, one byte more is none; Decode tells of all bytes. -/
import Derived.Test.YtfapckmobeppnaaItmU
import Derived.Test.YtfapckmobeppnaaItmB
namespace Go.Proofs.Ytfapckmobeppnaa.Px
open Go.RowKit Go.Proofs.YtfapckmobeppnaaW.PrintWords Go.Proofs.YtfapckmobeppnaaW.PrintLast Go.Proofs.YtfapckmobeppnaaW.PrintMore
set_option linter.unusedVariables false
set_option linter.unusedSimpArgs false

/-! ### numbers and texts -/
theorem ItX.getText_eq {l : List Int} {p n q m : Int} (hg : num_Get.f l p = some (n, q, 0)) (h0 : 0 ≤ n) (h1 : n < 18446744073709551616) (h2 : 0 ≤ q) (h3 : q ≤ (l.length : Int)) (h4 : m < 9223372036854775808) (h5 : l.length ≤ 140737488355328) :
  num_GetText.f l p m = (if m < 0 then some (⟨#[]⟩, 0, 3) else if m < n then some (⟨#[]⟩, 0, 3) else if (l.length : Int) - q < n then some (⟨#[]⟩, 0, 10)
   else some (strOfNums ((l.drop q.toNat).take n.toNat), q + n, 0)) := by
 unfold num_GetText.f
 rw [hg]
 simp only [Option.bind_some, if_true]
 rw [if_pos ⟨h0, h1, h2, h3, h4, h5⟩]
theorem ItX.getText_err {l : List Int} {p n q m e : Int} (hg : num_Get.f l p = some (n, q, e)) (he : e ≠ 0) : num_GetText.f l p m = some (⟨#[]⟩, 0, e) := by
 unfold num_GetText.f
 rw [hg]
 simp only [Option.bind_some]
 rw [if_neg he]
theorem ItX.getText_put (s : ByteArray) (hd rest : List Int) (hh : bytesP hd) (hr : bytesP rest) (hl : (hd ++ ((putL s.size ++ bytesOf s) ++ rest)).length ≤ 140737488355328) (m : Int) (h4 : m < 9223372036854775808) :
  num_GetText.f (hd ++ ((putL s.size ++ bytesOf s) ++ rest)) (hd.length : Int) m =
   if m < (s.size : Int) then some (⟨#[]⟩, 0, 3) else some (s, (hd.length : Int) + ((putL s.size ++ bytesOf s).length : Int), 0) := by
 have hlen : (hd ++ ((putL s.size ++ bytesOf s) ++ rest)).length = hd.length + ((putL s.size).length + s.size + rest.length) := by
  simp only [List.length_append, bytesOf_len]
 have hg := get_put (n := s.size) (by rw [hlen] at hl; omega) hd (bytesOf s ++ rest) hh ((bytesOf_bytes s).append hr) (by rw [← List.append_assoc (putL s.size)]; exact hl)
 rw [← List.append_assoc (putL s.size)] at hg
 rw [ItX.getText_eq hg (by omega) (by rw [hlen] at hl; omega) (by omega) (by rw [hlen]; omega) h4 hl]
 by_cases hm : m < (s.size : Int)
 ·simp only [if_pos hm]
  by_cases h0 : m < 0
  ·simp only [if_pos h0]
  ·simp only [if_neg h0]
 ·rw [if_neg (by omega), if_neg hm, if_neg hm, if_neg (by rw [hlen]; omega)]
  have e : ((hd ++ ((putL s.size ++ bytesOf s) ++ rest)).drop ((hd.length : Int) + ((putL s.size).length : Int)).toNat).take ((s.size : Int)).toNat = bytesOf s := by
   rw [show ((hd.length : Int) + ((putL s.size).length : Int)).toNat = hd.length + (putL s.size).length from by omega, Int.toNat_natCast, ← List.drop_drop, List.drop_left, List.append_assoc, List.drop_left, ← bytesOf_len s, List.take_left]
  rw [e, strOfNums_bytesOf]
  simp only [List.length_append, bytesOf_len, Option.some.injEq, Prod.mk.injEq, true_and, and_true]
  omega
theorem ItX.and_one (n : Nat) (h : n < 18446744073709551616) : Go.bits .and .u64 (n : Int) 1 = ((n % 2 : Nat) : Int) := by
 rw [show (1 : Int) = ((1 : Nat) : Int) from rfl, (bits_nat .u64 64 (by decide) wraps_u64 n 1 (by omega) (by decide)).1, Nat.and_one_is_mod]
theorem ItX.and_one_i {n : Int} (h0 : 0 ≤ n) (h : n < 18446744073709551616) : Go.bits .and .u64 n 1 = n % 2 := by
 obtain ⟨m, rfl⟩ := Int.eq_ofNat_of_zero_le h0
 rw [ItX.and_one m (by omega)]
 omega
theorem ItX.get_total (l : List Int) (hb : bytesP l) (hl : l.length ≤ 140737488355328) (p : Int) : ∃ n q e, num_Get.f l p = some (n, q, e) ∧ (e = 0 ∧ 0 ≤ n ∧ n < 18446744073709551616 ∧ 0 ≤ p ∧ p < q ∧ q ≤ (l.length : Int) ∨ n = 0 ∧ q = 0 ∧ (e = 1 ∨ e = 10 ∨ e = 31)) := by
 by_cases h0 : p < 0
 ·exact ⟨_, _, _, get_neg l p hl h0, .inr ⟨rfl, rfl, .inl rfl⟩⟩
 ·by_cases h1 : (l.length : Int) < p
  ·exact ⟨_, _, _, get_far l p hl h1, .inr ⟨rfl, rfl, .inl rfl⟩⟩
  ·have hg := get_eq l p hb hl (by omega) (by omega)
   rcases getR_codes (l.drop p.toNat) p with h | h | h
   ·obtain ⟨⟨n, q, e⟩, hx⟩ : ∃ x, getR (l.drop p.toNat) p = x := ⟨_, rfl⟩
    rw [hx] at h hg
    obtain rfl : e = 0 := h
    obtain ⟨s, rest, hr, a, b, c, hq⟩ := getR_inv (hb.drop p.toNat) hx
    have hlen := congrArg List.length hr
    have hpos := putL_pos n.toNat
    rw [c] at hpos
    rw [List.length_drop, List.length_append] at hlen
    exact ⟨n, q, 0, hg, .inl ⟨rfl, a, b, by omega, by omega, by omega⟩⟩
   ·rw [h] at hg; exact ⟨_, _, _, hg, .inr ⟨rfl, rfl, .inr (.inl rfl)⟩⟩
   ·rw [h] at hg; exact ⟨_, _, _, hg, .inr ⟨rfl, rfl, .inr (.inr rfl)⟩⟩
theorem ItX.getText_total (l : List Int) (hb : bytesP l) (hl : l.length ≤ 140737488355328) (p m : Int) (hm0 : 0 ≤ m) (hm : m < 9223372036854775808) : ∃ s q e, num_GetText.f l p m = some (s, q, e) ∧ (e = 0 ∧ (s.size : Int) ≤ m ∧ 0 ≤ p ∧ p < q ∧ q ≤ (l.length : Int) ∨ e ≠ 0 ∧ q = 0) := by
 obtain ⟨n, q, e, hg, h⟩ := ItX.get_total l hb hl p
 rcases h with ⟨rfl, h1, h2, h3, h4, h5⟩ | ⟨rfl, rfl, h⟩
 ·rw [ItX.getText_eq hg h1 h2 (by omega) h5 hm hl, if_neg (by omega)]
  by_cases c1 : m < n
  ·rw [if_pos c1]; exact ⟨_, _, _, rfl, .inr ⟨by decide, rfl⟩⟩
  ·rw [if_neg c1]
   by_cases c2 : (l.length : Int) - q < n
   ·rw [if_pos c2]; exact ⟨_, _, _, rfl, .inr ⟨by decide, rfl⟩⟩
   ·rw [if_neg c2]
    refine ⟨_, _, _, rfl, .inl ⟨rfl, ?_, h3, by omega, by omega⟩⟩
    rw [strOfNums_size, List.length_take]
    omega
 ·have he : e ≠ 0 := by omega
  rw [ItX.getText_err hg he]
  exact ⟨_, _, _, rfl, .inr ⟨he, rfl⟩⟩
theorem ItX.bytesOf_nums (l : List Int) (h : bytesP l) : bytesOf (strOfNums l) = l := by
 refine strOfNums_bytes (bytesOf_bytes _) h ?_
 rw [strOfNums_bytesOf]
theorem ItX.num_bytes (f n : Int) : bytesP (Itm.num f n) := by
 unfold Itm.num
 split
 ·exact bytesP_nil
 ·exact (putL_bytes _).append (putL_bytes _)
theorem ItX.txt_bytes (f : Int) (s : ByteArray) : bytesP (Itm.txt f s) := by
 unfold Itm.txt
 split
 ·exact bytesP_nil
 ·exact (putL_bytes _).append ((putL_bytes _).append (bytesOf_bytes _))

/-! ### a field that was written is told -/
theorem ItX.fld_num (hd rest : List Int) (f n : Int) (hf : 0 < f ∧ f ≤ 10) (h0 : n ≠ 0) (hn : 0 ≤ n ∧ n < 18446744073709551616) (hh : bytesP hd) (hr : bytesP rest) (hl : (hd ++ (Itm.num f n ++ rest)).length ≤ 140737488355328) :
  Itm.fieldF (hd ++ (Itm.num f n ++ rest)) (hd.length : Int) = some (some (f, n, ⟨#[]⟩, false, ((hd ++ Itm.num f n).length : Int))) := by
 have e0 : Itm.num f n = putL (2 * f).toNat ++ putL n.toNat := by unfold Itm.num; rw [if_neg h0]
 rw [e0] at hl ⊢
 have e1 : hd ++ ((putL (2 * f).toNat ++ putL n.toNat) ++ rest) = hd ++ (putL (2 * f).toNat ++ (putL n.toNat ++ rest)) := by simp only [List.append_assoc]
 have e2 : hd ++ ((putL (2 * f).toNat ++ putL n.toNat) ++ rest) = (hd ++ putL (2 * f).toNat) ++ (putL n.toNat ++ rest) := by simp only [List.append_assoc]
 have g1 := get_put (n := (2 * f).toNat) (by omega) hd (putL n.toNat ++ rest) hh ((putL_bytes _).append hr) (by rw [← e1]; exact hl)
 have g2 := get_put (n := n.toNat) (by omega) (hd ++ putL (2 * f).toNat) rest (hh.append (putL_bytes _)) hr (by rw [← e2]; exact hl)
 rw [← e1] at g1
 rw [← e2] at g2
 have c1 : (((2 * f).toNat : Nat) : Int) = 2 * f := by omega
 have c2 : ((n.toNat : Nat) : Int) = n := by omega
 rw [c1] at g1
 rw [c2, List.length_append, Int.natCast_add] at g2
 unfold Itm.fieldF
 rw [g1, Option.bind_some]
 dsimp only
 rw [if_pos rfl, if_pos ⟨by omega, by omega⟩, ItX.and_one_i (by omega) (by omega), if_neg (by omega), if_pos (by omega), g2, Option.bind_some]
 dsimp only
 rw [if_pos rfl]
 simp only [List.length_append, Option.some.injEq, Prod.mk.injEq, true_and, Int.natCast_add]
 exact ⟨by omega, by omega⟩
theorem ItX.fld_txt (hd rest : List Int) (f : Int) (s : ByteArray) (hf : 0 < f ∧ f ≤ 10) (h0 : s.size ≠ 0) (hs : s.size ≤ 4096) (hh : bytesP hd) (hr : bytesP rest) (hl : (hd ++ (Itm.txt f s ++ rest)).length ≤ 140737488355328) :
  Itm.fieldF (hd ++ (Itm.txt f s ++ rest)) (hd.length : Int) = some (some (f, 0, s, true, ((hd ++ Itm.txt f s).length : Int))) := by
 have e0 : Itm.txt f s = putL (2 * f + 1).toNat ++ (putL s.size ++ bytesOf s) := by unfold Itm.txt; rw [if_neg h0]
 rw [e0] at hl ⊢
 have e1 : hd ++ ((putL (2 * f + 1).toNat ++ (putL s.size ++ bytesOf s)) ++ rest) = hd ++ (putL (2 * f + 1).toNat ++ ((putL s.size ++ bytesOf s) ++ rest)) := by simp only [List.append_assoc]
 have e2 : hd ++ ((putL (2 * f + 1).toNat ++ (putL s.size ++ bytesOf s)) ++ rest) = (hd ++ putL (2 * f + 1).toNat) ++ ((putL s.size ++ bytesOf s) ++ rest) := by simp only [List.append_assoc]
 have g1 := get_put (n := (2 * f + 1).toNat) (by omega) hd ((putL s.size ++ bytesOf s) ++ rest) hh (((putL_bytes _).append (bytesOf_bytes _)).append hr) (by rw [← e1]; exact hl)
 have g2 := ItX.getText_put s (hd ++ putL (2 * f + 1).toNat) rest (hh.append (putL_bytes _)) hr (by rw [← e2]; exact hl) 4096 (by decide)
 rw [← e1] at g1
 rw [← e2, if_neg (by omega)] at g2
 have c1 : (((2 * f + 1).toNat : Nat) : Int) = 2 * f + 1 := by omega
 rw [c1] at g1
 rw [List.length_append, Int.natCast_add] at g2
 unfold Itm.fieldF
 rw [g1, Option.bind_some]
 dsimp only
 rw [if_pos rfl, if_pos ⟨by omega, by omega⟩, ItX.and_one_i (by omega) (by omega), if_pos (by omega), g2, Option.bind_some]
 dsimp only
 rw [if_pos rfl]
 simp only [List.length_append, Option.some.injEq, Prod.mk.injEq, true_and, Int.natCast_add]
 exact ⟨by omega, by omega⟩

/-! ### from place to place -/
def ItX.Reach (L : List Int) (q : Nat) (x : Itm.It) (q' : Nat) (x' : Itm.It) : Prop := ∃ j, q + j ≤ q' ∧ ∀ k, Itm.parse (k + j) L (q : Int) x = Itm.parse k L (q' : Int) x'
theorem ItX.Reach.refl (L : List Int) (q : Nat) (x : Itm.It) : ItX.Reach L q x q x := ⟨0, Nat.le_refl _, fun _ => rfl⟩
theorem ItX.Reach.trans {L : List Int} {q q' q'' : Nat} {x x' x'' : Itm.It} (h1 : ItX.Reach L q x q' x') (h2 : ItX.Reach L q' x' q'' x'') : ItX.Reach L q x q'' x'' := by
 obtain ⟨j1, a1, b1⟩ := h1
 obtain ⟨j2, a2, b2⟩ := h2
 refine ⟨j1 + j2, by omega, fun k => ?_⟩
 rw [show k + (j1 + j2) = (k + j2) + j1 from by omega, b1, b2]
theorem ItX.parse_step {L : List Int} {k q q' : Nat} {x x' : Itm.It} {no n : Int} {s : ByteArray} {tx : Bool} (hq : q < L.length) (h : Itm.fieldF L (q : Int) = some (some (no, n, s, tx, (q' : Int)))) (hp : Itm.putF x no n s = some x') :
  Itm.parse (k + 1) L (q : Int) x = Itm.parse k L (q' : Int) x' := by
 rw [Itm.parse, if_pos (by omega), h, Option.bind_some]
 show (Itm.putF x no n s).bind _ = _
 rw [hp, Option.bind_some]
theorem ItX.r_num (hd rest : List Int) (f n : Int) (x x' : Itm.It) (hf : 0 < f ∧ f ≤ 10) (hn : 0 ≤ n ∧ n < 18446744073709551616) (hh : bytesP hd) (hr : bytesP rest) (hl : (hd ++ (Itm.num f n ++ rest)).length ≤ 140737488355328)
  (hx : n = 0 → x' = x) (hp : n ≠ 0 → Itm.putF x f n ⟨#[]⟩ = some x') : ItX.Reach (hd ++ (Itm.num f n ++ rest)) hd.length x (hd ++ Itm.num f n).length x' := by
 by_cases h0 : n = 0
 ·subst h0
  rw [hx rfl]
  have e0 : Itm.num f 0 = [] := by unfold Itm.num; rw [if_pos rfl]
  rw [e0, List.append_nil]
  exact ItX.Reach.refl _ _ _
 ·have hpos : 0 < (Itm.num f n).length := by
   unfold Itm.num; rw [if_neg h0, List.length_append]; have := putL_pos (2 * f).toNat; omega
  refine ⟨1, by rw [List.length_append]; omega, fun k => ?_⟩
  exact ItX.parse_step (by simp only [List.length_append]; omega) (ItX.fld_num hd rest f n hf h0 hn hh hr hl) (hp h0)
theorem ItX.r_txt (hd rest : List Int) (f : Int) (s : ByteArray) (x x' : Itm.It) (hf : 0 < f ∧ f ≤ 10) (hs : s.size ≤ 4096) (hh : bytesP hd) (hr : bytesP rest) (hl : (hd ++ (Itm.txt f s ++ rest)).length ≤ 140737488355328)
  (hx : s.size = 0 → x' = x) (hp : s.size ≠ 0 → Itm.putF x f 0 s = some x') : ItX.Reach (hd ++ (Itm.txt f s ++ rest)) hd.length x (hd ++ Itm.txt f s).length x' := by
 by_cases h0 : s.size = 0
 ·rw [hx h0]
  have e0 : Itm.txt f s = [] := by unfold Itm.txt; rw [if_pos h0]
  rw [e0, List.append_nil]
  exact ItX.Reach.refl _ _ _
 ·have hpos : 0 < (Itm.txt f s).length := by
   unfold Itm.txt; rw [if_neg h0, List.length_append]; have := putL_pos (2 * f + 1).toNat; omega
  refine ⟨1, by rw [List.length_append]; omega, fun k => ?_⟩
  exact ItX.parse_step (by simp only [List.length_append]; omega) (ItX.fld_txt hd rest f s hf h0 hs hh hr hl) (hp h0)

/-! ### an attribute -/
theorem ItX.bytesOf_append (a b : ByteArray) : bytesOf (a ++ b) = bytesOf a ++ bytesOf b := by
 unfold bytesOf
 rw [ByteArray.data_append, Array.toList_append, List.map_append]
theorem ItX.attT_bytes (a : S36) : bytesOf (Itm.attT a) = (putL a.f0.size ++ bytesOf a.f0) ++ bytesOf a.f1 := by
 unfold Itm.attT
 rw [ItX.bytesOf_append, ItX.bytesOf_nums _ ((putL_bytes _).append (bytesOf_bytes _))]
theorem ItX.extract_eq (a b : ByteArray) : (a ++ b).extract a.size (a ++ b).size = b := by
 apply ByteArray.ext
 rw [ByteArray.data_extract, ByteArray.data_append, ByteArray.size_append]
 show (a.data ++ b.data).extract a.data.size (a.data.size + b.data.size) = b.data
 rw [Array.extract_append, Array.extract_empty_of_size_le_start (Nat.le_refl _), Nat.sub_self, Nat.add_sub_cancel_left, Array.empty_append]
 exact Array.extract_size
/-- An attribute's field put into a span. -/
theorem ItX.put_attr (x : Itm.It) (a : S36) (hk : x.kd = 1) (h0 : a.f0.size ≤ 60) (h1 : a.f1.size ≤ 60) (hl : x.ats.length ≤ 100000) :
  Itm.putF x 10 0 (Itm.attT a) = some { x with ats := x.ats ++ [a] } := by
 have hsz := Itm.attT_size a (by omega) (by omega)
 have hb := ItX.attT_bytes a
 have hg := ItX.getText_put a.f0 [] (bytesOf a.f1) bytesP_nil (bytesOf_bytes _) (by rw [List.nil_append, ← hb, bytesOf_len]; omega) 60 (by decide)
 rw [List.nil_append, ← hb, if_neg (by omega)] at hg
 simp only [List.length_nil, Int.natCast_zero, Int.zero_add] at hg
 have hs2 : (Itm.attT a).size = (putL a.f0.size ++ bytesOf a.f0).length + a.f1.size := by rw [← bytesOf_len (Itm.attT a), hb, List.length_append, bytesOf_len a.f1]
 have he : (Itm.attT a).extract (putL a.f0.size ++ bytesOf a.f0).length (Itm.attT a).size = a.f1 := by
  have := ItX.extract_eq (strOfNums (putL a.f0.size ++ bytesOf a.f0)) a.f1
  rw [strOfNums_size] at this
  exact this
 unfold Itm.putF
 rw [if_pos (by omega), if_pos hk, if_neg (by decide), if_neg (by decide), if_neg (by decide), if_neg (by decide), if_neg (by decide), if_neg (by decide), if_neg (by decide), if_neg (by decide), if_neg (by decide), if_pos rfl, hg, Option.bind_some]
 dsimp only
 rw [if_pos rfl, if_pos ⟨⟨by omega, by omega⟩, hl⟩, Int.toNat_natCast, he]
theorem ItX.attL_bytes (ats : List S36) : bytesP (Itm.attL ats) := by
 unfold Itm.attL
 intro x hx
 obtain ⟨l, hl, hx⟩ := List.mem_flatten.mp hx
 obtain ⟨a, _, rfl⟩ := List.mem_map.mp hl
 exact ItX.txt_bytes _ _ x hx
theorem ItX.attL_cons (a : S36) (ats : List S36) : Itm.attL (a :: ats) = Itm.txt 10 (Itm.attT a) ++ Itm.attL ats := rfl
theorem ItX.r_atts : ∀ (ats : List S36) (hd rest : List Int) (x : Itm.It), x.kd = 1 → (∀ a ∈ ats, a.f0.size ≤ 60 ∧ a.f1.size ≤ 60) → x.ats.length + ats.length ≤ 100000 → bytesP hd → bytesP rest → (hd ++ (Itm.attL ats ++ rest)).length ≤ 140737488355328 →
  ItX.Reach (hd ++ (Itm.attL ats ++ rest)) hd.length x (hd ++ Itm.attL ats).length { x with ats := x.ats ++ ats }
 | [], hd, rest, x, hk, ha, hl, hh, hr, hL => by
  have e1 : Itm.attL [] = [] := rfl
  have e2 : ({ x with ats := x.ats ++ [] } : Itm.It) = x := by rw [List.append_nil]
  rw [e1, e2, List.append_nil]
  exact ItX.Reach.refl _ _ _
 | a :: ats, hd, rest, x, hk, ha, hl, hh, hr, hL => by
  have e1 : hd ++ (Itm.attL (a :: ats) ++ rest) = hd ++ (Itm.txt 10 (Itm.attT a) ++ (Itm.attL ats ++ rest)) := by rw [ItX.attL_cons, List.append_assoc]
  have e2 : hd ++ (Itm.attL (a :: ats) ++ rest) = (hd ++ Itm.txt 10 (Itm.attT a)) ++ (Itm.attL ats ++ rest) := by rw [e1, List.append_assoc]
  have e3 : hd ++ Itm.attL (a :: ats) = (hd ++ Itm.txt 10 (Itm.attT a)) ++ Itm.attL ats := by rw [ItX.attL_cons, List.append_assoc]
  have h1 := ha a (List.mem_cons_self)
  have hsz := Itm.attT_size a (by omega) (by omega)
  have hne : (Itm.attT a).size ≠ 0 := by
   rw [← bytesOf_len, ItX.attT_bytes, List.length_append, List.length_append]; have := putL_pos a.f0.size; omega
  have s1 := ItX.r_txt hd (Itm.attL ats ++ rest) 10 (Itm.attT a) x { x with ats := x.ats ++ [a] } (by omega) (by omega) hh ((ItX.attL_bytes _).append hr) (by rw [← e1]; exact hL) (fun h => absurd h hne) (fun _ => ItX.put_attr x a hk h1.1 h1.2 (by rw [List.length_cons] at hl; omega))
  have s2 := ItX.r_atts ats (hd ++ Itm.txt 10 (Itm.attT a)) rest { x with ats := x.ats ++ [a] } hk (fun b hb => ha b (List.mem_cons_of_mem _ hb)) (by rw [List.length_cons] at hl; show (x.ats ++ [a]).length + ats.length ≤ 100000; rw [List.length_append, List.length_singleton]; omega) (hh.append (ItX.txt_bytes _ _)) hr (by rw [← e2]; exact hL)
  rw [← e1] at s1
  rw [← e2, ← e3] at s2
  have e4 : ({ ({ x with ats := x.ats ++ [a] } : Itm.It) with ats := (x.ats ++ [a]) ++ ats } : Itm.It) = { x with ats := x.ats ++ (a :: ats) } := by rw [List.append_assoc]; rfl
  exact s1.trans (e4 ▸ s2)

/-! ### a span, a log -/
theorem ItX.put5 (x : Itm.It) (nm : ByteArray) (hk : x.kd = 1) (h : nm.size ≤ 60) : Itm.putF x 5 0 nm = some { x with nm := nm } := by
 unfold Itm.putF
 rw [if_pos (by omega), if_pos hk, if_neg (by decide), if_neg (by decide), if_neg (by decide), if_neg (by decide), if_pos rfl]
theorem ItX.w64 {n : Int} (h : 0 ≤ n ∧ n ≤ 1099511627776) : wrap64 n = n := wrap64_id (by omega) (by omega)
theorem ItX.put6 (x : Itm.It) (n : Int) (hk : x.kd = 1) (h : 0 ≤ n ∧ n ≤ 1099511627776) : Itm.putF x 6 n ⟨#[]⟩ = some { x with st := n } := by
 unfold Itm.putF
 rw [if_pos (by decide), if_pos hk, if_neg (by decide), if_neg (by decide), if_neg (by decide), if_neg (by decide), if_neg (by decide), if_pos rfl, ItX.w64 h]
theorem ItX.put7 (x : Itm.It) (n : Int) (hk : x.kd = 1) (h : 0 ≤ n ∧ n ≤ 1099511627776) : Itm.putF x 7 n ⟨#[]⟩ = some { x with en := n } := by
 unfold Itm.putF
 rw [if_pos (by decide), if_pos hk, if_neg (by decide), if_neg (by decide), if_neg (by decide), if_neg (by decide), if_neg (by decide), if_neg (by decide), if_pos rfl, ItX.w64 h]
/-- The bytes of a span that may be are told back. -/
theorem ItX.r_span (hi lo id par : Int) (nm : ByteArray) (st en : Int) (bad : Bool) (ats : List S36) (rv : Int) (rest : List Int) (h1 : 0 ≤ hi ∧ hi < 18446744073709551616) (h2 : 0 ≤ lo ∧ lo < 18446744073709551616) (h3 : 0 ≤ id ∧ id < 18446744073709551616) (h4 : 0 ≤ par ∧ par < 18446744073709551616) (h5 : nm.size ≤ 60) (h6 : 0 ≤ st ∧ st ≤ 1099511627776) (h7 : 0 ≤ en ∧ en ≤ 1099511627776) (h9 : 0 ≤ rv ∧ rv < 18446744073709551616) (h10 : ats.length ≤ 8) (h11 : ∀ a ∈ ats, a.f0.size ≤ 60 ∧ a.f1.size ≤ 60) (hr : bytesP rest)
  (hl : (1 :: (Itm.spanL hi lo id par nm st en bad ats rv ++ rest)).length ≤ 140737488355328) :
  ItX.Reach (1 :: (Itm.spanL hi lo id par nm st en bad ats rv ++ rest)) 1 { Itm.It.z with kd := 1 } (1 :: Itm.spanL hi lo id par nm st en bad ats rv).length ⟨1, hi, lo, id, par, nm, st, en, bad, ats, rv, ⟨#[]⟩, 0, 0, ⟨#[]⟩⟩ := by
 have hb1 : bytesP [1] := bytesP_cons (by omega) bytesP_nil
 obtain ⟨L, hL⟩ : ∃ L, L = 1 :: (Itm.spanL hi lo id par nm st en bad ats rv ++ rest) := ⟨_, rfl⟩
 rw [← hL] at hl ⊢
 have ha := ItX.attL_bytes ats
 have n1 := ItX.num_bytes 1 hi
 have n2 := ItX.num_bytes 2 lo
 have n3 := ItX.num_bytes 3 id
 have n4 := ItX.num_bytes 4 par
 have n5 := ItX.txt_bytes 5 nm
 have n6 := ItX.num_bytes 6 st
 have n7 := ItX.num_bytes 7 en
 have n8 := ItX.num_bytes 8 (if bad then 1 else 0)
 have n9 := ItX.num_bytes 9 rv
 have g8 : 0 ≤ (if bad then 1 else 0 : Int) ∧ (if bad then 1 else 0 : Int) < 18446744073709551616 := by cases bad <;> decide
 have E : ∀ {hd mid r : List Int}, L = hd ++ (mid ++ r) → (hd ++ (mid ++ r)).length ≤ 140737488355328 := fun h => by rw [← h]; exact hl
 generalize e1 : Itm.num 1 hi = N1 at *
 generalize e2 : Itm.num 2 lo = N2 at *
 generalize e3 : Itm.num 3 id = N3 at *
 generalize e4 : Itm.num 4 par = N4 at *
 generalize e5 : Itm.txt 5 nm = N5 at *
 generalize e6 : Itm.num 6 st = N6 at *
 generalize e7 : Itm.num 7 en = N7 at *
 generalize e8 : Itm.num 8 (if bad then 1 else 0) = N8 at *
 generalize e9 : Itm.num 9 rv = N9 at *
 have hS : Itm.spanL hi lo id par nm st en bad ats rv = N1 ++ (N2 ++ (N3 ++ (N4 ++ (N5 ++ (N6 ++ (N7 ++ (N8 ++ (N9 ++ Itm.attL ats)))))))) := by
  unfold Itm.spanL; rw [e1, e2, e3, e4, e5, e6, e7, e8, e9]
 rw [hS] at hL ⊢
 clear hS
 have q1 : L = [1] ++ (N1 ++ (N2 ++ (N3 ++ (N4 ++ (N5 ++ (N6 ++ (N7 ++ (N8 ++ (N9 ++ (Itm.attL ats ++ rest)))))))))) := by rw [hL]; simp only [List.append_assoc, List.cons_append, List.nil_append]
 have q2 : L = ([1] ++ N1) ++ (N2 ++ (N3 ++ (N4 ++ (N5 ++ (N6 ++ (N7 ++ (N8 ++ (N9 ++ (Itm.attL ats ++ rest))))))))) := by rw [q1]; simp only [List.append_assoc]
 have q3 : L = (([1] ++ N1) ++ N2) ++ (N3 ++ (N4 ++ (N5 ++ (N6 ++ (N7 ++ (N8 ++ (N9 ++ (Itm.attL ats ++ rest)))))))) := by rw [q1]; simp only [List.append_assoc]
 have q4 : L = ((([1] ++ N1) ++ N2) ++ N3) ++ (N4 ++ (N5 ++ (N6 ++ (N7 ++ (N8 ++ (N9 ++ (Itm.attL ats ++ rest))))))) := by rw [q1]; simp only [List.append_assoc]
 have q5 : L = (((([1] ++ N1) ++ N2) ++ N3) ++ N4) ++ (N5 ++ (N6 ++ (N7 ++ (N8 ++ (N9 ++ (Itm.attL ats ++ rest)))))) := by rw [q1]; simp only [List.append_assoc]
 have q6 : L = ((((([1] ++ N1) ++ N2) ++ N3) ++ N4) ++ N5) ++ (N6 ++ (N7 ++ (N8 ++ (N9 ++ (Itm.attL ats ++ rest))))) := by rw [q1]; simp only [List.append_assoc]
 have q7 : L = (((((([1] ++ N1) ++ N2) ++ N3) ++ N4) ++ N5) ++ N6) ++ (N7 ++ (N8 ++ (N9 ++ (Itm.attL ats ++ rest)))) := by rw [q1]; simp only [List.append_assoc]
 have q8 : L = ((((((([1] ++ N1) ++ N2) ++ N3) ++ N4) ++ N5) ++ N6) ++ N7) ++ (N8 ++ (N9 ++ (Itm.attL ats ++ rest))) := by rw [q1]; simp only [List.append_assoc]
 have q9 : L = (((((((([1] ++ N1) ++ N2) ++ N3) ++ N4) ++ N5) ++ N6) ++ N7) ++ N8) ++ (N9 ++ (Itm.attL ats ++ rest)) := by rw [q1]; simp only [List.append_assoc]
 have q10 : L = ((((((((([1] ++ N1) ++ N2) ++ N3) ++ N4) ++ N5) ++ N6) ++ N7) ++ N8) ++ N9) ++ (Itm.attL ats ++ rest) := by rw [q1]; simp only [List.append_assoc]
 have b1 := hb1.append n1
 have b2 := b1.append n2
 have b3 := b2.append n3
 have b4 := b3.append n4
 have b5 := b4.append n5
 have b6 := b5.append n6
 have b7 := b6.append n7
 have b8 := b7.append n8
 have b9 := b8.append n9
 have c9 := ha.append hr
 have c8 := n9.append c9
 have c7 := n8.append c8
 have c6 := n7.append c7
 have c5 := n6.append c6
 have c4 := n5.append c5
 have c3 := n4.append c4
 have c2 := n3.append c3
 have c1 := n2.append c2
 have z5 : nm.size = 0 → nm = ⟨#[]⟩ := fun h => Itm.size_nil (by have := Itm.empty_eq nm; rw [decide_eq_true h] at this; exact List.isEmpty_iff.mp this)
 have s1 := ItX.r_num [1] _ 1 hi { Itm.It.z with kd := 1 } { Itm.It.z with kd := 1, hi := hi } (by omega) h1 hb1 c1 (by rw [e1]; exact E q1) (fun h => by subst h; rfl) (fun _ => rfl)
 have s2 := ItX.r_num ([1] ++ N1) _ 2 lo _ { Itm.It.z with kd := 1, hi := hi, lo := lo } (by omega) h2 b1 c2 (by rw [e2]; exact E q2) (fun h => by subst h; rfl) (fun _ => rfl)
 have s3 := ItX.r_num _ _ 3 id _ { Itm.It.z with kd := 1, hi := hi, lo := lo, id := id } (by omega) h3 b2 c3 (by rw [e3]; exact E q3) (fun h => by subst h; rfl) (fun _ => rfl)
 have s4 := ItX.r_num _ _ 4 par _ { Itm.It.z with kd := 1, hi := hi, lo := lo, id := id, par := par } (by omega) h4 b3 c4 (by rw [e4]; exact E q4) (fun h => by subst h; rfl) (fun _ => rfl)
 have s5 := ItX.r_txt _ _ 5 nm _ { Itm.It.z with kd := 1, hi := hi, lo := lo, id := id, par := par, nm := nm } (by omega) (by omega) b4 c5 (by rw [e5]; exact E q5) (fun h => by rw [z5 h]) (fun _ => ItX.put5 _ nm rfl h5)
 have s6 := ItX.r_num _ _ 6 st _ { Itm.It.z with kd := 1, hi := hi, lo := lo, id := id, par := par, nm := nm, st := st } (by omega) (by omega) b5 c6 (by rw [e6]; exact E q6) (fun h => by subst h; rfl) (fun _ => ItX.put6 _ st rfl h6)
 have s7 := ItX.r_num _ _ 7 en _ { Itm.It.z with kd := 1, hi := hi, lo := lo, id := id, par := par, nm := nm, st := st, en := en } (by omega) (by omega) b6 c7 (by rw [e7]; exact E q7) (fun h => by subst h; rfl) (fun _ => ItX.put7 _ en rfl h7)
 have s8 := ItX.r_num _ _ 8 (if bad then 1 else 0) _ { Itm.It.z with kd := 1, hi := hi, lo := lo, id := id, par := par, nm := nm, st := st, en := en, bad := bad } (by omega) g8 b7 c8 (by rw [e8]; exact E q8) (fun h => by cases bad <;> simp at h ⊢; rfl) (fun h => by cases bad <;> simp at h ⊢; rfl)
 have s9 := ItX.r_num _ _ 9 rv _ { Itm.It.z with kd := 1, hi := hi, lo := lo, id := id, par := par, nm := nm, st := st, en := en, bad := bad, rv := rv } (by omega) h9 b8 c9 (by rw [e9]; exact E q9) (fun h => by subst h; rfl) (fun _ => rfl)
 have s10 := ItX.r_atts ats _ rest { Itm.It.z with kd := 1, hi := hi, lo := lo, id := id, par := par, nm := nm, st := st, en := en, bad := bad, rv := rv } rfl h11 (by show 0 + ats.length ≤ 100000; omega) b9 hr (E q10)
 rw [e1, ← q1] at s1
 rw [e2, ← q2] at s2
 rw [e3, ← q3] at s3
 rw [e4, ← q4] at s4
 rw [e5, ← q5] at s5
 rw [e6, ← q6] at s6
 rw [e7, ← q7] at s7
 rw [e8, ← q8] at s8
 rw [e9, ← q9] at s9
 rw [← q10] at s10
 have hend : (1 :: (N1 ++ (N2 ++ (N3 ++ (N4 ++ (N5 ++ (N6 ++ (N7 ++ (N8 ++ (N9 ++ Itm.attL ats)))))))))) = ((((((((([1] ++ N1) ++ N2) ++ N3) ++ N4) ++ N5) ++ N6) ++ N7) ++ N8) ++ N9) ++ Itm.attL ats := by simp only [List.append_assoc, List.cons_append, List.nil_append]
 rw [hend]
 exact ((((((((s1.trans s2).trans s3).trans s4).trans s5).trans s6).trans s7).trans s8).trans s9).trans s10

theorem ItX.put_k1 (x : Itm.It) (s : ByteArray) (hk : x.kd = 2) (h : s.size ≤ 200) : Itm.putF x 1 0 s = some { x with k := s } := by
 unfold Itm.putF
 rw [if_pos (by omega), if_neg (by omega), if_pos rfl]
theorem ItX.put_k4 (x : Itm.It) (s : ByteArray) (hk : x.kd = 2) (h : s.size ≤ 200) : Itm.putF x 4 0 s = some { x with b := s } := by
 unfold Itm.putF
 rw [if_pos (by omega), if_neg (by omega), if_neg (by decide), if_neg (by decide), if_neg (by decide), if_pos rfl]
theorem ItX.put_k2 (x : Itm.It) (n : Int) (hk : x.kd = 2) : Itm.putF x 2 n ⟨#[]⟩ = some { x with wt := n } := by
 unfold Itm.putF
 rw [if_pos (by decide), if_neg (by omega), if_neg (by decide), if_pos rfl]
theorem ItX.put_k3 (x : Itm.It) (n : Int) (hk : x.kd = 2) (h : 0 ≤ n ∧ n ≤ 1099511627776) : Itm.putF x 3 n ⟨#[]⟩ = some { x with t := n } := by
 unfold Itm.putF
 rw [if_pos (by decide), if_neg (by omega), if_neg (by decide), if_neg (by decide), if_pos rfl, ItX.w64 h]
theorem ItX.nil_of {s : ByteArray} (h : s.size = 0) : s = ⟨#[]⟩ := Itm.size_nil (by have := Itm.empty_eq s; rw [decide_eq_true h] at this; exact List.isEmpty_iff.mp this)
/-- The bytes of a log that may be are told back. -/
theorem ItX.r_log (k : ByteArray) (wt t : Int) (b : ByteArray) (rest : List Int) (h1 : k.size ≤ 60) (h2 : 0 ≤ wt ∧ wt < 18446744073709551616) (h3 : 0 ≤ t ∧ t ≤ 1099511627776) (h4 : b.size ≤ 200) (hr : bytesP rest)
  (hl : (2 :: (Itm.logL k wt t b ++ rest)).length ≤ 140737488355328) :
  ItX.Reach (2 :: (Itm.logL k wt t b ++ rest)) 1 { Itm.It.z with kd := 2 } (2 :: Itm.logL k wt t b).length ⟨2, 0, 0, 0, 0, ⟨#[]⟩, 0, 0, false, [], 0, k, wt, t, b⟩ := by
 have hb1 : bytesP [2] := bytesP_cons (by omega) bytesP_nil
 obtain ⟨L, hL⟩ : ∃ L, L = 2 :: (Itm.logL k wt t b ++ rest) := ⟨_, rfl⟩
 rw [← hL] at hl ⊢
 have n1 := ItX.txt_bytes 1 k
 have n2 := ItX.num_bytes 2 wt
 have n3 := ItX.num_bytes 3 t
 have n4 := ItX.txt_bytes 4 b
 have E : ∀ {hd mid r : List Int}, L = hd ++ (mid ++ r) → (hd ++ (mid ++ r)).length ≤ 140737488355328 := fun h => by rw [← h]; exact hl
 generalize e1 : Itm.txt 1 k = N1 at *
 generalize e2 : Itm.num 2 wt = N2 at *
 generalize e3 : Itm.num 3 t = N3 at *
 generalize e4 : Itm.txt 4 b = N4 at *
 have hS : Itm.logL k wt t b = N1 ++ (N2 ++ (N3 ++ N4)) := by unfold Itm.logL; rw [e1, e2, e3, e4]
 rw [hS] at hL ⊢
 clear hS
 have q1 : L = [2] ++ (N1 ++ (N2 ++ (N3 ++ (N4 ++ rest)))) := by rw [hL]; simp only [List.append_assoc, List.cons_append, List.nil_append]
 have q2 : L = ([2] ++ N1) ++ (N2 ++ (N3 ++ (N4 ++ rest))) := by rw [q1]; simp only [List.append_assoc]
 have q3 : L = (([2] ++ N1) ++ N2) ++ (N3 ++ (N4 ++ rest)) := by rw [q1]; simp only [List.append_assoc]
 have q4 : L = ((([2] ++ N1) ++ N2) ++ N3) ++ (N4 ++ rest) := by rw [q1]; simp only [List.append_assoc]
 have b1 := hb1.append n1
 have b2 := b1.append n2
 have b3 := b2.append n3
 have c3 := n4.append hr
 have c2 := n3.append c3
 have c1 := n2.append c2
 have s1 := ItX.r_txt [2] _ 1 k { Itm.It.z with kd := 2 } { Itm.It.z with kd := 2, k := k } (by omega) (by omega) hb1 c1 (by rw [e1]; exact E q1) (fun h => by rw [ItX.nil_of h]; rfl) (fun _ => ItX.put_k1 _ k rfl (by omega))
 have s2 := ItX.r_num _ _ 2 wt _ { Itm.It.z with kd := 2, k := k, wt := wt } (by omega) h2 b1 c2 (by rw [e2]; exact E q2) (fun h => by subst h; rfl) (fun _ => ItX.put_k2 _ wt rfl)
 have s3 := ItX.r_num _ _ 3 t _ { Itm.It.z with kd := 2, k := k, wt := wt, t := t } (by omega) (by omega) b2 c3 (by rw [e3]; exact E q3) (fun h => by subst h; rfl) (fun _ => ItX.put_k3 _ t rfl h3)
 have s4 := ItX.r_txt _ _ 4 b _ { Itm.It.z with kd := 2, k := k, wt := wt, t := t, b := b } (by omega) (by omega) b3 hr (by rw [e4]; exact E q4) (fun h => by rw [ItX.nil_of h]) (fun _ => ItX.put_k4 _ b rfl h4)
 rw [e1, ← q1] at s1
 rw [e2, ← q2] at s2
 rw [e3, ← q3] at s3
 rw [e4, ← q4] at s4
 have hend : (2 :: (N1 ++ (N2 ++ (N3 ++ N4)))) = ((([2] ++ N1) ++ N2) ++ N3) ++ N4 := by simp only [List.append_assoc, List.cons_append, List.nil_append]
 rw [hend]
 exact ((s1.trans s2).trans s3).trans s4

/-! ### an item that may be -/
theorem ItX.or_zero {a b : Int} (ha : 0 ≤ a ∧ a < 18446744073709551616) (hb : 0 ≤ b ∧ b < 18446744073709551616) (h : Go.bits .or .u64 a b = 0) : a = 0 ∧ b = 0 := by
 obtain ⟨m, rfl⟩ := Int.eq_ofNat_of_zero_le ha.1
 obtain ⟨n, rfl⟩ := Int.eq_ofNat_of_zero_le hb.1
 have h1 : ¬ n ≠ 0 := fun hn => ItB.or_ne m n (by omega) (by omega) hn h
 have h2 : ¬ m ≠ 0 := fun hm => ItB.or_ne n m (by omega) (by omega) hm (by rw [bits_or_comm]; exact h)
 omega
theorem ItX.or_rng (a b : Int) : 0 ≤ Go.bits .or .u64 a b ∧ Go.bits .or .u64 a b < 18446744073709551616 := by
 simp only [Go.bits, IntKind.bits]
 have := wrap_u64 (((BitVec.ofInt 64 a) ||| (BitVec.ofInt 64 b)).toNat : Int)
 show 0 ≤ IntKind.u64.wrap _ ∧ IntKind.u64.wrap _ < _
 rw [wrap_u64]
 omega
/-- A span that is nothing. -/
theorem ItX.empty_inv {hi lo id par : Int} {nm : ByteArray} {st en : Int} {bad : Bool} {l : List S36} {rv : Int} (h1 : 0 ≤ hi ∧ hi < 18446744073709551616) (h2 : 0 ≤ lo ∧ lo < 18446744073709551616) (h3 : 0 ≤ id ∧ id < 18446744073709551616) (h4 : 0 ≤ par ∧ par < 18446744073709551616) (h5 : 0 ≤ rv ∧ rv < 18446744073709551616)
  (h : item_empty.f hi lo id par nm st en bad l rv = some true) : hi = 0 ∧ lo = 0 ∧ id = 0 ∧ par = 0 ∧ nm = ⟨#[]⟩ ∧ st = 0 ∧ en = 0 ∧ bad = false ∧ l = [] ∧ rv = 0 := by
 unfold item_empty.f at h
 split at h
 ·rename_i c1
  split at h
  ·rename_i c2
   split at h
   ·rename_i c3
    split at h
    ·rename_i c4
     split at h
     ·cases h
     ·rename_i c5
      have c6 : (l.length : Int) = 0 := by simpa using Option.some.inj h
      obtain ⟨d1, e5⟩ := ItX.or_zero (ItX.or_rng _ _) h5 c1
      obtain ⟨d2, e4⟩ := ItX.or_zero (ItX.or_rng _ _) h4 d1
      obtain ⟨d3, e3⟩ := ItX.or_zero (ItX.or_rng _ _) h3 d2
      obtain ⟨e1, e2⟩ := ItX.or_zero h1 h2 d3
      exact ⟨e1, e2, e3, e4, Itm.size_nil c2, c3, c4, by simpa using c5, List.eq_nil_of_length_eq_zero (by omega), e5⟩
    ·cases h
   ·cases h
  ·cases h
 ·cases h
/-- What Encode of x tells. -/
def ItX.enc (x : Itm.It) : Option (List Int × Int) := item_Encode.f x.kd x.hi x.lo x.id x.par x.nm x.st x.en x.bad x.ats x.rv x.k x.wt x.t x.b
theorem ItX.attL_len : ∀ ats : List S36, (∀ a ∈ ats, a.f0.size ≤ 60 ∧ a.f1.size ≤ 60) → (Itm.attL ats).length ≤ 3000 * ats.length
 | [], _ => by decide
 | a :: ats, h => by
  have h1 := h a List.mem_cons_self
  have h2 := Itm.attT_size a (by omega) (by omega)
  have h3 := Itm.txt_len 10 (Itm.attT a) (by omega) (by omega)
  have h4 := ItX.attL_len ats (fun b hb => h b (List.mem_cons_of_mem _ hb))
  rw [ItX.attL_cons, List.length_append, List.length_cons]
  omega
/-- The bytes of an item that may be: told back from the first on, whatever stands behind. -/
theorem ItX.enc_reach (x : Itm.It) (L : List Int) (h : ItX.enc x = some (L, 0)) :
  bytesP L ∧ 2 ≤ L.length ∧ L.length ≤ 50000 ∧ ∀ rest, bytesP rest → rest.length ≤ 1000 → rd (L ++ rest) 0 = x.kd ∧ ItX.Reach (L ++ rest) 1 { Itm.It.z with kd := x.kd } L.length x := by
 obtain ⟨kd, hi, lo, id, par, nm, st, en, bad, ats, rv, k, wt, t, b⟩ := x
 unfold ItX.enc item_Encode.f at h
 dsimp only at h
 by_cases hg : Itm.enG hi lo id par nm ats rv k wt = true
 ·rw [if_pos hg] at h
  unfold Itm.enG at hg
  simp only [Bool.and_eq_true, Itm.u64B_iff, Itm.bigB_iff, List.all_eq_true] at hg
  obtain ⟨g1, g2, g3, g4, g5, g6, g7, g8, g9⟩ := hg
  by_cases h1 : kd = 1
  ·rw [if_pos h1] at h
   subst h1
   by_cases hs : Itm.rightSpan hi lo id nm st en ats rv = true ∧ (k.toList = [] ∧ wt = 0 ∧ t = 0 ∧ b.toList = [])
   ·rw [if_pos hs] at h
    obtain ⟨hs, z1, rfl, rfl, z4⟩ := hs
    obtain rfl := Itm.size_nil z1
    obtain rfl := Itm.size_nil z4
    injection h with h
    injection h with he1 he2
    subst he1
    obtain ⟨p1, p2, p3, p4, p5⟩ := Itm.right_parts hs
    have hlen : (Itm.spanL hi lo id par nm st en bad ats rv).length ≤ 40000 := by
     unfold Itm.spanL
     have l1 := Itm.num_len 1 hi (by omega) (by omega)
     have l2 := Itm.num_len 2 lo (by omega) (by omega)
     have l3 := Itm.num_len 3 id (by omega) (by omega)
     have l4 := Itm.num_len 4 par (by omega) (by omega)
     have l5 := Itm.txt_len 5 nm (by omega) (by omega)
     have l6 := Itm.num_len 6 st (by omega) (by omega)
     have l7 := Itm.num_len 7 en (by omega) (by omega)
     have l8 := Itm.num_len 8 (if bad then 1 else 0) (by omega) (by cases bad <;> decide)
     have l9 := Itm.num_len 9 rv (by omega) (by omega)
     have l0 := ItX.attL_len ats p5
     simp only [List.length_append]
     omega
    have hby : bytesP (Itm.spanL hi lo id par nm st en bad ats rv) := by
     unfold Itm.spanL
     exact (ItX.num_bytes _ _).append ((ItX.num_bytes _ _).append ((ItX.num_bytes _ _).append ((ItX.num_bytes _ _).append ((ItX.txt_bytes _ _).append ((ItX.num_bytes _ _).append ((ItX.num_bytes _ _).append ((ItX.num_bytes _ _).append ((ItX.num_bytes _ _).append (ItX.attL_bytes _)))))))))
    have hpos : 1 ≤ (Itm.spanL hi lo id par nm st en bad ats rv).length := by
     have hn : nm.size ≠ 0 := by
      intro h0
      have := ItX.nil_of h0
      subst this
      unfold Itm.rightSpan at hs
      simp only [Bool.and_eq_true] at hs
      have h3 := hs.2.2.2.1
      exact absurd h3 (by decide +kernel)
     unfold Itm.spanL Itm.txt
     rw [if_neg hn]
     have := putL_pos (2 * 5 + 1 : Int).toNat
     simp only [List.length_append]
     omega
    refine ⟨bytesP_cons (by omega) hby, by rw [List.length_cons]; omega, by rw [List.length_cons]; omega, fun rest hr hrl => ⟨by simp [rd], ?_⟩⟩
    exact ItX.r_span hi lo id par nm st en bad ats rv rest g1 g2 g3 g4 p1 p2 p3 g5 p4 p5 hr (by rw [List.length_cons, List.length_append]; omega)
   ·rw [if_neg hs] at h
    simp at h
  ·rw [if_neg h1] at h
   by_cases h2 : kd = 2
   ·rw [if_pos h2] at h
    subst h2
    by_cases hs : Itm.rightLog k wt t b = true ∧ item_empty.f hi lo id par nm st en bad ats rv = some true
    ·rw [if_pos hs] at h
     obtain ⟨hs, hz⟩ := hs
     injection h with h
     injection h with he1 he2
     subst he1
     obtain ⟨p1, p2, p3, p4⟩ := Itm.log_parts hs
     obtain ⟨rfl, rfl, rfl, rfl, rfl, rfl, rfl, rfl, rfl, rfl⟩ := ItX.empty_inv g1 g2 g3 g4 g5 hz
     have hlen : (Itm.logL k wt t b).length ≤ 40000 := by
      unfold Itm.logL
      have l1 := Itm.txt_len 1 k (by omega) (by omega)
      have l2 := Itm.num_len 2 wt (by omega) (by omega)
      have l3 := Itm.num_len 3 t (by omega) (by omega)
      have l4 := Itm.txt_len 4 b (by omega) (by omega)
      simp only [List.length_append]
      omega
     have hby : bytesP (Itm.logL k wt t b) := by
      unfold Itm.logL
      exact (ItX.txt_bytes _ _).append ((ItX.num_bytes _ _).append ((ItX.num_bytes _ _).append (ItX.txt_bytes _ _)))
     have hpos : 1 ≤ (Itm.logL k wt t b).length := by
      unfold Itm.logL Itm.num
      rw [if_neg (show ¬ wt = 0 by omega)]
      have := putL_pos (2 * 2 : Int).toNat
      simp only [List.length_append]
      omega
     refine ⟨bytesP_cons (by omega) hby, by rw [List.length_cons]; omega, by rw [List.length_cons]; omega, fun rest hr hrl => ⟨by simp [rd], ?_⟩⟩
     exact ItX.r_log k wt t b rest p1 (by omega) p3 p4 hr (by rw [List.length_cons, List.length_append]; omega)
    ·rw [if_neg hs] at h
     simp at h
   ·rw [if_neg h2] at h
    simp at h
 ·rw [if_neg hg] at h; cases h
/-- What was written is told back. -/
theorem ItX.back (x : Itm.It) (L : List Int) (h : ItX.enc x = some (L, 0)) : Itm.dec L = some (x, 0) := by
 obtain ⟨hb, hl, hl2, hR⟩ := ItX.enc_reach x L h
 obtain ⟨hk, j, hj, hp⟩ := hR [] bytesP_nil (by decide)
 rw [List.append_nil] at hk hp
 unfold Itm.dec
 rw [if_neg (by omega), hk]
 obtain ⟨m, hm⟩ : ∃ m, L.length + 1 = (m + 1) + j := ⟨L.length - j, by omega⟩
 have := hp (m + 1)
 rw [Int.natCast_one] at this
 rw [hm, this, Itm.parse, if_neg (by omega), Option.bind_some]
 unfold Itm.fin
 dsimp only
 unfold ItX.enc at h
 rw [h, Option.bind_some]
 dsimp only
 rw [if_pos rfl]
 unfold bytes_Equal.f
 rw [Option.bind_some, if_pos (by simp)]
/-- One byte more: it is none. -/
theorem ItX.more (x : Itm.It) (L : List Int) (m : Int) (h : ItX.enc x = some (L, 0)) (hm : 0 ≤ m ∧ m ≤ 255) : Itm.dec (L ++ [m]) = some (Itm.It.z, 40) := by
 obtain ⟨hb, hl, hl2, hR⟩ := ItX.enc_reach x L h
 have hbm : bytesP [m] := bytesP_cons hm bytesP_nil
 obtain ⟨hk, j, hj, hp⟩ := hR [m] hbm (by simp)
 unfold Itm.dec
 rw [if_neg (by rw [List.length_append]; omega), hk]
 have hlen : (L ++ [m]).length = L.length + 1 := by rw [List.length_append, List.length_singleton]
 obtain ⟨n, hn⟩ : ∃ n, (L ++ [m]).length + 1 = (n + 1) + j := ⟨L.length + 1 - j, by omega⟩
 have hp2 := hp (n + 1)
 rw [Int.natCast_one] at hp2
 have hall := hb.append hbm
 have hf : Itm.fieldF (L ++ [m]) (L.length : Int) = some none := by
  have g1 := get_eq (L ++ [m]) (L.length : Int) hall (by omega) (by omega) (by omega)
  rw [Int.toNat_natCast, List.drop_left] at g1
  have g2 : num_Get.f (L ++ [m]) ((L.length : Int) + 1) = some (0, 0, 10) := by
   rw [get_eq (L ++ [m]) _ hall (by omega) (by omega) (by omega), show ((L.length : Int) + 1).toNat = (L ++ [m]).length by omega, List.drop_length]
   rfl
  unfold Itm.fieldF
  by_cases hs : m < 128
  ·have e1 : getR [m] (L.length : Int) = (m, (L.length : Int) + 1, 0) := by
    have := getR_put (n := m.toNat) (by omega) [] (L.length : Int)
    rw [putL_small (by omega), show ((m.toNat : Nat) : Int) = m by omega, List.append_nil] at this
    exact this
   rw [g1, e1, Option.bind_some]
   dsimp only
   rw [if_pos rfl, if_pos ⟨by omega, by omega⟩, ItX.and_one_i (by omega) (by omega)]
   by_cases hp1 : m % 2 = 1
   ·rw [if_pos hp1, ItX.getText_err g2 (by decide), Option.bind_some]
    rfl
   ·rw [if_neg hp1, if_pos (by omega), g2, Option.bind_some]
    rfl
  ·have e1 : getR [m] (L.length : Int) = (0, 0, 10) := by
    have : stopL ([m].take 10) = none := by
     show stopL [m] = none
     rw [stopL, if_neg (by omega)]
     rfl
    unfold getR
    rw [this]
    rfl
   rw [g1, e1, Option.bind_some]
   rfl
 rw [hn, hp2, Itm.parse, if_pos (by omega), hf, Option.bind_some]
 rfl
end Go.Proofs.Ytfapckmobeppnaa.Px
