/- The document's numbers, texts, names and times tell what the program's tell. -/
import Derived.Test.YtfapckmobeppnaaItmX
import Derived.Test.YtfapckmobeppnaaPx29
namespace Go.Proofs.Ytfapckmobeppnaa.Px
open Go.RowKit Go.Proofs.YtfapckmobeppnaaW.PrintWords Go.Proofs.YtfapckmobeppnaaW.PrintLast Go.Proofs.YtfapckmobeppnaaW.PrintMore
set_option linter.unusedVariables false
set_option linter.unusedSimpArgs false

/-! ### numbers -/
theorem RfA.put_l0 (d : Nat) : ∀ (k x : Nat) (acc : List Int), x < 18446744073709551616 → x < 128 ^ (d + 1) → d < k → acc.length + d < 140737488355328 → telemeterref01_Put.l0 k (x : Int) acc = some (acc ++ putL x) := by
 induction d with
 | zero =>
  intro k x acc hx hx1 hk hl
  obtain ⟨k, rfl⟩ : ∃ j, k = j + 1 := ⟨k - 1, by omega⟩
  have hs : x < 128 := by simpa using hx1
  rw [telemeterref01_Put.l0, if_neg (by omega), if_pos (by omega), putL_small hs]
  congr 3
  omega
 | succ d ih =>
  intro k x acc hx hx1 hk hl
  obtain ⟨k, rfl⟩ : ∃ j, k = j + 1 := ⟨k - 1, by omega⟩
  by_cases hs : x < 128
  ·rw [telemeterref01_Put.l0, if_neg (by omega), if_pos (by omega), putL_small hs]
   congr 3
   omega
  ·have e1 : IntKind.u64.wrap (Int.tdiv (x : Int) 128) = ((x / 128 : Nat) : Int) := by
    rw [Int.tdiv_eq_ediv_of_nonneg (by omega), wrap_u64_id (by omega) (by omega)]; omega
   have e2 : IntKind.u64.wrap ((Int.tmod (x : Int) 128) + 128) % 256 = ((x % 128 + 128 : Nat) : Int) := by
    rw [Int.tmod_eq_emod_of_nonneg (by omega), wrap_u64_id (by omega) (by omega)]; omega
   have hd : x / 128 < 128 ^ (d + 1) := by
    rw [Nat.pow_succ] at hx1
    exact Nat.div_lt_of_lt_mul (by rw [Nat.mul_comm]; exact hx1)
   rw [telemeterref01_Put.l0, if_pos (by omega), if_pos (by omega), e1, e2, ih k (x / 128) _ (by omega) hd (by omega) (by rw [List.length_append, List.length_singleton]; omega), putL_great hs, List.append_assoc]
   rfl
theorem RfA.put {n : Int} (h0 : 0 ≤ n) (h : n < 18446744073709551616) (k : Nat) (hk : 10 ≤ k) : telemeterref01_Put.f k n = some (putL n.toNat) := by
 unfold telemeterref01_Put.f
 have := RfA.put_l0 9 k n.toNat [] (by omega) (Nat.lt_of_lt_of_le (show n.toNat < 18446744073709551616 by omega) (by decide)) (by omega) (by show 0 + 9 < _; omega)
 rw [show ((n.toNat : Nat) : Int) = n from by omega] at this
 rw [this, List.nil_append]
theorem RfA.number (f n : Int) (hf : 0 < f ∧ f ≤ 10) (hn : 0 ≤ n ∧ n < 18446744073709551616) (k : Nat) (hk : 10 ≤ k) : telemeterref03_number.f k f n = some (Itm.num f n) := by
 have l1 := putL_ten (n := (2 * f).toNat) (by omega)
 have l2 := putL_ten (n := n.toNat) (by omega)
 unfold telemeterref03_number.f Itm.num
 by_cases h : n = 0
 ·rw [if_pos h, if_pos h]
 ·rw [if_neg h, if_neg h, wrap64_id (by omega) (by omega), wrap_u64_id (by omega) (by omega), RfA.put (by omega) (by omega) k hk, Option.bind_some, RfA.put hn.1 hn.2 k hk, Option.bind_some, if_pos (by omega)]
theorem RfA.putText (s : ByteArray) (hs : s.size ≤ 100000) (k : Nat) (hk : 10 ≤ k) : telemeterref01_PutText.f k s = some (putL s.size ++ bytesOf s) := by
 have l1 := putL_ten (n := s.size) (by omega)
 unfold telemeterref01_PutText.f
 rw [wrap_u64_id (by omega) (by omega), RfA.put (by omega) (by omega) k hk, Option.bind_some, Int.toNat_natCast, if_pos (by omega)]
theorem RfA.nil_iff (s : ByteArray) : s.toList = ([] : List UInt8) ↔ s.size = 0 := by
 have h := Itm.empty_eq s
 constructor
 ·intro h0
  rw [h0] at h
  have : decide (s.size = 0) = true := h.symm
  exact of_decide_eq_true this
 ·intro h0
  rw [decide_eq_true h0] at h
  exact List.isEmpty_iff.mp h
theorem RfA.text (f : Int) (s : ByteArray) (hf : 0 < f ∧ f ≤ 10) (hs : s.size ≤ 100000) (k : Nat) (hk : 10 ≤ k) : telemeterref03_text.f k f s = some (Itm.txt f s) := by
 have l1 := putL_ten (n := (2 * f + 1).toNat) (by omega)
 have l2 := putL_ten (n := s.size) (by omega)
 unfold telemeterref03_text.f Itm.txt
 by_cases h : s.size = 0
 ·rw [if_pos ((RfA.nil_iff s).mpr h), if_pos h]
 ·rw [if_neg (fun hh => h ((RfA.nil_iff s).mp hh)), if_neg h, wrap64_id (n := 2 * f) (by omega) (by omega), wrap64_id (n := 2 * f + 1) (by omega) (by omega), wrap_u64_id (by omega) (by omega), RfA.put (by omega) (by omega) k hk, Option.bind_some, RfA.putText s hs k hk, Option.bind_some, if_pos (by rw [List.length_append, bytesOf_len]; omega)]
theorem RfA.joined_l0 (x : List (List Int)) (hx : x.length ≤ 100000) : ∀ (d k i : Nat) (acc : List Int), i + d = x.length → d < k → acc.length + (x.drop i).flatten.length < 140737488355328 → telemeterref03_joined.l0 k x acc (i : Int) = some (acc ++ (x.drop i).flatten)
 | 0, 0, i, acc, hi, hk, hl => absurd hk (by omega)
 | d + 1, 0, i, acc, hi, hk, hl => absurd hk (by omega)
 | 0, k + 1, i, acc, hi, hk, hl => by
  rw [telemeterref03_joined.l0, if_neg (by omega), List.drop_of_length_le (by omega), List.flatten_nil, List.append_nil]
 | d + 1, k + 1, i, acc, hi, hk, hl => by
  have hd : x.drop i = x[i]'(by omega) :: x.drop (i + 1) := List.drop_eq_getElem_cons (by omega)
  have hr : rd_L1 x (i : Int) = x[i]'(by omega) := by
   unfold rd_L1
   rw [Int.toNat_natCast, List.getD_eq_getElem?_getD, List.getElem?_eq_getElem (by omega)]; rfl
  rw [hd, List.flatten_cons] at hl ⊢
  rw [List.length_append] at hl
  rw [telemeterref03_joined.l0, if_pos (by omega), if_pos (by omega), hr, if_pos (by omega), wrap64_id (by omega) (by omega)]
  have := RfA.joined_l0 x hx d k (i + 1) (acc ++ x[i]'(by omega)) (by omega) (by omega) (by rw [List.length_append]; omega)
  rw [show ((i : Int) + 1) = ((i + 1 : Nat) : Int) from rfl, this, List.append_assoc]
theorem RfA.joined (x : List (List Int)) (hx : x.length ≤ 100000) (hl : x.flatten.length < 140737488355328) (k : Nat) (hk : x.length < k) : telemeterref03_joined.f k x = some x.flatten := by
 unfold telemeterref03_joined.f
 have := RfA.joined_l0 x hx x.length k 0 [] (by omega) hk (by simpa using hl)
 rw [Int.natCast_zero] at this
 rw [this]
 rfl

/-! ### names -/
theorem RfA.bt_eq (s : ByteArray) (i : Nat) (h : i < s.size) : (bytesOf s).drop i = bt s (i : Int) :: (bytesOf s).drop (i + 1) := by
 have hl := bytesOf_len s
 rw [List.drop_eq_getElem_cons (by omega)]
 congr 1
 unfold bytesOf bt
 simp only [Int.toNat_natCast, dif_pos h, List.getElem_map, Array.getElem_toList]
 rfl
theorem RfA.name_l0 (s : ByteArray) (hs : s.size ≤ 9000000000000000) : ∀ (d k i : Nat), i + d = s.size → d < k → telemeterref03_name.l0 k s (i : Int) = some (((bytesOf s).drop i).all Itm.ch && (!s.toList.isEmpty && decide ((s.size : Int) ≤ 60)))
 | 0, 0, i, hi, hk => absurd hk (by omega)
 | d + 1, 0, i, hi, hk => absurd hk (by omega)
 | 0, k + 1, i, hi, hk => by
  rw [telemeterref03_name.l0, if_neg (by omega), List.drop_of_length_le (by rw [bytesOf_len]; omega), Itm.empty_eq]
  by_cases h : (s.size : Int) > 0
  ·rw [if_pos h, decide_eq_false (show ¬ s.size = 0 by omega)]; rfl
  ·rw [if_neg h, decide_eq_true (show s.size = 0 by omega)]; rfl
 | d + 1, k + 1, i, hi, hk => by
  rw [RfA.bt_eq s i (by omega), List.all_cons]
  rw [telemeterref03_name.l0, if_pos (by omega), if_pos (by omega), wrap64_id (by omega) (by omega)]
  unfold Itm.ch
  by_cases h1 : bt s (i : Int) < 33
  ·rw [if_pos h1, decide_eq_false (show ¬ 33 ≤ bt s (i : Int) by omega)]; rfl
  ·rw [if_neg h1, decide_eq_true (show 33 ≤ bt s (i : Int) by omega)]
   by_cases h2 : bt s (i : Int) > 126
   ·rw [if_pos h2, decide_eq_false (show ¬ bt s (i : Int) ≤ 126 by omega)]; rfl
   ·rw [if_neg h2, decide_eq_true (show bt s (i : Int) ≤ 126 by omega)]
    have := RfA.name_l0 s hs d k (i + 1) (by omega) (by omega)
    rw [show ((i : Int) + 1) = ((i + 1 : Nat) : Int) from rfl, this]
    rfl
theorem RfA.name (s : ByteArray) (hs : s.size ≤ 9000000000000000) (k : Nat) (hk : s.size < k) : telemeterref03_name.f k s = some (Itm.nameB s) := by
 unfold telemeterref03_name.f
 have := RfA.name_l0 s hs s.size k 0 (by omega) hk
 rw [Int.natCast_zero] at this
 rw [this]
 rfl
theorem RfA.time (n : Int) : telemeterref03_time.f n = some (Itm.timeB n) := by
 unfold telemeterref03_time.f Itm.timeB
 by_cases h : n ≥ 0
 ·rw [if_pos h, decide_eq_true h]; rfl
 ·rw [if_neg h, decide_eq_false h]; rfl

/-! ### orders -/
theorem RfA.le_not : ∀ a b : List UInt8, (Op.bytesLess a b || a == b) = !Op.bytesLess b a
 | [], [] => rfl
 | [], b :: y => rfl
 | a :: x, [] => rfl
 | a :: x, b :: y => by
  have ih := RfA.le_not x y
  simp only [Op.bytesLess, List.cons_beq_cons]
  rcases (show a < b ∨ a = b ∨ b < a from by rcases Nat.lt_trichotomy a.toNat b.toNat with h | h | h; exact Or.inl (UInt8.lt_iff_toNat_lt.mpr h); exact Or.inr (Or.inl (UInt8.toNat_inj.mp h)); exact Or.inr (Or.inr (UInt8.lt_iff_toNat_lt.mpr h))) with h | h | h
  ·have h1 : ¬ b < a := UInt8.lt_asymm h
   have h2 : (b == a) = false := beq_eq_false_iff_ne.mpr (UInt8.ne_of_lt h).symm
   simp [h, h1, h2]
  ·subst h
   have h1 : ¬ a < a := UInt8.lt_irrefl a
   simp only [h1, decide_false, beq_self_eq_true, Bool.true_and, Bool.false_or]
   exact ih
  ·have h1 : ¬ a < b := UInt8.lt_asymm h
   have h2 : (a == b) = false := beq_eq_false_iff_ne.mpr (UInt8.ne_of_lt h).symm
   simp [h, h1, h2]
theorem RfA.le_eq (a b : ByteArray) : Itm.leB a b = !Op.bytesLess b.toList a.toList := RfA.le_not _ _
theorem RfA.le_nil (a : ByteArray) (h : Itm.nameB a = true) : Itm.leB a ⟨#[]⟩ = false := by
 have h0 : ¬ a.toList = [] := by
  intro h0
  unfold Itm.nameB at h
  rw [h0] at h
  simp at h
 have h1 : (⟨#[]⟩ : ByteArray).toList = [] := (RfA.nil_iff _).mpr rfl
 unfold Itm.leB
 rw [h1]
 cases ha : a.toList with
 | nil => exact absurd ha h0
 | cons x r => rfl
def RfA.lastOf (l : List S36) (i : Nat) : ByteArray := if i = 0 then ⟨#[]⟩ else (l.getD (i - 1) z36).f0
theorem RfA.or_eq {a b : Int} (ha : 0 ≤ a ∧ a < 18446744073709551616) (hb : 0 ≤ b ∧ b < 18446744073709551616) : (Go.bits .or .u64 a b != 0) = !(decide (a = 0) && decide (b = 0)) := by
 by_cases h : Go.bits .or .u64 a b = 0
 ·obtain ⟨h1, h2⟩ := ItX.or_zero ha hb h
  rw [h, decide_eq_true h1, decide_eq_true h2]; rfl
 ·rw [bne_iff_ne.mpr h]
  by_cases h1 : a = 0
  ·by_cases h2 : b = 0
   ·subst h1; subst h2; exact absurd (by decide +kernel) h
   ·rw [decide_eq_false h2]; simp
  ·rw [decide_eq_false h1]; simp
theorem RfA.name_calls (s : ByteArray) (w : World) (hs : s.size ≤ 9000000000000000) : Calls Try.prog 44 #[.string s] w fun e w' => e = .returned (.bool (Itm.nameB s)) ∧ Drawn0 w w' :=
 telemeterref03_name.calls (s.size + 1) s _ w (RfA.name s hs _ (Nat.lt_succ_self _))
theorem RfA.time_calls (n : Int) (w : World) : Calls Try.prog 45 #[.int .i64 n] w fun e w' => e = .returned (.bool (Itm.timeB n)) ∧ Drawn0 w w' := telemeterref03_time.calls n _ w (RfA.time n)
theorem RfA.right_eq (hi lo id : Int) (nm : ByteArray) (st en : Int) (l : List S36) (rv : Int) (h1 : 0 ≤ hi ∧ hi < 18446744073709551616) (h2 : 0 ≤ lo ∧ lo < 18446744073709551616) : Itm.rightSpan hi lo id nm st en l rv =
  (Itm.ordB ⟨#[]⟩ l && ((!(decide (hi = 0) && decide (lo = 0))) && (!(decide (id = 0)) && (Itm.nameB nm && (Itm.timeB st && (Itm.timeB en && (!(decide (en < st)) && (!(decide (8 < (l.length : Int))) && (!(l.any Itm.oddB) && !(decide (72057594037927936 < rv))))))))))) := by
 unfold Itm.rightSpan
 have e1 : decide (st ≤ en) = !decide (en < st) := by by_cases h : en < st; rw [decide_eq_true h, decide_eq_false (by omega)]; rfl; rw [decide_eq_false h, decide_eq_true (by omega)]; rfl
 have e2 : decide ((l.length : Int) ≤ 8) = !decide (8 < (l.length : Int)) := by by_cases h : 8 < (l.length : Int); rw [decide_eq_true h, decide_eq_false (by omega)]; rfl; rw [decide_eq_false h, decide_eq_true (by omega)]; rfl
 have e3 : decide (rv ≤ 72057594037927936) = !decide (72057594037927936 < rv) := by by_cases h : 72057594037927936 < rv; rw [decide_eq_true h, decide_eq_false (by omega)]; rfl; rw [decide_eq_false h, decide_eq_true (by omega)]; rfl
 have e4 : (id != 0) = !decide (id = 0) := by by_cases h : id = 0; rw [decide_eq_true h, h]; rfl; rw [decide_eq_false h, bne_iff_ne.mpr h]; rfl
 rw [RfA.or_eq h1 h2, e1, e2, e3, e4]
end Go.Proofs.Ytfapckmobeppnaa.Px
