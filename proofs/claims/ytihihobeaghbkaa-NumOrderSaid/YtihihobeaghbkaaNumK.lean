/- What the chapter's examples come to: known answers true; and what PutText, GetText, Zig, Zag answer. -/
import Derived.Test.YtihihobeaghbkaaNumQ
import Derived.Laws.Strings
import Derived.Test.YtihihobeaghbkaaPx8
namespace Go.Proofs.Ytihihobeaghbkaa.Px
open Go.RowKit Go.Proofs.YtihihobeaghbkaaW.PrintWords Go.Proofs.YtihihobeaghbkaaW.PrintLast Go.Proofs.YtihihobeaghbkaaW.PrintMore
set_option linter.unusedVariables false
set_option linter.unusedSimpArgs false

theorem put_eq {n : Int} (h0 : 0 ≤ n) (h : n < 18446744073709551616) : num_Put.f n = some (putL n.toNat) := by
  unfold num_Put.f; rw [if_pos ⟨h0, h⟩]

theorem putText_eq (s : ByteArray) (h : s.size ≤ 140737488355000) : num_PutText.f s = some (putL s.size ++ bytesOf s) := by
  have h10 := putL_ten (n := s.size) (by omega)
  unfold num_PutText.f
  rw [wrap_u64_id (by omega) (by omega), put_eq (by omega) (by omega)]
  simp only [Option.bind_some, Int.toNat_natCast]
  rw [if_pos (by omega)]

theorem getText_eq {l : List Int} {p n q m : Int} (hg : num_Get.f l p = some (n, q, 0)) (h0 : 0 ≤ n) (h1 : n < 18446744073709551616) (h2 : 0 ≤ q) (h3 : q ≤ (l.length : Int)) (h4 : m < 9223372036854775808) (h5 : l.length ≤ 140737488355328) :
    num_GetText.f l p m = (if m < 0 then some (⟨#[]⟩, 0, 3) else if m < n then some (⟨#[]⟩, 0, 3) else if (l.length : Int) - q < n then some (⟨#[]⟩, 0, 10)
      else some (strOfNums ((l.drop q.toNat).take n.toNat), q + n, 0)) := by
  unfold num_GetText.f
  rw [hg]
  simp only [Option.bind_some, if_true]
  rw [if_pos ⟨h0, h1, h2, h3, h4, h5⟩]

theorem getText_err {l : List Int} {p n q m e : Int} (hg : num_Get.f l p = some (n, q, e)) (he : e ≠ 0) : num_GetText.f l p m = some (⟨#[]⟩, 0, e) := by
  unfold num_GetText.f
  rw [hg]
  simp only [Option.bind_some]
  rw [if_neg he]

/-- a text that was put is told back, wherever it stands -/
theorem getText_put (s : ByteArray) (hd rest : List Int) (hh : bytesP hd) (hr : bytesP rest) (hl : (hd ++ ((putL s.size ++ bytesOf s) ++ rest)).length ≤ 140737488355328) (m : Int) (h4 : m < 9223372036854775808) :
    num_GetText.f (hd ++ ((putL s.size ++ bytesOf s) ++ rest)) (hd.length : Int) m =
      if m < (s.size : Int) then some (⟨#[]⟩, 0, 3) else some (s, (hd.length : Int) + ((putL s.size ++ bytesOf s).length : Int), 0) := by
  have hlen : (hd ++ ((putL s.size ++ bytesOf s) ++ rest)).length = hd.length + ((putL s.size).length + s.size + rest.length) := by
    simp only [List.length_append, bytesOf_len]
  have hg := get_put (n := s.size) (by rw [hlen] at hl; omega) hd (bytesOf s ++ rest) hh ((bytesOf_bytes s).append hr) (by rw [← List.append_assoc (putL s.size)]; exact hl)
  rw [← List.append_assoc (putL s.size)] at hg
  rw [getText_eq hg (by omega) (by rw [hlen] at hl; omega) (by omega) (by rw [hlen]; omega) h4 hl]
  by_cases hm : m < (s.size : Int)
  · simp only [if_pos hm]
    by_cases h0 : m < 0
    · simp only [if_pos h0]
    · simp only [if_neg h0]
  · rw [if_neg (by omega), if_neg hm, if_neg hm, if_neg (by rw [hlen]; omega)]
    have e : ((hd ++ ((putL s.size ++ bytesOf s) ++ rest)).drop ((hd.length : Int) + ((putL s.size).length : Int)).toNat).take ((s.size : Int)).toNat = bytesOf s := by
      rw [show ((hd.length : Int) + ((putL s.size).length : Int)).toNat = hd.length + (putL s.size).length from by omega, Int.toNat_natCast, ← List.drop_drop, List.drop_left, List.append_assoc, List.drop_left, ← bytesOf_len s, List.take_left]
    rw [e, strOfNums_bytesOf]
    simp only [List.length_append, bytesOf_len, Option.some.injEq, Prod.mk.injEq, true_and, and_true]
    omega

/-! ### signs -/
theorem xor_ones (n : Nat) (h : n < 18446744073709551616) : Go.bits .xor .u64 (n : Int) 18446744073709551615 = 18446744073709551615 - (n : Int) := by
  have e : (18446744073709551615 : Int) = ((18446744073709551615 : Nat) : Int) := rfl
  have hb : (BitVec.ofNat 64 18446744073709551615) = BitVec.allOnes 64 := by decide
  simp only [Go.bits, IntKind.bits]
  rw [e, BitVec.ofInt_natCast, BitVec.ofInt_natCast]
  show IntKind.u64.wrap ((BitVec.ofNat 64 n ^^^ BitVec.ofNat 64 18446744073709551615).toNat : Int) = _
  rw [hb, BitVec.xor_allOnes, BitVec.toNat_not, BitVec.toNat_ofNat, wrap_u64]
  have : n % 2 ^ 64 = n := Nat.mod_eq_of_lt h
  rw [this]
  omega

theorem xor_nought (n : Nat) (h : n < 18446744073709551616) : Go.bits .xor .u64 (n : Int) 0 = (n : Int) := by
  have e : (0 : Int) = ((0 : Nat) : Int) := rfl
  simp only [Go.bits, IntKind.bits]
  rw [e, BitVec.ofInt_natCast, BitVec.ofInt_natCast]
  show IntKind.u64.wrap ((BitVec.ofNat 64 n ^^^ BitVec.ofNat 64 0).toNat : Int) = _
  rw [BitVec.toNat_xor, BitVec.toNat_ofNat, BitVec.toNat_ofNat, wrap_u64]
  have : n % 2 ^ 64 = n := Nat.mod_eq_of_lt h
  rw [this]
  simp
  omega

theorem zig_eq {n : Int} (h0 : -9223372036854775808 ≤ n) (h : n < 9223372036854775808) : num_Zig.f n = some (if n < 0 then -2 * n - 1 else 2 * n) := by
  unfold num_Zig.f
  by_cases hn : n < 0
  · rw [if_pos hn, show n / 9223372036854775808 = -1 from by omega, show IntKind.u64.wrap (-1) = 18446744073709551615 from by rw [wrap_u64]; rfl]
    have e : IntKind.u64.wrap (wrap64 (n * 2)) = ((n * 2 + 18446744073709551616).toNat : Int) := by rw [wrap_u64]; unfold wrap64; omega
    rw [e, xor_ones _ (by omega)]
    congr 1; omega
  · rw [if_neg hn, show n / 9223372036854775808 = 0 from by omega, show IntKind.u64.wrap 0 = 0 from by rw [wrap_u64]; rfl]
    have e : IntKind.u64.wrap (wrap64 (n * 2)) = ((n * 2).toNat : Int) := by rw [wrap_u64]; unfold wrap64; omega
    rw [e, xor_nought _ (by omega)]
    congr 1; omega

theorem and_one (n : Nat) (h : n < 18446744073709551616) : Go.bits .and .u64 (n : Int) 1 = ((n % 2 : Nat) : Int) := by
  rw [show (1 : Int) = ((1 : Nat) : Int) from rfl, (bits_nat .u64 64 (by decide) wraps_u64 n 1 (by omega) (by decide)).1, Nat.and_one_is_mod]

theorem xor_minus (n : Nat) (h : n < 9223372036854775808) : Go.bits .xor .i64 (n : Int) (-1) = -1 - (n : Int) := by
  have hb : (BitVec.ofInt 64 (-1)) = BitVec.allOnes 64 := by decide
  simp only [Go.bits, IntKind.bits]
  rw [BitVec.ofInt_natCast]
  show IntKind.i64.wrap ((BitVec.ofNat 64 n ^^^ BitVec.ofInt 64 (-1)).toNat : Int) = _
  rw [hb, BitVec.xor_allOnes, BitVec.toNat_not, BitVec.toNat_ofNat, IntKind.wrap_i64]
  have : n % 2 ^ 64 = n := Nat.mod_eq_of_lt (by omega)
  rw [this]
  omega

theorem xor_nought_i (n : Nat) (h : n < 9223372036854775808) : Go.bits .xor .i64 (n : Int) 0 = (n : Int) := by
  have e : (0 : Int) = ((0 : Nat) : Int) := rfl
  simp only [Go.bits, IntKind.bits]
  rw [e, BitVec.ofInt_natCast, BitVec.ofInt_natCast]
  show IntKind.i64.wrap ((BitVec.ofNat 64 n ^^^ BitVec.ofNat 64 0).toNat : Int) = _
  rw [BitVec.toNat_xor, BitVec.toNat_ofNat, BitVec.toNat_ofNat, IntKind.wrap_i64]
  have : n % 2 ^ 64 = n := Nat.mod_eq_of_lt (by omega)
  rw [this]
  simp
  omega

theorem zag_eq {n : Int} (h0 : 0 ≤ n) (h : n < 18446744073709551616) : num_Zag.f n = some (if n % 2 = 1 then -1 - n / 2 else n / 2) := by
  unfold num_Zag.f
  obtain ⟨m, rfl⟩ : ∃ m : Nat, n = (m : Int) := ⟨n.toNat, by omega⟩
  rw [and_one m (by omega)]
  have e : wrap64 ((m : Int) / 2) = ((m / 2 : Nat) : Int) := by unfold wrap64; omega
  rw [e]
  by_cases hm : (m : Int) % 2 = 1
  · rw [if_pos hm, show m % 2 = 1 from by omega, show wrap64 (-(wrap64 ((1 : Nat) : Int))) = -1 from by unfold wrap64; rfl, xor_minus _ (by omega)]
    congr 1
  · rw [if_neg hm, show m % 2 = 0 from by omega, show wrap64 (-(wrap64 ((0 : Nat) : Int))) = 0 from by unfold wrap64; rfl, xor_nought_i _ (by omega)]
    congr 1

/-! ### the examples -/
theorem put300 : putL 300 = [172, 2] := by rw [putL_great (by decide), putL_small (by decide)]; rfl

theorem known_true : telemeterlaw01_known.f = some true := by
  have h1 : num_Put.f 300 = some [172, 2] := by rw [put_eq (by decide) (by decide)]; exact congrArg some put300
  have h2 : num_Get.f [172, 2] 0 = some (300, 2, 0) := by
    have := get_put (n := 300) (by decide) [] [] bytesP_nil bytesP_nil (by rw [put300]; decide)
    rw [put300] at this
    exact this
  have h3 : num_Get.f [128, 0] 0 = some (0, 0, 31) := by
    rw [get_eq _ _ (fun x hx => by simp at hx; omega) (by decide) (by decide) (by decide)]; rfl
  have hp2 : putL 2 = [2] := putL_small (by decide)
  have h4 : num_PutText.f ⟨#[97, 98]⟩ = some [2, 97, 98] := by
    rw [putText_eq _ (by decide)]
    show some (putL 2 ++ bytesOf ⟨#[97, 98]⟩) = _
    rw [hp2]; rfl
  have h5 : num_GetText.f [2, 97, 98] 0 2 = some (⟨#[97, 98]⟩, 3, 0) := by
    have := getText_put ⟨#[97, 98]⟩ [] [] bytesP_nil bytesP_nil (by
      show (([] : List Int) ++ ((putL 2 ++ bytesOf ⟨#[97, 98]⟩) ++ [])).length ≤ _
      rw [hp2]; decide) 2 (by decide)
    rw [if_neg (by decide)] at this
    change num_GetText.f ([] ++ ((putL 2 ++ bytesOf ⟨#[97, 98]⟩) ++ [])) 0 2 = some (_, (0 : Int) + ((putL 2 ++ bytesOf ⟨#[97, 98]⟩).length : Int), 0) at this
    rw [hp2] at this
    exact this
  have h6 : num_Zig.f (-2) = some 3 := by rw [zig_eq (by decide) (by decide)]; rfl
  have h7 : num_Zag.f 3 = some (-2) := by rw [zag_eq (by decide) (by decide)]; rfl
  unfold telemeterlaw01_known.f
  rw [h1]; simp only [Option.bind_some]
  rw [h2]; simp only [Option.bind_some]
  rw [h3]; simp only [Option.bind_some]
  rw [h4]; simp only [Option.bind_some]
  rw [h5]; simp only [Option.bind_some]
  rw [h6, h7]; simp only [Option.bind_some]
  have e : (⟨#[97, 98]⟩ : ByteArray).toList = [97, 98] := by rw [ByteArray.toList_eq]
  rw [e]
  rfl

end Go.Proofs.Ytihihobeaghbkaa.Px
