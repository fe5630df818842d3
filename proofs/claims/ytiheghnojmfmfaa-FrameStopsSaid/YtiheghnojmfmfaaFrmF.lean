/- What frame.Frame, Take, Equal come to. No program in sight. -/
import Derived.Test.YtiheghnojmfmfaaFrmG
import Derived.Test.YtiheghnojmfmfaaSum
import Derived.Test.YtiheghnojmfmfaaCln
import Derived.Test.YtiheghnojmfmfaaCat
import Derived.Test.YtiheghnojmfmfaaPx12
import Derived.Test.YtiheghnojmfmfaaPx8
namespace Go.Proofs.Ytiheghnojmfmfaa.Px
open Go.RowKit Go.Proofs.YtiheghnojmfmfaaW.PrintWords Go.Proofs.YtiheghnojmfmfaaW.PrintLast Go.Proofs.YtiheghnojmfmfaaW.PrintMore
set_option linter.unusedVariables false
set_option linter.unusedSimpArgs false

def frameL (l : List Int) : List Int := putL l.length ++ (fourL (sumL l) ++ l)
theorem frameL_len (l : List Int) : (frameL l).length = (putL l.length).length + (4 + l.length) := by
  rw [frameL, List.length_append, List.length_append, fourL_length]
theorem frameL_bytes {l : List Int} (hb : bytesP l) : bytesP (frameL l) := (putL_bytes _).append ((fourL_bytes _).append hb)

theorem sum_eq {l : List Int} (hb : bytesP l) (hl : l.length ≤ 140737488355328) : frame_Sum.f l = some ((sumL l : Nat) : Int) := by
  unfold frame_Sum.f; rw [if_pos ⟨all_of_bytesP hb, hl⟩]
theorem four_eq (n : Nat) : frame_four.f (n : Int) = some (fourL n) := by
  unfold frame_four.f fourL
  simp only [Option.some.injEq, List.cons.injEq, and_true]
  refine ⟨?_, ?_, ?_, ?_⟩ <;> omega
theorem concat3 (a b c : List Int) (h : a.length + (b.length + c.length) ≤ 140737488355000) : slices_Concat_byte_byte.f [a, b, c] = some (a ++ (b ++ c)) := by
  have e : [a, b, c].flatten = a ++ (b ++ c) := by simp
  unfold slices_Concat_byte_byte.f
  rw [e, if_pos ⟨by simp only [List.length_append]; omega, by simp⟩]

theorem frame_long {l : List Int} (h : 4096 < l.length) : frame_Frame.f l = some ([], 3) := by
  unfold frame_Frame.f; rw [if_pos (by omega)]
theorem frame_eq {l : List Int} (hb : bytesP l) (h : l.length ≤ 4096) : frame_Frame.f l = some (frameL l, 0) := by
  have h10 := putL_ten (n := l.length) (by omega)
  have hw : IntKind.u64.wrap (l.length : Int) = (l.length : Int) := wrap_u64_id (by omega) (by omega)
  unfold frame_Frame.f
  rw [if_neg (by omega), hw, put_eq (by omega) (by omega), Option.bind_some, Int.toNat_natCast, sum_eq hb (by omega), Option.bind_some, four_eq, Option.bind_some,
    concat3 _ _ _ (by rw [fourL_length]; omega), Option.bind_some]
  rfl

theorem equal_l0 (a b : List Int) (hab : a.length = b.length) (hl : a.length ≤ 140737488355328) (d : Nat) : ∀ (k i : Nat), i + d = a.length → d < k → a.take i = b.take i →
    slices_Equal_byte_byte.l0 k a b (a.length : Int) (i : Int) = some (decide (a = b)) := by
  induction d with
  | zero =>
    intro k i hi hk ht
    obtain ⟨k, rfl⟩ : ∃ m, k = m + 1 := ⟨k - 1, by omega⟩
    rw [slices_Equal_byte_byte.l0, if_neg (by omega)]
    have : a = b := by
      rw [List.take_of_length_le (by omega), List.take_of_length_le (by omega)] at ht; exact ht
    rw [decide_eq_true this]
  | succ d ih =>
    intro k i hi hk ht
    obtain ⟨k, rfl⟩ : ∃ m, k = m + 1 := ⟨k - 1, by omega⟩
    have h1 : i < a.length := by omega
    have h2 : i < b.length := by omega
    rw [slices_Equal_byte_byte.l0, if_pos (by omega), if_pos (by omega), if_pos (by omega), if_pos (by omega), rd_eq a i h1, rd_eq b i h2]
    by_cases he : a[i] = b[i]
    · rw [if_pos he, w64_succ i (by omega)]
      exact ih k (i + 1) (by omega) (by omega) (by rw [List.take_succ_eq_append_getElem h1, List.take_succ_eq_append_getElem h2, ht, he])
    · rw [if_neg he]
      have : a ≠ b := by rintro rfl; exact he rfl
      rw [decide_eq_false this]
theorem equal_eq (a b : List Int) (hl : a.length ≤ 140737488355328) (k : Nat) (hk : a.length < k) : slices_Equal_byte_byte.f k a b = some (decide (a = b)) := by
  unfold slices_Equal_byte_byte.f
  by_cases h : (a.length : Int) = (b.length : Int)
  · rw [if_pos h]
    exact equal_l0 a b (by omega) hl a.length k 0 (by omega) hk (by simp)
  · rw [if_neg h]
    have : a ≠ b := by rintro rfl; exact h rfl
    rw [decide_eq_false this]

/-- what is told of the bytes from a place on -/
def takeR (l : List Int) (p : Int) : List Int × Int × Int :=
  match num_Get.f l p with
  | none => ([], 0, 0)
  | some (n, q, e) =>
    if e = 0 then
      if 4096 < n then ([], 0, 3)
      else if (l.length : Int) < q + (4 + n) then ([], 0, 10)
      else if fourL (sumL ((l.drop (q.toNat + 4)).take n.toNat)) = (l.drop q.toNat).take 4 then ((l.drop (q.toNat + 4)).take n.toNat, q + (4 + n), 0)
      else ([], 0, 30)
    else ([], 0, e)

theorem cutL (l : List Int) (a b : Int) (h0 : 0 ≤ a) (h1 : 0 ≤ b) : (l.take (a + b).toNat).drop a.toNat = (l.drop a.toNat).take b.toNat := by
  rw [List.drop_take]; congr 1; omega

theorem take_eq (l : List Int) (hb : bytesP l) (hl : l.length ≤ 140737488355328) (p : Int) (k : Nat) (hk : 6 ≤ k) : frame_Take.f k l p = some (takeR l p) := by
  obtain ⟨n, q, e, hg, hc⟩ := get_total l hb hl p
  unfold frame_Take.f takeR
  rw [hg, Option.bind_some]
  dsimp only
  rcases hc with ⟨rfl, hn0, hn1, hp, hpq, hq, hd⟩ | ⟨rfl, rfl, he⟩
  · rw [if_pos rfl, if_pos rfl]
    by_cases h1 : 4096 < n
    · rw [if_pos h1, if_pos h1]
    · rw [if_neg h1, if_neg h1]
      have e1 : wrap64 n = n := wrap64_id (by omega) (by omega)
      have e2 : wrap64 (n + 4) = n + 4 := wrap64_id (by omega) (by omega)
      have e3 : wrap64 ((l.length : Int) - q) = (l.length : Int) - q := wrap64_id (by omega) (by omega)
      have e4 : wrap64 (q + 4) = q + 4 := wrap64_id (by omega) (by omega)
      have e5 : wrap64 (q + 4 + n) = q + 4 + n := wrap64_id (by omega) (by omega)
      rw [e1, e2, e3, e4, e5]
      by_cases h2 : (l.length : Int) < q + (4 + n)
      · rw [if_pos (by omega), if_pos h2]
      · rw [if_neg (by omega), if_neg h2, if_pos (by omega), if_pos (by omega), if_pos (by omega), cutL l (q + 4) n (by omega) hn0, cutL l q 4 (by omega) (by omega),
          show (q + 4).toNat = q.toNat + 4 from by omega, show (4 : Int).toNat = 4 from rfl]
        have hbody : bytesP ((l.drop (q.toNat + 4)).take n.toNat) := (hb.drop _).take _
        have hlen : ((l.drop (q.toNat + 4)).take n.toNat).length ≤ 140737488355328 := by rw [List.length_take, List.length_drop]; omega
        rw [sum_eq hbody hlen, Option.bind_some, four_eq, Option.bind_some, if_pos (by omega), if_pos (by omega), if_pos (by omega),
          equal_eq _ _ (by rw [fourL_length]; omega) k (by rw [fourL_length]; omega), Option.bind_some]
        by_cases h3 : fourL (sumL ((l.drop (q.toNat + 4)).take n.toNat)) = (l.drop q.toNat).take 4
        · rw [if_pos h3, if_pos (decide_eq_true h3)]
          unfold slices_Clone_byte_byte.f
          rw [if_pos hlen, Option.bind_some, show q + 4 + n = q + (4 + n) from by omega]
        · rw [if_neg h3, decide_eq_false h3, if_neg (by decide)]
  · have : e ≠ 0 := by omega
    rw [if_neg this, if_neg this]

theorem takeR_put (hd body chk rest : List Int) (n : Nat) (hn : n ≤ 4096) (hbl : body.length = n) (hc : chk.length = 4) (h1 : bytesP hd) (h2 : bytesP body) (h3 : bytesP chk) (h4 : bytesP rest) (hl : hd.length + rest.length ≤ 140737488350000) :
    takeR (hd ++ (putL n ++ (chk ++ (body ++ rest)))) (hd.length : Int) = if fourL (sumL body) = chk then (body, (hd.length : Int) + ((putL n).length + (4 + n) : Nat), 0) else ([], 0, 30) := by
  have h10 := putL_ten (n := n) (by omega)
  have hg := get_put (n := n) (by omega) hd (chk ++ (body ++ rest)) h1 (h3.append (h2.append h4)) (by simp only [List.length_append]; omega)
  unfold takeR
  rw [hg]
  dsimp only
  have e1 : ((hd.length : Int) + ((putL n).length : Int)).toNat = hd.length + (putL n).length := by omega
  have ed : (hd ++ (putL n ++ (chk ++ (body ++ rest)))).drop (hd.length + (putL n).length) = chk ++ (body ++ rest) := by
    rw [← List.append_assoc, List.drop_left' (by rw [List.length_append])]
  have ed2 : (hd ++ (putL n ++ (chk ++ (body ++ rest)))).drop (hd.length + (putL n).length + 4) = body ++ rest := by
    rw [← List.drop_drop, ed, List.drop_left' hc]
  rw [if_pos rfl, if_neg (by omega), if_neg (by simp only [List.length_append]; omega), e1, ed, ed2, Int.toNat_natCast, List.take_left' hbl, List.take_left' hc]
  by_cases h : fourL (sumL body) = chk
  · rw [if_pos h, if_pos h]
    simp only [Prod.mk.injEq, true_and, and_true]; omega
  · rw [if_neg h, if_neg h]

theorem takeR_frame (hd l rest : List Int) (hn : l.length ≤ 4096) (h1 : bytesP hd) (h2 : bytesP l) (h4 : bytesP rest) (hl : hd.length + rest.length ≤ 140737488350000) :
    takeR (hd ++ (frameL l ++ rest)) (hd.length : Int) = (l, (hd.length : Int) + (frameL l).length, 0) := by
  have h := takeR_put hd l (fourL (sumL l)) rest l.length hn rfl (fourL_length _) h1 h2 (fourL_bytes _) h4 hl
  rw [if_pos rfl] at h
  rw [frameL_len, show hd ++ (frameL l ++ rest) = hd ++ (putL l.length ++ (fourL (sumL l) ++ (l ++ rest))) from by simp only [frameL, List.append_assoc], h]

theorem put0 : putL 0 = [0] := by rw [putL_small (by decide)]; rfl
theorem sum0 : sumL [] = 0 := by decide
theorem sum9 : sumL [49, 50, 51, 52, 53, 54, 55, 56, 57] = 3421780262 := by decide +kernel
theorem frame0 : frameL [] = [0, 0, 0, 0, 0] := by
  rw [frameL, sum0, List.length_nil, put0]; decide

end Go.Proofs.Ytiheghnojmfmfaa.Px
