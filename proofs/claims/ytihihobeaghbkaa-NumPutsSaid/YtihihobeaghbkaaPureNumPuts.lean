/- The law NumPuts holds of what the program computes: Put, Zig, Zag and PutText of anything are what the chapter says. No condition beyond the row's own. -/
import Derived.Test.YtihihobeaghbkaaPx15
import Derived.Test.YtihihobeaghbkaaNumR
namespace Go.Proofs.Ytihihobeaghbkaa.Pure
open Go.RowKit Go.Proofs.Ytihihobeaghbkaa.Px Go.Proofs.YtihihobeaghbkaaW.PrintWords Go.Proofs.YtihihobeaghbkaaW.PrintLast Go.Proofs.YtihihobeaghbkaaW.PrintMore

theorem refZig {n : Int} (h0 : -9223372036854775808 ≤ n) (h : n < 9223372036854775808) : telemeterref01_Zig.f n = some (if n < 0 then -2 * n - 1 else 2 * n) := by
  unfold telemeterref01_Zig.f
  by_cases hn : n < 0
  · rw [if_pos hn, if_pos hn]
    congr 1
    simp only [wrap_u64]; unfold wrap64; omega
  · rw [if_neg hn, if_neg hn]
    congr 1
    simp only [wrap_u64]; omega

theorem refZag {n : Int} (h0 : 0 ≤ n) (h : n < 18446744073709551616) : telemeterref01_Zag.f n = some (if n % 2 = 1 then -1 - n / 2 else n / 2) := by
  unfold telemeterref01_Zag.f
  rw [Int.tmod_eq_emod_of_nonneg h0]
  by_cases hn : n % 2 = 1
  · rw [if_pos hn, if_pos hn, Int.tdiv_eq_ediv_of_nonneg h0]
    congr 1
    simp only [wrap_u64]; unfold wrap64; omega
  · rw [if_neg hn, if_neg hn, Int.tdiv_eq_ediv_of_nonneg h0]
    congr 1
    simp only [wrap_u64]; unfold wrap64; omega

theorem refPutText (s : ByteArray) (h : s.size ≤ 140737488355000) (k : Nat) (hk : 10 ≤ k) : telemeterref01_PutText.f k s = some (putL s.size ++ bytesOf s) := by
  have h10 := putL_ten (n := s.size) (by omega)
  unfold telemeterref01_PutText.f
  rw [wrap_u64_id (by omega) (by omega), refPut_eq (by omega) (by omega) k hk, Option.bind_some, Int.toNat_natCast, if_pos (by omega)]

theorem NumPuts : telemeterlaw01_NumPuts.Pure := by
  intro n m s hn hm hs
  have hn := u64_wf hn
  have hm := i64_wf hm
  refine ⟨11, ?_⟩
  unfold telemeterlaw01_NumPuts.f
  by_cases h : (s.size : Int) > 500
  · rw [if_pos h, telemeterlaw01_NumPuts.j0, if_pos rfl, known_true]; rfl
  · rw [if_neg h, known_true, Option.bind_some, telemeterlaw01_NumPuts.j0, if_neg (by decide), put_eq hn.1 hn.2, Option.bind_some, refPut_eq hn.1 hn.2 10 (by omega), Option.bind_some, if_pos rfl,
      zig_eq hm.1 hm.2, Option.bind_some, refZig hm.1 hm.2, Option.bind_some, if_pos rfl, zag_eq hn.1 hn.2, Option.bind_some, refZag hn.1 hn.2, Option.bind_some, if_pos rfl,
      putText_eq s (by omega), Option.bind_some, refPutText s (by omega) 10 (by omega), Option.bind_some, beq_self_eq_true]

end Go.Proofs.Ytihihobeaghbkaa.Pure
