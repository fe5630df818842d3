/- The law NumLong holds of what the program computes: a text may have as many bytes as may be, and no more; cut short it is too short. No condition beyond the row's own. -/
import Derived.Test.YtihihobeaghbkaaPx9
import Derived.Test.YtihihobeaghbkaaNumK
namespace Go.Proofs.Ytihihobeaghbkaa.Pure
open Go.RowKit Go.Proofs.Ytihihobeaghbkaa.Px Go.Proofs.YtihihobeaghbkaaW.PrintWords Go.Proofs.YtihihobeaghbkaaW.PrintLast Go.Proofs.YtihihobeaghbkaaW.PrintMore

theorem NumLong : telemeterlaw01_NumLong.Pure := by
  intro s n hs hn
  have hn := u8_wf hn
  refine ⟨1, ?_⟩
  unfold telemeterlaw01_NumLong.f
  by_cases h : (s.size : Int) > 200
  · rw [if_pos h]; simp only [telemeterlaw01_NumLong.j0, if_true]; rw [known_true]; rfl
  · rw [if_neg h, known_true, Option.bind_some, telemeterlaw01_NumLong.j0, if_neg (by decide), putText_eq s (by omega), Option.bind_some]
    have h10 := putL_ten (n := s.size) (by omega)
    have hpos := putL_pos s.size
    have hlen : (putL s.size ++ bytesOf s).length = (putL s.size).length + s.size := by rw [List.length_append, bytesOf_len]
    have g : ∀ m : Int, m < 9223372036854775808 → num_GetText.f (putL s.size ++ bytesOf s) 0 m = if m < (s.size : Int) then some (⟨#[]⟩, 0, 3) else some (s, ((putL s.size ++ bytesOf s).length : Int), 0) := by
      intro m hm
      have := getText_put s [] [] bytesP_nil bytesP_nil (by simp only [List.nil_append, List.append_nil]; omega) m hm
      simp only [List.nil_append, List.append_nil] at this
      rw [show ((([] : List Int).length : Nat) : Int) = 0 from rfl, Int.zero_add] at this
      exact this
    have e1 : wrap64 ((s.size : Int) + (wrap64 n)) = (s.size : Int) + n := by unfold wrap64; omega
    have e2 : wrap64 ((wrap64 ((s.size : Int) - 1)) - (wrap64 (Int.tmod n 3))) = (s.size : Int) - 1 - n % 3 := by
      rw [Int.tmod_eq_emod_of_nonneg (by omega)]; unfold wrap64; omega
    have hb : bytesP (putL s.size ++ bytesOf s) := (putL_bytes _).append (bytesOf_bytes s)
    rw [e1, e2, g _ (by omega), g _ (by omega), if_neg (by omega), if_pos (by omega), Option.bind_some, Option.bind_some]
    rcases Nat.eq_zero_or_pos s.size with h0 | h0
    · have em : mn (s.size : Int) 1 = 0 := by unfold mn; rw [if_neg (by omega)]; omega
      have hp1 : (putL s.size).length = 1 := by rw [h0, putL_small (by decide)]; rfl
      rw [em, show wrap64 (((putL s.size ++ bytesOf s).length : Int) - 0) = (1 : Int) from by rw [hlen]; unfold wrap64; omega, if_pos (by omega), if_pos (by omega)]
      rw [List.take_of_length_le (by rw [hlen]; omega), g _ (by omega), if_neg (by omega), Option.bind_some, if_pos rfl, if_pos rfl, if_pos (by omega)]
    · have em : mn (s.size : Int) 1 = 1 := by unfold mn; split <;> omega
      have ew : wrap64 (((putL s.size ++ bytesOf s).length : Int) - 1) = ((putL s.size).length + (s.size - 1) : Nat) := by rw [hlen]; unfold wrap64; omega
      rw [em, ew, if_pos (by omega), if_pos (by omega), Int.toNat_natCast, List.take_append, List.take_of_length_le (by omega), show (putL s.size).length + (s.size - 1) - (putL s.size).length = s.size - 1 from by omega]
      have gg := get_put (n := s.size) (by omega) [] ((bytesOf s).take (s.size - 1)) bytesP_nil ((bytesOf_bytes s).take _) (by simp only [List.nil_append, List.length_append, List.length_take, bytesOf_len]; omega)
      simp only [List.nil_append] at gg
      rw [show ((([] : List Int).length : Nat) : Int) = 0 from rfl, Int.zero_add] at gg
      have hl2 : (putL s.size ++ (bytesOf s).take (s.size - 1)).length = (putL s.size).length + (s.size - 1) := by
        rw [List.length_append, List.length_take, bytesOf_len, Nat.min_eq_left (by omega)]
      rw [getText_eq gg (by omega) (by omega) (by omega) (by omega) (by omega) (by omega), if_neg (by omega), if_neg (by omega), if_pos (by omega), Option.bind_some, if_pos rfl, if_pos rfl, if_neg (by omega)]
      rfl

end Go.Proofs.Ytihihobeaghbkaa.Pure
