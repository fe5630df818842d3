/- The law NumBack holds of what the program computes: a number is told back, wherever it stands, whatever stands behind it; so is a text. No condition beyond the row's own. -/
import Derived.Test.YtihihobeaghbkaaPx20
import Derived.Test.YtihihobeaghbkaaNumK
namespace Go.Proofs.Ytihihobeaghbkaa.Pure
open Go.RowKit Go.Proofs.Ytihihobeaghbkaa.Px Go.Proofs.YtihihobeaghbkaaW.PrintWords Go.Proofs.YtihihobeaghbkaaW.PrintLast Go.Proofs.YtihihobeaghbkaaW.PrintMore

theorem NumBack : telemeterlaw01_NumBack.Pure := by
  intro n s hd more hn hs hh1 hh2 hhb hm1 hm2 hmb
  have hn := u64_wf hn
  have hhb := bytesP_of_wf hhb
  have hmb := bytesP_of_wf hmb
  refine ⟨1, ?_⟩
  unfold telemeterlaw01_NumBack.f
  by_cases h : (s.size : Int) > 300
  · rw [if_pos h]; simp only [telemeterlaw01_NumBack.j0, if_true]; rw [known_true]; rfl
  · rw [if_neg h]
    have ew : wrap64 ((hd.length : Int) + (more.length : Int)) = (hd.length : Int) + (more.length : Int) := by unfold wrap64; omega
    rw [ew]
    by_cases h2 : (hd.length : Int) + (more.length : Int) > 300
    · rw [if_pos h2]; simp only [telemeterlaw01_NumBack.j0, if_true]; rw [known_true]; rfl
    · rw [if_neg h2, known_true, Option.bind_some, telemeterlaw01_NumBack.j0, if_neg (by decide)]
      have h10 := putL_ten (n := s.size) (by omega)
      have h11 := putL_ten (n := n.toNat) (by omega)
      have lb := bytesOf_len s
      have g1 := get_put (n := n.toNat) (by omega) hd ((putL s.size ++ bytesOf s) ++ more) hhb (((putL_bytes _).append (bytesOf_bytes s)).append hmb) (by simp only [List.length_append]; omega)
      have g2 := getText_put s (hd ++ putL n.toNat) more (hhb.append (putL_bytes _)) hmb (by simp only [List.length_append]; omega) (s.size : Int) (by omega)
      rw [if_neg (by omega)] at g2
      have ea : hd ++ (putL n.toNat ++ ((putL s.size ++ bytesOf s) ++ more)) = ((([] ++ hd) ++ putL n.toNat) ++ (putL s.size ++ bytesOf s)) ++ more := by simp only [List.nil_append, List.append_assoc]
      have eb : (hd ++ putL n.toNat) ++ ((putL s.size ++ bytesOf s) ++ more) = ((([] ++ hd) ++ putL n.toNat) ++ (putL s.size ++ bytesOf s)) ++ more := by simp only [List.nil_append, List.append_assoc]
      rw [ea] at g1
      rw [eb] at g2
      have ec : hd ++ putL n.toNat = ([] ++ hd) ++ putL n.toNat := by rw [List.nil_append]
      rw [ec] at g2
      rw [if_pos (by simp only [List.length_nil]; omega), Option.bind_some, put_eq hn.1 hn.2, Option.bind_some,
        if_pos (by simp only [List.length_append, List.length_nil]; omega), Option.bind_some, putText_eq s (by omega), Option.bind_some,
        if_pos (by simp only [List.length_append, List.length_nil]; omega), Option.bind_some,
        if_pos (by simp only [List.length_append, List.length_nil]; omega), Option.bind_some, g1, Option.bind_some, g2, Option.bind_some,
        if_pos (by omega), if_pos (by simp only [List.length_append, List.length_nil]; omega), if_pos rfl, if_pos rfl, if_pos (by simp only [List.length_append, List.length_nil]; omega)]
      rfl

end Go.Proofs.Ytihihobeaghbkaa.Pure
