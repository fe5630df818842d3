/- The law NumOne holds of what the program computes: bytes that are a number are the one way to write it; fewer are too few. No condition beyond the row's own. -/
import Derived.Test.YtihihobeaghbkaaNumG
import Derived.Test.YtihihobeaghbkaaPx22
namespace Go.Proofs.Ytihihobeaghbkaa.Pure
open Go.RowKit Go.Proofs.Ytihihobeaghbkaa.Px Go.Proofs.YtihihobeaghbkaaW.PrintWords Go.Proofs.YtihihobeaghbkaaW.PrintLast Go.Proofs.YtihihobeaghbkaaW.PrintMore

theorem numOne_l0 (n : Nat) (hn : n < 18446744073709551616) (d : Nat) : ∀ (k i : Nat), i + d = (putL n).length → d < k → telemeterlaw01_NumOne.l0 k (putL n) (i : Int) = some true := by
  have hten := putL_ten hn
  induction d with
  | zero =>
    intro k i h hk
    obtain ⟨k, rfl⟩ : ∃ m, k = m + 1 := ⟨k - 1, by omega⟩
    rw [telemeterlaw01_NumOne.l0, if_neg (by omega)]
  | succ d ih =>
    intro k i h hk
    obtain ⟨k, rfl⟩ : ∃ m, k = m + 1 := ⟨k - 1, by omega⟩
    have e : wrap64 ((i : Int) + 1) = ((i + 1 : Nat) : Int) := by unfold wrap64; omega
    rw [telemeterlaw01_NumOne.l0, if_pos (by omega), if_pos (by omega), if_pos (by omega), Int.toNat_natCast, get_cut hn i (by omega), Option.bind_some, if_pos rfl, e]
    exact ih k (i + 1) (by omega) (by omega)

theorem numOne_j1 (n : Int) (hn : 0 ≤ n ∧ n < 18446744073709551616) : telemeterlaw01_NumOne.j1 12 n false = some true := by
  have hten := putL_ten (n := n.toNat) (by omega)
  rw [telemeterlaw01_NumOne.j1, if_neg (by decide), put_eq hn.1 hn.2, Option.bind_some]
  exact numOne_l0 n.toNat (by omega) (putL n.toNat).length 11 0 (by omega) (by omega)

theorem NumOne : telemeterlaw01_NumOne.Pure := by
  intro l n hl hl1 hb hn
  have hb := bytesP_of_wf hb
  have hn := u64_wf hn
  refine ⟨13, ?_⟩
  unfold telemeterlaw01_NumOne.f
  by_cases h : (l.length : Int) > 40
  · rw [if_pos h, telemeterlaw01_NumOne.j0, if_pos rfl, known_true]; rfl
  · rw [if_neg h, known_true, Option.bind_some, telemeterlaw01_NumOne.j0, if_neg (by decide)]
    obtain ⟨x, q, e, hg, hc⟩ := get_total l hb (by omega) 0
    rw [hg, Option.bind_some]
    dsimp only
    rcases hc with ⟨rfl, h1, h2, _, h4, h5, h6⟩ | ⟨rfl, rfl, he⟩
    · rw [if_pos rfl, if_neg (by omega), put_eq h1 h2, Option.bind_some, if_pos (by omega), if_pos (by omega)]
      have ec : l.take q.toNat = putL x.toNat := by
        simp only [Int.toNat_zero, List.drop_zero] at h6
        have hlen := congrArg List.length h6
        rw [List.length_append, List.length_drop] at hlen
        rw [h6, List.take_append, show q.toNat = (putL x.toNat).length from by omega, List.take_length, Nat.sub_self, List.take_zero, List.append_nil]
      rw [ec, bne_self_eq_false]
      exact numOne_j1 n hn
    · rw [if_neg (by omega)]
      exact numOne_j1 n hn

end Go.Proofs.Ytihihobeaghbkaa.Pure
