/- The law PolicyBoth holds of what the program computes. -/
import Derived.Test.YtbjoleelfihikaaPx18
import Derived.Test.YtbjoleelfihikaaPolS
import Derived.Test.YtbjoleelfihikaaNestP
namespace Go.Proofs.Ytbjoleelfihikaa.Pure
set_option linter.unusedVariables false
set_option linter.unusedSimpArgs false
open Go.RowKit Go.Proofs.Ytbjoleelfihikaa.Px Go.Proofs.YtbjoleelfihikaaW.PrintWords Go.Proofs.YtbjoleelfihikaaW.PrintLast Go.Proofs.YtbjoleelfihikaaW.PrintMore

theorem both_which (a b : List S39) (s : List S36) (n : Int) : Pol.whichF [a, b] s n = if Pol.allF a s n = true then 0 else if Pol.allF b s n = true then 1 else -1 := by
  simp only [Pol.whichF, Pol.idxF]
  rfl
theorem both_j1 (n : Int) (s : List S36) (a b : List S39) (hs : Pol.okS s = true) (hab : Pol.okR (a ++ b) = true) (x16 : Int) (h16 : x16 = if Pol.allF b s n = true then 1 else -1) (k : Nat) (hk : 3 ≤ k) :
    telemeterlaw12_PolicyBoth.j1 (k + 1) n s (a ++ b) (Pol.allF a s n) (Pol.allF b s n) (Pol.whichF [a, b] s n) x16 = some true := by
  have hall : Pol.allF (a ++ b) s n = (Pol.allF a s n && Pol.allF b s n) := List.all_append
  rw [telemeterlaw12_PolicyBoth.j1, both_which, Pol.known_eq k hk, Option.bind_some, Option.bind_some, if_pos rfl, if_pos rfl, Pol.all_eq hab hs, Option.bind_some, Option.bind_some, hall]
  cases h1 : Pol.allF a s n with
  | true => simp
  | false => simp [h16]
theorem both_j0 (l2 : List (List Int)) (h2 : ∀ y ∈ l2, bytesP y) (n : Int) (A B : List (List S39)) (gA : Pol.goodL 6 A) (gB : Pol.goodL 6 B) (x : Bool) (hx : x = true ∨ (0 < A.length ∧ 0 < B.length)) : telemeterlaw12_PolicyBoth.j0 30 l2 n A B x = some true := by
  cases x with
  | true => rw [telemeterlaw12_PolicyBoth.j0, if_pos rfl, Pol.known_eq 29 (by omega), Option.bind_some]
  | false =>
    obtain ⟨hA0, hB0⟩ : 0 < A.length ∧ 0 < B.length := by
      rcases hx with h | h
      · cases h
      · exact h
    obtain ⟨s, hs, hs8, hsg⟩ := Pol.spans_some l2 h2 29 (by omega)
    have hok := Pol.spans_ok 8 (by omega) hs8 hsg
    have ha := gA.2 _ (Pol.rd_row_mem A 0 (by omega) (by omega))
    have hb := gB.2 _ (Pol.rd_row_mem B 0 (by omega) (by omega))
    rw [telemeterlaw12_PolicyBoth.j0, if_neg (by decide), hs, Option.bind_some]
    generalize rd_L4 A 0 = a at *
    generalize rd_L4 B 0 = b at *
    have oka := Pol.goodR_ok (by omega) ha
    have okb := Pol.goodR_ok (by omega) hb
    have okab : Pol.okR (a ++ b) = true := Pol.okR_of (n := 12) (by omega) (by rw [List.length_append]; have := ha.2.1; have := hb.2.1; omega) (fun r hr => (List.mem_append.1 hr).elim (ha.2.2 r) (hb.2.2 r))
    have okl : Pol.okL [a, b] = true := by simp [Pol.okL, oka, okb]
    rw [if_pos (by omega), if_pos (by have := ha.2.1; simp only [List.length_nil]; omega), Option.bind_some, if_pos (by omega), if_pos (by have := ha.2.1; have := hb.2.1; simp only [List.nil_append]; omega), Option.bind_some, List.nil_append,
      Pol.all_eq oka hok, Option.bind_some, Pol.all_eq okb hok, Option.bind_some, Pol.which_eq okl hok, Option.bind_some]
    by_cases h : Pol.allF b s n = true
    · rw [if_pos h]
      exact both_j1 n s a b hok okab 1 (by rw [if_pos h]) 28 (by omega)
    · rw [if_neg h]
      exact both_j1 n s a b hok okab (-1) (by rw [if_neg h]) 28 (by omega)
theorem PolicyBoth (l0 l1 : List Int) (l2 : List (List Int)) (a3 : Int) (h0 : bytesP l0) (h1 : bytesP l1) (h2 : ∀ y ∈ l2, bytesP y) (h3 : (Lit.int .u64 a3).wf = true) : telemeterlaw12_PolicyBoth.f 30 l0 l1 l2 a3 = some true := by
  obtain ⟨A, hA, gA⟩ := Pol.rules_some l0 h0 30 (by omega)
  obtain ⟨B, hB, gB⟩ := Pol.rules_some l1 h1 30 (by omega)
  unfold telemeterlaw12_PolicyBoth.f
  rw [hA, Option.bind_some, hB, Option.bind_some]
  by_cases c1 : (A.length : Int) = 0
  · rw [if_pos c1]; exact both_j0 l2 h2 a3 A B gA gB true (.inl rfl)
  · rw [if_neg c1]
    by_cases c2 : (B.length : Int) = 0
    · rw [if_pos c2]; exact both_j0 l2 h2 a3 A B gA gB true (.inl rfl)
    · rw [if_neg c2]
      exact both_j0 l2 h2 a3 A B gA gB _ (.inr ⟨by omega, by omega⟩)
end Go.Proofs.Ytbjoleelfihikaa.Pure
