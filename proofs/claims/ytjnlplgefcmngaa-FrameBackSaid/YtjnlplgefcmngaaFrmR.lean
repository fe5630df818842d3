/- What the document's answers for numbers come to: the same plain functions. -/
import Derived.Test.YtjnlplgefcmngaaNumQ
import Derived.Test.YtjnlplgefcmngaaPx16
namespace Go.Proofs.Ytjnlplgefcmngaa.Px
open Go.RowKit Go.Proofs.YtjnlplgefcmngaaW.PrintWords Go.Proofs.YtjnlplgefcmngaaW.PrintLast Go.Proofs.YtjnlplgefcmngaaW.PrintMore
set_option linter.unusedVariables false
set_option linter.unusedSimpArgs false

theorem put_eq {n : Int} (h0 : 0 ≤ n) (h : n < 18446744073709551616) : num_Put.f n = some (putL n.toNat) := by
  unfold num_Put.f; rw [if_pos ⟨h0, h⟩]

theorem refPut_l0 (d : Nat) : ∀ (k x : Nat) (acc : List Int), x < 18446744073709551616 → x < 128 ^ (d + 1) → d < k → acc.length + d < 140737488355328 →
    telemeterref01_Put.l0 k (x : Int) acc = some (acc ++ putL x) := by
  induction d with
  | zero =>
    intro k x acc h1 h2 h3 h4
    obtain ⟨k, rfl⟩ : ∃ m, k = m + 1 := ⟨k - 1, by omega⟩
    have hx : x < 128 := by simpa using h2
    simp only [telemeterref01_Put.l0]
    rw [if_neg (by omega), if_pos (by omega), putL_small hx, show (x : Int) % 256 = x from by omega]
  | succ d ih =>
    intro k x acc h1 h2 h3 h4
    obtain ⟨k, rfl⟩ : ∃ m, k = m + 1 := ⟨k - 1, by omega⟩
    simp only [telemeterref01_Put.l0]
    by_cases hx : x < 128
    · rw [if_neg (by omega), if_pos (by omega), putL_small hx, show (x : Int) % 256 = x from by omega]
    · have e1 : IntKind.u64.wrap (Int.tdiv (x : Int) 128) = ((x / 128 : Nat) : Int) := by
        rw [Int.tdiv_eq_ediv_of_nonneg (by omega), wrap_u64]; omega
      have e2 : (IntKind.u64.wrap ((Int.tmod (x : Int) 128) + 128)) % 256 = ((x % 128 + 128 : Nat) : Int) := by
        rw [Int.tmod_eq_emod_of_nonneg (by omega), wrap_u64]; omega
      rw [if_pos (by omega), if_pos (by omega), e1, e2, ih k (x / 128) _ (by omega) (by rw [Nat.pow_succ] at h2; omega) (by omega) (by rw [List.length_append]; simp only [List.length_cons, List.length_nil]; omega), putL_great hx, List.append_assoc]
      rfl

theorem refPut_eq {n : Int} (h0 : 0 ≤ n) (h : n < 18446744073709551616) (k : Nat) (hk : 10 ≤ k) : telemeterref01_Put.f k n = some (putL n.toNat) := by
  unfold telemeterref01_Put.f
  obtain ⟨m, rfl⟩ : ∃ m : Nat, n = (m : Int) := ⟨n.toNat, by omega⟩
  rw [refPut_l0 9 k m [] (by omega) (by simp only [Nat.reduceAdd, Nat.reducePow]; omega) (by omega) (by simp), List.nil_append, Int.toNat_natCast]

end Go.Proofs.Ytjnlplgefcmngaa.Px
