/- The example of the chapter on what is worth to be kept: the statements' own test comes to true. -/
import Derived.Test.YtbjoleelfihikaaPolP
import Derived.Test.YtbjoleelfihikaaPx15
namespace Go.Proofs.Ytbjoleelfihikaa.Px
open Go.RowKit Go.Proofs.YtbjoleelfihikaaW.PrintWords Go.Proofs.YtbjoleelfihikaaW.PrintLast Go.Proofs.YtbjoleelfihikaaW.PrintMore
set_option linter.unusedVariables false
set_option linter.unusedSimpArgs false

theorem u8_wf {x : Int} (h : (Lit.int .u8 x).wf = true) : 0 ≤ x ∧ x ≤ 255 := by
  simp only [Lit.wf, IntKind.min, IntKind.max, IntKind.signed, IntKind.bits, Bool.and_eq_true, decide_eq_true_eq] at h
  simp at h; omega
theorem u64_wf {x : Int} (h : (Lit.int .u64 x).wf = true) : 0 ≤ x ∧ x < 18446744073709551616 := by
  simp only [Lit.wf, IntKind.min, IntKind.max, IntKind.signed, IntKind.bits, Bool.and_eq_true, decide_eq_true_eq] at h
  simp at h; omega
theorem i64_wf {x : Int} (h : (Lit.int .i64 x).wf = true) : -9223372036854775808 ≤ x ∧ x < 9223372036854775808 := by
  simp only [Lit.wf, IntKind.min, IntKind.max, IntKind.signed, IntKind.bits, Bool.and_eq_true, decide_eq_true_eq] at h
  simp at h; omega
theorem i8_wf {x : Int} (h : (Lit.int .i8 x).wf = true) : -128 ≤ x ∧ x < 128 := by
  simp only [Lit.wf, IntKind.min, IntKind.max, IntKind.signed, IntKind.bits, Bool.and_eq_true, decide_eq_true_eq] at h
  simp at h; omega
theorem wrap_u64_id {n : Int} (h0 : 0 ≤ n) (h : n < 18446744073709551616) : IntKind.u64.wrap n = n := by simp [IntKind.wrap, IntKind.bits, IntKind.signed]; omega
theorem Pol.holds_eq {a0 a1 : Int} {a2 a3 : ByteArray} {l : List S36} {n : Int} (h0 : 0 ≤ a0 ∧ a0 ≤ 255) (h : Pol.okS l = true) : policy_Holds.f a0 a1 a2 a3 l n = some (Pol.holdsF a0 a1 a2 a3 l n) := by
  rw [policy_Holds.f, if_pos ⟨h0.1, h0.2, h⟩]
theorem Pol.all_eq {l0 : List S39} {l : List S36} {n : Int} (h0 : Pol.okR l0 = true) (h : Pol.okS l = true) : policy_All.f l0 l n = some (Pol.allF l0 l n) := by
  rw [policy_All.f, if_pos ⟨h0, h⟩]
theorem Pol.which_eq {l0 : List (List S39)} {l : List S36} {n : Int} (h0 : Pol.okL l0 = true) (h : Pol.okS l = true) : policy_Which.f l0 l n = some (Pol.whichF l0 l n) := by
  rw [policy_Which.f, if_pos ⟨h0, h⟩]

theorem Pol.known_len : Pol.lenF [(⟨0, 0, 0, 0, (⟨#[]⟩ : ByteArray), 3, 9, false, ([] : List (S64)), 0⟩ : S36), (⟨0, 0, 0, 0, (⟨#[]⟩ : ByteArray), 5, 12, false, ([] : List (S64)), 0⟩ : S36)] = 9 := by
  have h1 : Pol.hi [(⟨0, 0, 0, 0, (⟨#[]⟩ : ByteArray), 3, 9, false, ([] : List (S64)), 0⟩ : S36), (⟨0, 0, 0, 0, (⟨#[]⟩ : ByteArray), 5, 12, false, ([] : List (S64)), 0⟩ : S36)] 9 = 12 := by simp [Pol.hi, mx]
  have h2 : Pol.lo [(⟨0, 0, 0, 0, (⟨#[]⟩ : ByteArray), 3, 9, false, ([] : List (S64)), 0⟩ : S36), (⟨0, 0, 0, 0, (⟨#[]⟩ : ByteArray), 5, 12, false, ([] : List (S64)), 0⟩ : S36)] 3 = 3 := by simp [Pol.lo, mn]
  rw [Pol.lenF, h1, h2, Pol.w64 _ (by omega) (by omega)]
  rfl
theorem Pol.known_eq (k : Nat) (hk : 3 ≤ k) : telemeterlaw12_known.f k = some true := by
  have hok : Pol.okS [(⟨0, 0, 0, 0, (⟨#[]⟩ : ByteArray), 3, 9, false, ([] : List (S64)), 0⟩ : S36), (⟨0, 0, 0, 0, (⟨#[]⟩ : ByteArray), 5, 12, false, ([] : List (S64)), 0⟩ : S36)] = true := by simp [Pol.okS]
  have hlen := Pol.known_len
  have hL := Pol.Length_f [(⟨0, 0, 0, 0, (⟨#[]⟩ : ByteArray), 3, 9, false, ([] : List (S64)), 0⟩ : S36), (⟨0, 0, 0, 0, (⟨#[]⟩ : ByteArray), 5, 12, false, ([] : List (S64)), 0⟩ : S36)] (Pol.okS_1 hok) k (by simp only [List.length_cons, List.length_nil]; omega)
  have hn : (2 : Nat) = [(⟨0, 0, 0, 0, (⟨#[]⟩ : ByteArray), 3, 9, false, ([] : List (S64)), 0⟩ : S36), (⟨0, 0, 0, 0, (⟨#[]⟩ : ByteArray), 5, 12, false, ([] : List (S64)), 0⟩ : S36)].length := rfl
  unfold telemeterlaw12_known.f
  rw [Option.bind_some]
  generalize [(⟨0, 0, 0, 0, (⟨#[]⟩ : ByteArray), 3, 9, false, ([] : List (S64)), 0⟩ : S36), (⟨0, 0, 0, 0, (⟨#[]⟩ : ByteArray), 5, 12, false, ([] : List (S64)), 0⟩ : S36)] = y at *
  have h9 : Pol.holdsF 1 9 (⟨#[]⟩ : ByteArray) (⟨#[]⟩ : ByteArray) y 0 = true := by rw [Pol.holdsF, if_pos rfl, hlen, ← hn]; rfl
  have h10 : Pol.holdsF 1 10 (⟨#[]⟩ : ByteArray) (⟨#[]⟩ : ByteArray) y 0 = false := by rw [Pol.holdsF, if_pos rfl, hlen, ← hn]; rfl
  rw [hL, hlen, Option.bind_some, if_pos rfl, Pol.holds_eq ⟨by omega, by omega⟩ hok, Option.bind_some, h9, if_pos rfl, Pol.holds_eq ⟨by omega, by omega⟩ hok, Option.bind_some, h10, if_neg (by decide),
    Pol.which_eq rfl hok, Option.bind_some, if_pos (show Pol.whichF [] y 0 = -1 from rfl), Pol.all_eq rfl hok, Option.bind_some, if_pos (show Pol.allF [] y 0 = true from rfl)]
  rfl
end Go.Proofs.Ytbjoleelfihikaa.Px
