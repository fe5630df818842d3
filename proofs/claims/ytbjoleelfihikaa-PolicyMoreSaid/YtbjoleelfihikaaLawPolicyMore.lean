/- The row PolicyMore. -/
import Derived.Test.YtbjoleelfihikaaRows
import Derived.Test.YtbjoleelfihikaaPx30
import Derived.Test.YtbjoleelfihikaaPurePolicyMore
import Derived.Test.YtbjoleelfihikaaNestP
import Derived.WalkKit
import Derived.ProofKit
import Derived.OpenShut
import Derived.ShutString
import Derived.ChangeOld
import Derived.Below
import Derived.SizedLaws
import Derived.Test.YtbjoleelfihikaaWSized
namespace Go.Proofs.Ytbjoleelfihikaa.policyMore
open Go.ChangeShapes Go.WideShapes Go.ChangeAt Go.RowKit
open Go.ChangeMaps (open_string shut_string)
set_option linter.unusedVariables false
theorem own : ownKnob Try.prog.godebug = none := by kernel_rfl
theorem laidOut : laidOutB Try.prog = true := by kernel_rfl
set_option maxRecDepth 100000 in
theorem lifted (os : Os) (started : os.Started) (H : Type) (enc : TypeId × Value → H) :
    ReturnsInHanded {} Try.checked os 7 .any (Rows.policyMoreSpec.pre6 enc Try.prog Try.f7 Rows.policyMoreRow.domain false) (Rows.policyMoreSpec.post enc Try.prog Try.f7 false true false false) := by
  refine returnsInHanded_of_change_sized (C := Try.checked) own started (by kernel_rfl) Try.func7
    (ChangeSpec.witness6 (enc := enc) (C := Try.checked) false ⟨#[], #[.int .u8 0, .int .u8 0, .slice none 0 0, .slice none 0 0, .int .u64 0], []⟩ 8 (by kernel_rfl) (by kernel_rfl) (by kernel_rfl) (by kernel_rfl)) ?_
  intro W base args ds gs before hval0 hW hcnd hsz0 _
  have hval : ∀ (j : Nat) t v, Try.f7.params[j]? = some t → args[j]? = some v → Value.okWide Try.prog W .any base t v := hval0
  have hW' := hW
  obtain ⟨p, q, hA0, hV, rfl, hfz, hnd⟩ := hW
  have hA : DataW.TrodAll enc Try.prog W 0 (fun _ => true) true Try.f7.params.toList args.toList ds p := hA0
  rw [Try.params7] at hA hval
  obtain ⟨v0, vs0, d0, ds0, p0, q0, hargs, rfl, rfl, h0, r0⟩ := trodAll_cons hA
  obtain ⟨v1, vs1, d1, ds1, p1, q1, rfl, rfl, rfl, h1, r1⟩ := trodAll_cons r0
  obtain ⟨v2, vs2, d2, ds2, p2, q2, rfl, rfl, rfl, h2, r2⟩ := trodAll_cons r1
  obtain ⟨v3, vs3, d3, ds3, p3, q3, rfl, rfl, rfl, h3, r3⟩ := trodAll_cons r2
  obtain ⟨v4, vs4, d4, ds4, p4, q4, rfl, rfl, rfl, h4, r4⟩ := trodAll_cons r3
  obtain ⟨rfl, rfl, rfl⟩ := trodAll_nil r4
  obtain rfl : args = #[v0, v1, v2, v3, v4] := by cases args; simp_all
  obtain ⟨rfl, rfl⟩ := trodVars_none hV
  obtain ⟨a0, rfl, rfl, rfl, w0⟩ := open_int Try.underlying5 (hval 0 5 v0 rfl rfl) h0
  obtain ⟨a1, rfl, rfl, rfl, w1⟩ := open_int Try.underlying5 (hval 1 5 v1 rfl rfl) h1
  obtain ⟨a2, len2, cap2, rfl⟩ := okWide_slice Try.underlying23 (hval 2 23 v2 rfl rfl)
  have k2 := h2
  have lt2 : ∀ x ∈ p2, x.block < W.heap.size := by obtain ⟨m, hm⟩ := k2; exact DataW.trod_lt m _ _ _ hm
  obtain ⟨l2, rfl, w2, c2, cm2, b2⟩ : ∃ xs : List (List Int), xs.length = len2 ∧ Go.Proofs.YtbjoleelfihikaaW.PrintWords.Kd.C (Go.Proofs.YtbjoleelfihikaaW.PrintWords.Kd.slice 5 (Go.Proofs.YtbjoleelfihikaaW.PrintWords.Kd.int .u8)) W a2 len2 xs ∧ len2 ≤ cap2 ∧ cap2 ≤ maxLen ∧ ∀ y ∈ xs, Px.bytesP y := by
    obtain ⟨fuel, hf⟩ := h2
    exact Px.open_rows hf
  obtain ⟨a3, len3, cap3, rfl⟩ := okWide_slice Try.underlying23 (hval 3 23 v3 rfl rfl)
  have k3 := h3
  have lt3 : ∀ x ∈ p3, x.block < W.heap.size := by obtain ⟨m, hm⟩ := k3; exact DataW.trod_lt m _ _ _ hm
  obtain ⟨l3, rfl, w3, c3, cm3, b3⟩ : ∃ xs : List (List Int), xs.length = len3 ∧ Go.Proofs.YtbjoleelfihikaaW.PrintWords.Kd.C (Go.Proofs.YtbjoleelfihikaaW.PrintWords.Kd.slice 5 (Go.Proofs.YtbjoleelfihikaaW.PrintWords.Kd.int .u8)) W a3 len3 xs ∧ len3 ≤ cap3 ∧ cap3 ≤ maxLen ∧ ∀ y ∈ xs, Px.bytesP y := by
    obtain ⟨fuel, hf⟩ := h3
    exact Px.open_rows hf
  obtain ⟨a4, rfl, rfl, rfl, w4⟩ := open_int Try.underlying24 (hval 4 24 v4 rfl rfl) h4
  clear hA0 hval0 hsz0
  refine (Px.telemeterlaw12_PolicyMore.calls 30 a0 a1 a2 cap2 l2 a3 cap3 l3 a4 true W w2 c2 w3 c3 (Pure.PolicyMore a0 a1 l2 l3 a4 w0 w1 b2 b3 w4)).mono fun e W' ⟨he, bel⟩ => ?_
  subst he
  exact ⟨_, rfl, _, _, _, [], _, [], hW', trodAll_mk1 (shut_bool Try.underlying4 _), (trodAll_cons_mk (shut_int Try.underlying5 w0) (trodAll_cons_mk (shut_int Try.underlying5 w1) (trodAll_cons_mk (Below.trod laidOut (by kernel_rfl) (of_decide_eq_true (by kernel_rfl)) k2 bel lt2) (trodAll_cons_mk (Below.trod laidOut (by kernel_rfl) (of_decide_eq_true (by kernel_rfl)) k3 bel lt3) (trodAll_cons_mk (shut_int Try.underlying24 w4) trodAll_mk0))))), rfl, bel.frame _, fun h => by cases h⟩
theorem over : Rows.policyMoreRow.holds Try.pinned (OpenSpec.ofChange Rows.policyMoreSpec) :=
  OpenClaim.holds_of_wide 7 Try.f7 rfl rfl rfl rfl rfl rfl rfl ⟨rfl, rfl, rfl, rfl, rfl⟩ rfl rfl rfl rfl rfl (by kernel_rfl) Try.func7 (by kernel_rfl)
    (of_decide_eq_true (by kernel_rfl)) (by unfold Func.isWrapper; first | (rw [if_pos (by decide +kernel)]; kernel_rfl) | (rw [if_neg (by decide +kernel)]; exact ⟨rfl, rfl⟩))
    (fun os started H enc _ => lifted os started H enc)
theorem proved : Rows.PolicyMoreSaid := over
#print axioms proved
end Go.Proofs.Ytbjoleelfihikaa.policyMore
namespace Go.Proofs.Ytbjoleelfihikaa
/-- The row, under a short name, for the claim. -/
theorem policyMore_holds : Rows.PolicyMoreSaid := policyMore.proved
end Go.Proofs.Ytbjoleelfihikaa
