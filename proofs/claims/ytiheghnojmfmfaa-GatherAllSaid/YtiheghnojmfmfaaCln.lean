/- slices.Clone, Grow and Concat of bytes, by hand. -/
import Derived.Test.YtiheghnojmfmfaaProg
import Derived.WalkKit
import Derived.WalkSpells
import Derived.Lib.SliceRun
import Derived.KernelRfl
import Derived.Test.YtiheghnojmfmfaaWWords
import Derived.Test.YtiheghnojmfmfaaWLast
import Derived.Test.YtiheghnojmfmfaaWZeros
import Derived.Test.YtiheghnojmfmfaaWMore
namespace Go.Proofs.Ytiheghnojmfmfaa.Px
open Go.RowKit Go.Proofs.YtiheghnojmfmfaaW.PrintWords Go.Proofs.YtiheghnojmfmfaaW.PrintLast Go.Proofs.YtiheghnojmfmfaaW.PrintMore
set_option linter.unusedVariables false
set_option linter.unusedSimpArgs false

theorem Cln.info5 : (Try.prog.info? 5).map (fun i => (i.zero, i.size, i.bytes)) = some (some (.int .u8 0), 1, 1) := by kernel_rfl

def slices_Clone_byte_byte.f (l0 : List Int) : Option (List Int) := if l0.length ≤ 140737488355328 then some l0 else none

set_option maxHeartbeats 4000000 in
set_option maxRecDepth 100000 in
theorem Cln.Clone_calls (A0 : Option Addr) (c0 : Nat) (l0 : List Int) (r : List Int) (w : World) (hr0 : Kd.C (Kd.int .u8) w A0 l0.length l0) (hc0 : l0.length ≤ c0) (h : slices_Clone_byte_byte.f l0 = some r) :
    Calls Try.prog 35 #[.slice A0 l0.length c0] w fun e w' => ∃ v0_ : Value, e = .returned (v0_) ∧ Kd.R (Kd.int .u8) 5 w' w.heap.size (fun _ => True) v0_ r ∧ Below w.heap.size w w' := by
  unfold slices_Clone_byte_byte.f at h
  by_cases hl : l0.length ≤ 140737488355328
  · rw [if_pos hl] at h
    simp only [Option.some.injEq] at h
    subst h
    have qT : ∀ (w : World) (a : Option Addr) (n c n' c' : Nat), (binOp .eql 22 (.slice a n c) (.slice none n' c')).run Try.prog w = .ok (.bool a.isNone) w := fun w a n c n' c' => Lib.run_eql_slice_nil w _ _ a n c n' c' Try.underlying22
    cases A0 with
    | none =>
      have hz : l0 = [] := by
        rcases Nat.eq_zero_or_pos l0.length with h0 | h0
        · exact List.eq_nil_of_length_eq_zero h0
        · obtain ⟨ad, e, _⟩ := hr0.2.2 h0
          cases e
      subst hz
      go_enter Try.func35, Try.ntmps35
      go_wp2
      go_ret
      exact ⟨_, rfl, Kd.R_nil _ _ _ _ _, Below.refl _ _⟩
    | some A =>
      have hnew : Kd.R (Kd.int .u8) 5 (w.alloc (.cells #[] 5)) w.heap.size (fun _ => True) (.slice (some ⟨w.heap.size, 0, none⟩) 0 0) [] :=
        Kd.R_of_own ⟨rfl, .inr ⟨w.heap.size, 0, #[], rfl, Nat.le_refl _, heap_alloc_new w _, Nat.le_refl _, Nat.zero_le _, rfl, rfl⟩⟩ (fun _ _ => trivial)
      have HB := Aside0.mk (below_alloc (Below.refl w.heap.size w) (.cells #[] 5))
      have HR := Aside0.mk (Kd.C_alloc hr0 (.cells #[] 5))
      have HO := Aside0.mk hnew
      clear hnew hr0
      go_enter Try.func35, Try.ntmps35
      go_wp2_with (at_builtin; refine Kd.R_append_row (Value.int .u8) 0 (w0 := w) w.heap.size rfl (.tmp 5) (.tmp 6) 22 5 (.int .u8 0) 1 rfl Try.underlying22 Cln.info5 rfl (by decide) (.slice (some ⟨w.heap.size, 0, none⟩) 0 0) [] l0 (some A) l0.length c0 (fun _ => True) rfl rfl (fun _ _ => trivial) HO.out HR.out HB.out (by simp) (by simp only [List.length_nil]; omega) ?_; intro v1 w1 ho hb _ _; rw [List.nil_append] at ho; have HO1 := Aside0.mk ho; have HB1 := Aside0.mk hb; clear ho hb)
      go_ret
      exact ⟨_, rfl, HO1.out, HB1.out⟩
  · rw [if_neg hl] at h; cases h

theorem Cln.own_form {W : World} {base n : Nat} {v : Value} (h : Kd.R (Kd.int .u8) 5 W base (fun _ => True) v (List.replicate n (0 : Int))) (hn : 0 < n) : ∃ g cap, v = .slice (some ⟨g, 0, none⟩) n cap ∧ n ≤ cap := by
  have ho := Kd.own_of_R h
  rw [List.length_replicate] at ho
  rcases ho.2 with ⟨_, h0⟩ | ⟨g, cap, _, rfl, _, _, hc, _⟩
  · omega
  · exact ⟨g, cap, rfl, hc⟩

set_option maxHeartbeats 4000000 in
set_option maxRecDepth 100000 in
theorem Cln.Grow_calls (n : Nat) (w : World) (hn : n ≤ 140737488355328) :
    Calls Try.prog 54 #[.slice none 0 0, .int .i64 (n : Int)] w fun e w' => ∃ v0_ : Value, e = .returned (v0_) ∧ Kd.R (Kd.int .u8) 5 w' w.heap.size (fun _ => True) v0_ [] ∧ Below w.heap.size w w' := by
  by_cases h0 : n = 0
  · subst h0
    go_enter Try.func54, Try.ntmps54
    go_wp2
    go_ret
    exact ⟨_, rfl, Kd.R_nil _ _ _ _ _, Below.refl _ _⟩
  · have b1 : decide ((n : Int) < 0) = false := decide_eq_false (by omega)
    have b2 : decide (0 < (n : Int)) = true := decide_eq_true (by omega)
    have b3 : 0 < n := by omega
    clear h0
    go_enter Try.func54, Try.ntmps54
    go_wp2_with (at_builtin; refine Kd.R_append_zeros (Kd.int .u8) (w0 := w) w.heap.size rfl (.tmp 20) (.tmp 21) 22 3 5 (.int .u8 0) 1 rfl Try.underlying22 Try.underlying3 Cln.info5 rfl (by decide) (by omega) (.slice none 0 0) [] 0 (n : Int) (fun _ => True) rfl rfl ?hz (fun _ _ => trivial) (Kd.R_nil _ _ _ _ _) (by omega) (Below.refl _ _) (Nat.le_refl _) (by simp only [List.length_nil, Int.toNat_natCast]; omega) ?_; (case hz => exact rfl); intro v1 w1 ho hb _ _; rw [List.nil_append, Int.toNat_natCast] at ho; obtain ⟨g, cap, hv, hcap⟩ := Cln.own_form ho b3; subst hv; have HO := Aside0.mk ho; have HB := Aside0.mk hb; clear ho hb)
    go_ret
    exact ⟨_, rfl, Kd.R_take HO.out (Nat.zero_le _), HB.out⟩


end Go.Proofs.Ytiheghnojmfmfaa.Px
