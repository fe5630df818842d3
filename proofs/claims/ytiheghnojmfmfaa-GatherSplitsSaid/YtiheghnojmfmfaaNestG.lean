/- A parameter of kind [][]byte: what a reading of it holds. -/
import Derived.Test.YtiheghnojmfmfaaFrmG
import Derived.Test.YtiheghnojmfmfaaRows
import Derived.WalkKit
import Derived.ProofKit
import Derived.OpenShut
import Derived.ShutString
import Derived.ChangeOld
import Derived.Below
import Derived.SizedLaws
import Derived.LaidMore
namespace Go.Proofs.Ytiheghnojmfmfaa.Px
open Go.ChangeShapes Go.WideShapes Go.ChangeAt Go.RowKit Go.Proofs.YtiheghnojmfmfaaW.PrintWords Go.Proofs.YtiheghnojmfmfaaW.PrintLast Go.Proofs.YtiheghnojmfmfaaW.PrintMore
set_option linter.unusedVariables false
set_option linter.unusedSimpArgs false

theorem rows_of {W : World} {a : Addr} {len : Nat} (key : ∀ i, i < len → ∃ y : List Int, ∃ A c, W.cell? (a.add i) = some (.slice A y.length c) ∧ y.length ≤ c ∧ (Kd.int .u8).C W A y.length y ∧ bytesP y) :
    ∀ m, m ≤ len → ∃ xs : List (List Int), xs.length = m ∧ (∀ j p, xs[j]? = some p → ∃ A c, W.cell? (a.add j) = some (.slice A p.length c) ∧ p.length ≤ c ∧ (Kd.int .u8).C W A p.length p) ∧ ∀ y ∈ xs, bytesP y := by
  intro m
  induction m with
  | zero => intro _; exact ⟨[], rfl, fun j p h => by simp at h, fun y hy => by cases hy⟩
  | succ m ih =>
    intro hm
    obtain ⟨xs, hl, hx, hb⟩ := ih (by omega)
    obtain ⟨y, A, c, h1, h2, h3, h4⟩ := key m (by omega)
    refine ⟨xs ++ [y], by rw [List.length_append, hl]; rfl, fun j p hj => ?_, fun z hz => ?_⟩
    · rcases Nat.lt_or_ge j xs.length with h | h
      · rw [List.getElem?_append_left h] at hj; exact hx j p hj
      · rw [List.getElem?_append_right h] at hj
        have hj0 : j - xs.length = 0 := by
          rcases Nat.eq_zero_or_pos (j - xs.length) with h' | h'
          · exact h'
          · rw [List.getElem?_eq_none (by simp; omega)] at hj; cases hj
        rw [hj0] at hj
        have hp : y = p := by simpa using hj
        subst hp
        obtain rfl : j = m := by omega
        exact ⟨A, c, h1, h2, h3⟩
    · rcases List.mem_append.1 hz with h | h
      · exact hb z h
      · rw [List.mem_singleton.1 h]; exact h4

theorem open_rows {H : Type} {enc : TypeId × Value → H} {W : World} {fuel : Nat} {a : Option Addr} {len cap : Nat} {x : DataW H × List MemPlace}
    (h : DataW.trod enc Try.prog W 0 (fun _ => true) true fuel 23 [.slice a len cap] = some x) :
    ∃ xs : List (List Int), xs.length = len ∧ Kd.C (Kd.slice 5 (Kd.int .u8)) W a len xs ∧ len ≤ cap ∧ cap ≤ maxLen ∧ ∀ y ∈ xs, bytesP y := by
  have hsz : Try.prog.cellsOf 22 = 1 := by kernel_rfl
  rcases DataW.trod_slice Try.underlying23 h with ⟨hcs, _⟩ | ⟨a', len', cap', elems, rest, n, _, hcs, hx, _, hl, hm, hlen, hel, _, _⟩
  · simp only [List.cons.injEq, Value.slice.injEq, and_true] at hcs
    obtain ⟨rfl, rfl, rfl⟩ := hcs
    exact ⟨[], rfl, ⟨rfl, by decide, fun h => absurd h (by decide)⟩, by decide, by decide, fun y hy => by cases hy⟩
  · simp only [List.cons.injEq, Value.slice.injEq, and_true] at hcs
    obtain ⟨rfl, rfl, rfl⟩ := hcs
    have key : ∀ i, i < len → ∃ y : List Int, ∃ A c, W.cell? (a'.add i) = some (.slice A y.length c) ∧ y.length ≤ c ∧ (Kd.int .u8).C W A y.length y ∧ bytesP y := by
      intro i hi
      have hE := hel i hi
      rw [hsz, Nat.mul_one] at hE
      cases hy : elems[i]? with
      | none => rw [List.getElem?_eq_none_iff] at hy; omega
      | some z =>
        rw [hy] at hE
        simp only [Option.bind_eq_some_iff] at hE
        obtain ⟨c1, hc1, hy1⟩ := hE
        have e0 : (a'.add i).add 0 = a'.add i := by simp [Addr.add]
        have : ∃ c, c1 = [c] ∧ W.cell? (a'.add i) = some c := by
          unfold World.cells? at hc1
          split at hc1
          · simp only [List.range_succ, List.range_zero, List.nil_append, List.mapM_cons, List.mapM_nil, e0] at hc1
            cases hcc : W.cell? (a'.add i) with
            | none => simp [hcc] at hc1
            | some c => simp [hcc] at hc1; exact ⟨c, hc1.symm, rfl⟩
          · cases hc1
        obtain ⟨c, rfl, hcell⟩ := this
        rcases open_ints Try.underlying22 Try.underlying5 (by kernel_rfl) hy1 with ⟨hcs, _⟩ | ⟨x, l, cc, zs, hcs, _, hl, hm, hz, _, hcl, hwz⟩
        · rw [List.cons.injEq] at hcs
          obtain ⟨rfl, _⟩ := hcs
          exact ⟨[], none, 0, hcell, by decide, Kd.C_nil _ _, bytesP_nil⟩
        · rw [List.cons.injEq] at hcs
          obtain ⟨rfl, _⟩ := hcs
          have hzl : zs.length = cc := by simpa using hz
          have htl : (zs.take l).length = l := by rw [List.length_take]; omega
          refine ⟨zs.take l, some x, cc, by rw [htl]; exact hcell, by rw [htl]; exact hl, ?_, fun y hy => u8_wf (hwz y (List.mem_of_mem_take hy))⟩
          have hmx : maxLen ≤ 9223372036854775807 := by decide
          refine Kd.C_of_reads (d := (0 : Int)) (h1 := fun _ => rfl) ⟨rfl, by rw [htl]; omega, fun _ => ⟨x, rfl, fun j hj => ?_⟩⟩
          rw [htl] at hj
          rw [hcl j (by omega), List.getD_eq_getElem?_getD, List.getD_eq_getElem?_getD, List.getElem?_take_of_lt hj]
    obtain ⟨xs, h1, h2, h3⟩ := rows_of key len (Nat.le_refl _)
    have hmx : maxLen ≤ 9223372036854775807 := by decide
    refine ⟨xs, h1, ⟨h1, by omega, fun _ => ⟨a', rfl, fun j p hj => ?_⟩⟩, hl, hm, h3⟩
    obtain ⟨A, c, g1, g2, g3⟩ := h2 j p hj
    refine ⟨[.slice A p.length c], rfl, ⟨A, c, rfl, g2, g3⟩, fun i u hu => ?_⟩
    cases i with
    | zero => simp only [List.getElem?_cons_zero, Option.some.injEq] at hu; subst hu; rw [Nat.add_zero]; show W.cell? (a'.add (j * 1)) = _; rw [Nat.mul_one]; exact g1
    | succ i => simp at hu

end Go.Proofs.Ytiheghnojmfmfaa.Px
