/- Rules and spans as choices say: what the printed functions of them come to, in plain words. -/
import Derived.Test.YtbjoleelfihikaaPolK
import Derived.Test.YtbjoleelfihikaaPx4
import Derived.Test.YtbjoleelfihikaaPx17
namespace Go.Proofs.Ytbjoleelfihikaa.Px
open Go.RowKit Go.Proofs.YtbjoleelfihikaaW.PrintWords Go.Proofs.YtbjoleelfihikaaW.PrintLast Go.Proofs.YtbjoleelfihikaaW.PrintMore
set_option linter.unusedVariables false
set_option linter.unusedSimpArgs false

abbrev Pol.bytesP (l : List Int) : Prop := ∀ x ∈ l, 0 ≤ x ∧ x ≤ 255
theorem Pol.rd_byte (l : List Int) (h : Pol.bytesP l) (i : Int) : 0 ≤ rd l i ∧ rd l i ≤ 255 := by
  unfold rd
  by_cases hi : i.toNat < l.length
  · rw [List.getD_eq_getElem?_getD, List.getElem?_eq_getElem hi]; exact h _ (List.getElem_mem hi)
  · rw [List.getD_eq_getElem?_getD, List.getElem?_eq_none (by omega)]; exact ⟨by decide, by decide⟩
theorem Pol.rule_some (a b : Int) (hb : 0 ≤ b ∧ b ≤ 255) : ∃ t, telemeterlaw12_Rule.f a b = some t ∧ 1 ≤ t.1 ∧ t.1 ≤ 5 := by
  unfold telemeterlaw12_Rule.f
  rw [Spn.nm_eq b hb, Option.bind_some]
  repeat' split
  all_goals exact ⟨_, rfl, by simp, by simp⟩

/-- Rows of few rules that have a kind. -/
def Pol.goodR (n : Nat) (row : List S39) : Prop := row ≠ [] ∧ row.length ≤ n ∧ ∀ r ∈ row, 1 ≤ r.f0 ∧ r.f0 ≤ 5
def Pol.goodL (n : Nat) (rows : List (List S39)) : Prop := rows.length ≤ n ∧ ∀ row ∈ rows, Pol.goodR n row
theorem Pol.goodR_mono {n m : Nat} {row : List S39} (h : Pol.goodR n row) (hm : n ≤ m) : Pol.goodR m row := ⟨h.1, Nat.le_trans h.2.1 hm, h.2.2⟩
theorem Pol.okR_of {n : Nat} {row : List S39} (hn : n ≤ 1000) (hl : row.length ≤ n) (h : ∀ r ∈ row, 1 ≤ r.f0 ∧ r.f0 ≤ 5) : Pol.okR row = true := by
  rw [Pol.okR, Bool.and_eq_true]
  refine ⟨decide_eq_true (by omega), List.all_eq_true.2 fun r hr => decide_eq_true ?_⟩
  have := h r hr
  omega
theorem Pol.goodR_ok {n : Nat} {row : List S39} (hn : n ≤ 1000) (h : Pol.goodR n row) : Pol.okR row = true := Pol.okR_of hn h.2.1 h.2.2
theorem Pol.goodL_ok {n : Nat} {rows : List (List S39)} (hn : n ≤ 1000) (h : Pol.goodL n rows) : Pol.okL rows = true := by
  rw [Pol.okL, Bool.and_eq_true]
  exact ⟨decide_eq_true (by have := h.1; omega), List.all_eq_true.2 fun r hr => Pol.goodR_ok hn (h.2 r hr)⟩
theorem Pol.rd_row_mem (rows : List (List S39)) (i : Int) (h0 : 0 ≤ i) (h : i < (rows.length : Int)) : rd_L4 rows i ∈ rows := Pol.getD_mem rows i.toNat [] (by omega)

theorem Pol.rules_loop (l : List Int) (hl : Pol.bytesP l) : ∀ (d i : Nat) (rows : List (List S39)) (n k : Nat), 18 ≤ i + 3 * d → i ≤ 20 → Pol.goodL n rows → n + d ≤ 100 → 2 * d + 2 ≤ k → ∃ out, telemeterlaw12_Rules.l0 k l rows (i : Int) = some out ∧ Pol.goodL (n + d) out := by
  intro d
  induction d with
  | zero =>
    intro i rows n k hi hi2 hg hn hk
    obtain ⟨k, rfl⟩ : ∃ m, k = m + 2 := ⟨k - 2, by omega⟩
    refine ⟨rows, ?_, hg⟩
    rw [telemeterlaw12_Rules.l0, decide_eq_false (by omega)]
    split <;> (rw [telemeterlaw12_Rules.j1, if_neg (by decide)])
  | succ d ih =>
    intro i rows n k hi hi2 hg hn hk
    obtain ⟨k, rfl⟩ : ∃ m, k = m + 2 := ⟨k - 2, by omega⟩
    have e1 : wrap64 ((i : Int) + 1) = (i : Int) + 1 := Pol.w64 _ (by omega) (by omega)
    have e2 : wrap64 ((i : Int) + 2) = (i : Int) + 2 := Pol.w64 _ (by omega) (by omega)
    have e3 : wrap64 ((i : Int) + 3) = ((i + 3 : Nat) : Int) := by rw [Pol.w64 _ (by omega) (by omega)]; omega
    rw [telemeterlaw12_Rules.l0, e2]
    by_cases h1 : (i : Int) + 2 < (l.length : Int)
    rotate_left
    · rw [if_neg h1, telemeterlaw12_Rules.j1, if_neg (by decide)]
      exact ⟨rows, rfl, by have := hg.1; omega, fun row hr => Pol.goodR_mono (hg.2 row hr) (by omega)⟩
    rw [if_pos h1]
    by_cases h2 : (i : Int) < 18
    rotate_left
    · rw [decide_eq_false h2, telemeterlaw12_Rules.j1, if_neg (by decide)]
      exact ⟨rows, rfl, by have := hg.1; omega, fun row hr => Pol.goodR_mono (hg.2 row hr) (by omega)⟩
    obtain ⟨t, ht, t1, t5⟩ := Pol.rule_some (rd l (i : Int)) (rd l ((i : Int) + 1)) (Pol.rd_byte l hl _)
    have hr1 : ∀ r ∈ [(⟨t.1, t.2.1, t.2.2.1, t.2.2.2⟩ : S39)], 1 ≤ r.f0 ∧ r.f0 ≤ 5 := fun r hr => by rw [List.mem_singleton.1 hr]; exact ⟨t1, t5⟩
    have hnew : Pol.goodL (n + 1) (rows ++ [[(⟨t.1, t.2.1, t.2.2.1, t.2.2.2⟩ : S39)]]) := by
      refine ⟨by rw [List.length_append, List.length_singleton]; have := hg.1; omega, fun row hr => ?_⟩
      rcases List.mem_append.1 hr with hr | hr
      · exact Pol.goodR_mono (hg.2 row hr) (by omega)
      · rw [List.mem_singleton.1 hr]; exact ⟨by simp, by simp, hr1⟩
    rw [decide_eq_true h2, telemeterlaw12_Rules.j1, if_pos rfl, if_pos (by omega), if_pos (by omega), e1, if_pos (by omega), if_pos (by omega), ht, Option.bind_some, e2, if_pos (by omega), if_pos (by omega), e3]
    have hstep := fun rows' (hg' : Pol.goodL (n + 1) rows') => ih (i + 3) rows' (n + 1) k (by omega) (by omega) hg' (by omega) (by omega)
    have hfin : ∀ x : Option (List (List S39)), (∃ out, x = some out ∧ Pol.goodL (n + 1 + d) out) → ∃ out, x = some out ∧ Pol.goodL (n + (d + 1)) out := fun x h => by rwa [show n + (d + 1) = n + 1 + d from by omega]
    by_cases h3 : Int.tmod (rd l ((i : Int) + 2)) 3 = 0
    · rw [if_pos h3]
      by_cases h4 : (rows.length : Int) > 0
      · have e4 : wrap64 ((rows.length : Int) - 1) = (rows.length : Int) - 1 := Pol.w64 _ (by omega) (by have := hg.1; omega)
        have hm := Pol.rd_row_mem rows ((rows.length : Int) - 1) (by omega) (by omega)
        have hgm := hg.2 _ hm
        rw [if_pos h4, e4, if_pos (by omega), if_pos (by omega), if_pos (by have := hgm.2.1; omega)]
        refine hfin _ (hstep _ ⟨by rw [List.length_set]; have := hg.1; omega, fun row hr => ?_⟩)
        rcases List.mem_or_eq_of_mem_set hr with hr | hr
        · exact Pol.goodR_mono (hg.2 row hr) (by omega)
        · rw [hr]
          refine ⟨by simp, by rw [List.length_append, List.length_singleton]; have := hgm.2.1; omega, fun r hr => ?_⟩
          rcases List.mem_append.1 hr with hr | hr
          · exact hgm.2.2 r hr
          · exact hr1 r hr
      · rw [if_neg h4, if_pos (by have := hg.1; omega)]
        exact hfin _ (hstep _ hnew)
    · rw [if_neg h3, if_pos (by have := hg.1; omega)]
      exact hfin _ (hstep _ hnew)
theorem Pol.rules_some (l : List Int) (hl : Pol.bytesP l) (k : Nat) (hk : 14 ≤ k) : ∃ out, telemeterlaw12_Rules.f k l = some out ∧ Pol.goodL 6 out := by
  have := Pol.rules_loop l hl 6 0 [] 0 k (by omega) (by omega) ⟨by simp, fun row hr => by cases hr⟩ (by omega) (by omega)
  simpa [telemeterlaw12_Rules.f] using this

/-! ### spans -/
def Pol.spanF (l : List Int) : S36 := ⟨IntKind.u64.wrap ((Spn.at l 0).tmod 3), IntKind.u64.wrap (IntKind.u64.wrap (IntKind.u64.wrap (IntKind.u64.wrap ((Spn.at l 1).tmod 4) * 18014398509481984) + IntKind.u64.wrap (Spn.at l 2)) + 1), IntKind.u64.wrap (IntKind.u64.wrap (Spn.at l 3) + 1), IntKind.u64.wrap ((Spn.at l 4).tmod 3), Spn.nm (Spn.at l 5), wrap64 (Spn.at l 6), wrap64 (wrap64 (Spn.at l 6) + wrap64 (Spn.at l 7)), ((Spn.at l 8).tmod 3 == 0), Spn.attrs (Spn.at l), Spn.rv (Spn.at l)⟩
theorem Pol.span_eq (l : List Int) (hl : Pol.bytesP l) : telemeterlaw03_Span.f l = some ((Pol.spanF l).f0, (Pol.spanF l).f1, (Pol.spanF l).f2, (Pol.spanF l).f3, (Pol.spanF l).f4, (Pol.spanF l).f5, (Pol.spanF l).f6, (Pol.spanF l).f7, (Pol.spanF l).f8, (Pol.spanF l).f9) := by
  rw [telemeterlaw03_Span.f, if_pos (List.all_eq_true.2 fun x hx => decide_eq_true (hl x hx))]
  rfl
theorem Pol.at_byte (l : List Int) (hl : Pol.bytesP l) (j : Nat) (hj : j < 12) : 0 ≤ Spn.at l j ∧ Spn.at l j ≤ 255 :=
  Spn.getD_byte _ (Spn.row_bytes l _ hl) j (by rw [Spn.row_length _ _ (by omega) (by omega)]; exact hj)
/-- A span that is small: it ends no earlier than it begins. -/
def Pol.goodS (s : S36) : Prop := 0 ≤ s.f5 ∧ s.f5 ≤ s.f6 ∧ s.f6 ≤ 1000 ∧ s.f8.length ≤ 2
theorem Pol.spanF_good (l : List Int) (hl : Pol.bytesP l) : Pol.goodS (Pol.spanF l) := by
  have h6 := Pol.at_byte l hl 6 (by omega)
  have h7 := Pol.at_byte l hl 7 (by omega)
  have e6 : wrap64 (Spn.at l 6) = Spn.at l 6 := Pol.w64 _ (by omega) (by omega)
  have e7 : wrap64 (Spn.at l 7) = Spn.at l 7 := Pol.w64 _ (by omega) (by omega)
  have e : wrap64 (wrap64 (Spn.at l 6) + wrap64 (Spn.at l 7)) = Spn.at l 6 + Spn.at l 7 := by rw [e6, e7]; exact Pol.w64 _ (by omega) (by omega)
  refine ⟨?_, ?_, ?_, ?_⟩
  · show 0 ≤ wrap64 (Spn.at l 6); omega
  · show wrap64 (Spn.at l 6) ≤ wrap64 (wrap64 (Spn.at l 6) + wrap64 (Spn.at l 7)); omega
  · show wrap64 (wrap64 (Spn.at l 6) + wrap64 (Spn.at l 7)) ≤ 1000; omega
  · show (Spn.attrs (Spn.at l)).length ≤ 2
    unfold Spn.attrs
    repeat' split
    all_goals simp
theorem Pol.spans_loop (m : List (List Int)) (hm : ∀ l ∈ m, Pol.bytesP l) : ∀ (d i : Nat) (acc : List S36) (k : Nat), 8 ≤ i + d → i ≤ 8 → acc.length ≤ i → (∀ s ∈ acc, Pol.goodS s) → d + 1 ≤ k → ∃ out, telemeterlaw12_Spans.l0 k m acc (i : Int) = some out ∧ out.length ≤ 8 ∧ ∀ s ∈ out, Pol.goodS s := by
  intro d
  induction d with
  | zero =>
    intro i acc k hi hi2 ha hg hk
    obtain ⟨k, rfl⟩ : ∃ m, k = m + 1 := ⟨k - 1, by omega⟩
    refine ⟨acc, ?_, by omega, hg⟩
    rw [telemeterlaw12_Spans.l0]
    split
    · rw [if_neg (by omega)]
    · rfl
  | succ d ih =>
    intro i acc k hi hi2 ha hg hk
    obtain ⟨k, rfl⟩ : ∃ m, k = m + 1 := ⟨k - 1, by omega⟩
    rw [telemeterlaw12_Spans.l0]
    by_cases h1 : (i : Int) < (m.length : Int)
    rotate_left
    · rw [if_neg h1]; exact ⟨acc, rfl, by omega, hg⟩
    rw [if_pos h1]
    by_cases h2 : (i : Int) < 8
    rotate_left
    · rw [if_neg h2]; exact ⟨acc, rfl, by omega, hg⟩
    have hmem : rd_L12 m (i : Int) ∈ m := Pol.getD_mem m (i : Int).toNat [] (by omega)
    rw [if_pos h2, if_pos (by omega), Pol.span_eq _ (hm _ hmem), Option.bind_some, if_pos (by omega)]
    rw [show wrap64 ((i : Int) + 1) = ((i + 1 : Nat) : Int) from by rw [Pol.w64 _ (by omega) (by omega)]; omega]
    refine ih (i + 1) _ k (by omega) (by omega) (by rw [List.length_append, List.length_singleton]; omega) (fun s hs => ?_) (by omega)
    rcases List.mem_append.1 hs with hs | hs
    · exact hg s hs
    · rw [List.mem_singleton.1 hs]; exact Pol.spanF_good _ (hm _ hmem)
theorem Pol.spans_some (m : List (List Int)) (hm : ∀ l ∈ m, Pol.bytesP l) (k : Nat) (hk : 9 ≤ k) : ∃ out, telemeterlaw12_Spans.f k m = some out ∧ out.length ≤ 8 ∧ ∀ s ∈ out, Pol.goodS s :=
  Pol.spans_loop m hm 8 0 [] k (by omega) (by omega) (by simp) (fun s hs => by cases hs) (by omega)
theorem Pol.spans_ok {l : List S36} (n : Nat) (hn : n ≤ 1000) (hl : l.length ≤ n) (h : ∀ s ∈ l, Pol.goodS s) : Pol.okS l = true := by
  rw [Pol.okS, Bool.and_eq_true]
  refine ⟨decide_eq_true (by omega), List.all_eq_true.2 fun s hs => decide_eq_true ?_⟩
  have := (h s hs).2.2.2
  omega
end Go.Proofs.Ytbjoleelfihikaa.Px
