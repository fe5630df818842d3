/- Whether rules may be: the program's Right and the document's come to one plain function, however many rules there are. -/
import Derived.Test.YtbjoleelfihikaaPolS
import Derived.Test.YtbjoleelfihikaaPx20
import Derived.Test.YtbjoleelfihikaaPx21
namespace Go.Proofs.Ytbjoleelfihikaa.Px
open Go.RowKit Go.Proofs.YtbjoleelfihikaaW.PrintWords Go.Proofs.YtbjoleelfihikaaW.PrintLast Go.Proofs.YtbjoleelfihikaaW.PrintMore
set_option linter.unusedVariables false
set_option linter.unusedSimpArgs false

/-- Two whole numbers that are one modulo 2^64. -/
theorem Rgt.wrap_add (a b : Int) : wrap64 (wrap64 a + b) = wrap64 (a + b) := by unfold wrap64; omega
def Rgt.sum (l : List (List S39)) : Int := (l.map fun row => (row.length : Int)).sum
theorem Rgt.sum_cons (x : List S39) (r : List (List S39)) : Rgt.sum (x :: r) = (x.length : Int) + Rgt.sum r := by simp [Rgt.sum]
/-- Rows that may be: none empty, no odd rule, no more than twenty rules. -/
def Rgt.okF (l : List (List S39)) : Bool := l.all fun row => !decide (row = []) && !row.any Pol.oddF
def Rgt.rightW (l : List (List S39)) : Bool := Rgt.okF l && decide (wrap64 (Rgt.sum l) ≤ 20)

theorem Rgt.size_list (s : ByteArray) : s.toList = [] ↔ s.size = 0 := by
  rw [ByteArray.toList_eq]
  constructor
  · intro h
    have := congrArg List.length h
    rw [data_length] at this
    exact this
  · intro h
    apply List.eq_nil_of_length_eq_zero
    rw [data_length]
    exact h
/-- A rule that may be. -/
def Rgt.rt (a0 a1 : Int) (a2 a3 : ByteArray) : Bool :=
  if a0 = 1 ∨ a0 = 4 then decide (0 ≤ a1) && (decide (a2.size = 0) && decide (a3.size = 0))
  else if a0 = 2 then decide (a1 = 0) && (decide (a2.size = 0) && decide (a3.size = 0))
  else if a0 = 3 then decide (a1 = 0) && (decide (1 ≤ a2.size) && decide (a2.size ≤ 60) && decide (a3.size ≤ 60))
  else if a0 = 5 then decide (0 ≤ a1) && decide (a1 ≤ 72057594037927936) && (decide (a2.size = 0) && decide (a3.size = 0))
  else false
theorem Rgt.beq_nil (s : ByteArray) : (s.toList == ([] : List UInt8)) = decide (s.size = 0) := by
  by_cases h : s.size = 0
  · rw [(Rgt.size_list s).2 h, decide_eq_true h]; rfl
  · rw [decide_eq_false h]; exact beq_eq_false_iff_ne.2 (fun e => h ((Rgt.size_list s).1 e))
theorem Rgt.odd (a0 a1 : Int) (a2 a3 : ByteArray) : policy_odd.f 2 a0 a1 a2 a3 = some (!Rgt.rt a0 a1 a2 a3) := by
  have hm : decide (mx (a2.size : Int) (a3.size : Int) > 60) = !(decide (a2.size ≤ 60) && decide (a3.size ≤ 60)) := by
    have h : mx (a2.size : Int) (a3.size : Int) > 60 ↔ ¬ (a2.size ≤ 60 ∧ a3.size ≤ 60) := by unfold mx; split <;> omega
    by_cases k1 : a2.size ≤ 60 <;> by_cases k2 : a3.size ≤ 60 <;> simp [h, k1, k2]
  simp only [hm, policy_odd.f, policy_odd.j0, policy_odd.j1, Rgt.rt, Rgt.beq_nil, Rgt.size_list]
  by_cases c1 : a0 = 1
  · subst c1
    by_cases q : a1 < 0 <;> by_cases k : a2.size = 0 <;> simp [q, k] <;> omega
  by_cases c4 : a0 = 4
  · subst c4
    by_cases q : a1 < 0 <;> by_cases k : a2.size = 0 <;> simp [q, k] <;> omega
  by_cases c2 : a0 = 2
  · subst c2
    by_cases q : a1 = 0 <;> by_cases k : a2.size = 0 <;> simp [q, k]
  by_cases c3 : a0 = 3
  · subst c3
    by_cases q : a1 = 0 <;> by_cases k : a2.size = 0 <;> by_cases k1 : a2.size ≤ 60 <;> by_cases k2 : a3.size ≤ 60 <;> simp [q, k, k1, k2] <;> omega
  by_cases c5 : a0 = 5
  · subst c5
    by_cases q : a1 < 0 <;> by_cases q2 : a1 > 72057594037927936 <;> by_cases k : a2.size = 0 <;> simp [q, q2, k] <;> omega
  by_cases k : a2.size = 0 <;> simp [c1, c2, c3, c4, c5, k]
theorem Rgt.ref (a0 a1 : Int) (a2 a3 : ByteArray) (k : Nat) : telemeterref12_right.f (k + 1) a0 a1 a2 a3 = some (Rgt.rt a0 a1 a2 a3) := by
  simp only [telemeterref12_right.f, telemeterref12_right.j0, Rgt.rt, Rgt.beq_nil, Rgt.size_list]
  by_cases c1 : a0 = 1
  · subst c1
    by_cases q : a1 < 0 <;> by_cases k : a2.size = 0 <;> simp [q, k] <;> omega
  by_cases c4 : a0 = 4
  · subst c4
    by_cases q : a1 < 0 <;> by_cases k : a2.size = 0 <;> simp [q, k] <;> omega
  by_cases c2 : a0 = 2
  · subst c2
    by_cases q : a1 < 0 <;> by_cases q2 : a1 = 0 <;> by_cases k : a2.size = 0 <;> simp [q, q2, k] <;> omega
  by_cases c3 : a0 = 3
  · subst c3
    by_cases q : a1 < 0 <;> by_cases q2 : a1 = 0 <;> by_cases k1 : (a2.size : Int) ≥ 1 <;> by_cases k2 : (a2.size : Int) ≤ 60 <;> by_cases k3 : (a3.size : Int) ≤ 60 <;> simp [q, q2, k1, k2, k3] <;> omega
  by_cases c5 : a0 = 5
  · subst c5
    by_cases q : a1 < 0 <;> by_cases q2 : a1 > 72057594037927936 <;> by_cases k : a2.size = 0 <;> simp [q, q2, k] <;> omega
  have h : a0 < 1 ∨ a0 > 5 := by omega
  rcases h with h | h
  · simp [h, c1, c2, c3, c4, c5]
  · simp [h, c1, c2, c3, c4, c5]
theorem Rgt.oddF_eq (r : S39) : Pol.oddF r = !Rgt.rt r.f0 r.f1 r.f2 r.f3 := by
  rw [Pol.oddF, Rgt.odd]; rfl

/-! ### the document's Right -/
/-- Rows from the i-th on, of which n rules were counted. -/
def Rgt.fromF (l : List (List S39)) (n : Int) : Bool := Rgt.okF l && decide (wrap64 (n + Rgt.sum l) ≤ 20)
def Rgt.steps (l : List (List S39)) : Nat := (l.map fun row => row.length + 3).sum + 1
theorem Rgt.w64_i (i : Nat) (h : i < 9223372036854775807) : wrap64 ((i : Int) + 1) = ((i + 1 : Nat) : Int) := by
  rw [Pol.w64 _ (by omega) (by omega)]; omega
theorem Rgt.getD_L4 (l : List (List S39)) (i : Nat) (h : i < l.length) : l.drop i = rd_L4 l (i : Int) :: l.drop (i + 1) := by
  rw [List.drop_eq_getElem_cons h]
  congr 1
  simp [rd_L4, List.getD_eq_getElem?_getD, List.getElem?_eq_getElem h]
theorem Rgt.getD_T39 (l : List S39) (i : Nat) (h : i < l.length) : l.drop i = rd_T39 l (i : Int) :: l.drop (i + 1) := by
  rw [List.drop_eq_getElem_cons h]
  congr 1
  simp [rd_T39, List.getD_eq_getElem?_getD, List.getElem?_eq_getElem h]
theorem Rgt.ref_l1 (l : List (List S39)) (i : Nat) (hi : i < l.length) (hl : l.length ≤ 9223372036854775807) (hr : (rd_L4 l (i : Int)).length ≤ 9223372036854775807) (c : Nat)
    (hnext : ∀ (k : Nat) (n : Int), c ≤ k → telemeterref12_Right.l0 k l (wrap64 n) ((i + 1 : Nat) : Int) = some (Rgt.fromF (l.drop (i + 1)) n)) :
    ∀ (e j k : Nat) (n : Int), (rd_L4 l (i : Int)).length - j = e → j ≤ (rd_L4 l (i : Int)).length → c + e + 2 ≤ k →
      telemeterref12_Right.l1 k l (wrap64 n) (i : Int) (j : Int) = some (!((rd_L4 l (i : Int)).drop j).any Pol.oddF && Rgt.fromF (l.drop (i + 1)) (n + (((rd_L4 l (i : Int)).length - j : Nat) : Int))) := by
  intro e
  induction e with
  | zero =>
    intro j k n he hj hk
    obtain ⟨k, rfl⟩ : ∃ q, k = q + 1 := ⟨k - 1, by omega⟩
    have hje : j = (rd_L4 l (i : Int)).length := by omega
    rw [telemeterref12_Right.l1, if_pos (by omega), if_pos (by omega), if_neg (by omega), Rgt.w64_i i (by omega), hnext k n (by omega), hje, List.drop_length, Nat.sub_self]
    simp
  | succ e ih =>
    intro j k n he hj hk
    obtain ⟨k, rfl⟩ : ∃ q, k = q + 2 := ⟨k - 2, by omega⟩
    have hlt : j < (rd_L4 l (i : Int)).length := by omega
    have hih := ih (j + 1) (k + 1) (n + 1) (by omega) (by omega) (by omega)
    rw [telemeterref12_Right.l1, if_pos (by omega), if_pos (by omega), if_pos (by omega), if_pos (by omega), Rgt.ref, Option.bind_some, Rgt.wrap_add, Rgt.w64_i j (by omega), Rgt.getD_T39 _ j hlt, List.any_cons, Rgt.oddF_eq]
    by_cases h : Rgt.rt (rd_T39 (rd_L4 l (i : Int)) (j : Int)).f0 (rd_T39 (rd_L4 l (i : Int)) (j : Int)).f1 (rd_T39 (rd_L4 l (i : Int)) (j : Int)).f2 (rd_T39 (rd_L4 l (i : Int)) (j : Int)).f3 = true
    · rw [if_pos h, h, hih]
      have e1 : n + 1 + (((rd_L4 l (i : Int)).length - (j + 1) : Nat) : Int) = n + (((rd_L4 l (i : Int)).length - j : Nat) : Int) := by omega
      rw [e1]
      simp
    · rw [if_neg h]
      have h' : Rgt.rt (rd_T39 (rd_L4 l (i : Int)) (j : Int)).f0 (rd_T39 (rd_L4 l (i : Int)) (j : Int)).f1 (rd_T39 (rd_L4 l (i : Int)) (j : Int)).f2 (rd_T39 (rd_L4 l (i : Int)) (j : Int)).f3 = false := by simpa using h
      rw [h']
      simp
theorem Rgt.ref_l0 (l : List (List S39)) (hl : l.length ≤ 9223372036854775807) (hr : ∀ row ∈ l, row.length ≤ 9223372036854775807) : ∀ (d i k : Nat) (n : Int), l.length - i = d → i ≤ l.length → Rgt.steps (l.drop i) + 1 ≤ k → telemeterref12_Right.l0 k l (wrap64 n) (i : Int) = some (Rgt.fromF (l.drop i) n) := by
  intro d
  induction d with
  | zero =>
    intro i k n hd hi hk
    obtain ⟨k, rfl⟩ : ∃ m, k = m + 1 := ⟨k - 1, by omega⟩
    have : i = l.length := by omega
    subst this
    rw [telemeterref12_Right.l0, if_neg (by omega), List.drop_length]
    simp [Rgt.fromF, Rgt.okF, Rgt.sum]
  | succ d ih =>
    intro i k n hd hi hk
    obtain ⟨k, rfl⟩ : ∃ m, k = m + 1 := ⟨k - 1, by omega⟩
    have hlt : i < l.length := by omega
    have hm := Pol.rd_row_mem l (i : Int) (by omega) (by omega)
    have hst : Rgt.steps (l.drop i) = (rd_L4 l (i : Int)).length + 3 + Rgt.steps (l.drop (i + 1)) := by
      rw [Rgt.getD_L4 l i hlt]; simp only [Rgt.steps, List.map_cons, List.sum_cons]; omega
    rw [telemeterref12_Right.l0, if_pos (by omega), if_pos (by omega), Rgt.getD_L4 l i hlt]
    have hok : ∀ row : List S39, ∀ r, Rgt.okF (row :: r) = (!decide (row = []) && !row.any Pol.oddF && Rgt.okF r) := fun row r => rfl
    by_cases h0 : ((rd_L4 l (i : Int)).length : Int) = 0
    · have he : rd_L4 l (i : Int) = [] := List.eq_nil_of_length_eq_zero (by omega)
      rw [if_pos h0, Rgt.fromF, hok, he]
      simp
    · have he : ¬ rd_L4 l (i : Int) = [] := fun e => h0 (by rw [e]; rfl)
      rw [if_neg h0]
      have := Rgt.ref_l1 l i hlt hl (hr _ hm) (Rgt.steps (l.drop (i + 1)) + 1) (fun k' n' hk' => ih (i + 1) k' n' (by omega) (by omega) hk') _ 0 k n rfl (Nat.zero_le _) (by omega)
      rw [List.drop_zero, Nat.sub_zero] at this
      rw [show ((0 : Nat) : Int) = 0 from rfl] at this
      rw [this, Rgt.fromF, Rgt.fromF, hok, Rgt.sum_cons, decide_eq_false he, show n + ((rd_L4 l (i : Int)).length : Int) + Rgt.sum (l.drop (i + 1)) = n + (((rd_L4 l (i : Int)).length : Int) + Rgt.sum (l.drop (i + 1))) from by omega]
      simp only [Bool.not_false, Bool.true_and, Bool.and_assoc]
theorem Rgt.ref_f (l : List (List S39)) (hl : l.length ≤ 9223372036854775807) (hr : ∀ row ∈ l, row.length ≤ 9223372036854775807) : telemeterref12_Right.f (Rgt.steps l + 1) l = some (Rgt.rightW l) := by
  have := Rgt.ref_l0 l hl hr _ 0 (Rgt.steps l + 1) 0 rfl (Nat.zero_le _) (by rw [List.drop_zero]; omega)
  rw [show wrap64 0 = 0 from Pol.w64 _ (by omega) (by omega), List.drop_zero] at this
  unfold telemeterref12_Right.f
  rw [show (0 : Int) = ((0 : Nat) : Int) from rfl]
  rw [show ((0 : Nat) : Int) = 0 from rfl] at this ⊢
  rw [this, Rgt.fromF, Rgt.rightW, Int.zero_add]
end Go.Proofs.Ytbjoleelfihikaa.Px
