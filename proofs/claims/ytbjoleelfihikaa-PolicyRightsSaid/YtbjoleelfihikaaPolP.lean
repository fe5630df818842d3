/- The policy's answers as plain functions of rules and spans, and what the printed functions that they rest on come to. -/
import Derived.Test.YtbjoleelfihikaaPolI
import Derived.Test.YtbjoleelfihikaaPx12
import Derived.Test.YtbjoleelfihikaaPx14
import Derived.Test.YtbjoleelfihikaaPx32
import Derived.Test.YtbjoleelfihikaaPx34
namespace Go.Proofs.Ytbjoleelfihikaa.Px
open Go.RowKit Go.Proofs.YtbjoleelfihikaaW.PrintWords Go.Proofs.YtbjoleelfihikaaW.PrintLast Go.Proofs.YtbjoleelfihikaaW.PrintMore
set_option linter.unusedVariables false
set_option linter.unusedSimpArgs false

def Pol.lo : List S36 → Int → Int
  | [], m => m
  | s :: r, m => Pol.lo r (mn m s.f5)
def Pol.hi : List S36 → Int → Int
  | [], m => m
  | s :: r, m => Pol.hi r (mx m s.f6)
/-- From the first beginning to the last end. -/
def Pol.lenF : List S36 → Int
  | [] => 0
  | s :: r => wrap64 (Pol.hi (s :: r) s.f6 - Pol.lo (s :: r) s.f5)
def Pol.keepF (n t : Int) : Bool := decide (n ≥ t) && decide (n < 72057594037927936)
def Pol.attrF (l : List S64) (key val : ByteArray) : Bool := l.any fun a => key.toList == a.f0.toList && val.toList == a.f1.toList
def Pol.hasF (l : List S36) (key val : ByteArray) : Bool := l.any fun s => Pol.attrF s.f8 key val
/-- Whether a rule holds. -/
def Pol.holdsF (a0 a1 : Int) (a2 a3 : ByteArray) (l : List S36) (n : Int) : Bool :=
  if a0 = 1 then decide ((l.length : Int) > 0) && decide (Pol.lenF l ≥ a1)
  else if a0 = 2 then l.any fun s => s.f7
  else if a0 = 3 then Pol.hasF l a2 a3
  else if a0 = 4 then decide ((l.length : Int) ≥ a1)
  else if a0 = 5 then decide (a1 ≥ 0) && Pol.keepF n (IntKind.u64.wrap a1)
  else false
def Pol.allF (l : List S39) (s : List S36) (n : Int) : Bool := l.all fun r => Pol.holdsF r.f0 r.f1 r.f2 r.f3 s n
def Pol.whichF (l : List (List S39)) (s : List S36) (n : Int) : Int := Pol.idxF (fun row => Pol.allF row s n) l 0
def Pol.oddF (r : S39) : Bool := (policy_odd.f 2 r.f0 r.f1 r.f2 r.f3).getD true
def Pol.rightF (l : List (List S39)) : Bool := (l.all fun row => !decide (row = []) && !row.any Pol.oddF) && decide ((l.map fun row => (row.length : Int)).sum ≤ 20)

/-- Spans whose rows are no longer than any machine bears. -/
def Pol.okS (l : List S36) : Bool := decide (l.length ≤ 140737488355328) && l.all fun s => decide (s.f8.length ≤ 140737488355328)
def Pol.okR (l : List S39) : Bool := decide (l.length ≤ 140737488355328) && l.all fun r => decide (0 ≤ r.f0 ∧ r.f0 ≤ 255)
def Pol.okL (l : List (List S39)) : Bool := decide (l.length ≤ 140737488355328) && l.all Pol.okR
theorem Pol.okS_1 {l : List S36} (h : Pol.okS l = true) : l.length ≤ 140737488355328 := by simp [Pol.okS] at h; exact h.1
theorem Pol.okS_2 {l : List S36} (h : Pol.okS l = true) (s : S36) (hs : s ∈ l) : s.f8.length ≤ 140737488355328 := by simp [Pol.okS] at h; exact h.2 s hs
theorem Pol.okR_1 {l : List S39} (h : Pol.okR l = true) : l.length ≤ 140737488355328 := by simp [Pol.okR] at h; exact h.1
theorem Pol.okR_2 {l : List S39} (h : Pol.okR l = true) (s : S39) (hs : s ∈ l) : 0 ≤ s.f0 ∧ s.f0 ≤ 255 := by simp [Pol.okR] at h; exact h.2 s hs
theorem Pol.okL_1 {l : List (List S39)} (h : Pol.okL l = true) : l.length ≤ 140737488355328 := by simp [Pol.okL] at h; exact h.1
theorem Pol.okL_2 {l : List (List S39)} (h : Pol.okL l = true) (s : List S39) (hs : s ∈ l) : Pol.okR s = true := by simp [Pol.okL] at h; exact h.2 s hs

def policy_Holds.f (a0 a1 : Int) (a2 a3 : ByteArray) (l : List S36) (n : Int) : Option Bool := if 0 ≤ a0 ∧ a0 ≤ 255 ∧ Pol.okS l = true then some (Pol.holdsF a0 a1 a2 a3 l n) else none
def policy_All.f (l0 : List S39) (l : List S36) (n : Int) : Option Bool := if Pol.okR l0 = true ∧ Pol.okS l = true then some (Pol.allF l0 l n) else none
def policy_Which.f (l0 : List (List S39)) (l : List S36) (n : Int) : Option Int := if Pol.okL l0 = true ∧ Pol.okS l = true then some (Pol.whichF l0 l n) else none
def policy_Right.f (l0 : List (List S39)) : Option Bool := if l0.length ≤ 140737488355328 ∧ (l0.map fun row => (row.length : Int)).sum ≤ 140737488355328 then some (Pol.rightF l0) else none

/-! ### the printed functions -/
theorem Pol.w64 (x : Int) (h0 : -9223372036854775808 ≤ x) (h1 : x ≤ 9223372036854775807) : wrap64 x = x := by unfold wrap64; omega
theorem Pol.getD_T36 (l : List S36) (i : Nat) (h : i < l.length) : l.drop i = rd_T36 l (i : Int) :: l.drop (i + 1) := by
  rw [List.drop_eq_getElem_cons h]
  congr 1
  simp [rd_T36, List.getD_eq_getElem?_getD, List.getElem?_eq_getElem h]
theorem Pol.getD_T64 (l : List S64) (i : Nat) (h : i < l.length) : l.drop i = rd_T64 l (i : Int) :: l.drop (i + 1) := by
  rw [List.drop_eq_getElem_cons h]
  congr 1
  simp [rd_T64, List.getD_eq_getElem?_getD, List.getElem?_eq_getElem h]
theorem Pol.Length_l0 (l : List S36) (hl : l.length ≤ 140737488355328) : ∀ (d i k : Nat) (a b : Int), l.length - i = d → i ≤ l.length → d < k → policy_Length.l0 k a b l (l.length : Int) (i : Int) = some (wrap64 (Pol.hi (l.drop i) b - Pol.lo (l.drop i) a)) := by
  intro d
  induction d with
  | zero =>
    intro i k a b hd hi hk
    obtain ⟨k, rfl⟩ : ∃ m, k = m + 1 := ⟨k - 1, by omega⟩
    have : i = l.length := by omega
    subst this
    simp only [policy_Length.l0]
    rw [if_neg (by omega)]
    simp [Pol.hi, Pol.lo]
  | succ d ih =>
    intro i k a b hd hi hk
    obtain ⟨k, rfl⟩ : ∃ m, k = m + 1 := ⟨k - 1, by omega⟩
    have hlt : i < l.length := by omega
    simp only [policy_Length.l0]
    rw [if_pos (by omega), if_pos (by omega), if_pos (by omega)]
    rw [show wrap64 ((i : Int) + 1) = ((i + 1 : Nat) : Int) from by rw [Pol.w64 _ (by omega) (by omega)]; omega]
    rw [ih (i + 1) k _ _ (by omega) (by omega) (by omega), Pol.getD_T36 l i hlt]
    rfl
theorem Pol.Length_f (l : List S36) (hl : l.length ≤ 140737488355328) (k : Nat) (hk : l.length < k) : policy_Length.f k l = some (Pol.lenF l) := by
  unfold policy_Length.f
  cases l with
  | nil => simp [Pol.lenF]
  | cons s r =>
    rw [if_neg (by simp only [List.length_cons]; omega), if_pos (by simp only [List.length_cons]; omega)]
    rw [show (0 : Int) = ((0 : Nat) : Int) from rfl, Pol.Length_l0 (s :: r) hl _ 0 k _ _ rfl (Nat.zero_le _) (by omega)]
    simp [Pol.lenF, rd_T36]
theorem Pol.Attr_l0 (l : List S64) (hl : l.length ≤ 140737488355328) (key val : ByteArray) : ∀ (d i k : Nat), l.length - i = d → i ≤ l.length → d < k → api_Attr_46.l0 k l (l.length : Int) (i : Int) key val = some (Pol.idxF (fun a : S64 => key.toList == a.f0.toList && val.toList == a.f1.toList) (l.drop i) (i : Int)) := by
  intro d
  induction d with
  | zero =>
    intro i k hd hi hk
    obtain ⟨k, rfl⟩ : ∃ m, k = m + 1 := ⟨k - 1, by omega⟩
    have : i = l.length := by omega
    subst this
    simp only [api_Attr_46.l0]
    rw [if_neg (by omega)]
    simp [Pol.idxF]
  | succ d ih =>
    intro i k hd hi hk
    obtain ⟨k, rfl⟩ : ∃ m, k = m + 1 := ⟨k - 1, by omega⟩
    have hlt : i < l.length := by omega
    simp only [api_Attr_46.l0]
    rw [if_pos (by omega), if_pos (by omega), if_pos (by omega), Pol.getD_T64 l i hlt]
    simp only [Pol.idxF]
    by_cases hx : (key.toList == (rd_T64 l (i : Int)).f0.toList && val.toList == (rd_T64 l (i : Int)).f1.toList) = true
    · rw [if_pos hx, if_pos hx]
    · rw [if_neg hx, if_neg hx]
      rw [show wrap64 ((i : Int) + 1) = ((i + 1 : Nat) : Int) from by rw [Pol.w64 _ (by omega) (by omega)]; omega]
      rw [ih (i + 1) k (by omega) (by omega) (by omega)]
      congr 2
theorem Pol.Attr_f (l : List S64) (hl : l.length ≤ 140737488355328) (key val : ByteArray) (k : Nat) (hk : l.length < k) : api_Attr_43.f k l key val = some (Pol.attrF l key val) := by
  unfold api_Attr_43.f api_Attr_46.f
  rw [show (0 : Int) = ((0 : Nat) : Int) from rfl, Pol.Attr_l0 l hl key val _ 0 k rfl (Nat.zero_le _) (by omega), Option.bind_some]
  simp only [List.drop_zero]
  congr 1
  exact Pol.idxF_any _ l _ (Int.le_refl _)
theorem Pol.odd_f (r : S39) : policy_odd.f 2 r.f0 r.f1 r.f2 r.f3 = some (Pol.oddF r) := by
  have : ∃ b, policy_odd.f 2 r.f0 r.f1 r.f2 r.f3 = some b := by
    unfold policy_odd.f
    simp only [policy_odd.j0, policy_odd.j1]
    repeat' split
    all_goals exact ⟨_, rfl⟩
  obtain ⟨b, hb⟩ := this
  rw [Pol.oddF, hb]
  rfl
end Go.Proofs.Ytbjoleelfihikaa.Px
