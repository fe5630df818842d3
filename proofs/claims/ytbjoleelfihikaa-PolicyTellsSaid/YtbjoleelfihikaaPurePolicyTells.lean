/- The document's answers on rules are the program's: plain functions. -/
import Derived.Test.YtbjoleelfihikaaPolS
import Derived.Test.YtbjoleelfihikaaPx23
import Derived.Test.YtbjoleelfihikaaPx25
import Derived.Test.YtbjoleelfihikaaPx26
import Derived.Test.YtbjoleelfihikaaPx27
import Derived.Test.YtbjoleelfihikaaPx24
import Derived.Test.YtbjoleelfihikaaPx29
import Derived.Test.YtbjoleelfihikaaOpen
namespace Go.Proofs.Ytbjoleelfihikaa.Px
open Go.RowKit Go.Proofs.YtbjoleelfihikaaW.PrintWords Go.Proofs.YtbjoleelfihikaaW.PrintLast Go.Proofs.YtbjoleelfihikaaW.PrintMore
set_option linter.unusedVariables false
set_option linter.unusedSimpArgs false

theorem Pol.getD_T39 (l : List S39) (i : Nat) (h : i < l.length) : l.drop i = rd_T39 l (i : Int) :: l.drop (i + 1) := by
  rw [List.drop_eq_getElem_cons h]
  congr 1
  simp [rd_T39, List.getD_eq_getElem?_getD, List.getElem?_eq_getElem h]
theorem Pol.getD_L4 (l : List (List S39)) (i : Nat) (h : i < l.length) : l.drop i = rd_L4 l (i : Int) :: l.drop (i + 1) := by
  rw [List.drop_eq_getElem_cons h]
  congr 1
  simp [rd_L4, List.getD_eq_getElem?_getD, List.getElem?_eq_getElem h]
theorem Pol.refLength_l0 (l : List S36) (hl : l.length ≤ 140737488355328) : ∀ (d i k : Nat) (a b : Int), l.length - i = d → i ≤ l.length → d < k → telemeterref12_Length.l0 k l a b (i : Int) = some (wrap64 (Pol.hi (l.drop i) b - Pol.lo (l.drop i) a)) := by
  intro d
  induction d with
  | zero =>
    intro i k a b hd hi hk
    obtain ⟨k, rfl⟩ : ∃ m, k = m + 1 := ⟨k - 1, by omega⟩
    have : i = l.length := by omega
    subst this
    simp only [telemeterref12_Length.l0]
    rw [if_neg (by omega)]
    simp [Pol.hi, Pol.lo]
  | succ d ih =>
    intro i k a b hd hi hk
    obtain ⟨k, rfl⟩ : ∃ m, k = m + 1 := ⟨k - 1, by omega⟩
    have hlt : i < l.length := by omega
    simp only [telemeterref12_Length.l0]
    rw [if_pos (by omega), if_pos (by omega)]
    rw [show wrap64 ((i : Int) + 1) = ((i + 1 : Nat) : Int) from by rw [Pol.w64 _ (by omega) (by omega)]; omega]
    rw [ih (i + 1) k _ _ (by omega) (by omega) (by omega), Pol.getD_T36 l i hlt]
    rfl
theorem Pol.refLength_f (l : List S36) (hl : l.length ≤ 140737488355328) (k : Nat) (hk : l.length < k) : telemeterref12_Length.f k l = some (Pol.lenF l) := by
  unfold telemeterref12_Length.f
  cases l with
  | nil => simp [Pol.lenF]
  | cons s r =>
    rw [if_neg (by simp only [List.length_cons]; omega), if_pos (by simp only [List.length_cons]; omega)]
    rw [show (0 : Int) = ((0 : Nat) : Int) from rfl, Pol.refLength_l0 (s :: r) hl _ 0 k _ _ rfl (Nat.zero_le _) (by omega)]
    simp [Pol.lenF, rd_T36]

/-- Few spans of few attributes. -/
def Pol.few (l : List S36) : Prop := l.length ≤ 10 ∧ ∀ s ∈ l, s.f8.length ≤ 10
theorem Pol.few_ok {l : List S36} (h : Pol.few l) : Pol.okS l = true := by
  rw [Pol.okS, Bool.and_eq_true]
  exact ⟨decide_eq_true (by have := h.1; omega), List.all_eq_true.2 fun s hs => decide_eq_true (by have := h.2 s hs; omega)⟩
def Pol.tailF (a0 : Int) (a2 a3 : ByteArray) (l : List S36) : Bool := if a0 = 2 then l.any fun s => s.f7 else if a0 = 3 then Pol.hasF l a2 a3 else false

theorem Pol.ref_l1 (l : List S36) (hf : Pol.few l) (a0 a1 : Int) (a2 a3 : ByteArray) (i : Nat) (hi : i < l.length) (c : Nat)
    (hnext : ∀ k, c ≤ k → telemeterref12_Holds.l0 k l ((i + 1 : Nat) : Int) a0 a1 a2 a3 = some (Pol.tailF a0 a2 a3 (l.drop (i + 1)))) :
    ∀ (e j k : Nat), (rd_T36 l (i : Int)).f8.length - j = e → j ≤ (rd_T36 l (i : Int)).f8.length → c + e + 1 ≤ k → telemeterref12_Holds.l1 k l (i : Int) (j : Int) a0 a1 a2 a3 = some ((if a0 = 3 then Pol.attrF ((rd_T36 l (i : Int)).f8.drop j) a2 a3 else false) || Pol.tailF a0 a2 a3 (l.drop (i + 1))) := by
  have hm : rd_T36 l (i : Int) ∈ l := Pol.getD_mem l (i : Int).toNat z36 (by omega)
  have h8 := hf.2 _ hm
  have hl10 := hf.1
  have hi1 : wrap64 ((i : Int) + 1) = ((i + 1 : Nat) : Int) := by rw [Pol.w64 _ (by omega) (by omega)]; omega
  intro e
  induction e with
  | zero =>
    intro j k he hj hk
    obtain ⟨k, rfl⟩ : ∃ q, k = q + 1 := ⟨k - 1, by omega⟩
    have hje : j = (rd_T36 l (i : Int)).f8.length := by omega
    rw [telemeterref12_Holds.l1, if_pos (by omega), if_pos (by omega), if_neg (by omega), hi1, hnext k (by omega), hje, List.drop_length]
    simp [Pol.attrF]
  | succ e ih =>
    intro j k he hj hk
    obtain ⟨k, rfl⟩ : ∃ q, k = q + 1 := ⟨k - 1, by omega⟩
    have hlt : j < (rd_T36 l (i : Int)).f8.length := by omega
    have hj1 : wrap64 ((j : Int) + 1) = ((j + 1 : Nat) : Int) := by rw [Pol.w64 _ (by omega) (by omega)]; omega
    have hih := ih (j + 1) k (by omega) (by omega) (by omega)
    have hdr : Pol.attrF ((rd_T36 l (i : Int)).f8.drop j) a2 a3 = ((a2.toList == (rd_T64 (rd_T36 l (i : Int)).f8 (j : Int)).f0.toList && a3.toList == (rd_T64 (rd_T36 l (i : Int)).f8 (j : Int)).f1.toList) || Pol.attrF ((rd_T36 l (i : Int)).f8.drop (j + 1)) a2 a3) := by
      rw [Pol.getD_T64 _ j hlt]
      rfl
    rw [telemeterref12_Holds.l1, if_pos (by omega), if_pos (by omega), if_pos (by omega), if_pos (by omega), hj1]
    by_cases c3 : a0 = 3
    · rw [if_pos c3] at hih
      rw [if_pos c3, if_pos c3, hdr]
      by_cases q1 : (rd_T64 (rd_T36 l (i : Int)).f8 (j : Int)).f0.toList = a2.toList
      · rw [if_pos q1]
        by_cases q2 : (rd_T64 (rd_T36 l (i : Int)).f8 (j : Int)).f1.toList = a3.toList
        · rw [if_pos q2, q1, q2]
          simp
        · have : (a3.toList == (rd_T64 (rd_T36 l (i : Int)).f8 (j : Int)).f1.toList) = false := beq_eq_false_iff_ne.2 (fun h => q2 h.symm)
          rw [if_neg q2, hih, this]
          simp
      · have : (a2.toList == (rd_T64 (rd_T36 l (i : Int)).f8 (j : Int)).f0.toList) = false := beq_eq_false_iff_ne.2 (fun h => q1 h.symm)
        rw [if_neg q1, hih, this]
        simp
    · rw [if_neg c3] at hih
      rw [if_neg c3, if_neg c3, hih]
theorem Pol.ref_l0 (l : List S36) (hf : Pol.few l) (a0 a1 : Int) (a2 a3 : ByteArray) : ∀ (d i k : Nat), l.length - i = d → i ≤ l.length → 13 * d + 1 ≤ k → telemeterref12_Holds.l0 k l (i : Int) a0 a1 a2 a3 = some (Pol.tailF a0 a2 a3 (l.drop i)) := by
  have hl10 := hf.1
  intro d
  induction d with
  | zero =>
    intro i k hd hi hk
    obtain ⟨k, rfl⟩ : ∃ m, k = m + 1 := ⟨k - 1, by omega⟩
    have : i = l.length := by omega
    subst this
    rw [telemeterref12_Holds.l0, if_neg (by omega), List.drop_length]
    simp [Pol.tailF, Pol.hasF]
  | succ d ih =>
    intro i k hd hi hk
    obtain ⟨k, rfl⟩ : ∃ m, k = m + 2 := ⟨k - 2, by omega⟩
    have hlt : i < l.length := by omega
    have hm : rd_T36 l (i : Int) ∈ l := Pol.getD_mem l (i : Int).toNat z36 (by omega)
    have h8 := hf.2 _ hm
    have h1 := Pol.ref_l1 l hf a0 a1 a2 a3 i hlt (13 * d + 1) (fun k' hk' => ih (i + 1) k' (by omega) (by omega) hk') _ 0 k rfl (Nat.zero_le _) (by omega)
    rw [List.drop_zero] at h1
    have hj : ∀ b : Bool, telemeterref12_Holds.j1 (k + 1) l (i : Int) b a0 a1 a2 a3 = some (b || ((if a0 = 3 then Pol.attrF (rd_T36 l (i : Int)).f8 a2 a3 else false) || Pol.tailF a0 a2 a3 (l.drop (i + 1)))) := by
      intro b
      rw [telemeterref12_Holds.j1]
      cases b with
      | true => simp
      | false =>
        rw [if_neg (by decide), Bool.false_or]
        exact h1
    rw [telemeterref12_Holds.l0, if_pos (by omega), Pol.getD_T36 l i hlt]
    by_cases c2 : a0 = 2
    · rw [if_pos c2, if_pos (by omega), hj]
      have c3 : ¬ a0 = 3 := by omega
      simp [Pol.tailF, c2]
    · rw [if_neg c2, hj]
      by_cases c3 : a0 = 3
      · simp [Pol.tailF, c3, Pol.hasF]
      · simp [Pol.tailF, c2, c3]
theorem Pol.refHolds_f (l : List S36) (hf : Pol.few l) (a0 a1 : Int) (a2 a3 : ByteArray) (n : Int) (k : Nat) (hk : 140 ≤ k) : telemeterref12_Holds.f k a0 a1 a2 a3 l n = some (Pol.holdsF a0 a1 a2 a3 l n) := by
  have hl10 := hf.1
  unfold telemeterref12_Holds.f Pol.holdsF
  by_cases c1 : a0 = 1
  · rw [if_pos c1, if_pos c1]
    by_cases h : (l.length : Int) > 0
    · rw [if_pos h, Pol.refLength_f l (by omega) k (by omega), Option.bind_some, decide_eq_true h, Bool.true_and]
    · rw [if_neg h, decide_eq_false h, Bool.false_and]
  rw [if_neg c1, if_neg c1]
  by_cases c4 : a0 = 4
  · rw [if_pos c4, if_neg (by omega), if_neg (by omega), if_pos c4]
  rw [if_neg c4]
  by_cases c5 : a0 = 5
  · rw [if_pos c5, if_neg (show ¬ a0 = 2 by omega), if_neg (show ¬ a0 = 3 by omega), if_neg c4, if_pos c5]
    by_cases h : a1 ≥ 0
    · rw [if_pos h, decide_eq_true h, Bool.true_and, telemeterref05_Keep.f, Pol.keepF]
      by_cases q : n < 72057594037927936
      · rw [if_pos q, Option.bind_some, decide_eq_true q, Bool.and_true]
      · rw [if_neg q, Option.bind_some, decide_eq_false q, Bool.and_false]
    · rw [if_neg h, decide_eq_false h, Bool.false_and]
  rw [if_neg c5, if_neg c4, if_neg c5]
  have := Pol.ref_l0 l hf a0 a1 a2 a3 l.length 0 k rfl (Nat.zero_le _) (by omega)
  rw [List.drop_zero] at this
  exact this
theorem Pol.refAll_f (l : List S36) (hf : Pol.few l) (n : Int) (row : List S39) (hr : row.length ≤ 100) (k : Nat) (hk : 250 ≤ k) : telemeterref12_All.f k row l n = some (Pol.allF row l n) := by
  have key : ∀ (d i k : Nat), row.length - i = d → i ≤ row.length → 141 + d ≤ k → telemeterref12_All.l0 k row l n (i : Int) = some (Pol.allF (row.drop i) l n) := by
    intro d
    induction d with
    | zero =>
      intro i k hd hi hk
      obtain ⟨k, rfl⟩ : ∃ m, k = m + 1 := ⟨k - 1, by omega⟩
      have : i = row.length := by omega
      subst this
      rw [telemeterref12_All.l0, if_neg (by omega), List.drop_length]
      rfl
    | succ d ih =>
      intro i k hd hi hk
      obtain ⟨k, rfl⟩ : ∃ m, k = m + 1 := ⟨k - 1, by omega⟩
      have hlt : i < row.length := by omega
      have e : Pol.allF (row.drop i) l n = (Pol.holdsF (rd_T39 row (i : Int)).f0 (rd_T39 row (i : Int)).f1 (rd_T39 row (i : Int)).f2 (rd_T39 row (i : Int)).f3 l n && Pol.allF (row.drop (i + 1)) l n) := by
        rw [Pol.getD_T39 row i hlt]
        rfl
      rw [telemeterref12_All.l0, if_pos (by omega), if_pos (by omega), Pol.refHolds_f l hf _ _ _ _ n k (by omega), Option.bind_some, Pol.w64 _ (by omega) (by omega), e]
      cases hb : Pol.holdsF (rd_T39 row (i : Int)).f0 (rd_T39 row (i : Int)).f1 (rd_T39 row (i : Int)).f2 (rd_T39 row (i : Int)).f3 l n with
      | true => rw [if_pos rfl, Bool.true_and]; exact ih (i + 1) k (by omega) (by omega) (by omega)
      | false => rw [if_neg (by decide), Bool.false_and]
  have := key row.length 0 k rfl (Nat.zero_le _) (by omega)
  rwa [List.drop_zero] at this
theorem Pol.refWhich_f (l : List S36) (hf : Pol.few l) (n : Int) (L : List (List S39)) (hL : L.length ≤ 100) (hr : ∀ row ∈ L, row.length ≤ 100) (k : Nat) (hk : 360 ≤ k) : telemeterref12_Which.f k L l n = some (Pol.whichF L l n) := by
  have key : ∀ (d i k : Nat), L.length - i = d → i ≤ L.length → 251 + d ≤ k → telemeterref12_Which.l0 k L l n (i : Int) = some (Pol.idxF (fun row => Pol.allF row l n) (L.drop i) (i : Int)) := by
    intro d
    induction d with
    | zero =>
      intro i k hd hi hk
      obtain ⟨k, rfl⟩ : ∃ m, k = m + 1 := ⟨k - 1, by omega⟩
      have : i = L.length := by omega
      subst this
      rw [telemeterref12_Which.l0, if_neg (by omega), List.drop_length]
      rfl
    | succ d ih =>
      intro i k hd hi hk
      obtain ⟨k, rfl⟩ : ∃ m, k = m + 1 := ⟨k - 1, by omega⟩
      have hlt : i < L.length := by omega
      have hm := Pol.rd_row_mem L (i : Int) (by omega) (by omega)
      rw [telemeterref12_Which.l0, if_pos (by omega), if_pos (by omega), Pol.refAll_f l hf n _ (hr _ hm) k (by omega), Option.bind_some, Pol.w64 _ (by omega) (by omega), Pol.getD_L4 L i hlt]
      simp only [Pol.idxF]
      by_cases hb : Pol.allF (rd_L4 L (i : Int)) l n = true
      · rw [if_pos hb, if_pos hb]
      · rw [if_neg hb, if_neg hb]
        exact ih (i + 1) k (by omega) (by omega) (by omega)
  have := key L.length 0 k rfl (Nat.zero_le _) (by omega)
  rwa [List.drop_zero] at this
end Go.Proofs.Ytbjoleelfihikaa.Px

/- The law PolicyTells holds of what the program computes. -/
namespace Go.Proofs.Ytbjoleelfihikaa.Pure
set_option linter.unusedVariables false
set_option linter.unusedSimpArgs false
open Go.RowKit Go.Proofs.Ytbjoleelfihikaa.Px Go.Proofs.YtbjoleelfihikaaW.PrintWords Go.Proofs.YtbjoleelfihikaaW.PrintLast Go.Proofs.YtbjoleelfihikaaW.PrintMore

/-- Few rows of few rules that have some kind. -/
def anyL (L : List (List S39)) : Prop := L.length ≤ 10 ∧ ∀ row ∈ L, row.length ≤ 10 ∧ ∀ r ∈ row, 0 ≤ r.f0 ∧ r.f0 ≤ 255
theorem anyL_okR {L : List (List S39)} (h : anyL L) (row : List S39) (hr : row ∈ L) : Pol.okR row = true := by
  have := h.2 row hr
  rw [Pol.okR, Bool.and_eq_true]
  exact ⟨decide_eq_true (by omega), List.all_eq_true.2 fun r hr => decide_eq_true (this.2 r hr)⟩
theorem anyL_okL {L : List (List S39)} (h : anyL L) : Pol.okL L = true := by
  rw [Pol.okL, Bool.and_eq_true]
  exact ⟨decide_eq_true (by have := h.1; omega), List.all_eq_true.2 fun row hr => anyL_okR h row hr⟩
theorem anyL_of_good {L : List (List S39)} (h : Pol.goodL 6 L) : anyL L := ⟨by have := h.1; omega, fun row hr => ⟨by have := (h.2 row hr).2.1; omega, fun r hq => by have := (h.2 row hr).2.2 r hq; omega⟩⟩
theorem few_of_good {X : List S36} (h8 : X.length ≤ 8) (h : ∀ s ∈ X, Pol.goodS s) : Pol.few X := ⟨by omega, fun s hs => by have := (h s hs).2.2.2; omega⟩

theorem tells_row (L : List (List S39)) (hL : anyL L) (X : List S36) (hX : Pol.few X) (n : Int) (i : Nat) (hi : i < L.length) (c : Nat) (hc : 400 ≤ c)
    (hnext : ∀ k, c ≤ k → telemeterlaw12_tells.l0 k L X n ((i + 1 : Nat) : Int) = some true) :
    ∀ (e j k : Nat), (rd_L4 L (i : Int)).length - j = e → j ≤ (rd_L4 L (i : Int)).length → c + e + 1 ≤ k → telemeterlaw12_tells.l1 k L X n (i : Int) (j : Int) = some true := by
  have hm := Pol.rd_row_mem L (i : Int) (by omega) (by omega)
  have hr10 := hL.2 _ hm
  have hl10 := hL.1
  have hokR := anyL_okR hL _ hm
  have hok := Pol.few_ok hX
  have hi1 : wrap64 ((i : Int) + 1) = ((i + 1 : Nat) : Int) := by rw [Pol.w64 _ (by omega) (by omega)]; omega
  intro e
  induction e with
  | zero =>
    intro j k he hj hk
    obtain ⟨k, rfl⟩ : ∃ q, k = q + 1 := ⟨k - 1, by omega⟩
    rw [telemeterlaw12_tells.l1, if_pos (by omega), if_pos (by omega), if_neg (by omega), Pol.all_eq hokR hok, Option.bind_some, Pol.refAll_f X hX n _ (by omega) k (by omega), Option.bind_some, bne_self_eq_false, if_neg (by decide), hi1]
    exact hnext k (by omega)
  | succ e ih =>
    intro j k he hj hk
    obtain ⟨k, rfl⟩ : ∃ q, k = q + 1 := ⟨k - 1, by omega⟩
    have hlt : j < (rd_L4 L (i : Int)).length := by omega
    have hk2 : 0 ≤ (rd_T39 (rd_L4 L (i : Int)) (j : Int)).f0 ∧ (rd_T39 (rd_L4 L (i : Int)) (j : Int)).f0 ≤ 255 := hr10.2 _ (Pol.getD_mem (rd_L4 L (i : Int)) (j : Int).toNat z39 (by omega))
    rw [telemeterlaw12_tells.l1, if_pos (by omega), if_pos (by omega), if_pos (by omega), if_pos (by omega), Pol.holds_eq hk2 hok, Option.bind_some, Pol.refHolds_f X hX _ _ _ _ n k (by omega), Option.bind_some, bne_self_eq_false, if_neg (by decide), Pol.w64 _ (by omega) (by omega)]
    exact ih (j + 1) k (by omega) (by omega) (by omega)
theorem tells_l0 (L : List (List S39)) (hL : anyL L) (X : List S36) (hX : Pol.few X) (n : Int) : ∀ (d i k : Nat), L.length - i = d → i ≤ L.length → 400 + 12 * d + 1 ≤ k → telemeterlaw12_tells.l0 k L X n (i : Int) = some true := by
  have hl10 := hL.1
  have hx10 := hX.1
  have hok := Pol.few_ok hX
  intro d
  induction d with
  | zero =>
    intro i k hd hi hk
    obtain ⟨k, rfl⟩ : ∃ m, k = m + 1 := ⟨k - 1, by omega⟩
    rw [telemeterlaw12_tells.l0, if_neg (by omega), Pol.which_eq (anyL_okL hL) hok, Option.bind_some, Pol.refWhich_f X hX n L (by omega) (fun row hr => by have := (hL.2 row hr).1; omega) k (by omega), Option.bind_some, if_pos rfl,
      Pol.Length_f X (Pol.okS_1 hok) k (by omega), Option.bind_some, Pol.refLength_f X (Pol.okS_1 hok) k (by omega), Option.bind_some, beq_self_eq_true]
  | succ d ih =>
    intro i k hd hi hk
    obtain ⟨k, rfl⟩ : ∃ m, k = m + 1 := ⟨k - 1, by omega⟩
    have hlt : i < L.length := by omega
    have hm := Pol.rd_row_mem L (i : Int) (by omega) (by omega)
    have hr10 := (hL.2 _ hm).1
    rw [telemeterlaw12_tells.l0, if_pos (by omega)]
    exact tells_row L hL X hX n i hlt (400 + 12 * d + 1) (by omega) (fun k' hk' => ih (i + 1) k' (by omega) (by omega) hk') _ 0 k rfl (Nat.zero_le _) (by omega)
theorem tells_true (L : List (List S39)) (hL : anyL L) (X : List S36) (hX : Pol.few X) (n : Int) (k : Nat) (hk : 600 ≤ k) : telemeterlaw12_tells.f k L X n = some true :=
  tells_l0 L hL X hX n _ 0 k rfl (Nat.zero_le _) (by have := hL.1; omega)

theorem tells_j2 (l1 : List S36) (h1 : Pol.few l1) (l2 : List Int) (h2 : bytesP l2) (n : Int) (X : List S36) (hX : Pol.few X) (k : Nat) (hk : 600 ≤ k) : telemeterlaw12_PolicyTells.j2 (k + 1) l1 l2 n X true = some true := by
  obtain ⟨C, hC, gC⟩ := Pol.rules_some l2 h2 k (by omega)
  have hL := anyL_of_good gC
  rw [telemeterlaw12_PolicyTells.j2, if_pos rfl, hC, Option.bind_some, tells_true C hL X hX n k hk, Option.bind_some, if_pos rfl, Option.bind_some, tells_true C hL X hX _ k hk, Option.bind_some, if_pos rfl, Option.bind_some, tells_true C hL l1 h1 n k hk, Option.bind_some]
theorem tells_loop (r : S39) (hr : 0 ≤ r.f0 ∧ r.f0 ≤ 255) (l1 : List S36) (h10 : l1.length ≤ 10) (l2 : List Int) (h2 : bytesP l2) (l3 : List (List Int)) (h3 : ∀ y ∈ l3, bytesP y) (n : Int) :
    ∀ (d i k : Nat), l1.length - i = d → i ≤ l1.length → (∀ j, j < i → (rd_T36 l1 (j : Int)).f8.length ≤ 10) → 610 + d ≤ k → telemeterlaw12_PolicyTells.l0 k l1 l2 l3 n (i : Int) r.f0 r.f1 r.f2 r.f3 = some true := by
  intro d
  induction d with
  | zero =>
    intro i k hd hi hj hk
    obtain ⟨k, rfl⟩ : ∃ m, k = m + 2 := ⟨k - 2, by omega⟩
    have hf : Pol.few l1 := ⟨h10, fun s hs => by
      obtain ⟨j, hjl, e⟩ := List.getElem_of_mem hs
      have := hj j (by omega)
      rw [rd_T36, Int.toNat_natCast, List.getD_eq_getElem?_getD, List.getElem?_eq_getElem hjl, Option.getD_some, e] at this
      exact this⟩
    obtain ⟨X, hX, hX8, gX⟩ := Pol.spans_some l3 h3 (k + 1) (by omega)
    have hXf := few_of_good hX8 gX
    have hR : anyL [[(⟨r.f0, r.f1, r.f2, r.f3⟩ : S39)]] := ⟨by simp, fun row hq => by rw [List.mem_singleton.1 hq]; exact ⟨by simp, fun q hq => by rw [List.mem_singleton.1 hq]; exact hr⟩⟩
    rw [telemeterlaw12_PolicyTells.l0, if_neg (by omega), hX, Option.bind_some, tells_true _ hR l1 hf n (k + 1) (by omega), Option.bind_some, if_pos rfl, tells_true _ hR X hXf n (k + 1) (by omega), Option.bind_some]
    exact tells_j2 l1 hf l2 h2 n X hXf k (by omega)
  | succ d ih =>
    intro i k hd hi hj hk
    obtain ⟨k, rfl⟩ : ∃ m, k = m + 1 := ⟨k - 1, by omega⟩
    rw [telemeterlaw12_PolicyTells.l0, if_pos (by omega), if_pos (by omega)]
    by_cases h : ((rd_T36 l1 (i : Int)).f8.length : Int) > 10
    · rw [if_pos h]
    · rw [if_neg h, Pol.w64 _ (by omega) (by omega)]
      refine ih (i + 1) k (by omega) (by omega) (fun j hj' => ?_) (by omega)
      by_cases hji : j = i
      · rw [hji]; omega
      · exact hj j (by omega)
theorem PolicyTells (r : S39) (hr : 0 ≤ r.f0 ∧ r.f0 ≤ 255) (l1 : List S36) (l2 : List Int) (h2 : bytesP l2) (l3 : List (List Int)) (h3 : ∀ y ∈ l3, bytesP y) (a4 : Int) (h4 : (Lit.int .u64 a4).wf = true) : telemeterlaw12_PolicyTells.f 700 r.f0 r.f1 r.f2 r.f3 l1 l2 l3 a4 = some true := by
  have htrue : telemeterlaw12_PolicyTells.j0 700 l1 l2 l3 a4 true r.f0 r.f1 r.f2 r.f3 = some true := by
    rw [telemeterlaw12_PolicyTells.j0, if_pos rfl, Pol.known_eq 699 (by omega), Option.bind_some]
  unfold telemeterlaw12_PolicyTells.f
  by_cases c1 : (l1.length : Int) > 10
  · rw [if_pos c1]; exact htrue
  rw [if_neg c1]
  by_cases c3 : (l3.length : Int) > 10
  · rw [if_pos c3]; exact htrue
  rw [if_neg c3, Pol.known_eq 700 (by omega), Option.bind_some, telemeterlaw12_PolicyTells.j0, if_neg (by decide)]
  exact tells_loop r hr l1 (by omega) l2 h2 l3 h3 a4 _ 0 699 rfl (Nat.zero_le _) (fun j hj => absurd hj (Nat.not_lt_zero _)) (by omega)
end Go.Proofs.Ytbjoleelfihikaa.Pure
