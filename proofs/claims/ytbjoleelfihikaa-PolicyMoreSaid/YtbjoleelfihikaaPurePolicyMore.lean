/- The law PolicyMore holds of what the program computes. -/
import Derived.Test.YtbjoleelfihikaaPx30
import Derived.Test.YtbjoleelfihikaaPolS
import Derived.Test.YtbjoleelfihikaaNestP
namespace Go.Proofs.Ytbjoleelfihikaa.Pure
set_option linter.unusedVariables false
set_option linter.unusedSimpArgs false
open Go.RowKit Go.Proofs.Ytbjoleelfihikaa.Px Go.Proofs.YtbjoleelfihikaaW.PrintWords Go.Proofs.YtbjoleelfihikaaW.PrintLast Go.Proofs.YtbjoleelfihikaaW.PrintMore

theorem hi_app (y : List S36) : ∀ (x : List S36) (m : Int), Pol.hi (x ++ y) m = Pol.hi y (Pol.hi x m)
  | [], _ => rfl
  | s :: r, m => hi_app y r (mx m s.f6)
theorem lo_app (y : List S36) : ∀ (x : List S36) (m : Int), Pol.lo (x ++ y) m = Pol.lo y (Pol.lo x m)
  | [], _ => rfl
  | s :: r, m => lo_app y r (mn m s.f5)
theorem hi_ge : ∀ (x : List S36) (m : Int), m ≤ Pol.hi x m
  | [], _ => Int.le_refl _
  | s :: r, m => by
    have h := hi_ge r (mx m s.f6)
    have : m ≤ mx m s.f6 := by unfold mx; split <;> omega
    show m ≤ Pol.hi r (mx m s.f6)
    omega
theorem lo_le : ∀ (x : List S36) (m : Int), Pol.lo x m ≤ m
  | [], _ => Int.le_refl _
  | s :: r, m => by
    have h := lo_le r (mn m s.f5)
    have : mn m s.f5 ≤ m := by unfold mn; split <;> omega
    show Pol.lo r (mn m s.f5) ≤ m
    omega
theorem hi_le (B : Int) : ∀ (x : List S36) (m : Int), m ≤ B → (∀ s ∈ x, s.f6 ≤ B) → Pol.hi x m ≤ B
  | [], _, h, _ => h
  | s :: r, m, h, hs => hi_le B r _ (by have := hs s (by simp); unfold mx; split <;> omega) (fun t ht => hs t (by simp [ht]))
theorem lo_ge (B : Int) : ∀ (x : List S36) (m : Int), B ≤ m → (∀ s ∈ x, B ≤ s.f5) → B ≤ Pol.lo x m
  | [], _, h, _ => h
  | s :: r, m, h, hs => lo_ge B r _ (by have := hs s (by simp); unfold mn; split <;> omega) (fun t ht => hs t (by simp [ht]))
/-- A small list's length is a plain difference. -/
theorem len_eq (s : S36) (r : List S36) (h : ∀ t ∈ s :: r, Pol.goodS t) : Pol.lenF (s :: r) = Pol.hi (s :: r) s.f6 - Pol.lo (s :: r) s.f5 ∧ 0 ≤ Pol.hi (s :: r) s.f6 - Pol.lo (s :: r) s.f5 := by
  have hs := h s (by simp)
  have h1 := hi_ge (s :: r) s.f6
  have h2 := lo_le (s :: r) s.f5
  have h3 := hi_le 1000 (s :: r) s.f6 hs.2.2.1 (fun t ht => (h t ht).2.2.1)
  have h4 := lo_ge 0 (s :: r) s.f5 hs.1 (fun t ht => (h t ht).1)
  have h5 := hs.2.1
  rw [Pol.lenF, Pol.w64 _ (by omega) (by omega)]
  exact ⟨rfl, by omega⟩
theorem len_nonneg (x : List S36) (h : ∀ t ∈ x, Pol.goodS t) : 0 ≤ Pol.lenF x := by
  cases x with
  | nil => exact Int.le_refl _
  | cons s r => have := len_eq s r h; omega
theorem len_mono (x y : List S36) (hx : ∀ t ∈ x, Pol.goodS t) (hy : ∀ t ∈ y, Pol.goodS t) : Pol.lenF x ≤ Pol.lenF (x ++ y) := by
  cases x with
  | nil => exact len_nonneg y hy
  | cons s r =>
    have h1 := len_eq s r hx
    have h2 := len_eq s (r ++ y) (fun t ht => (List.mem_append.1 (show t ∈ (s :: r) ++ y from ht)).elim (hx t) (hy t))
    have e1 : Pol.hi (s :: (r ++ y)) s.f6 = Pol.hi y (Pol.hi (s :: r) s.f6) := hi_app y (s :: r) s.f6
    have e2 : Pol.lo (s :: (r ++ y)) s.f5 = Pol.lo y (Pol.lo (s :: r) s.f5) := lo_app y (s :: r) s.f5
    have h3 := hi_ge y (Pol.hi (s :: r) s.f6)
    have h4 := lo_le y (Pol.lo (s :: r) s.f5)
    rw [List.cons_append, h1.1, h2.1, e1, e2]
    omega
theorem holds_mono (a0 a1 : Int) (a2 a3 : ByteArray) (x y : List S36) (n : Int) (hx : ∀ t ∈ x, Pol.goodS t) (hy : ∀ t ∈ y, Pol.goodS t) (h : Pol.holdsF a0 a1 a2 a3 x n = true) : Pol.holdsF a0 a1 a2 a3 (x ++ y) n = true := by
  have hl := len_mono x y hx hy
  have hlen : ((x ++ y).length : Int) = (x.length : Int) + (y.length : Int) := by rw [List.length_append]; omega
  unfold Pol.holdsF at h ⊢
  by_cases c1 : a0 = 1
  · rw [if_pos c1] at h ⊢
    simp only [Bool.and_eq_true, decide_eq_true_eq] at h ⊢
    omega
  rw [if_neg c1] at h ⊢
  by_cases c2 : a0 = 2
  · rw [if_pos c2] at h ⊢; rw [List.any_append, h]; rfl
  rw [if_neg c2] at h ⊢
  by_cases c3 : a0 = 3
  · rw [if_pos c3] at h ⊢
    unfold Pol.hasF at h ⊢
    rw [List.any_append, h]; rfl
  rw [if_neg c3] at h ⊢
  by_cases c4 : a0 = 4
  · rw [if_pos c4] at h ⊢
    simp only [decide_eq_true_eq] at h ⊢
    omega
  rw [if_neg c4] at h ⊢
  exact h
theorem more_j0 (a0 a1 : Int) (l2 l3 : List (List Int)) (a4 : Int) (h1 : 0 ≤ a1 ∧ a1 ≤ 255) (h2 : ∀ y ∈ l2, bytesP y) (h3 : ∀ y ∈ l3, bytesP y) (x : Bool) : telemeterlaw12_PolicyMore.j0 30 a0 a1 l2 l3 a4 x = some true := by
  cases x with
  | true => rw [telemeterlaw12_PolicyMore.j0, if_pos rfl, Pol.known_eq 29 (by omega), Option.bind_some]
  | false =>
    obtain ⟨t, ht, t1, t5⟩ := Pol.rule_some a0 a1 h1
    obtain ⟨u, hu, hu8, hug⟩ := Pol.spans_some l2 h2 29 (by omega)
    obtain ⟨v, hv, hv8, hvg⟩ := Pol.spans_some l3 h3 29 (by omega)
    have oku := Pol.spans_ok 8 (by omega) hu8 hug
    have hg : ∀ s ∈ u ++ v, Pol.goodS s := fun s hs => (List.mem_append.1 hs).elim (hug s) (hvg s)
    have hl16 : (u ++ v).length ≤ 16 := by rw [List.length_append]; omega
    have okuv := Pol.spans_ok 16 (by omega) hl16 hg
    have hm := len_mono u v hug hvg
    rw [telemeterlaw12_PolicyMore.j0, if_neg (by decide), ht, Option.bind_some, hu, Option.bind_some, if_pos (by simp only [List.length_nil]; omega), Option.bind_some, List.nil_append, hv, Option.bind_some, if_pos (by omega), Option.bind_some,
      Pol.holds_eq ⟨by omega, by omega⟩ oku, Option.bind_some]
    have e1 := Pol.Length_f u (Pol.okS_1 oku) 29 (by omega)
    have e2 := Pol.Length_f (u ++ v) (Pol.okS_1 okuv) 29 (by omega)
    by_cases c : Pol.holdsF t.1 t.2.1 t.2.2.1 t.2.2.2 u a4 = true
    · rw [if_pos c, Pol.holds_eq ⟨by omega, by omega⟩ okuv, Option.bind_some, if_pos (holds_mono _ _ _ _ u v a4 hug hvg c), e2, Option.bind_some, e1, Option.bind_some, decide_eq_true (by omega)]
    · rw [if_neg c, e2, Option.bind_some, e1, Option.bind_some, decide_eq_true (by omega)]
theorem PolicyMore (a0 a1 : Int) (l2 l3 : List (List Int)) (a4 : Int) (h0 : (Lit.int .u8 a0).wf = true) (h1 : (Lit.int .u8 a1).wf = true) (h2 : ∀ y ∈ l2, bytesP y) (h3 : ∀ y ∈ l3, bytesP y) (h4 : (Lit.int .u64 a4).wf = true) : telemeterlaw12_PolicyMore.f 30 a0 a1 l2 l3 a4 = some true := by
  unfold telemeterlaw12_PolicyMore.f
  by_cases c : wrap64 ((l2.length : Int) + (l3.length : Int)) > 14
  · rw [if_pos c]; exact more_j0 a0 a1 l2 l3 a4 (u8_wf h1) h2 h3 _
  · rw [if_neg c, Pol.known_eq 30 (by omega), Option.bind_some]; exact more_j0 a0 a1 l2 l3 a4 (u8_wf h1) h2 h3 _
end Go.Proofs.Ytbjoleelfihikaa.Pure
