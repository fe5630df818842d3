/- The law PolicyRows holds of what the program computes. -/
import Derived.Test.YtbjoleelfihikaaPx31
import Derived.Test.YtbjoleelfihikaaPolS
import Derived.Test.YtbjoleelfihikaaNestP
namespace Go.Proofs.Ytbjoleelfihikaa.Pure
set_option linter.unusedVariables false
set_option linter.unusedSimpArgs false
open Go.RowKit Go.Proofs.Ytbjoleelfihikaa.Px Go.Proofs.YtbjoleelfihikaaW.PrintWords Go.Proofs.YtbjoleelfihikaaW.PrintLast Go.Proofs.YtbjoleelfihikaaW.PrintMore

/-! ### in whatever order spans come -/
theorem hi_spec : ∀ (x : List S36) (m : Int), (Pol.hi x m = m ∨ ∃ t ∈ x, t.f6 = Pol.hi x m) ∧ m ≤ Pol.hi x m ∧ ∀ t ∈ x, t.f6 ≤ Pol.hi x m
  | [], m => ⟨.inl rfl, Int.le_refl _, fun t ht => by cases ht⟩
  | s :: r, m => by
    obtain ⟨h1, h2, h3⟩ := hi_spec r (mx m s.f6)
    have e : Pol.hi (s :: r) m = Pol.hi r (mx m s.f6) := rfl
    have hm : (mx m s.f6 = m ∨ mx m s.f6 = s.f6) ∧ m ≤ mx m s.f6 ∧ s.f6 ≤ mx m s.f6 := by unfold mx; split <;> omega
    rw [e]
    refine ⟨?_, by omega, fun t ht => ?_⟩
    · rcases h1 with h1 | ⟨t, ht, h1⟩
      · rcases hm.1 with h | h
        · exact .inl (by omega)
        · exact .inr ⟨s, by simp, by omega⟩
      · exact .inr ⟨t, by simp [ht], h1⟩
    · rcases List.mem_cons.1 ht with rfl | ht
      · omega
      · exact h3 t ht
theorem lo_spec : ∀ (x : List S36) (m : Int), (Pol.lo x m = m ∨ ∃ t ∈ x, t.f5 = Pol.lo x m) ∧ Pol.lo x m ≤ m ∧ ∀ t ∈ x, Pol.lo x m ≤ t.f5
  | [], m => ⟨.inl rfl, Int.le_refl _, fun t ht => by cases ht⟩
  | s :: r, m => by
    obtain ⟨h1, h2, h3⟩ := lo_spec r (mn m s.f5)
    have e : Pol.lo (s :: r) m = Pol.lo r (mn m s.f5) := rfl
    have hm : (mn m s.f5 = m ∨ mn m s.f5 = s.f5) ∧ mn m s.f5 ≤ m ∧ mn m s.f5 ≤ s.f5 := by unfold mn; split <;> omega
    rw [e]
    refine ⟨?_, by omega, fun t ht => ?_⟩
    · rcases h1 with h1 | ⟨t, ht, h1⟩
      · rcases hm.1 with h | h
        · exact .inl (by omega)
        · exact .inr ⟨s, by simp, by omega⟩
      · exact .inr ⟨t, by simp [ht], h1⟩
    · rcases List.mem_cons.1 ht with rfl | ht
      · omega
      · exact h3 t ht
theorem len_spec (x : List S36) (hx : x ≠ []) : ∃ M N, ((∃ t ∈ x, t.f6 = M) ∧ ∀ t ∈ x, t.f6 ≤ M) ∧ ((∃ t ∈ x, t.f5 = N) ∧ ∀ t ∈ x, N ≤ t.f5) ∧ Pol.lenF x = wrap64 (M - N) := by
  cases x with
  | nil => exact absurd rfl hx
  | cons s r =>
    obtain ⟨h1, _, h3⟩ := hi_spec (s :: r) s.f6
    obtain ⟨g1, _, g3⟩ := lo_spec (s :: r) s.f5
    refine ⟨_, _, ⟨?_, h3⟩, ⟨?_, g3⟩, rfl⟩
    · rcases h1 with h | h
      · exact ⟨s, by simp, h.symm⟩
      · exact h
    · rcases g1 with h | h
      · exact ⟨s, by simp, h.symm⟩
      · exact h
theorem len_rev (x : List S36) : Pol.lenF x.reverse = Pol.lenF x := by
  by_cases hx : x = []
  · rw [hx]; rfl
  · obtain ⟨M, N, ⟨⟨t, ht, hM⟩, hM2⟩, ⟨⟨u, hu, hN⟩, hN2⟩, e⟩ := len_spec x hx
    obtain ⟨M', N', ⟨⟨t', ht', hM'⟩, hM2'⟩, ⟨⟨u', hu', hN'⟩, hN2'⟩, e'⟩ := len_spec x.reverse (by simpa using hx)
    have a1 := hM2 t' (List.mem_reverse.1 ht')
    have a2 := hM2' t (List.mem_reverse.2 ht)
    have a3 := hN2 u' (List.mem_reverse.1 hu')
    have a4 := hN2' u (List.mem_reverse.2 hu)
    rw [e, e', show M' = M from by omega, show N' = N from by omega]
theorem holds_rev (a0 a1 : Int) (a2 a3 : ByteArray) (x : List S36) (n : Int) : Pol.holdsF a0 a1 a2 a3 x.reverse n = Pol.holdsF a0 a1 a2 a3 x n := by
  unfold Pol.holdsF Pol.hasF
  rw [len_rev, List.length_reverse, List.any_reverse, List.any_reverse]
theorem which_rev (l : List (List S39)) (x : List S36) (n : Int) : Pol.whichF l x.reverse n = Pol.whichF l x n := by
  unfold Pol.whichF Pol.allF
  simp only [holds_rev]

/-! ### the row that is told -/
theorem idx_spec {α : Type} (p : α → Bool) (d : α) : ∀ (l : List α) (i : Int), 0 ≤ i → (Pol.idxF p l i = -1 ∧ ∀ m, m < l.length → p (l.getD m d) = false) ∨ ∃ j : Nat, j < l.length ∧ Pol.idxF p l i = i + j ∧ p (l.getD j d) = true ∧ ∀ m, m < j → p (l.getD m d) = false
  | [], i, _ => .inl ⟨rfl, fun m hm => absurd hm (Nat.not_lt_zero _)⟩
  | x :: r, i, hi => by
    by_cases hx : p x = true
    · refine .inr ⟨0, by simp, ?_, by simpa using hx, fun m hm => absurd hm (Nat.not_lt_zero _)⟩
      simp [Pol.idxF, hx]
    · have hx' : p x = false := by simpa using hx
      rcases idx_spec p d r (i + 1) (by omega) with ⟨h1, h2⟩ | ⟨j, h1, h2, h3, h4⟩
      · refine .inl ⟨by simp only [Pol.idxF]; rw [if_neg hx]; exact h1, fun m hm => ?_⟩
        cases m with
        | zero => simpa using hx'
        | succ m => simpa using h2 m (by simpa using hm)
      · refine .inr ⟨j + 1, by simpa using h1, by simp only [Pol.idxF]; rw [if_neg hx, h2]; omega, by simpa using h3, fun m hm => ?_⟩
        cases m with
        | zero => simpa using hx'
        | succ m => simpa using h4 m (by omega)

theorem rows_back (n : Int) (L : List (List S39)) (X : List S36) (K : Int) (gL : Pol.goodL 6 L) (hX : X.length ≤ 8) (gX : ∀ s ∈ X, Pol.goodS s) (hK : Pol.whichF L X n = K) :
    ∀ (m k : Nat), m ≤ X.length → m + 20 ≤ k → telemeterlaw12_PolicyRows.l2 k n L X K ((X.drop m).reverse) ((m : Int) - 1) = some true := by
  intro m
  induction m with
  | zero =>
    intro k hm hk
    obtain ⟨k, rfl⟩ : ∃ q, k = q + 1 := ⟨k - 1, by omega⟩
    have hok := Pol.spans_ok 8 (by omega) hX gX
    have hokr := Pol.spans_ok (l := X.reverse) 8 (by omega) (by rw [List.length_reverse]; exact hX) (fun s hs => gX s (List.mem_reverse.1 hs))
    rw [telemeterlaw12_PolicyRows.l2, if_neg (by omega), Pol.known_eq k (by omega), Option.bind_some, if_pos rfl, List.drop_zero, Pol.which_eq (Pol.goodL_ok (by omega) gL) hokr, Option.bind_some, if_pos (by rw [which_rev]; exact hK),
      Pol.Length_f _ (Pol.okS_1 hokr) k (by rw [List.length_reverse]; omega), Option.bind_some, Pol.Length_f _ (Pol.okS_1 hok) k (by omega), Option.bind_some, len_rev, beq_self_eq_true]
  | succ m ih =>
    intro k hm hk
    obtain ⟨k, rfl⟩ : ∃ q, k = q + 1 := ⟨k - 1, by omega⟩
    have e1 : ((m + 1 : Nat) : Int) - 1 = (m : Int) := by omega
    rw [telemeterlaw12_PolicyRows.l2, e1, if_pos (by omega), if_pos (by omega), if_pos (by omega), if_pos (by rw [List.length_reverse, List.length_drop]; omega), Pol.w64 ((m : Int) - 1) (by omega) (by omega)]
    have := ih k (by omega) (by omega)
    rw [Pol.getD_T36 X m (by omega), List.reverse_cons] at this
    exact this

theorem all_take (row : List S39) (X : List S36) (n : Int) (j : Nat) (hj : j < row.length) : Pol.allF (row.take (j + 1)) X n = (Pol.allF (row.take j) X n && Pol.holdsF (rd_T39 row (j : Int)).f0 (rd_T39 row (j : Int)).f1 (rd_T39 row (j : Int)).f2 (rd_T39 row (j : Int)).f3 X n) := by
  have e : row.take (j + 1) = row.take j ++ [rd_T39 row (j : Int)] := by
    rw [List.take_add_one, List.getElem?_eq_getElem hj]
    simp [rd_T39, List.getD_eq_getElem?_getD, List.getElem?_eq_getElem hj]
  rw [e, Pol.allF, List.all_append]
  simp [Pol.allF]

theorem rows_row (n : Int) (L : List (List S39)) (X : List S36) (K : Int) (gL : Pol.goodL 6 L) (hok : Pol.okS X = true) (i : Nat) (hi : i < L.length) (c : Nat)
    (hp : Pol.allF (rd_L4 L (i : Int)) X n = true → 0 ≤ K ∧ K ≤ (i : Int)) (hq : Pol.allF (rd_L4 L (i : Int)) X n = false → (i : Int) ≠ K)
    (hnext : ∀ k, c ≤ k → telemeterlaw12_PolicyRows.l0 k n L X K ((i + 1 : Nat) : Int) = some true) :
    ∀ (e j k : Nat), (rd_L4 L (i : Int)).length - j = e → j ≤ (rd_L4 L (i : Int)).length → c + e + 1 ≤ k → telemeterlaw12_PolicyRows.l1 k n L X K (i : Int) (Pol.allF ((rd_L4 L (i : Int)).take j) X n) (j : Int) = some true := by
  have hgr := gL.2 _ (Pol.rd_row_mem L (i : Int) (by omega) (by omega))
  have hi1 : wrap64 ((i : Int) + 1) = ((i + 1 : Nat) : Int) := by rw [Pol.w64 _ (by omega) (by have := gL.1; omega)]; omega
  intro e
  induction e with
  | zero =>
    intro j k he hj hk
    obtain ⟨k, rfl⟩ : ∃ q, k = q + 1 := ⟨k - 1, by omega⟩
    have hje : j = (rd_L4 L (i : Int)).length := by omega
    rw [telemeterlaw12_PolicyRows.l1, if_pos (by omega), if_pos (by omega), if_neg (by omega), Pol.all_eq (Pol.goodR_ok (by omega) hgr) hok, Option.bind_some, hje, List.take_length, hi1]
    cases hb : Pol.allF (rd_L4 L (i : Int)) X n with
    | true =>
      have := hp hb
      rw [if_neg (by decide), if_pos rfl, if_neg (by omega), if_neg (by omega), hnext k (by omega)]
      split <;> rfl
    | false =>
      rw [if_neg (by decide), if_neg (by decide), if_neg (hq hb)]
      exact hnext k (by omega)
  | succ e ih =>
    intro j k he hj hk
    obtain ⟨k, rfl⟩ : ∃ q, k = q + 1 := ⟨k - 1, by omega⟩
    have hlt : j < (rd_L4 L (i : Int)).length := by omega
    have hj1 : wrap64 ((j : Int) + 1) = ((j + 1 : Nat) : Int) := by rw [Pol.w64 _ (by omega) (by have := hgr.2.1; omega)]; omega
    have hih := ih (j + 1) k (by omega) (by omega) (by omega)
    rw [all_take _ X n j hlt] at hih
    have hr := hgr.2.2 _ (Pol.getD_mem (rd_L4 L (i : Int)) (j : Int).toNat z39 (by omega))
    have hr' : 1 ≤ (rd_T39 (rd_L4 L (i : Int)) (j : Int)).f0 ∧ (rd_T39 (rd_L4 L (i : Int)) (j : Int)).f0 ≤ 5 := hr
    rw [telemeterlaw12_PolicyRows.l1, if_pos (by omega), if_pos (by omega), if_pos (by omega), hj1]
    cases hb : Pol.allF ((rd_L4 L (i : Int)).take j) X n with
    | true =>
      rw [hb, Bool.true_and] at hih
      rw [if_pos rfl, if_pos (by omega), Pol.holds_eq ⟨by omega, by omega⟩ hok, Option.bind_some]
      exact hih
    | false =>
      rw [hb, Bool.false_and] at hih
      rw [if_neg (by decide)]
      exact hih

theorem rows_loop (n : Int) (L : List (List S39)) (X : List S36) (gL : Pol.goodL 6 L) (hX : X.length ≤ 8) (gX : ∀ s ∈ X, Pol.goodS s) :
    ∀ (d i k : Nat), L.length - i = d → i ≤ L.length → 10 * d + 40 ≤ k → telemeterlaw12_PolicyRows.l0 k n L X (Pol.whichF L X n) (i : Int) = some true := by
  have hok := Pol.spans_ok 8 (by omega) hX gX
  intro d
  induction d with
  | zero =>
    intro i k hd hi hk
    obtain ⟨k, rfl⟩ : ∃ q, k = q + 1 := ⟨k - 1, by omega⟩
    rw [telemeterlaw12_PolicyRows.l0, if_neg (by omega), Pol.w64 _ (by omega) (by omega)]
    have := rows_back n L X _ gL hX gX rfl X.length k (Nat.le_refl _) (by omega)
    rwa [List.drop_length] at this
  | succ d ih =>
    intro i k hd hi hk
    obtain ⟨k, rfl⟩ : ∃ q, k = q + 1 := ⟨k - 1, by omega⟩
    have hlt : i < L.length := by omega
    have hgr := gL.2 _ (Pol.rd_row_mem L (i : Int) (by omega) (by omega))
    have e0 : rd_L4 L (i : Int) = L.getD i [] := by simp [rd_L4]
    have hnx : ∀ k', 10 * d + 40 ≤ k' → telemeterlaw12_PolicyRows.l0 k' n L X (Pol.whichF L X n) ((i + 1 : Nat) : Int) = some true := fun k' hk' => ih (i + 1) k' (by omega) (by omega) hk'
    have hfu : 10 * d + 40 + ((rd_L4 L (i : Int)).length - 0) + 1 ≤ k := by have := hgr.2.1; omega
    rw [telemeterlaw12_PolicyRows.l0, if_pos (by omega)]
    have hspec := idx_spec (fun row => Pol.allF row X n) [] L 0 (Int.le_refl _)
    have hh := rows_row n L X (Pol.whichF L X n) gL hok i hlt (10 * d + 40) ?_ ?_ hnx _ 0 k rfl (Nat.zero_le _) hfu
    · exact hh
    · intro hb
      rw [e0] at hb
      show 0 ≤ Pol.idxF _ L 0 ∧ Pol.idxF _ L 0 ≤ _
      rcases hspec with ⟨h1, h2⟩ | ⟨j, h1, h2, h3, h4⟩
      · rw [h2 i hlt] at hb; cases hb
      · rw [h2]
        refine ⟨by omega, ?_⟩
        by_cases hji : j ≤ i
        · omega
        · rw [h4 i (by omega)] at hb; cases hb
    · intro hb
      rw [e0] at hb
      show _ ≠ Pol.idxF _ L 0
      rcases hspec with ⟨h1, h2⟩ | ⟨j, h1, h2, h3, h4⟩
      · rw [h1]; omega
      · rw [h2]
        intro he
        have : i = j := by omega
        subst this
        rw [h3] at hb; cases hb
theorem PolicyRows (l0 : List Int) (l1 : List (List Int)) (a2 : Int) (h0 : bytesP l0) (h1 : ∀ y ∈ l1, bytesP y) (h2 : (Lit.int .u64 a2).wf = true) : telemeterlaw12_PolicyRows.f 120 l0 l1 a2 = some true := by
  obtain ⟨L, hL, gL⟩ := Pol.rules_some l0 h0 120 (by omega)
  obtain ⟨X, hX, hX8, gX⟩ := Pol.spans_some l1 h1 120 (by omega)
  have hok := Pol.spans_ok 8 (by omega) hX8 gX
  have hspec := idx_spec (fun row => Pol.allF row X a2) [] L 0 (Int.le_refl _)
  have hr : -1 ≤ Pol.whichF L X a2 ∧ Pol.whichF L X a2 < (L.length : Int) := by
    show -1 ≤ Pol.idxF _ L 0 ∧ Pol.idxF _ L 0 < _
    rcases hspec with ⟨h1, h2⟩ | ⟨j, h1, h2, h3, h4⟩
    · rw [h1]; omega
    · rw [h2]; omega
  unfold telemeterlaw12_PolicyRows.f
  rw [hL, Option.bind_some, hX, Option.bind_some, Pol.which_eq (Pol.goodL_ok (by omega) gL) hok, Option.bind_some, if_neg (by omega), decide_eq_false (by omega), telemeterlaw12_PolicyRows.j0, if_neg (by decide)]
  exact rows_loop a2 L X gL hX8 gX _ 0 119 rfl (Nat.zero_le _) (by have := gL.1; omega)
end Go.Proofs.Ytbjoleelfihikaa.Pure
