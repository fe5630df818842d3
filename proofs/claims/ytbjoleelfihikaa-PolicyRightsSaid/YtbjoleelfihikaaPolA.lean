/- policy.All, policy.Which and policy.Right come to the plain functions of them: the walks. -/
import Derived.Test.YtbjoleelfihikaaPolH
namespace Go.Proofs.Ytbjoleelfihikaa.Px
open Go.RowKit Go.Proofs.YtbjoleelfihikaaW.PrintWords Go.Proofs.YtbjoleelfihikaaW.PrintLast Go.Proofs.YtbjoleelfihikaaW.PrintMore
set_option linter.unusedVariables false
set_option linter.unusedSimpArgs false

set_option maxHeartbeats 4000000 in
theorem Pol.All1 (W : World) (x : S39) (B : Nat) (A1 : Option Addr) (c1 : Nat) (l1 : List S36) (n : Int) (hr1 : Kd.C k36 W A1 l1.length l1) (hc1 : l1.length ≤ c1) (h0 : 0 ≤ x.f0 ∧ x.f0 ≤ 255) (hok : Pol.okS l1 = true)
    (hk : W.cell? ⟨B, 0, none⟩ = some (.slice A1 l1.length c1)) (hv : W.cell? ⟨B + 1, 0, none⟩ = some (.int .u64 n)) :
    Calls Try.prog 22 #[.agg #[.int .u8 x.f0, .int .i64 x.f1, .string x.f2, .string x.f3], .pointer (some ⟨B, 0, none⟩), .pointer (some ⟨B + 1, 0, none⟩)] W fun e w' => e = .returned (.bool (!Pol.holdsF x.f0 x.f1 x.f2 x.f3 l1 n)) ∧ Below W.heap.size W w' := by
  have e6 : ∀ args w, (callFunc 14 args).run Try.prog w = .ok (.enter 14 args) w := fun args w => enters_ Try.func14 (by kernel_rfl) rfl args w
  have hB := World.block_lt_of_cell? W _ hk
  have hB1 := World.block_lt_of_cell? W _ hv
  have hBW : ∀ o : Obj, Below W.heap.size W (W.alloc o) := fun o => (Below.refl _ W).alloc (Nat.le_refl _) o
  have hk' : ∀ o : Obj, (W.alloc o).cell? ⟨B, 0, none⟩ = some (.slice A1 l1.length c1) := fun o => ((hBW o).cell hB).trans hk
  have hv' : ∀ o : Obj, (W.alloc o).cell? ⟨B + 1, 0, none⟩ = some (.int .u64 n) := fun o => ((hBW o).cell (p := ⟨B + 1, 0, none⟩) hB1).trans hv
  have hne : B ≠ W.heap.size := Nat.ne_of_lt hB
  have hne1 : B + 1 ≠ W.heap.size := Nat.ne_of_lt hB1
  have hcall : ∀ w, Below W.heap.size W w → Calls Try.prog 14 #[.agg #[.int .u8 x.f0, .int .i64 x.f1, .string x.f2, .string x.f3], .slice A1 l1.length c1, .int .u64 n] w fun e w' => e = .returned (.bool (Pol.holdsF x.f0 x.f1 x.f2 x.f3 l1 n)) ∧ Below w.heap.size w w' := fun w hw => Pol.Holds_calls x.f0 x.f1 x.f2 x.f3 A1 c1 l1 n _ w (Kd.C_below hr1 hw) hc1 (by rw [policy_Holds.f, if_pos ⟨h0.1, h0.2, hok⟩])
  generalize Pol.holdsF x.f0 x.f1 x.f2 x.f3 l1 n = b at hcall ⊢
  go_enter Try.func22, Try.ntmps22
  go_wp2_with (fail)
  refine (hcall _ (hBW _)).mono ?_
  rintro e w' ⟨rfl, hb'⟩
  go_wp2
  go_ret
  exact ⟨rfl, below_step (hBW _) hb'⟩

set_option maxHeartbeats 4000000 in
theorem Pol.All_calls (A0 : Option Addr) (c0 : Nat) (l0 : List S39) (A1 : Option Addr) (c1 : Nat) (l1 : List S36) (n : Int) (r : Bool) (w : World) (hr0 : Kd.C k39 w A0 l0.length l0) (hc0 : l0.length ≤ c0) (hr1 : Kd.C k36 w A1 l1.length l1) (hc1 : l1.length ≤ c1) (h : policy_All.f l0 l1 n = some r) :
    Calls Try.prog 12 #[.slice A0 l0.length c0, .slice A1 l1.length c1, .int .u64 n] w fun e w' => e = .returned (.bool r) ∧ Below w.heap.size w w' := by
  unfold policy_All.f at h
  have hb : Pol.okR l0 = true ∧ Pol.okS l1 = true := by
    by_cases hb : Pol.okR l0 = true ∧ Pol.okS l1 = true
    · exact hb
    · rw [if_neg hb] at h; cases h
  rw [if_pos hb] at h
  obtain rfl := Option.some.inj h
  clear h
  obtain ⟨hokR, hok⟩ := hb
  have hl := Pol.okR_1 hokR
  have e6 : ∀ args w, (callFunc 21 args).run Try.prog w = .ok (.enter 21 args) w := fun args w => enters_ Try.func21 (by kernel_rfl) rfl args w
  have e7 : ∀ args w, (callFunc 22 args).run Try.prog w = .ok (.enter 22 args) w := fun args w => enters_ Try.func22 (by kernel_rfl) rfl args w
  have hany : (!(l0.any fun x => !Pol.holdsF x.f0 x.f1 x.f2 x.f3 l1 n)) = Pol.allF l0 l1 n := by
    rw [Pol.allF, List.not_any_eq_all_not]
    simp
  go_enter Try.func12, Try.ntmps12
  go_wp2_with (fail)
  refine (Pol.ContainsFunc39 A0 c0 l0 (fun x => !Pol.holdsF x.f0 x.f1 x.f2 x.f3 l1 n) 22 _ _ e7 (Kd.C_below hr0 (below_alloc (below_alloc (Below.refl _ w) _) _)) (by omega) ?hp).mono ?_
  case hp =>
    intro W x hW hx
    have hbase := below_step (below_alloc (below_alloc (Below.refl _ w) _) _) hW
    refine calls_of_args (args' := #[.agg #[.int .u8 x.f0, .int .i64 x.f1, .string x.f2, .string x.f3], .pointer (some ⟨w.heap.size, 0, none⟩), .pointer (some ⟨w.heap.size + 1, 0, none⟩)]) rfl ((Pol.All1 W x w.heap.size A1 c1 l1 n (Kd.C_below hr1 hbase) hc1 (Pol.okR_2 hokR x hx) hok ?_ ?_).mono ?_)
    · exact (hW.cell (p := ⟨w.heap.size, 0, none⟩) (by simp <;> omega)).trans (by go_simp)
    · exact (hW.cell (p := ⟨w.heap.size + 1, 0, none⟩) (by simp <;> omega)).trans (by go_simp)
    rintro e w' ⟨rfl, hb'⟩
    exact ⟨rfl, below_step hW hb'⟩
  rintro e w' ⟨rfl, hb'⟩
  go_wp2
  go_ret
  exact ⟨rfl, below_step (below_alloc (below_alloc (Below.refl _ w) _) _) hb'⟩

set_option maxHeartbeats 4000000 in
theorem Pol.Which1 (W : World) (x : List S39) (A : Option Addr) (c : Nat) (B : Nat) (A1 : Option Addr) (c1 : Nat) (l1 : List S36) (n : Int) (hr : Kd.C k39 W A x.length x) (hc : x.length ≤ c) (hr1 : Kd.C k36 W A1 l1.length l1) (hc1 : l1.length ≤ c1) (hokR : Pol.okR x = true) (hok : Pol.okS l1 = true)
    (hk : W.cell? ⟨B, 0, none⟩ = some (.slice A1 l1.length c1)) (hv : W.cell? ⟨B + 1, 0, none⟩ = some (.int .u64 n)) :
    Calls Try.prog 24 #[.slice A x.length c, .pointer (some ⟨B, 0, none⟩), .pointer (some ⟨B + 1, 0, none⟩)] W fun e w' => e = .returned (.bool (Pol.allF x l1 n)) ∧ Below W.heap.size W w' := by
  have e6 : ∀ args w, (callFunc 12 args).run Try.prog w = .ok (.enter 12 args) w := fun args w => enters_ Try.func12 (by kernel_rfl) rfl args w
  have hcall : ∀ w, Below W.heap.size W w → Calls Try.prog 12 #[.slice A x.length c, .slice A1 l1.length c1, .int .u64 n] w fun e w' => e = .returned (.bool (Pol.allF x l1 n)) ∧ Below w.heap.size w w' := fun w hw => Pol.All_calls A c x A1 c1 l1 n _ w (Kd.C_below hr hw) hc (Kd.C_below hr1 hw) hc1 (by rw [policy_All.f, if_pos ⟨hokR, hok⟩])
  have hBW : ∀ o : Obj, Below W.heap.size W (W.alloc o) := fun o => (Below.refl _ W).alloc (Nat.le_refl _) o
  generalize Pol.allF x l1 n = b at hcall ⊢
  go_enter Try.func24, Try.ntmps24
  go_wp2_with (fail)
  refine (hcall _ (Below.refl _ W)).mono ?_
  rintro e w' ⟨rfl, hb'⟩
  go_wp2
  go_ret
  exact ⟨rfl, hb'⟩

set_option maxHeartbeats 4000000 in
theorem Pol.Which_calls (A0 : Option Addr) (c0 : Nat) (l0 : List (List S39)) (A1 : Option Addr) (c1 : Nat) (l1 : List S36) (n : Int) (r : Int) (w : World) (hr0 : Kd.C (Kd.slice 39 k39) w A0 l0.length l0) (hc0 : l0.length ≤ c0) (hr1 : Kd.C k36 w A1 l1.length l1) (hc1 : l1.length ≤ c1) (h : policy_Which.f l0 l1 n = some r) :
    Calls Try.prog 13 #[.slice A0 l0.length c0, .slice A1 l1.length c1, .int .u64 n] w fun e w' => e = .returned (.int .i64 r) ∧ Below w.heap.size w w' := by
  unfold policy_Which.f at h
  have hb : Pol.okL l0 = true ∧ Pol.okS l1 = true := by
    by_cases hb : Pol.okL l0 = true ∧ Pol.okS l1 = true
    · exact hb
    · rw [if_neg hb] at h; cases h
  rw [if_pos hb] at h
  obtain rfl := Option.some.inj h
  clear h
  obtain ⟨hokR, hok⟩ := hb
  have hl := Pol.okL_1 hokR
  have e6 : ∀ args w, (callFunc 23 args).run Try.prog w = .ok (.enter 23 args) w := fun args w => enters_ Try.func23 (by kernel_rfl) rfl args w
  have e7 : ∀ args w, (callFunc 24 args).run Try.prog w = .ok (.enter 24 args) w := fun args w => enters_ Try.func24 (by kernel_rfl) rfl args w
  go_enter Try.func13, Try.ntmps13
  go_wp2_with (fail)
  refine (Pol.IndexFunc30 A0 c0 l0 (fun x => Pol.allF x l1 n) 24 _ _ e7 (Kd.C_below hr0 (below_alloc (below_alloc (Below.refl _ w) _) _)) (by omega) ?hp).mono ?_
  case hp =>
    intro W x A c hW hx hc hr
    have hbase := below_step (below_alloc (below_alloc (Below.refl _ w) _) _) hW
    refine calls_of_args (args' := #[.slice A x.length c, .pointer (some ⟨w.heap.size, 0, none⟩), .pointer (some ⟨w.heap.size + 1, 0, none⟩)]) rfl ((Pol.Which1 W x A c w.heap.size A1 c1 l1 n hr hc (Kd.C_below hr1 hbase) hc1 (Pol.okL_2 hokR x hx) hok ?_ ?_).mono ?_)
    · exact (hW.cell (p := ⟨w.heap.size, 0, none⟩) (by simp <;> omega)).trans (by go_simp)
    · exact (hW.cell (p := ⟨w.heap.size + 1, 0, none⟩) (by simp <;> omega)).trans (by go_simp)
    rintro e w' ⟨rfl, hb'⟩
    exact ⟨rfl, below_step hW hb'⟩
  rintro e w' ⟨rfl, hb'⟩
  go_wp2
  go_ret
  exact ⟨rfl, below_step (below_alloc (below_alloc (Below.refl _ w) _) _) hb'⟩

theorem Pol.rightF_stop (l : List (List S39)) (j : Nat) (hj : j < l.length) (h : l.getD j [] = [] ∨ (l.getD j []).any Pol.oddF = true) : Pol.rightF l = false := by
  have hm : l.getD j [] ∈ l := Pol.getD_mem l j [] hj
  generalize l.getD j [] = row at *
  unfold Pol.rightF
  rw [Bool.and_eq_false_iff]
  left
  rw [List.all_eq_false]
  refine ⟨_, hm, ?_⟩
  rcases h with h | h
  · simp [h]
  · simp [h]
theorem Pol.rightF_end (l : List (List S39)) (h : ∀ j, j < l.length → ¬ (l.getD j [] = [] ∨ (l.getD j []).any Pol.oddF = true)) : Pol.rightF l = decide ((l.map fun row => (row.length : Int)).sum ≤ 20) := by
  have : (l.all fun row => !decide (row = []) && !row.any Pol.oddF) = true := by
    rw [List.all_eq_true]
    intro row hr
    obtain ⟨j, hj, e⟩ := List.getElem_of_mem hr
    have := h j hj
    rw [List.getD_eq_getElem?_getD, List.getElem?_eq_getElem hj, Option.getD_some, e] at this
    simpa [not_or] using this
  rw [Pol.rightF, this, Bool.true_and]
theorem Pol.sum_take (l : List (List S39)) (j : Nat) (hj : j < l.length) : ((l.take (j + 1)).map fun row => (row.length : Int)).sum = ((l.take j).map fun row => (row.length : Int)).sum + ((l.getD j []).length : Int) := by
  rw [List.take_add_one, List.map_append, List.sum_append, List.getElem?_eq_getElem hj, List.getD_eq_getElem?_getD, List.getElem?_eq_getElem hj]
  simp
theorem Pol.sum_nonneg (l : List (List S39)) : 0 ≤ (l.map fun row => (row.length : Int)).sum := by
  induction l with
  | nil => simp
  | cons x r ih => simp only [List.map_cons, List.sum_cons]; omega
theorem Pol.sum_take_le (l : List (List S39)) (j : Nat) : ((l.take j).map fun row => (row.length : Int)).sum ≤ (l.map fun row => (row.length : Int)).sum := by
  have h : (l.map fun row => (row.length : Int)).sum = ((l.take j).map fun row => (row.length : Int)).sum + ((l.drop j).map fun row => (row.length : Int)).sum := by
    rw [← List.sum_append, ← List.map_append, List.take_append_drop]
  have := Pol.sum_nonneg (l.drop j)
  omega

set_option maxHeartbeats 8000000 in
theorem Pol.Right_calls (A0 : Option Addr) (c0 : Nat) (l0 : List (List S39)) (r : Bool) (w : World) (hr0 : Kd.C (Kd.slice 39 k39) w A0 l0.length l0) (hc0 : l0.length ≤ c0) (h : policy_Right.f l0 = some r) :
    Calls Try.prog 15 #[.slice A0 l0.length c0] w fun e w' => e = .returned (.bool r) ∧ Below w.heap.size w w' := by
  unfold policy_Right.f at h
  have hb : l0.length ≤ 140737488355328 ∧ (l0.map fun row => (row.length : Int)).sum ≤ 140737488355328 := by
    by_cases hb : l0.length ≤ 140737488355328 ∧ (l0.map fun row => (row.length : Int)).sum ≤ 140737488355328
    · exact hb
    · rw [if_neg hb] at h; cases h
  rw [if_pos hb] at h
  obtain rfl := Option.some.inj h
  clear h
  obtain ⟨hl, hs⟩ := hb
  have e21 : ∀ args w, (callFunc 21 args).run Try.prog w = .ok (.enter 21 args) w := fun args w => enters_ Try.func21 (by kernel_rfl) rfl args w
  have e26 : ∀ args w, (callFunc 26 args).run Try.prog w = .ok (.enter 26 args) w := fun args w => enters_ Try.func26 (by kernel_rfl) rfl args w
  go_enter Try.func15, Try.ntmps15
  go_wp2
  go_loopg [3, 5, 8] l0.length (fun gg s3 _ s8 wr => ∃ kk : Nat, kk ≤ l0.length ∧ l0.length - kk ≤ gg ∧ s3 = .int .i64 (((l0.take kk).map fun row => (row.length : Int)).sum) ∧ s8 = .int .i64 kk ∧ Aside0 (Below w.heap.size w wr) ∧ Aside0 (∀ j, j < kk → ¬ (l0.getD j [] = [] ∨ (l0.getD j []).any Pol.oddF = true)))
  case atStart => exact ⟨0, Nat.zero_le _, by omega, by simp, rfl, ⟨Below.refl _ w⟩, ⟨fun j hj => absurd hj (Nat.not_lt_zero _)⟩⟩
  case round =>
    obtain ⟨kk, hkk, hg, rfl, rfl, BW, AA⟩ := hrel
    by_cases hlt : kk < l0.length
    · have hltz : (kk : Int) < (l0.length : Int) := by omega
      have h0z : (0 : Int) ≤ (kk : Int) := by omega
      obtain ⟨ad, A, c, e0, hx0, l8, g8⟩ := Pol.at_rows hr0 kk hlt
      cases e0
      replace hx0 := (BW.out.cell (World.block_lt_of_cell? w _ hx0)).trans hx0
      have hs1 := Pol.sum_take l0 kk hlt
      have hs2 := Pol.sum_take_le l0 (kk + 1)
      have hs3 := Pol.sum_nonneg (l0.take kk)
      have hstop := Pol.rightF_stop l0 kk hlt
      have g8' := Kd.C_below g8 BW.out
      clear g8 hr0
      generalize hy : l0.getD kk [] = y at *
      generalize hsum : ((l0.take kk).map fun row => (row.length : Int)).sum = sm at *
      have hyl : (y.length : Int) ≤ 140737488355328 := by omega
      have hw : wrap64 (sm + (y.length : Int)) = sm + (y.length : Int) := Pol.w64 _ (by omega) (by omega)
      by_cases hy0 : (y.length : Int) = 0
      · have hyd : decide ((y.length : Int) = 0) = true := decide_eq_true hy0
        have hye : y = [] := List.eq_nil_of_length_eq_zero (by omega)
        go_wp2
        go_ret
        exact ⟨by rw [hstop (.inl hye)]; rfl, BW.out⟩
      · have hyd : decide ((y.length : Int) = 0) = false := decide_eq_false hy0
        have hyb : ((y.length : Int) == 0) = false := beq_eq_false_iff_ne.2 hy0
        have hye : ¬ y = [] := fun e => hy0 (by rw [e]; rfl)
        go_wp2_with (fail)
        refine (Pol.ContainsFunc39 A c y Pol.oddF 26 #[] _ e26 g8' (by omega) ?hp).mono ?_
        case hp =>
          intro W x hW hx
          refine calls_of_args (args' := #[.agg #[.int .u8 x.f0, .int .i64 x.f1, .string x.f2, .string x.f3]]) rfl ((policy_odd.calls 2 x.f0 x.f1 x.f2 x.f3 (Pol.oddF x) W (Pol.odd_f x)).mono ?_)
          rintro e w' ⟨rfl, hb'⟩
          exact ⟨rfl, below_step hW hb'⟩
        rintro e w' ⟨rfl, hb'⟩
        cases hq : y.any Pol.oddF with
        | true =>
          go_wp2
          go_ret
          exact ⟨by rw [hstop (.inr hq)]; rfl, below_step BW.out hb'⟩
        | false =>
          go_wp2
          go_roundg (l0.length - (kk + 1))
          case measure => omega
          case rel =>
            refine ⟨kk + 1, by omega, by omega, by rw [hs1], by go_num, ⟨below_step BW.out hb'⟩, ⟨fun j hj => ?_⟩⟩
            by_cases e : j = kk
            · subst e
              rw [hy]
              rintro (h1 | h1)
              · exact hye h1
              · rw [hq] at h1; cases h1
            · exact AA.out j (by omega)
    · have hltz : decide ((kk : Int) < (l0.length : Int)) = false := decide_eq_false (by omega)
      have hke : kk = l0.length := by omega
      clear hlt hr0
      have hr := Pol.rightF_end l0 (hke ▸ AA.out)
      rw [hke, List.take_length]
      rw [hke] at hltz
      go_wp2
      go_ret
      refine ⟨?_, BW.out⟩
      rw [hr]
      rfl
end Go.Proofs.Ytbjoleelfihikaa.Px
