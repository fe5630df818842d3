/- policy.Right's walk, however many rules there are; and a rule, a row written among rows that were made. -/
import Derived.Test.YtbjoleelfihikaaRgtP
import Derived.Test.YtbjoleelfihikaaPolI
namespace Go.Proofs.Ytbjoleelfihikaa.Px
open Go.RowKit Go.Proofs.YtbjoleelfihikaaW.PrintWords Go.Proofs.YtbjoleelfihikaaW.PrintLast Go.Proofs.YtbjoleelfihikaaW.PrintMore
set_option linter.unusedVariables false
set_option linter.unusedSimpArgs false

theorem Rgt.stop (l : List (List S39)) (j : Nat) (hj : j < l.length) (h : l.getD j [] = [] ∨ (l.getD j []).any Pol.oddF = true) : Rgt.rightW l = false := by
  have hm : l.getD j [] ∈ l := Pol.getD_mem l j [] hj
  generalize l.getD j [] = row at *
  unfold Rgt.rightW Rgt.okF
  rw [Bool.and_eq_false_iff]
  left
  rw [List.all_eq_false]
  refine ⟨_, hm, ?_⟩
  rcases h with h | h
  · simp [h]
  · simp [h]
theorem Rgt.fin (l : List (List S39)) (h : ∀ j, j < l.length → ¬ (l.getD j [] = [] ∨ (l.getD j []).any Pol.oddF = true)) : Rgt.rightW l = decide (wrap64 (Rgt.sum l) ≤ 20) := by
  have : Rgt.okF l = true := by
    rw [Rgt.okF, List.all_eq_true]
    intro row hr
    obtain ⟨j, hj, e⟩ := List.getElem_of_mem hr
    have := h j hj
    rw [List.getD_eq_getElem?_getD, List.getElem?_eq_getElem hj, Option.getD_some, e] at this
    simpa [not_or] using this
  rw [Rgt.rightW, this, Bool.true_and]
theorem Rgt.sum_take (l : List (List S39)) (j : Nat) (hj : j < l.length) : Rgt.sum (l.take (j + 1)) = Rgt.sum (l.take j) + ((l.getD j []).length : Int) := by
  unfold Rgt.sum
  rw [List.take_add_one, List.map_append, List.sum_append, List.getElem?_eq_getElem hj, List.getD_eq_getElem?_getD, List.getElem?_eq_getElem hj]
  simp

set_option maxHeartbeats 8000000 in
theorem Rgt.Right_calls (A0 : Option Addr) (c0 : Nat) (l0 : List (List S39)) (w : World) (hr0 : Kd.C (Kd.slice 39 k39) w A0 l0.length l0) (hc0 : l0.length ≤ c0) :
    Calls Try.prog 15 #[.slice A0 l0.length c0] w fun e w' => e = .returned (.bool (Rgt.rightW l0)) ∧ Below w.heap.size w w' := by
  have hl : l0.length ≤ 9223372036854775807 := hr0.2.1
  have e21 : ∀ args w, (callFunc 21 args).run Try.prog w = .ok (.enter 21 args) w := fun args w => enters_ Try.func21 (by kernel_rfl) rfl args w
  have e26 : ∀ args w, (callFunc 26 args).run Try.prog w = .ok (.enter 26 args) w := fun args w => enters_ Try.func26 (by kernel_rfl) rfl args w
  have hz : wrap64 0 = 0 := Pol.w64 _ (by omega) (by omega)
  go_enter Try.func15, Try.ntmps15
  go_wp2
  go_loopg [3, 5, 8] l0.length (fun gg s3 _ s8 wr => ∃ kk : Nat, kk ≤ l0.length ∧ l0.length - kk ≤ gg ∧ s3 = .int .i64 (wrap64 (Rgt.sum (l0.take kk))) ∧ s8 = .int .i64 kk ∧ Aside0 (Below w.heap.size w wr) ∧ Aside0 (∀ j, j < kk → ¬ (l0.getD j [] = [] ∨ (l0.getD j []).any Pol.oddF = true)))
  case atStart => exact ⟨0, Nat.zero_le _, by omega, by rw [List.take_zero, show Rgt.sum [] = 0 from rfl, hz], rfl, ⟨Below.refl _ w⟩, ⟨fun j hj => absurd hj (Nat.not_lt_zero _)⟩⟩
  case round =>
    obtain ⟨kk, hkk, hg, rfl, rfl, BW, AA⟩ := hrel
    by_cases hlt : kk < l0.length
    · have hltz : (kk : Int) < (l0.length : Int) := by omega
      have h0z : (0 : Int) ≤ (kk : Int) := by omega
      obtain ⟨ad, A, c, e0, hx0, l8, g8⟩ := Pol.at_rows hr0 kk hlt
      cases e0
      replace hx0 := (BW.out.cell (World.block_lt_of_cell? w _ hx0)).trans hx0
      have hs1 := Rgt.sum_take l0 kk hlt
      have hstop := Rgt.stop l0 kk hlt
      have g8' := Kd.C_below g8 BW.out
      have hyl : (l0.getD kk []).length ≤ 9223372036854775807 := g8.2.1
      clear g8 hr0
      generalize hy : l0.getD kk [] = y at *
      generalize hsum : Rgt.sum (l0.take kk) = sm at *
      have hw : wrap64 (wrap64 sm + (y.length : Int)) = wrap64 (sm + (y.length : Int)) := Rgt.wrap_add _ _
      generalize hsw : wrap64 sm = sw at *
      by_cases hy0 : (y.length : Int) = 0
      · have hyd : decide ((y.length : Int) = 0) = true := decide_eq_true hy0
        have hye : y = [] := List.eq_nil_of_length_eq_zero (by omega)
        go_wp2
        go_ret
        exact ⟨by rw [hstop (.inl hye)]; rfl, BW.out⟩
      · have hyd : decide ((y.length : Int) = 0) = false := decide_eq_false hy0
        have hyb : ((y.length : Int) == 0) = false := beq_eq_false_iff_ne.2 hy0
        have hye : ¬ y = [] := fun e => hy0 (by rw [e]; rfl)
        go_wp2_with (fail)
        refine (Pol.ContainsFunc39 A c y Pol.oddF 26 #[] _ e26 g8' hyl ?hp).mono ?_
        case hp =>
          intro W x hW hx
          refine calls_of_args (args' := #[.agg #[.int .u8 x.f0, .int .i64 x.f1, .string x.f2, .string x.f3]]) rfl ((policy_odd.calls 2 x.f0 x.f1 x.f2 x.f3 (Pol.oddF x) W (Pol.odd_f x)).mono ?_)
          rintro e w' ⟨rfl, hb'⟩
          exact ⟨rfl, below_step hW hb'⟩
        rintro e w' ⟨rfl, hb'⟩
        cases hq : y.any Pol.oddF with
        | true =>
          go_wp2
          go_ret
          exact ⟨by rw [hstop (.inr hq)]; rfl, below_step BW.out hb'⟩
        | false =>
          go_wp2
          go_roundg (l0.length - (kk + 1))
          case measure => omega
          case rel =>
            refine ⟨kk + 1, by omega, by omega, by rw [hs1], by go_num, ⟨below_step BW.out hb'⟩, ⟨fun j hj => ?_⟩⟩
            by_cases e : j = kk
            · subst e
              rw [hy]
              rintro (h1 | h1)
              · exact hye h1
              · rw [hq] at h1; cases h1
            · exact AA.out j (by omega)
    · have hltz : decide ((kk : Int) < (l0.length : Int)) = false := decide_eq_false (by omega)
      have hke : kk = l0.length := by omega
      clear hlt hr0
      have hr := Rgt.fin l0 (hke ▸ AA.out)
      rw [hke, List.take_length]
      rw [hke] at hltz
      generalize wrap64 (Rgt.sum l0) = sw at *
      go_wp2
      go_ret
      refine ⟨?_, BW.out⟩
      rw [hr]
      rfl

/-! ### a rule's field, a row's length: written among rows of one's own -/
theorem Rgt.setCells1 (W : World) (g o : Nat) (u : Value) : W.setCells g o [u] = W.setCell ⟨g, o, none⟩ u := by rfl
theorem Rgt.put_rule {W : World} {base : Nat} {ok : Nat → Prop} {g n cap : Nat} {rows : List (List S39)} (hS : Kd.S (Kd.slice 39 k39) 30 W base ok (.slice (some ⟨g, 0, none⟩) n cap) rows) (i : Nat) (hi : i < n) (hne : 0 < (rows.getD i []).length) :
    ∃ gi ci, W.cell? ⟨g, i, none⟩ = some (.slice (some ⟨gi, 0, none⟩) (rows.getD i []).length ci) ∧ base ≤ gi ∧ (∀ j, W.frozen? ⟨gi, j, none⟩ = false) ∧
      (W.cell? ⟨gi, 0, none⟩ = some (.int .u8 ((rows.getD i []).getD 0 z39).f0) ∧ W.cell? ⟨gi, 1, none⟩ = some (.int .i64 ((rows.getD i []).getD 0 z39).f1) ∧ W.cell? ⟨gi, 2, none⟩ = some (.string ((rows.getD i []).getD 0 z39).f2) ∧ W.cell? ⟨gi, 3, none⟩ = some (.string ((rows.getD i []).getD 0 z39).f3)) ∧
      ∀ (j : Nat) (u : Value) (r' : S39), j < 4 → ([.int .u8 ((rows.getD i []).getD 0 z39).f0, .int .i64 ((rows.getD i []).getD 0 z39).f1, .string ((rows.getD i []).getD 0 z39).f2, .string ((rows.getD i []).getD 0 z39).f3] : List Value).take j ++ [u] ++ ([.int .u8 ((rows.getD i []).getD 0 z39).f0, .int .i64 ((rows.getD i []).getD 0 z39).f1, .string ((rows.getD i []).getD 0 z39).f2, .string ((rows.getD i []).getD 0 z39).f3] : List Value).drop (j + 1) = [.int .u8 r'.f0, .int .i64 r'.f1, .string r'.f2, .string r'.f3] →
        Kd.S (Kd.slice 39 k39) 30 (W.setCell ⟨gi, j, none⟩ u) base ok (.slice (some ⟨g, 0, none⟩) n cap) (rows.set i ((rows.getD i []).set 0 r')) ∧ W.grownBy (W.setCell ⟨gi, j, none⟩ u) (some gi) := by
  obtain ⟨oki, c, hcl, hM, hcc, hok, hH⟩ := Kd.S_lend hS ([] : List S39) (i : Int) (by omega) (by omega)
  rw [Int.toNat_natCast] at hM hcc
  generalize rows.getD i [] = row at *
  obtain ⟨v, rfl, hR⟩ := hM
  obtain ⟨gi, ci, rfl, hgb, hgl, cells, hcells⟩ := Kd.R_form hR hne
  have hcell := hcc 0 _ rfl
  obtain ⟨cc, hccl, hM0, hcc0, hfr⟩ := Kd.R_elem hR z39 0 (Int.le_refl _) (by omega)
  have hcce := k39_openM hM0
  simp only [Int.toNat_zero] at hcce hcc0 hfr
  refine ⟨gi, ci, ?_, hgb, fun j => ?_, ⟨?_, ?_, ?_, ?_⟩, fun j u r' hj hr' => ?_⟩
  · simpa [Kd.slice] using hcell
  · have := hfr j; simpa using this
  · have := hcc0 0 _ (by rw [hcce]; rfl); simpa using this
  · have := hcc0 1 _ (by rw [hcce]; rfl); simpa using this
  · have := hcc0 2 _ (by rw [hcce]; rfl); simpa using this
  · have := hcc0 3 _ (by rw [hcce]; rfl); simpa using this
  · have hM' : k39.M W base (fun _ => False) r' (cc.take j ++ [u] ++ cc.drop (j + ([u] : List Value).length)) := by
      rw [hcce]
      show k39.M W base _ r' (List.take j _ ++ [u] ++ List.drop (j + 1) _)
      rw [hr']
      exact k39_mkM _ _ _ _
    obtain ⟨hR', hg'⟩ := Kd.R_seg hR 0 (Int.le_refl _) (by omega) hccl (by simpa using hcc0) (by show j + 1 ≤ 4; omega) hM' (fun k hk => hk.elim)
    have e0 : (0 : Int).toNat * k39.sz + j = j := by simp
    rw [e0, Rgt.setCells1] at hR' hg'
    have hH' := Kd.H_grown hH hg' (fun k hk => hR.1 k (by rw [← hk]; rfl))
    have := Kd.H_back hH' (x' := row.set 0 r') ⟨_, rfl, hR'⟩ (fun k hk => hk)
    rw [Int.toNat_natCast] at this
    exact ⟨this, hg'⟩
theorem Rgt.put_cut {W : World} {base : Nat} {ok : Nat → Prop} {g n cap : Nat} {rows : List (List S39)} (hS : Kd.S (Kd.slice 39 k39) 30 W base ok (.slice (some ⟨g, 0, none⟩) n cap) rows) (i : Nat) (hi : i < n) (hne : 0 < (rows.getD i []).length) :
    ∃ gi ci, W.cell? ⟨g, i, none⟩ = some (.slice (some ⟨gi, 0, none⟩) (rows.getD i []).length ci) ∧ (rows.getD i []).length ≤ ci ∧
      Kd.S (Kd.slice 39 k39) 30 (W.setCell ⟨g, i, none⟩ (.slice (some ⟨gi, 0, none⟩) 0 ci)) base ok (.slice (some ⟨g, 0, none⟩) n cap) (rows.set i []) ∧ W.grownBy (W.setCell ⟨g, i, none⟩ (.slice (some ⟨gi, 0, none⟩) 0 ci)) (some g) := by
  obtain ⟨oki, c, hcl, hM, hcc, hok, hH⟩ := Kd.S_lend hS ([] : List S39) (i : Int) (by omega) (by omega)
  rw [Int.toNat_natCast] at hM hcc
  generalize rows.getD i [] = row at *
  obtain ⟨v, rfl, hR⟩ := hM
  obtain ⟨gi, ci, rfl, hgb, hgl, cells, hcells⟩ := Kd.R_form hR hne
  have hcell := hcc 0 _ rfl
  have hlc := (Kd.R_reads' hR).2.1
  obtain ⟨hH', hg'⟩ := Kd.H_seg hH (by omega) (by omega) (seg := [.slice (some ⟨gi, 0, none⟩) 0 ci]) (j := 0) (by show 0 + 1 ≤ 1; omega) (fun q hq => by rw [List.mem_singleton.1 hq]; rfl)
  have e0 : (i : Int).toNat * (Kd.slice 39 k39).sz + 0 = i := by show (i : Int).toNat * 1 + 0 = i; omega
  rw [e0, Rgt.setCells1] at hH' hg'
  have hR0 := Kd.R_take hR (m := 0) (Nat.zero_le _)
  rw [List.take_zero] at hR0
  have hR1 := Kd.R_far hR0 (p := ⟨g, i, none⟩) (fun k hk => (hok k hk).2) (.slice (some ⟨gi, 0, none⟩) 0 ci)
  have := Kd.H_back hH' (x' := ([] : List S39)) ⟨_, rfl, hR1⟩ (fun k hk => hk)
  rw [Int.toNat_natCast] at this
  exact ⟨gi, ci, by simpa [Kd.slice] using hcell, hlc, this, hg'⟩
end Go.Proofs.Ytbjoleelfihikaa.Px
