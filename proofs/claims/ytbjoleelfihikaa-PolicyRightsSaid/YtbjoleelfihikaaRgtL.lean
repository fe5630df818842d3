/- PolicyRights' walk: it comes to true. -/
import Derived.Test.YtbjoleelfihikaaRgtW
import Derived.Test.YtbjoleelfihikaaPolK
namespace Go.Proofs.Ytbjoleelfihikaa.Px
open Go.RowKit Go.Proofs.YtbjoleelfihikaaW.PrintWords Go.Proofs.YtbjoleelfihikaaW.PrintLast Go.Proofs.YtbjoleelfihikaaW.PrintMore
set_option linter.unusedVariables false
set_option linter.unusedSimpArgs false

theorem Rgt.rule_some (a b : Int) (hb : 0 ≤ b ∧ b ≤ 255) : ∃ t, telemeterlaw12_Rule.f a b = some t ∧ Rgt.rt t.1 t.2.1 t.2.2.1 t.2.2.2 = true := by
  have e1 : wrap64 b = b := Pol.w64 _ (by omega) (by omega)
  have e2 : wrap64 (b * 281474976710656) = b * 281474976710656 := Pol.w64 _ (by omega) (by omega)
  have e3 : wrap64 (Int.tmod b 6) = b % 6 := by rw [Int.tmod_eq_emod_of_nonneg hb.1]; exact Pol.w64 _ (by omega) (by omega)
  have hn := Spn.nm_size b
  have h0 : (⟨#[]⟩ : ByteArray).size = 0 := rfl
  have h1 : (⟨#[97]⟩ : ByteArray).size = 1 := rfl
  unfold telemeterlaw12_Rule.f
  rw [Spn.nm_eq b hb, Option.bind_some, e1, e2, e3]
  repeat' split
  · exact ⟨_, rfl, by simp [Rgt.rt, h0]; omega⟩
  · exact ⟨_, rfl, by simp [Rgt.rt, h0]⟩
  · exact ⟨_, rfl, by simp [Rgt.rt, h1]; omega⟩
  · exact ⟨_, rfl, by simp [Rgt.rt, h0]; omega⟩
  · exact ⟨_, rfl, by simp [Rgt.rt, h0]; omega⟩
def Rgt.qr (n : Nat) (row : List S39) : Prop := row ≠ [] ∧ row.length ≤ n ∧ ∀ r ∈ row, Rgt.rt r.f0 r.f1 r.f2 r.f3 = true
theorem Rgt.qr_mono {n m : Nat} {row : List S39} (h : Rgt.qr n row) (hm : n ≤ m) : Rgt.qr m row := ⟨h.1, Nat.le_trans h.2.1 hm, h.2.2⟩
def Rgt.goodQ (n : Nat) (rows : List (List S39)) : Prop := rows.length ≤ n ∧ Rgt.sum rows ≤ (n : Int) ∧ ∀ row ∈ rows, Rgt.qr n row
theorem Rgt.sum_snoc (l : List (List S39)) (x : List S39) : Rgt.sum (l ++ [x]) = Rgt.sum l + (x.length : Int) := by simp [Rgt.sum]
theorem Rgt.sum_set : ∀ (l : List (List S39)) (j : Nat) (y : List S39), j < l.length → Rgt.sum (l.set j y) = Rgt.sum l - ((l.getD j []).length : Int) + (y.length : Int)
  | [], j, y, h => absurd h (Nat.not_lt_zero _)
  | x :: r, 0, y, _ => by simp only [List.set_cons_zero, Rgt.sum_cons, List.getD_cons_zero]; omega
  | x :: r, j + 1, y, h => by
    have := Rgt.sum_set r j y (by simpa using h)
    simp only [List.set_cons_succ, Rgt.sum_cons, List.getD_cons_succ, this]
    omega
theorem Rgt.rules_loop (l : List Int) (hl : Pol.bytesP l) : ∀ (d i : Nat) (rows : List (List S39)) (n k : Nat), 18 ≤ i + 3 * d → i ≤ 20 → Rgt.goodQ n rows → n + d ≤ 100 → 2 * d + 2 ≤ k → ∃ out, telemeterlaw12_Rules.l0 k l rows (i : Int) = some out ∧ Rgt.goodQ (n + d) out := by
  intro d
  induction d with
  | zero =>
    intro i rows n k hi hi2 hg hn hk
    obtain ⟨k, rfl⟩ : ∃ m, k = m + 2 := ⟨k - 2, by omega⟩
    refine ⟨rows, ?_, hg⟩
    rw [telemeterlaw12_Rules.l0, decide_eq_false (by omega)]
    split <;> (rw [telemeterlaw12_Rules.j1, if_neg (by decide)])
  | succ d ih =>
    intro i rows n k hi hi2 hg hn hk
    obtain ⟨k, rfl⟩ : ∃ m, k = m + 2 := ⟨k - 2, by omega⟩
    have e1 : wrap64 ((i : Int) + 1) = (i : Int) + 1 := Pol.w64 _ (by omega) (by omega)
    have e2 : wrap64 ((i : Int) + 2) = (i : Int) + 2 := Pol.w64 _ (by omega) (by omega)
    have e3 : wrap64 ((i : Int) + 3) = ((i + 3 : Nat) : Int) := by rw [Pol.w64 _ (by omega) (by omega)]; omega
    rw [telemeterlaw12_Rules.l0, e2]
    by_cases h1 : (i : Int) + 2 < (l.length : Int)
    rotate_left
    · rw [if_neg h1, telemeterlaw12_Rules.j1, if_neg (by decide)]
      exact ⟨rows, rfl, by have := hg.1; omega, by have := hg.2.1; omega, fun row hr => Rgt.qr_mono (hg.2.2 row hr) (by omega)⟩
    rw [if_pos h1]
    by_cases h2 : (i : Int) < 18
    rotate_left
    · rw [decide_eq_false h2, telemeterlaw12_Rules.j1, if_neg (by decide)]
      exact ⟨rows, rfl, by have := hg.1; omega, by have := hg.2.1; omega, fun row hr => Rgt.qr_mono (hg.2.2 row hr) (by omega)⟩
    obtain ⟨t, ht, t1⟩ := Rgt.rule_some (rd l (i : Int)) (rd l ((i : Int) + 1)) (Pol.rd_byte l hl _)
    have hr1 : ∀ r ∈ [(⟨t.1, t.2.1, t.2.2.1, t.2.2.2⟩ : S39)], Rgt.rt r.f0 r.f1 r.f2 r.f3 = true := fun r hr => by rw [List.mem_singleton.1 hr]; exact t1
    have hnew : Rgt.goodQ (n + 1) (rows ++ [[(⟨t.1, t.2.1, t.2.2.1, t.2.2.2⟩ : S39)]]) := by
      refine ⟨by rw [List.length_append, List.length_singleton]; have := hg.1; omega, by rw [Rgt.sum_snoc]; have := hg.2.1; simp only [List.length_singleton]; omega, fun row hr => ?_⟩
      rcases List.mem_append.1 hr with hr | hr
      · exact Rgt.qr_mono (hg.2.2 row hr) (by omega)
      · rw [List.mem_singleton.1 hr]; exact ⟨by simp, by simp, hr1⟩
    rw [decide_eq_true h2, telemeterlaw12_Rules.j1, if_pos rfl, if_pos (by omega), if_pos (by omega), e1, if_pos (by omega), if_pos (by omega), ht, Option.bind_some, e2, if_pos (by omega), if_pos (by omega), e3]
    have hstep := fun rows' (hg' : Rgt.goodQ (n + 1) rows') => ih (i + 3) rows' (n + 1) k (by omega) (by omega) hg' (by omega) (by omega)
    have hfin : ∀ x : Option (List (List S39)), (∃ out, x = some out ∧ Rgt.goodQ (n + 1 + d) out) → ∃ out, x = some out ∧ Rgt.goodQ (n + (d + 1)) out := fun x h => by rwa [show n + (d + 1) = n + 1 + d from by omega]
    by_cases h3 : Int.tmod (rd l ((i : Int) + 2)) 3 = 0
    · rw [if_pos h3]
      by_cases h4 : (rows.length : Int) > 0
      · have e4 : wrap64 ((rows.length : Int) - 1) = (rows.length : Int) - 1 := Pol.w64 _ (by omega) (by have := hg.1; omega)
        have hm := Pol.rd_row_mem rows ((rows.length : Int) - 1) (by omega) (by omega)
        have hgm := hg.2.2 _ hm
        rw [if_pos h4, e4, if_pos (by omega), if_pos (by omega), if_pos (by have := hgm.2.1; omega)]
        refine hfin _ (hstep _ ⟨by rw [List.length_set]; have := hg.1; omega, by have h7 := hg.2.1; have h8 := Rgt.sum_set rows ((rows.length : Int) - 1).toNat (rd_L4 rows ((rows.length : Int) - 1) ++ [(⟨t.1, t.2.1, t.2.2.1, t.2.2.2⟩ : S39)]) (by omega); rw [List.length_append, List.length_singleton] at h8; have h9 : rd_L4 rows ((rows.length : Int) - 1) = rows.getD ((rows.length : Int) - 1).toNat [] := rfl; rw [← h9] at h8; omega, fun row hr => ?_⟩)
        rcases List.mem_or_eq_of_mem_set hr with hr | hr
        · exact Rgt.qr_mono (hg.2.2 row hr) (by omega)
        · rw [hr]
          refine ⟨by simp, by rw [List.length_append, List.length_singleton]; have := hgm.2.1; omega, fun r hr => ?_⟩
          rcases List.mem_append.1 hr with hr | hr
          · exact hgm.2.2 r hr
          · exact hr1 r hr
      · rw [if_neg h4, if_pos (by have := hg.1; omega)]
        exact hfin _ (hstep _ hnew)
    · rw [if_neg h3, if_pos (by have := hg.1; omega)]
      exact hfin _ (hstep _ hnew)
theorem Rgt.goodQ_right {n : Nat} (hn : n ≤ 20) {rows : List (List S39)} (h : Rgt.goodQ n rows) : Rgt.rightW rows = true := by
  have h0 : 0 ≤ Rgt.sum rows := by
    have : ∀ l : List (List S39), 0 ≤ Rgt.sum l := by
      intro l
      induction l with
      | nil => exact Int.le_refl _
      | cons x r ih => rw [Rgt.sum_cons]; omega
    exact this rows
  have h1 := h.2.1
  rw [Rgt.rightW, Bool.and_eq_true]
  refine ⟨?_, decide_eq_true (by rw [Pol.w64 _ (by omega) (by omega)]; omega)⟩
  rw [Rgt.okF, List.all_eq_true]
  intro row hr
  have hq := h.2.2 row hr
  rw [Bool.and_eq_true]
  refine ⟨by simp [hq.1], ?_⟩
  have : row.any Pol.oddF = false := by
    rw [List.any_eq_false]
    intro r hr2
    rw [Rgt.oddF_eq, hq.2.2 r hr2]
    simp
  rw [this]
  rfl
theorem Rgt.rules_some (l : List Int) (hl : Pol.bytesP l) : ∃ out, telemeterlaw12_Rules.f 14 l = some out ∧ Rgt.rightW out = true ∧ (∀ row ∈ out, row ≠ []) ∧ out.length ≤ 6 := by
  obtain ⟨out, h1, h2⟩ := Rgt.rules_loop l hl 6 0 [] 0 14 (by omega) (by omega) ⟨by simp, by simp [Rgt.sum], fun row hr => by cases hr⟩ (by omega) (by omega)
  exact ⟨out, by simpa [telemeterlaw12_Rules.f] using h1, Rgt.goodQ_right (by omega) h2, fun row hr => (h2.2.2 row hr).1, by have := h2.1; omega⟩
theorem Rgt.rows_le {w : World} {A : Option Addr} {xs : List (List S39)} (h : Kd.C (Kd.slice 39 k39) w A xs.length xs) : ∀ row ∈ xs, row.length ≤ 9223372036854775807 := by
  intro row hr
  obtain ⟨j, hj, e⟩ := List.getElem_of_mem hr
  obtain ⟨ad, A0, c0, _, _, _, g⟩ := Pol.at_rows h j hj
  rw [List.getD_eq_getElem?_getD, List.getElem?_eq_getElem hj, Option.getD_some, e] at g
  exact g.2.1
theorem Rgt.right' {w : World} {A : Option Addr} {n c : Nat} {xs : List (List S39)} (hn : n = xs.length) (h : Kd.C (Kd.slice 39 k39) w A xs.length xs) (hc : n ≤ c) :
    Calls Try.prog 15 #[.slice A n c] w fun e w' => e = .returned (.bool (Rgt.rightW xs)) ∧ Below w.heap.size w w' := by
  subst hn
  exact Rgt.Right_calls A c xs w h hc
theorem Rgt.ref_calls {w : World} {A : Option Addr} {c : Nat} {xs : List (List S39)} (h : Kd.C (Kd.slice 39 k39) w A xs.length xs) (hc : xs.length ≤ c) :
    Calls Try.prog 16 #[.slice A xs.length c] w fun e w' => e = .returned (.bool (Rgt.rightW xs)) ∧ Below w.heap.size w w' :=
  telemeterref12_Right.calls (Rgt.steps xs + 1) A c xs (Rgt.rightW xs) w h hc (Rgt.ref_f xs h.2.1 (Rgt.rows_le h))

theorem Rgt.ref' {w : World} {A : Option Addr} {n c : Nat} {xs : List (List S39)} (hn : n = xs.length) (h : Kd.C (Kd.slice 39 k39) w A xs.length xs) (hc : n ≤ c) :
    Calls Try.prog 16 #[.slice A n c] w fun e w' => e = .returned (.bool (Rgt.rightW xs)) ∧ Below w.heap.size w w' := by
  subst hn
  exact Rgt.ref_calls h hc
set_option maxHeartbeats 80000000 in
set_option maxRecDepth 100000 in
theorem Rgt.walk (A0 : Option Addr) (c0 : Nat) (l0 : List (List S39)) (A1 : Option Addr) (c1 : Nat) (l1 : List Int) (how at_ n : Int) (s : ByteArray) (w : World)
    (hr0 : Kd.C (Kd.slice 39 k39) w A0 l0.length l0) (hc0 : l0.length ≤ c0) (hr1 : Kd.C (Kd.int .u8) w A1 l1.length l1) (hc1 : l1.length ≤ c1) (hb1 : Pol.bytesP l1) (hhow : 0 ≤ how ∧ how ≤ 255) (hat : 0 ≤ at_ ∧ at_ ≤ 255) (hs : s.size ≤ 9223372036854775807) :
    Calls Try.prog 5 #[.slice A0 l0.length c0, .slice A1 l1.length c1, .int .u8 how, .int .u8 at_, .int .i64 n, .string s] w fun e w' => e = .returned (.bool true) ∧ Below w.heap.size w w' := by
  have hl : l0.length ≤ 9223372036854775807 := hr0.2.1
  have ek : ∀ args w, (callFunc 10 args).run Try.prog w = .ok (.enter 10 args) w := fun args w => enters_ Try.func10 (by kernel_rfl) rfl args w
  have eR : ∀ args w, (callFunc 15 args).run Try.prog w = .ok (.enter 15 args) w := fun args w => enters_ Try.func15 (by kernel_rfl) rfl args w
  have eD : ∀ args w, (callFunc 16 args).run Try.prog w = .ok (.enter 16 args) w := fun args w => enters_ Try.func16 (by kernel_rfl) rfl args w
  have eC : ∀ args w, (callFunc 9 args).run Try.prog w = .ok (.enter 9 args) w := fun args w => enters_ Try.func9 (by kernel_rfl) rfl args w
  have hknown : ∀ W, Calls Try.prog 10 #[] W fun e w' => e = .returned (.bool true) ∧ Below W.heap.size W w' := fun W => telemeterlaw12_known.calls 3 true W (Pol.known_eq 3 (by omega))
  go_enter Try.func5, Try.ntmps5
  go_wp2
  go_loopg [13, 14] l0.length (fun gg s13 s14 wr => ∃ (kk : Nat) (x : Int), kk ≤ l0.length ∧ l0.length - kk ≤ gg ∧ s13 = .int .i64 x ∧ s14 = .int .i64 kk ∧ Aside0 (wr = w))
  case atStart => exact ⟨0, 0, Nat.zero_le _, by omega, rfl, rfl, ⟨rfl⟩⟩
  case round =>
    obtain ⟨kk, x, hkk, hg, rfl, rfl, ⟨hwr⟩⟩ := hrel
    replace hwr := hwr.symm
    subst hwr
    by_cases hlt : kk < l0.length
    · have hltz : (kk : Int) < (l0.length : Int) := by omega
      have h0z : (0 : Int) ≤ (kk : Int) := by omega
      obtain ⟨ad, A, c, e0, hx0, l8, g8⟩ := Pol.at_rows hr0 kk hlt
      cases e0
      clear hr0 g8
      generalize (l0.getD kk []).length = m at *
      go_wp2
      go_roundg (l0.length - (kk + 1))
      case measure => omega
      case rel => exact ⟨kk + 1, _, by omega, by omega, rfl, by go_num, ⟨rfl⟩⟩
    · have hltz : decide ((kk : Int) < (l0.length : Int)) = false := decide_eq_false (by omega)
      by_cases h50 : x > 50
      · have h50b : decide (x > 50) = true := decide_eq_true h50
        go_wp2_with (fail)
        refine (hknown _).mono ?_
        rintro e w' ⟨rfl, hb⟩
        go_wp2
        go_ret
        exact ⟨rfl, hb⟩
      have h50b : decide (x > 50) = false := decide_eq_false h50
      by_cases h100 : (s.size : Int) > 100
      · have h100b : decide ((s.size : Int) > 100) = true := decide_eq_true h100
        go_wp2_with (fail)
        refine (hknown _).mono ?_
        rintro e w' ⟨rfl, hb⟩
        go_wp2
        go_ret
        exact ⟨rfl, hb⟩
      have h100b : decide ((s.size : Int) > 100) = false := decide_eq_false h100
      go_wp2_with (fail)
      refine (hknown _).mono ?_
      rintro e w1 ⟨rfl, hb1'⟩
      go_wp2_with (fail)
      obtain ⟨rows, hrules, hright, hne, hr6⟩ := Rgt.rules_some l1 hb1
      refine (telemeterlaw12_Rules.calls 14 A1 c1 l1 rows _ (Kd.C_below hr1 hb1') hc1 hrules).mono ?_
      rintro e w2 ⟨vx, rfl, hS0, hb2⟩
      have hS1 := Kd.S_lower hS0 hb1'.size
      clear hS0 hrules
      obtain ⟨Ax, cx, hvx, hlx, hCx⟩ := Kd.S_reads hS1
      subst hvx
      have hB2 := below_step hb1' hb2
      go_wp2_with (fail)
      refine (Rgt.Right_calls Ax cx rows _ hCx hlx).mono ?_
      rw [hright]
      rintro e w3 ⟨rfl, hb3⟩
      have hB3 := below_step hB2 hb3
      have hS3 := Kd.S_below hS1 hb3
      clear hS1 hCx
      go_wp2_with (fail)
      refine (Rgt.Right_calls A0 c0 l0 _ (Kd.C_below hr0 hB3) hc0).mono ?_
      rintro e w4 ⟨rfl, hb4⟩
      have hB4 := below_step hB3 hb4
      have hS4 := Kd.S_below hS3 hb4
      clear hS3
      go_wp2_with (fail)
      refine (Rgt.ref_calls (Kd.C_below hr0 hB4) hc0).mono ?_
      rintro e w5 ⟨rfl, hb5⟩
      have hB5 := below_step hB4 hb5
      have hS5 := Kd.S_below hS4 hb5
      clear hS4
      by_cases hx0 : rows = []
      · subst hx0
        go_wp2
        go_ret
        exact ⟨rfl, hB5⟩
      have hxl : 0 < rows.length := List.length_pos_iff.2 hx0
      have hxb : ((rows.length : Int) == 0) = false := beq_eq_false_iff_ne.2 (by omega)
      have hxd : decide ((rows.length : Int) = 0) = false := decide_eq_false (by omega)
      obtain ⟨gx, cx', hfx, hgb, hgl, cellsx, hcx⟩ := Kd.S_form hS5 hxl
      injection hfx with hAx hnx hcx'
      subst hAx
      subst hcx'
      obtain ⟨i, hi, hil⟩ : ∃ i : Nat, at_ % (rows.length : Int) = (i : Int) ∧ i < rows.length := by
        have h1 := Int.emod_nonneg at_ (show (rows.length : Int) ≠ 0 by omega)
        have h2 := Int.emod_lt_of_pos at_ (show 0 < (rows.length : Int) by omega)
        exact ⟨(at_ % (rows.length : Int)).toNat, by omega, by omega⟩
      have hri : 0 < (rows.getD i []).length := List.length_pos_iff.2 (hne _ (Pol.getD_mem rows i [] hil))
      have hiz : (i : Int) < (rows.length : Int) := by omega
      have hi0 : (0 : Int) ≤ (i : Int) := by omega
      have hq : how % 6 = 0 ∨ how % 6 = 1 ∨ how % 6 = 2 ∨ how % 6 = 3 ∨ how % 6 = 4 ∨ how % 6 = 5 := by omega
      rcases hq with hq | hq | hq | hq | hq | hq
      · obtain ⟨gi, ci, hcell, hgi, hfr, ⟨k0, k1, k2, k3⟩, hput⟩ := Rgt.put_rule hS5 i hil hri
        obtain ⟨hS6, hg6⟩ := hput 1 (.int .i64 n) ⟨((rows.getD i []).getD 0 z39).f0, n, ((rows.getD i []).getD 0 z39).f2, ((rows.getD i []).getD 0 z39).f3⟩ (by omega) rfl
        have hB6 := below_set (j := 1) (v := .int .i64 n) hB5 hgi
        have hfr' := hfr 1
        clear hput hfr
        generalize (rows.getD i []).length = m at *
        generalize (rows.getD i []).getD 0 z39 = r0 at *
        have hm0 : (0 : Int) < (m : Int) := by omega
        clear hS5 hright hne
        go_wp2_with (fail)
        obtain ⟨X6, hS7⟩ : ∃ X6, Kd.S (Kd.slice 39 k39) 30 _ _ _ _ X6 := ⟨_, hS6⟩
        clear hS6
        obtain ⟨hn6, hle6, hC6⟩ := Kd.S_reads' hS7
        have c6 := Rgt.right' hn6 hC6 hle6
        have c7 := fun w7 hb7 => Rgt.ref' (w := w7) hn6 (Kd.C_below hC6 hb7) hle6
        have c7a := Aside0.mk c7
        clear hS7 hC6 c7 hn6 hle6
        generalize Rgt.rightW X6 = b at c6 c7a
        refine c6.mono ?_
        clear c6
        rintro e w7 ⟨rfl, hb7⟩
        go_wp2_with (fail)
        refine (c7a.out w7 hb7).mono ?_
        clear c7a
        rintro e w8 ⟨rfl, hb8⟩
        have hB8 := below_step (below_step hB6 hb7) hb8
        have hbb : (b == b) = true := beq_self_eq_true b
        go_wp2
        go_ret
        exact ⟨rfl, hB8⟩
      · obtain ⟨gi, ci, hcell, hgi, hfr, ⟨k0, k1, k2, k3⟩, hput⟩ := Rgt.put_rule hS5 i hil hri
        obtain ⟨hS6, hg6⟩ := hput 2 (.string s) ⟨((rows.getD i []).getD 0 z39).f0, ((rows.getD i []).getD 0 z39).f1, s, ((rows.getD i []).getD 0 z39).f3⟩ (by omega) rfl
        have hB6 := below_set (j := 2) (v := .string s) hB5 hgi
        have hfr' := hfr 2
        clear hput hfr
        generalize (rows.getD i []).length = m at *
        generalize (rows.getD i []).getD 0 z39 = r0 at *
        have hm0 : (0 : Int) < (m : Int) := by omega
        clear hS5 hright hne
        go_wp2_with (fail)
        obtain ⟨X6, hS7⟩ : ∃ X6, Kd.S (Kd.slice 39 k39) 30 _ _ _ _ X6 := ⟨_, hS6⟩
        clear hS6
        obtain ⟨hn6, hle6, hC6⟩ := Kd.S_reads' hS7
        have c6 := Rgt.right' hn6 hC6 hle6
        have c7 := fun w7 hb7 => Rgt.ref' (w := w7) hn6 (Kd.C_below hC6 hb7) hle6
        have c7a := Aside0.mk c7
        clear hS7 hC6 c7 hn6 hle6
        generalize Rgt.rightW X6 = b at c6 c7a
        refine c6.mono ?_
        clear c6
        rintro e w7 ⟨rfl, hb7⟩
        go_wp2_with (fail)
        refine (c7a.out w7 hb7).mono ?_
        clear c7a
        rintro e w8 ⟨rfl, hb8⟩
        have hB8 := below_step (below_step hB6 hb7) hb8
        have hbb : (b == b) = true := beq_self_eq_true b
        go_wp2
        go_ret
        exact ⟨rfl, hB8⟩
      · obtain ⟨gi, ci, hcell, hgi, hfr, ⟨k0, k1, k2, k3⟩, hput⟩ := Rgt.put_rule hS5 i hil hri
        obtain ⟨hS6, hg6⟩ := hput 3 (.string s) ⟨((rows.getD i []).getD 0 z39).f0, ((rows.getD i []).getD 0 z39).f1, ((rows.getD i []).getD 0 z39).f2, s⟩ (by omega) rfl
        have hB6 := below_set (j := 3) (v := .string s) hB5 hgi
        have hfr' := hfr 3
        clear hput hfr
        generalize (rows.getD i []).length = m at *
        generalize (rows.getD i []).getD 0 z39 = r0 at *
        have hm0 : (0 : Int) < (m : Int) := by omega
        clear hS5 hright hne
        go_wp2_with (fail)
        obtain ⟨X6, hS7⟩ : ∃ X6, Kd.S (Kd.slice 39 k39) 30 _ _ _ _ X6 := ⟨_, hS6⟩
        clear hS6
        obtain ⟨hn6, hle6, hC6⟩ := Kd.S_reads' hS7
        have c6 := Rgt.right' hn6 hC6 hle6
        have c7 := fun w7 hb7 => Rgt.ref' (w := w7) hn6 (Kd.C_below hC6 hb7) hle6
        have c7a := Aside0.mk c7
        clear hS7 hC6 c7 hn6 hle6
        generalize Rgt.rightW X6 = b at c6 c7a
        refine c6.mono ?_
        clear c6
        rintro e w7 ⟨rfl, hb7⟩
        go_wp2_with (fail)
        refine (c7a.out w7 hb7).mono ?_
        clear c7a
        rintro e w8 ⟨rfl, hb8⟩
        have hB8 := below_step (below_step hB6 hb7) hb8
        have hbb : (b == b) = true := beq_self_eq_true b
        go_wp2
        go_ret
        exact ⟨rfl, hB8⟩
      · obtain ⟨gi, ci, hcell, hgi, hfr, ⟨k0, k1, k2, k3⟩, hput⟩ := Rgt.put_rule hS5 i hil hri
        obtain ⟨hS6, hg6⟩ := hput 0 (.int .u8 at_) ⟨at_, ((rows.getD i []).getD 0 z39).f1, ((rows.getD i []).getD 0 z39).f2, ((rows.getD i []).getD 0 z39).f3⟩ (by omega) rfl
        have hB6 := below_set (j := 0) (v := .int .u8 at_) hB5 hgi
        have hfr' := hfr 0
        clear hput hfr
        generalize (rows.getD i []).length = m at *
        generalize (rows.getD i []).getD 0 z39 = r0 at *
        have hm0 : (0 : Int) < (m : Int) := by omega
        clear hS5 hright hne
        go_wp2_with (fail)
        obtain ⟨X6, hS7⟩ : ∃ X6, Kd.S (Kd.slice 39 k39) 30 _ _ _ _ X6 := ⟨_, hS6⟩
        clear hS6
        obtain ⟨hn6, hle6, hC6⟩ := Kd.S_reads' hS7
        have c6 := Rgt.right' hn6 hC6 hle6
        have c7 := fun w7 hb7 => Rgt.ref' (w := w7) hn6 (Kd.C_below hC6 hb7) hle6
        have c7a := Aside0.mk c7
        clear hS7 hC6 c7 hn6 hle6
        generalize Rgt.rightW X6 = b at c6 c7a
        refine c6.mono ?_
        clear c6
        rintro e w7 ⟨rfl, hb7⟩
        go_wp2_with (fail)
        refine (c7a.out w7 hb7).mono ?_
        clear c7a
        rintro e w8 ⟨rfl, hb8⟩
        have hB8 := below_step (below_step hB6 hb7) hb8
        have hbb : (b == b) = true := beq_self_eq_true b
        go_wp2
        go_ret
        exact ⟨rfl, hB8⟩
      · obtain ⟨gi, ci, hcell, hci, hS6, hg6⟩ := Rgt.put_cut hS5 i hil hri
        have hB6 := below_set (j := i) (v := .slice (some ⟨gi, 0, none⟩) 0 ci) hB5 hgb
        have hfr' := blk_frozen hcx i
        generalize (rows.getD i []).length = m at *
        have hm0 : (0 : Int) < (m : Int) := by omega
        clear hS5 hright hne
        go_wp2_with (fail)
        obtain ⟨X6, hS7⟩ : ∃ X6, Kd.S (Kd.slice 39 k39) 30 _ _ _ _ X6 := ⟨_, hS6⟩
        clear hS6
        obtain ⟨hn6, hle6, hC6⟩ := Kd.S_reads' hS7
        have c6 := Rgt.right' hn6 hC6 hle6
        have c7 := fun w7 hb7 => Rgt.ref' (w := w7) hn6 (Kd.C_below hC6 hb7) hle6
        have c7a := Aside0.mk c7
        clear hS7 hC6 c7 hn6 hle6
        generalize Rgt.rightW X6 = b at c6 c7a
        refine c6.mono ?_
        clear c6
        rintro e w7 ⟨rfl, hb7⟩
        go_wp2_with (fail)
        refine (c7a.out w7 hb7).mono ?_
        clear c7a
        rintro e w8 ⟨rfl, hb8⟩
        have hB8 := below_step (below_step hB6 hb7) hb8
        have hbb : (b == b) = true := beq_self_eq_true b
        go_wp2
        go_ret
        exact ⟨rfl, hB8⟩
      · have h25 : Int.tmod at_ 25 = at_ % 25 := Int.tmod_eq_emod_of_nonneg hat.1
        obtain ⟨q, hq25, hqlt⟩ : ∃ q : Nat, at_ % 25 = (q : Int) ∧ q < 25 := ⟨(at_ % 25).toNat, by omega, by omega⟩
        clear hright hne hcx hgl hri hil hi hiz hi0
        have hS5a := Aside0.mk hS5
        have hB5a := Aside0.mk hB5
        clear hS5 hB2 hB3 hB4 hb2 hb3 hb4 hb5
        go_wp2_with (fail)
        clear hq
        go_loopg [15, 17] 25 (fun gg s15 s17 wv => ∃ (j : Nat) (X : List (List S39)) (A : Option Addr) (c : Nat), s15 = .slice A X.length c ∧ s17 = .int .i64 j ∧ j ≤ q ∧ 25 - j ≤ gg ∧ X.length ≤ 6 + j ∧ Aside0 (Kd.S (Kd.slice 39 k39) 30 wv w.heap.size (fun _ => True) (.slice A X.length c) X) ∧ Aside0 (Below w.heap.size w wv))
        case atStart => exact ⟨0, rows, _, _, rfl, rfl, Nat.zero_le _, by omega, by omega, hS5a, hB5a⟩
        case round =>
          obtain ⟨j, X, A, c, rfl, rfl, hjq, hgg, hXl, HSo, HBo⟩ := hrel
          by_cases hjl : j < q
          · have hjz : (j : Int) < (q : Int) := by omega
            go_wp2_with (first
              | ((with_reducible refine gate_dst (N := 75) rfl ?_); refine Kd.R_lit k39 _ 39 ?hg (N := 75) ?hd (xs := ([(⟨2, 0, ⟨#[]⟩, ⟨#[]⟩⟩ : S39)] : List S39)) (inner := [.int .u8 2, .int .i64 0, .string ⟨#[]⟩, .string ⟨#[]⟩]) (ok := fun _ => True) (okp := fun _ => True) ?hr ?hp (fun _ hk => hk) trivial (Below.refl _ _) (Nat.le_refl _) (by simp) ?_; (case hd => rfl); (case hg => rfl); (case hr => first | (go_simp; done) | (go_simp; rfl)); (case hp => exact (Reps.c4 (show Kd.M k39 _ _ _ (⟨2, 0, ⟨#[]⟩, ⟨#[]⟩⟩ : S39) [.int .u8 2, .int .i64 0, .string ⟨#[]⟩, .string ⟨#[]⟩] from (k39_mkM _ _ _ _)) (Reps.none _ _))); intro v75 w75 ho75 hb75 hg75 hnew75; obtain ⟨Ao, co, eo⟩ := Kd.R_slice ho75; subst eo; have HSi := Aside0.mk (Kd.S_elder' HSo.out (Kd.R_base ho75) hb75); have HRi := Aside0.mk (Kd.R_lower ho75 (below_size HBo.out)); have HBi := Aside0.mk (below_step HBo.out hb75); clear ho75 hb75 hg75 hnew75)
              | ((with_reducible refine gate_builtin (b := .append) (xs := #[.tmp 73, .tmp 76]) rfl ?_); at_builtin; have hRy := Kd.R_mono (ok' := fun k_ => True ∧ some k_ ≠ (.slice A X.length c : Value).ownBlock) (Kd.R_apart' (HRi.out) (Kd.S_typed HSi.out) (by decide)) (fun k_ hk => ⟨trivial, hk.2⟩); refine Kd.S_append (Kd.slice 39 k39) (w0 := w) w.heap.size rfl (.tmp 73) (.tmp 76) 25 30 (.slice none 0 0) 24 rfl Try.underlying25 info30 rfl (by decide) (by omega) (.slice A X.length c) X [(⟨2, 0, ⟨#[]⟩, ⟨#[]⟩⟩ : S39)] [.slice Ao 1 co] (fun _ => True) (fun k_ => some k_ = (.slice Ao 1 co : Value).ownBlock) rfl rfl ?aP (fun k_ hk_ => hRy.1 k_ hk_.symm) ?aF ?aO ?aB ?aS ?aL ?_; (case aP => exact Kd.M_row (Kd.R_mono (Kd.R_tight rfl hRy) (fun _ h_ => h_))); (case aF => exact fun _ _ => trivial); (case aO => exact Kd.S_mono HSi.out (fun k_ hk => ⟨trivial, fun e_ => hk.2 e_⟩)); (case aB => exact HBi.out); (case aS => exact below_size HBi.out); (case aL => omega); intro v77 w77 ho77 hb77 hg77 hat77; have HSn := Aside0.mk ho77; have HBn := Aside0.mk hb77; clear ho77 hb77 hg77 hat77 hRy))
            obtain ⟨An, cn, en⟩ := Kd.S_slice HSn.out
            subst en
            go_roundg (25 - (j + 1))
            case measure => omega
            case rel => exact ⟨j + 1, X ++ [[(⟨2, 0, ⟨#[]⟩, ⟨#[]⟩⟩ : S39)]], An, cn, rfl, by go_num, by omega, by omega, by rw [List.length_append, List.length_singleton]; omega, HSn, HBn⟩
          · have hjz : decide ((j : Int) < (q : Int)) = false := decide_eq_false (by omega)
            go_wp2_with (fail)
            obtain ⟨X6, hS7⟩ : ∃ X6, Kd.S (Kd.slice 39 k39) 30 _ _ _ _ X6 := ⟨_, HSo.out⟩
            obtain ⟨hn6, hle6, hC6⟩ := Kd.S_reads' hS7
            have c6 := Rgt.right' hn6 hC6 hle6
            have c7 := fun w7 hb7 => Rgt.ref' (w := w7) hn6 (Kd.C_below hC6 hb7) hle6
            have c7a := Aside0.mk c7
            clear hS7 hC6 c7 hn6 hle6 HSo
            generalize Rgt.rightW X6 = b at c6 c7a
            refine c6.mono ?_
            clear c6
            rintro e w7 ⟨rfl, hb7⟩
            go_wp2_with (fail)
            refine (c7a.out w7 hb7).mono ?_
            clear c7a
            rintro e w8 ⟨rfl, hb8⟩
            have hB8 := below_step (below_step HBo.out hb7) hb8
            have hbb : (b == b) = true := beq_self_eq_true b
            go_wp2
            go_ret
            exact ⟨rfl, hB8⟩
end Go.Proofs.Ytbjoleelfihikaa.Px
