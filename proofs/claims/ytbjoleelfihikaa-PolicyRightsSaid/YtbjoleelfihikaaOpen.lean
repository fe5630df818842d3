/- A parameter of kind [][]byte: what a reading of it holds. -/
import Derived.Test.YtbjoleelfihikaaWWords
import Derived.Test.YtbjoleelfihikaaWLast
import Derived.Test.YtbjoleelfihikaaWMore
import Derived.Test.YtbjoleelfihikaaProg
import Derived.Test.YtbjoleelfihikaaRows
import Derived.WalkKit
import Derived.ProofKit
import Derived.OpenShut
import Derived.ShutString
import Derived.ChangeOld
import Derived.Below
import Derived.SizedLaws
import Derived.LaidMore
import Derived.Test.YtbjoleelfihikaaPx0
namespace Go.Proofs.Ytbjoleelfihikaa.Px
open Go.ChangeShapes Go.WideShapes Go.ChangeAt Go.RowKit Go.Proofs.YtbjoleelfihikaaW.PrintWords Go.Proofs.YtbjoleelfihikaaW.PrintLast Go.Proofs.YtbjoleelfihikaaW.PrintMore
set_option linter.unusedVariables false
set_option linter.unusedSimpArgs false

abbrev bytesP (l : List Int) : Prop := ∀ x ∈ l, 0 ≤ x ∧ x ≤ 255
theorem u8_wfN {x : Int} (h : (Lit.int .u8 x).wf = true) : 0 ≤ x ∧ x ≤ 255 := by
  simp only [Lit.wf, IntKind.min, IntKind.max, IntKind.signed, IntKind.bits, Bool.and_eq_true, decide_eq_true_eq] at h
  simp at h; omega
theorem bytesP_of_wf {l : List Int} (h : ∀ x ∈ l, (Lit.int .u8 x).wf = true) : bytesP l := fun x hx => u8_wfN (h x hx)
theorem bytesP_nil : bytesP [] := fun x hx => by cases hx
theorem rows_of {W : World} {a : Addr} {len : Nat} (key : ∀ i, i < len → ∃ y : List Int, ∃ A c, W.cell? (a.add i) = some (.slice A y.length c) ∧ y.length ≤ c ∧ (Kd.int .u8).C W A y.length y ∧ bytesP y) :
    ∀ m, m ≤ len → ∃ xs : List (List Int), xs.length = m ∧ (∀ j p, xs[j]? = some p → ∃ A c, W.cell? (a.add j) = some (.slice A p.length c) ∧ p.length ≤ c ∧ (Kd.int .u8).C W A p.length p) ∧ ∀ y ∈ xs, bytesP y := by
  intro m
  induction m with
  | zero => intro _; exact ⟨[], rfl, fun j p h => by simp at h, fun y hy => by cases hy⟩
  | succ m ih =>
    intro hm
    obtain ⟨xs, hl, hx, hb⟩ := ih (by omega)
    obtain ⟨y, A, c, h1, h2, h3, h4⟩ := key m (by omega)
    refine ⟨xs ++ [y], by rw [List.length_append, hl]; rfl, fun j p hj => ?_, fun z hz => ?_⟩
    · rcases Nat.lt_or_ge j xs.length with h | h
      · rw [List.getElem?_append_left h] at hj; exact hx j p hj
      · rw [List.getElem?_append_right h] at hj
        have hj0 : j - xs.length = 0 := by
          rcases Nat.eq_zero_or_pos (j - xs.length) with h' | h'
          · exact h'
          · rw [List.getElem?_eq_none (by simp; omega)] at hj; cases hj
        rw [hj0] at hj
        have hp : y = p := by simpa using hj
        subst hp
        obtain rfl : j = m := by omega
        exact ⟨A, c, h1, h2, h3⟩
    · rcases List.mem_append.1 hz with h | h
      · exact hb z h
      · rw [List.mem_singleton.1 h]; exact h4

theorem open_rows {H : Type} {enc : TypeId × Value → H} {W : World} {fuel : Nat} {a : Option Addr} {len cap : Nat} {x : DataW H × List MemPlace}
    (h : DataW.trod enc Try.prog W 0 (fun _ => true) true fuel 23 [.slice a len cap] = some x) :
    ∃ xs : List (List Int), xs.length = len ∧ Kd.C (Kd.slice 5 (Kd.int .u8)) W a len xs ∧ len ≤ cap ∧ cap ≤ maxLen ∧ ∀ y ∈ xs, bytesP y := by
  have hsz : Try.prog.cellsOf 22 = 1 := by kernel_rfl
  rcases DataW.trod_slice Try.underlying23 h with ⟨hcs, _⟩ | ⟨a', len', cap', elems, rest, n, _, hcs, hx, _, hl, hm, hlen, hel, _, _⟩
  · simp only [List.cons.injEq, Value.slice.injEq, and_true] at hcs
    obtain ⟨rfl, rfl, rfl⟩ := hcs
    exact ⟨[], rfl, ⟨rfl, by decide, fun h => absurd h (by decide)⟩, by decide, by decide, fun y hy => by cases hy⟩
  · simp only [List.cons.injEq, Value.slice.injEq, and_true] at hcs
    obtain ⟨rfl, rfl, rfl⟩ := hcs
    have key : ∀ i, i < len → ∃ y : List Int, ∃ A c, W.cell? (a'.add i) = some (.slice A y.length c) ∧ y.length ≤ c ∧ (Kd.int .u8).C W A y.length y ∧ bytesP y := by
      intro i hi
      have hE := hel i hi
      rw [hsz, Nat.mul_one] at hE
      cases hy : elems[i]? with
      | none => rw [List.getElem?_eq_none_iff] at hy; omega
      | some z =>
        rw [hy] at hE
        simp only [Option.bind_eq_some_iff] at hE
        obtain ⟨c1, hc1, hy1⟩ := hE
        have e0 : (a'.add i).add 0 = a'.add i := by simp [Addr.add]
        have : ∃ c, c1 = [c] ∧ W.cell? (a'.add i) = some c := by
          unfold World.cells? at hc1
          split at hc1
          · simp only [List.range_succ, List.range_zero, List.nil_append, List.mapM_cons, List.mapM_nil, e0] at hc1
            cases hcc : W.cell? (a'.add i) with
            | none => simp [hcc] at hc1
            | some c => simp [hcc] at hc1; exact ⟨c, hc1.symm, rfl⟩
          · cases hc1
        obtain ⟨c, rfl, hcell⟩ := this
        rcases open_ints Try.underlying22 Try.underlying5 (by kernel_rfl) hy1 with ⟨hcs, _⟩ | ⟨x, l, cc, zs, hcs, _, hl, hm, hz, _, hcl, hwz⟩
        · rw [List.cons.injEq] at hcs
          obtain ⟨rfl, _⟩ := hcs
          exact ⟨[], none, 0, hcell, by decide, Kd.C_nil _ _, bytesP_nil⟩
        · rw [List.cons.injEq] at hcs
          obtain ⟨rfl, _⟩ := hcs
          have hzl : zs.length = cc := by simpa using hz
          have htl : (zs.take l).length = l := by rw [List.length_take]; omega
          refine ⟨zs.take l, some x, cc, by rw [htl]; exact hcell, by rw [htl]; exact hl, ?_, fun y hy => u8_wfN (hwz y (List.mem_of_mem_take hy))⟩
          have hmx : maxLen ≤ 9223372036854775807 := by decide
          refine Kd.C_of_reads (d := (0 : Int)) (h1 := fun _ => rfl) ⟨rfl, by rw [htl]; omega, fun _ => ⟨x, rfl, fun j hj => ?_⟩⟩
          rw [htl] at hj
          rw [hcl j (by omega), List.getD_eq_getElem?_getD, List.getD_eq_getElem?_getD, List.getElem?_take_of_lt hj]
    obtain ⟨xs, h1, h2, h3⟩ := rows_of key len (Nat.le_refl _)
    have hmx : maxLen ≤ 9223372036854775807 := by decide
    refine ⟨xs, h1, ⟨h1, by omega, fun _ => ⟨a', rfl, fun j p hj => ?_⟩⟩, hl, hm, h3⟩
    obtain ⟨A, c, g1, g2, g3⟩ := h2 j p hj
    refine ⟨[.slice A p.length c], rfl, ⟨A, c, rfl, g2, g3⟩, fun i u hu => ?_⟩
    cases i with
    | zero => simp only [List.getElem?_cons_zero, Option.some.injEq] at hu; subst hu; rw [Nat.add_zero]; show W.cell? (a'.add (j * 1)) = _; rw [Nat.mul_one]; exact g1
    | succ i => simp at hu

end Go.Proofs.Ytbjoleelfihikaa.Px

/- What a reading of an argument holds, kind by kind. -/
namespace Go.Proofs.Ytbjoleelfihikaa.Px
open Go.ChangeShapes Go.WideShapes Go.ChangeAt Go.RowKit Go.Proofs.YtbjoleelfihikaaW.PrintWords Go.Proofs.YtbjoleelfihikaaW.PrintLast Go.Proofs.YtbjoleelfihikaaW.PrintMore
set_option linter.unusedVariables false
set_option linter.unusedSimpArgs false

def Opn {H : Type} (enc : TypeId × Value → H) (W : World) (t : TypeId) {α : Type} (d : Kd α) (ok : α → Prop) : Prop :=
  ∀ fuel cs x, DataW.trod enc Try.prog W 0 (fun _ => true) true fuel t cs = some x → ∃ y, d.K W y cs ∧ ok y
section
variable {H : Type} {enc : TypeId × Value → H} {W : World}
theorem Opn.int {t : TypeId} {k : IntKind} (hu : Try.prog.underlying t = some (.int k)) : Opn enc W t (Kd.int k) (fun y => (Lit.int k y).wf = true) := by
  intro fuel cs x h
  cases fuel with
  | zero => simp [DataW.trod] at h
  | succ n =>
    unfold DataW.trod at h
    rw [hu] at h
    split at h <;> simp_all
    obtain ⟨⟨h1, h2⟩, h3⟩ := h
    exact ⟨_, rfl, h2⟩
theorem Opn.string {t : TypeId} (hu : Try.prog.underlying t = some .string) : Opn enc W t Kd.string (fun y => y.size ≤ maxLen) := by
  intro fuel cs x h
  cases fuel with
  | zero => simp [DataW.trod] at h
  | succ n =>
    unfold DataW.trod at h
    rw [hu] at h
    split at h <;> simp_all
    exact ⟨_, rfl, h.1⟩
theorem Opn.b2 (W : World) (b : Bool) : Kd.bool.K W false [Value.bool b] ∨ Kd.bool.K W true [Value.bool b] := by
  cases b
  · exact .inl rfl
  · exact .inr rfl
theorem Opn.bool {t : TypeId} (hu : Try.prog.underlying t = some .bool) : Opn enc W t Kd.bool (fun _ => True) := by
  intro fuel cs x h
  cases fuel with
  | zero => simp [DataW.trod] at h
  | succ n =>
    unfold DataW.trod at h
    rw [hu] at h
    split at h <;> simp_all
    exact Opn.b2 W _
theorem Opn.rows {α : Type} {d : Kd α} {ok : α → Prop} {a : Addr} {len : Nat} (key : ∀ i, i < len → ∃ y c, d.K W y c ∧ ok y ∧ ∀ j u, c[j]? = some u → W.cell? (a.add (i * d.sz + j)) = some u) :
    ∀ m, m ≤ len → ∃ xs : List α, xs.length = m ∧ (∀ j p, xs[j]? = some p → ∃ c, c.length = d.sz ∧ d.K W p c ∧ ∀ i u, c[i]? = some u → W.cell? (a.add (j * d.sz + i)) = some u) ∧ ∀ y ∈ xs, ok y := by
  intro m
  induction m with
  | zero => intro _; exact ⟨[], rfl, fun j p h => by simp at h, fun y hy => by cases hy⟩
  | succ m ih =>
    intro hm
    obtain ⟨xs, hl, hx, hb⟩ := ih (by omega)
    obtain ⟨y, c, h1, h2, h3⟩ := key m (by omega)
    refine ⟨xs ++ [y], by rw [List.length_append, hl]; rfl, fun j p hj => ?_, fun z hz => ?_⟩
    · rcases Nat.lt_or_ge j xs.length with h | h
      · rw [List.getElem?_append_left h] at hj; exact hx j p hj
      · rw [List.getElem?_append_right h] at hj
        have hj0 : j - xs.length = 0 := by
          rcases Nat.eq_zero_or_pos (j - xs.length) with h' | h'
          · exact h'
          · rw [List.getElem?_eq_none (by simp; omega)] at hj; cases hj
        rw [hj0] at hj
        have hp : y = p := by simpa using hj
        subst hp
        obtain rfl : j = m := by omega
        exact ⟨c, d.K_len h1, h1, h3⟩
    · rcases List.mem_append.1 hz with h | h
      · exact hb z h
      · rw [List.mem_singleton.1 h]; exact h2
theorem Opn.slice {t e : TypeId} {α : Type} {d : Kd α} {ok : α → Prop} (hu : Try.prog.underlying t = some (.slice e)) (hsz : Try.prog.cellsOf e = d.sz) (hd : Opn enc W e d ok) : Opn enc W t (Kd.slice e d) (fun ys => ∀ y ∈ ys, ok y) := by
  intro fuel cs x h
  have hmx : maxLen ≤ 9223372036854775807 := by decide
  rcases DataW.trod_slice hu h with ⟨rfl, _⟩ | ⟨a', len', cap', elems, rest, n, _, rfl, hx, _, hl, hm, hlen, hel, _, _⟩
  · exact ⟨[], ⟨none, 0, rfl, Nat.le_refl _, ⟨rfl, Nat.zero_le _, fun h => absurd h (Nat.lt_irrefl 0)⟩⟩, fun y hy => by cases hy⟩
  · have key : ∀ i, i < len' → ∃ y c, d.K W y c ∧ ok y ∧ ∀ j u, c[j]? = some u → W.cell? (a'.add (i * d.sz + j)) = some u := by
      intro i hi
      have hE := hel i hi
      rw [hsz] at hE
      cases hy : elems[i]? with
      | none => rw [List.getElem?_eq_none_iff] at hy; omega
      | some z =>
        rw [hy] at hE
        simp only [Option.bind_eq_some_iff] at hE
        obtain ⟨c1, hc1, hy1⟩ := hE
        obtain ⟨y, hK, hok⟩ := hd _ _ _ hy1
        obtain ⟨_, hcl, hcc⟩ := World.cells?_some hc1
        refine ⟨y, c1, hK, hok, fun j u hj => ?_⟩
        have hjl : j < d.sz := by
          have := (List.getElem?_eq_some_iff.1 hj).1
          omega
        have := hcc j hjl
        rw [hj] at this
        rw [← add_add]
        exact this
    obtain ⟨xs, h1, h2, h3⟩ := Opn.rows key len' (Nat.le_refl _)
    refine ⟨xs, ⟨some a', cap', by rw [h1], by omega, ⟨rfl, by omega, fun _ => ⟨a', rfl, fun j p hj => h2 j p hj⟩⟩⟩, h3⟩
theorem Opn.u8 {x : Int} (h : (Lit.int .u8 x).wf = true) : 0 ≤ x ∧ x ≤ 255 := by
  simp only [Lit.wf, IntKind.min, IntKind.max, IntKind.signed, IntKind.bits, Bool.and_eq_true, decide_eq_true_eq] at h
  simp at h; omega
theorem Opn.i64 {x : Int} (h : (Lit.int .i64 x).wf = true) : -9223372036854775808 ≤ x ∧ x < 9223372036854775808 := by
  simp only [Lit.wf, IntKind.min, IntKind.max, IntKind.signed, IntKind.bits, Bool.and_eq_true, decide_eq_true_eq] at h
  simp at h; omega
theorem Opn.s64 : Opn enc W 64 k64 (fun x => True) := by
  intro fuel cs x h
  have hu := Try.underlying64
  obtain ⟨xs, m, _, _, hl, hxl, hf⟩ := DataW.trod_struct hu h
  have hc : Try.prog.cellsOf 64 = 2 := by kernel_rfl
  rw [hc] at hl
  have hxk : xs.length = 2 := hxl
  match cs, hl with
  | [v0, v1], _ =>
    match xs, hxk with
    | [y0, y1], _ =>
      have g0 : DataW.trod enc Try.prog W 0 (fun _ => true) true m 9 [v0] = some y0 := hf 0 _ rfl
      obtain ⟨f0, e0, w0⟩ := (Opn.string Try.underlying9) _ _ _ g0
      have g1 : DataW.trod enc Try.prog W 0 (fun _ => true) true m 9 [v1] = some y1 := hf 1 _ rfl
      obtain ⟨f1, e1, w1⟩ := (Opn.string Try.underlying9) _ _ _ g1
      cases e0
      cases e1
      exact ⟨⟨f0, f1⟩, k64_mk W ⟨f0, f1⟩, trivial⟩
theorem Opn.s39 : Opn enc W 39 k39 (fun x => ((0 ≤ x.f0 ∧ x.f0 ≤ 255) ∧ -9223372036854775808 ≤ x.f1 ∧ x.f1 < 9223372036854775808) ∧ x.f2.size ≤ maxLen ∧ x.f3.size ≤ maxLen) := by
  intro fuel cs x h
  have hu := Try.underlying39
  obtain ⟨xs, m, _, _, hl, hxl, hf⟩ := DataW.trod_struct hu h
  have hc : Try.prog.cellsOf 39 = 4 := by kernel_rfl
  rw [hc] at hl
  have hxk : xs.length = 4 := hxl
  match cs, hl with
  | [v0, v1, v2, v3], _ =>
    match xs, hxk with
    | [y0, y1, y2, y3], _ =>
      have g0 : DataW.trod enc Try.prog W 0 (fun _ => true) true m 5 [v0] = some y0 := hf 0 _ rfl
      obtain ⟨f0, e0, w0⟩ := (Opn.int Try.underlying5) _ _ _ g0
      have g1 : DataW.trod enc Try.prog W 0 (fun _ => true) true m 3 [v1] = some y1 := hf 1 _ rfl
      obtain ⟨f1, e1, w1⟩ := (Opn.int Try.underlying3) _ _ _ g1
      have g2 : DataW.trod enc Try.prog W 0 (fun _ => true) true m 9 [v2] = some y2 := hf 2 _ rfl
      obtain ⟨f2, e2, w2⟩ := (Opn.string Try.underlying9) _ _ _ g2
      have g3 : DataW.trod enc Try.prog W 0 (fun _ => true) true m 9 [v3] = some y3 := hf 3 _ rfl
      obtain ⟨f3, e3, w3⟩ := (Opn.string Try.underlying9) _ _ _ g3
      cases e0
      cases e1
      cases e2
      cases e3
      exact ⟨⟨f0, f1, f2, f3⟩, k39_mk W ⟨f0, f1, f2, f3⟩, ⟨Opn.u8 w0, Opn.i64 w1⟩, w2, w3⟩
theorem Opn.s36 : Opn enc W 36 k36 (fun x => True) := by
  intro fuel cs x h
  have hu := Try.underlying36
  obtain ⟨xs, m, _, _, hl, hxl, hf⟩ := DataW.trod_struct hu h
  have hc : Try.prog.cellsOf 36 = 10 := by kernel_rfl
  rw [hc] at hl
  have hxk : xs.length = 10 := hxl
  match cs, hl with
  | [v0, v1, v2, v3, v4, v5, v6, v7, v8, v9], _ =>
    match xs, hxk with
    | [y0, y1, y2, y3, y4, y5, y6, y7, y8, y9], _ =>
      have g0 : DataW.trod enc Try.prog W 0 (fun _ => true) true m 24 [v0] = some y0 := hf 0 _ rfl
      obtain ⟨f0, e0, w0⟩ := (Opn.int Try.underlying24) _ _ _ g0
      have g1 : DataW.trod enc Try.prog W 0 (fun _ => true) true m 24 [v1] = some y1 := hf 1 _ rfl
      obtain ⟨f1, e1, w1⟩ := (Opn.int Try.underlying24) _ _ _ g1
      have g2 : DataW.trod enc Try.prog W 0 (fun _ => true) true m 24 [v2] = some y2 := hf 2 _ rfl
      obtain ⟨f2, e2, w2⟩ := (Opn.int Try.underlying24) _ _ _ g2
      have g3 : DataW.trod enc Try.prog W 0 (fun _ => true) true m 24 [v3] = some y3 := hf 3 _ rfl
      obtain ⟨f3, e3, w3⟩ := (Opn.int Try.underlying24) _ _ _ g3
      have g4 : DataW.trod enc Try.prog W 0 (fun _ => true) true m 9 [v4] = some y4 := hf 4 _ rfl
      obtain ⟨f4, e4, w4⟩ := (Opn.string Try.underlying9) _ _ _ g4
      have g5 : DataW.trod enc Try.prog W 0 (fun _ => true) true m 3 [v5] = some y5 := hf 5 _ rfl
      obtain ⟨f5, e5, w5⟩ := (Opn.int Try.underlying3) _ _ _ g5
      have g6 : DataW.trod enc Try.prog W 0 (fun _ => true) true m 3 [v6] = some y6 := hf 6 _ rfl
      obtain ⟨f6, e6, w6⟩ := (Opn.int Try.underlying3) _ _ _ g6
      have g7 : DataW.trod enc Try.prog W 0 (fun _ => true) true m 4 [v7] = some y7 := hf 7 _ rfl
      obtain ⟨f7, e7, w7⟩ := (Opn.bool Try.underlying4) _ _ _ g7
      have g8 : DataW.trod enc Try.prog W 0 (fun _ => true) true m 34 [v8] = some y8 := hf 8 _ rfl
      obtain ⟨f8, e8, w8⟩ := (Opn.slice Try.underlying34 (by kernel_rfl) Opn.s64) _ _ _ g8
      have g9 : DataW.trod enc Try.prog W 0 (fun _ => true) true m 24 [v9] = some y9 := hf 9 _ rfl
      obtain ⟨f9, e9, w9⟩ := (Opn.int Try.underlying24) _ _ _ g9
      cases e0
      cases e1
      cases e2
      cases e3
      cases e4
      cases e5
      cases e6
      cases e7
      cases e9
      obtain ⟨A8, c8, h8, l8, g8'⟩ := e8
      obtain rfl : v8 = _ := by simpa using h8
      exact ⟨⟨f0, f1, f2, f3, f4, f5, f6, f7, f8, f9⟩, k36_mk W ⟨f0, f1, f2, f3, f4, f5, f6, f7, f8, f9⟩ l8 g8', trivial⟩
theorem Opn.agg4 {v : Value} {a b c d : Value} (h : v.cells.toList = [a, b, c, d]) : v = .agg #[a, b, c, d] := by
  cases v <;> simp [Value.cells] at h
  rename_i cs
  obtain ⟨l⟩ := cs
  simp at h
  subst h
  rfl
theorem open_rule {fuel : Nat} {v : Value} {x : DataW H × List MemPlace} (h : DataW.trod enc Try.prog W 0 (fun _ => true) true fuel 39 v.cells.toList = some x) :
    ∃ r : S39, v = .agg #[.int .u8 r.f0, .int .i64 r.f1, .string r.f2, .string r.f3] ∧ 0 ≤ r.f0 ∧ r.f0 ≤ 255 := by
  obtain ⟨r, hK, hok⟩ := Opn.s39 _ _ _ h
  exact ⟨r, Opn.agg4 (k39_open hK), hok.1.1⟩
theorem open_spans {fuel : Nat} {a : Option Addr} {len cap : Nat} {x : DataW H × List MemPlace} (h : DataW.trod enc Try.prog W 0 (fun _ => true) true fuel 28 [.slice a len cap] = some x) :
    ∃ xs : List S36, xs.length = len ∧ Kd.C k36 W a len xs ∧ len ≤ cap := by
  obtain ⟨xs, ⟨A, c, he, hl, hC⟩, _⟩ := Opn.slice Try.underlying28 (by kernel_rfl) Opn.s36 _ _ _ h
  simp only [List.cons.injEq, Value.slice.injEq, and_true] at he
  obtain ⟨rfl, rfl, rfl⟩ := he
  exact ⟨xs, rfl, hC, hl⟩
theorem open_rules {fuel : Nat} {a : Option Addr} {len cap : Nat} {x : DataW H × List MemPlace} (h : DataW.trod enc Try.prog W 0 (fun _ => true) true fuel 25 [.slice a len cap] = some x) :
    ∃ xs : List (List S39), xs.length = len ∧ Kd.C (Kd.slice 39 k39) W a len xs ∧ len ≤ cap ∧ ∀ row ∈ xs, ∀ r ∈ row, 0 ≤ r.f0 ∧ r.f0 ≤ 255 := by
  obtain ⟨xs, ⟨A, c, he, hl, hC⟩, hok⟩ := Opn.slice Try.underlying25 (by kernel_rfl) (Opn.slice Try.underlying30 (by kernel_rfl) Opn.s39) _ _ _ h
  simp only [List.cons.injEq, Value.slice.injEq, and_true] at he
  obtain ⟨rfl, rfl, rfl⟩ := he
  exact ⟨xs, rfl, hC, hl, fun row hr r hq => (hok row hr r hq).1.1⟩
end
end Go.Proofs.Ytbjoleelfihikaa.Px
