/- What a reading of an argument holds, kind by kind: an item. -/
import Derived.Test.YtfapckmobeppnaaItmG
import Derived.Test.YtfapckmobeppnaaItmO
import Derived.WalkKit
import Derived.ProofKit
import Derived.OpenShut
import Derived.ShutString
import Derived.ChangeOld
import Derived.Below
import Derived.SizedLaws
import Derived.LaidMore
namespace Go.Proofs.Ytfapckmobeppnaa.Px
open Go.ChangeShapes Go.WideShapes Go.ChangeAt Go.RowKit Go.Proofs.YtfapckmobeppnaaW.PrintWords Go.Proofs.YtfapckmobeppnaaW.PrintLast Go.Proofs.YtfapckmobeppnaaW.PrintMore
set_option linter.unusedVariables false
set_option linter.unusedSimpArgs false

/-- No part of it is longer than a memory reaches. -/
def Fits {H : Type} (t : TypeId) (x : DataW H × List MemPlace) : Prop := ∀ n ∈ x.1.weights Try.prog t, n ≤ reachBytes
def Opn {H : Type} (enc : TypeId × Value → H) (W : World) (t : TypeId) {α : Type} (d : Kd α) (ok : α → Prop) : Prop :=
  ∀ fuel cs x, DataW.trod enc Try.prog W 0 (fun _ => true) true fuel t cs = some x → Fits t x → ∃ y, d.K W y cs ∧ ok y
theorem Fits.all {H : Type} {e : TypeId} : ∀ {l : List (DataW H)} {z : DataW H}, z ∈ l → ∀ n ∈ z.weights Try.prog e, n ∈ DataW.weightsAll Try.prog e l
  | d :: r, z, hz, n, hn => by
    simp only [DataW.weightsAll, List.mem_append]
    rcases List.mem_cons.1 hz with rfl | h
    · exact .inl hn
    · exact .inr (Fits.all h n hn)
theorem Fits.field {H : Type} {t : TypeId} {fs : Array Field} {xs : List (DataW H × List MemPlace)} {ps : List MemPlace} (hu : Try.prog.underlying t = some (.struct fs)) (hw : Fits t (DataW.agg (xs.map (·.1)), ps)) (j : Nat) {ft : TypeId} {y : DataW H × List MemPlace} (hy : xs[j]? = some y) (ht : (fs.toList.map (·.type))[j]? = some ft) : Fits ft y := by
  intro n hn
  refine hw n ?_
  simp only [DataW.weights, hu]
  exact DataW.weights_mem_each ht (by simp [hy]) n hn
section
variable {H : Type} {enc : TypeId × Value → H} {W : World}
theorem Opn.int {t : TypeId} {k : IntKind} (hu : Try.prog.underlying t = some (.int k)) : Opn enc W t (Kd.int k) (fun y => (Lit.int k y).wf = true) := by
  intro fuel cs x h hw
  cases fuel with
  | zero => simp [DataW.trod] at h
  | succ n =>
    unfold DataW.trod at h
    rw [hu] at h
    split at h <;> simp_all
    obtain ⟨⟨h1, h2⟩, h3⟩ := h
    exact ⟨_, rfl, h2⟩
theorem Opn.string {t : TypeId} (hu : Try.prog.underlying t = some .string) : Opn enc W t Kd.string (fun y => y.size ≤ reachBytes) := by
  intro fuel cs x h hw
  cases fuel with
  | zero => simp [DataW.trod] at h
  | succ n =>
    unfold DataW.trod at h
    rw [hu] at h
    split at h <;> simp_all
    obtain ⟨h1, rfl⟩ := h
    exact ⟨_, rfl, by simpa [DataW.weights, Fits] using hw⟩
theorem Opn.b2 (W : World) (b : Bool) : Kd.bool.K W false [Value.bool b] ∨ Kd.bool.K W true [Value.bool b] := by
  cases b
  · exact .inl rfl
  · exact .inr rfl
theorem Opn.bool {t : TypeId} (hu : Try.prog.underlying t = some .bool) : Opn enc W t Kd.bool (fun _ => True) := by
  intro fuel cs x h hw
  cases fuel with
  | zero => simp [DataW.trod] at h
  | succ n =>
    unfold DataW.trod at h
    rw [hu] at h
    split at h <;> simp_all
    exact Opn.b2 W _
theorem Opn.rows {α : Type} {d : Kd α} {ok : α → Prop} {a : Addr} {len : Nat} (key : ∀ i, i < len → ∃ y c, d.K W y c ∧ ok y ∧ ∀ j u, c[j]? = some u → W.cell? (a.add (i * d.sz + j)) = some u) :
    ∀ m, m ≤ len → ∃ xs : List α, xs.length = m ∧ (∀ j p, xs[j]? = some p → ∃ c, c.length = d.sz ∧ d.K W p c ∧ ∀ i u, c[i]? = some u → W.cell? (a.add (j * d.sz + i)) = some u) ∧ ∀ y ∈ xs, ok y := by
  intro m
  induction m with
  | zero => intro _; exact ⟨[], rfl, fun j p h => by simp at h, fun y hy => by cases hy⟩
  | succ m ih =>
    intro hm
    obtain ⟨xs, hl, hx, hb⟩ := ih (by omega)
    obtain ⟨y, c, h1, h2, h3⟩ := key m (by omega)
    refine ⟨xs ++ [y], by rw [List.length_append, hl]; rfl, fun j p hj => ?_, fun z hz => ?_⟩
    · rcases Nat.lt_or_ge j xs.length with h | h
      · rw [List.getElem?_append_left h] at hj; exact hx j p hj
      · rw [List.getElem?_append_right h] at hj
        have hj0 : j - xs.length = 0 := by
          rcases Nat.eq_zero_or_pos (j - xs.length) with h' | h'
          · exact h'
          · rw [List.getElem?_eq_none (by simp; omega)] at hj; cases hj
        rw [hj0] at hj
        have hp : y = p := by simpa using hj
        subst hp
        obtain rfl : j = m := by omega
        exact ⟨c, d.K_len h1, h1, h3⟩
    · rcases List.mem_append.1 hz with h | h
      · exact hb z h
      · rw [List.mem_singleton.1 h]; exact h2
theorem Opn.slice {t e : TypeId} {α : Type} {d : Kd α} {ok : α → Prop} (hu : Try.prog.underlying t = some (.slice e)) (hsz : Try.prog.cellsOf e = d.sz) (hd : Opn enc W e d ok) : Opn enc W t (Kd.slice e d) (fun ys => ∀ y ∈ ys, ok y) := by
  intro fuel cs x h hw
  have hmx : maxLen ≤ 9223372036854775807 := by decide
  rcases DataW.trod_slice hu h with ⟨rfl, _⟩ | ⟨a', len', cap', elems, rest, n, _, rfl, hx, _, hl, hm, hlen, hel, _, _⟩
  · exact ⟨[], ⟨none, 0, rfl, Nat.le_refl _, ⟨rfl, Nat.zero_le _, fun h => absurd h (Nat.lt_irrefl 0)⟩⟩, fun y hy => by cases hy⟩
  · have key : ∀ i, i < len' → ∃ y c, d.K W y c ∧ ok y ∧ ∀ j u, c[j]? = some u → W.cell? (a'.add (i * d.sz + j)) = some u := by
      intro i hi
      have hE := hel i hi
      rw [hsz] at hE
      cases hy : elems[i]? with
      | none => rw [List.getElem?_eq_none_iff] at hy; omega
      | some z =>
        rw [hy] at hE
        simp only [Option.bind_eq_some_iff] at hE
        obtain ⟨c1, hc1, hy1⟩ := hE
        have hz : Fits e z := by
          subst hx
          intro q hq
          refine hw q ?_
          simp only [DataW.weights, hu, List.mem_cons, List.mem_append]
          exact .inr (.inl (Fits.all (List.mem_map.2 ⟨z, List.mem_of_getElem? hy, rfl⟩) q hq))
        obtain ⟨y, hK, hok⟩ := hd _ _ _ hy1 hz
        obtain ⟨_, hcl, hcc⟩ := World.cells?_some hc1
        refine ⟨y, c1, hK, hok, fun j u hj => ?_⟩
        have hjl : j < d.sz := by
          have := (List.getElem?_eq_some_iff.1 hj).1
          omega
        have := hcc j hjl
        rw [hj] at this
        rw [← add_add]
        exact this
    obtain ⟨xs, h1, h2, h3⟩ := Opn.rows key len' (Nat.le_refl _)
    refine ⟨xs, ⟨some a', cap', by rw [h1], by omega, ⟨rfl, by omega, fun _ => ⟨a', rfl, fun j p hj => h2 j p hj⟩⟩⟩, h3⟩
theorem Opn.u8 {x : Int} (h : (Lit.int .u8 x).wf = true) : 0 ≤ x ∧ x ≤ 255 := by
  simp only [Lit.wf, IntKind.min, IntKind.max, IntKind.signed, IntKind.bits, Bool.and_eq_true, decide_eq_true_eq] at h
  simp at h; omega
theorem Opn.i64 {x : Int} (h : (Lit.int .i64 x).wf = true) : -9223372036854775808 ≤ x ∧ x < 9223372036854775808 := by
  simp only [Lit.wf, IntKind.min, IntKind.max, IntKind.signed, IntKind.bits, Bool.and_eq_true, decide_eq_true_eq] at h
  simp at h; omega

theorem Opn.u64 {x : Int} (h : (Lit.int .u64 x).wf = true) : 0 ≤ x ∧ x < 18446744073709551616 := by
  simp only [Lit.wf, IntKind.min, IntKind.max, IntKind.signed, IntKind.bits, Bool.and_eq_true, decide_eq_true_eq] at h
  simp at h; omega
set_option maxRecDepth 100000 in
theorem Opn.attr : Opn enc W 36 k36 (fun x => x.f0.size ≤ reachBytes) := by
  intro fuel cs x h hw
  have hc : Try.prog.cellsOf 36 = 2 := by kernel_rfl
  obtain ⟨_, _, _, _, hl, _, _⟩ := DataW.trod_struct Try.underlying36 h
  rw [hc] at hl
  match cs, hl with
  | [v0, v1], _ =>
    have hu := Try.underlying36
    obtain ⟨xs, m, _, rfl, hl, hxl, hf⟩ := DataW.trod_struct hu h
    have hxk : xs.length = 2 := hxl
    match xs, hxk with
    | [y0, y1], _ =>
      have g0 : DataW.trod enc Try.prog W 0 (fun _ => true) true m 9 [v0] = some y0 := hf 0 _ rfl
      obtain ⟨f0, e0, w0⟩ := (Opn.string Try.underlying9) _ _ _ g0 (Fits.field hu hw 0 rfl rfl)
      have g1 : DataW.trod enc Try.prog W 0 (fun _ => true) true m 9 [v1] = some y1 := hf 1 _ rfl
      obtain ⟨f1, e1, w1⟩ := (Opn.string Try.underlying9) _ _ _ g1 (Fits.field hu hw 1 rfl rfl)
      cases e0
      cases e1
      exact ⟨⟨f0, f1⟩, ⟨[.string f0], [.string f1], rfl, rfl, rfl⟩, w0⟩
set_option maxRecDepth 100000 in
theorem Opn.span {fuel : Nat} {v0 v1 v2 v3 v4 v5 v6 v7 v8 v9 : Value} {x : DataW H × List MemPlace} (h : DataW.trod enc Try.prog W 0 (fun _ => true) true fuel 26 [v0, v1, v2, v3, v4, v5, v6, v7, v8, v9] = some x) (hw : Fits 26 x) :
    ∃ (hi lo id par : Int) (nm : ByteArray) (st en : Int) (bad : Bool) (ats : List S36) (rv : Int) (A : Option Addr) (c : Nat), [v0, v1, v2, v3, v4, v5, v6, v7, v8, v9] = [.int .u64 hi, .int .u64 lo, .int .u64 id, .int .u64 par, .string nm, .int .i64 st, .int .i64 en, .bool bad, .slice A ats.length c, .int .u64 rv] ∧ Kd.C k36 W A ats.length ats ∧ ats.length ≤ c ∧ (0 ≤ hi ∧ hi < 18446744073709551616) ∧ (0 ≤ lo ∧ lo < 18446744073709551616) ∧ (0 ≤ id ∧ id < 18446744073709551616) ∧ (0 ≤ par ∧ par < 18446744073709551616) ∧ (0 ≤ rv ∧ rv < 18446744073709551616) ∧ nm.size ≤ reachBytes ∧ ∀ a ∈ ats, a.f0.size ≤ reachBytes := by
  have hu := Try.underlying26
  obtain ⟨xs, m, _, rfl, hl, hxl, hf⟩ := DataW.trod_struct hu h
  have hxk : xs.length = 10 := hxl
  match xs, hxk with
  | [y0, y1, y2, y3, y4, y5, y6, y7, y8, y9], _ =>
    have g0 : DataW.trod enc Try.prog W 0 (fun _ => true) true m 23 [v0] = some y0 := hf 0 _ rfl
    obtain ⟨f0, e0, w0⟩ := (Opn.int Try.underlying23) _ _ _ g0 (Fits.field hu hw 0 rfl rfl)
    have g1 : DataW.trod enc Try.prog W 0 (fun _ => true) true m 23 [v1] = some y1 := hf 1 _ rfl
    obtain ⟨f1, e1, w1⟩ := (Opn.int Try.underlying23) _ _ _ g1 (Fits.field hu hw 1 rfl rfl)
    have g2 : DataW.trod enc Try.prog W 0 (fun _ => true) true m 23 [v2] = some y2 := hf 2 _ rfl
    obtain ⟨f2, e2, w2⟩ := (Opn.int Try.underlying23) _ _ _ g2 (Fits.field hu hw 2 rfl rfl)
    have g3 : DataW.trod enc Try.prog W 0 (fun _ => true) true m 23 [v3] = some y3 := hf 3 _ rfl
    obtain ⟨f3, e3, w3⟩ := (Opn.int Try.underlying23) _ _ _ g3 (Fits.field hu hw 3 rfl rfl)
    have g4 : DataW.trod enc Try.prog W 0 (fun _ => true) true m 9 [v4] = some y4 := hf 4 _ rfl
    obtain ⟨f4, e4, w4⟩ := (Opn.string Try.underlying9) _ _ _ g4 (Fits.field hu hw 4 rfl rfl)
    have g5 : DataW.trod enc Try.prog W 0 (fun _ => true) true m 3 [v5] = some y5 := hf 5 _ rfl
    obtain ⟨f5, e5, w5⟩ := (Opn.int Try.underlying3) _ _ _ g5 (Fits.field hu hw 5 rfl rfl)
    have g6 : DataW.trod enc Try.prog W 0 (fun _ => true) true m 3 [v6] = some y6 := hf 6 _ rfl
    obtain ⟨f6, e6, w6⟩ := (Opn.int Try.underlying3) _ _ _ g6 (Fits.field hu hw 6 rfl rfl)
    have g7 : DataW.trod enc Try.prog W 0 (fun _ => true) true m 4 [v7] = some y7 := hf 7 _ rfl
    obtain ⟨f7, e7, w7⟩ := (Opn.bool Try.underlying4) _ _ _ g7 (Fits.field hu hw 7 rfl rfl)
    have g8 : DataW.trod enc Try.prog W 0 (fun _ => true) true m 24 [v8] = some y8 := hf 8 _ rfl
    obtain ⟨f8, e8, w8⟩ := (Opn.slice Try.underlying24 (by kernel_rfl) Opn.attr) _ _ _ g8 (Fits.field hu hw 8 rfl rfl)
    have g9 : DataW.trod enc Try.prog W 0 (fun _ => true) true m 23 [v9] = some y9 := hf 9 _ rfl
    obtain ⟨f9, e9, w9⟩ := (Opn.int Try.underlying23) _ _ _ g9 (Fits.field hu hw 9 rfl rfl)
    cases e0
    cases e1
    cases e2
    cases e3
    cases e4
    cases e5
    cases e6
    cases e7
    cases e9
    obtain ⟨A8, c8, h8, l8, g8'⟩ := e8
    obtain rfl : v8 = _ := by simpa using h8
    exact ⟨f0, f1, f2, f3, f4, f5, f6, f7, f8, f9, A8, c8, rfl, g8', l8, Opn.u64 w0, Opn.u64 w1, Opn.u64 w2, Opn.u64 w3, Opn.u64 w9, w4, w8⟩
set_option maxRecDepth 100000 in
theorem Opn.log {fuel : Nat} {v0 v1 v2 v3 : Value} {x : DataW H × List MemPlace} (h : DataW.trod enc Try.prog W 0 (fun _ => true) true fuel 29 [v0, v1, v2, v3] = some x) (hw : Fits 29 x) :
    ∃ (k : ByteArray) (wt t : Int) (b : ByteArray), [v0, v1, v2, v3] = [.string k, .int .u64 wt, .int .i64 t, .string b] ∧ (0 ≤ wt ∧ wt < 18446744073709551616) ∧ k.size ≤ reachBytes := by
  have hu := Try.underlying29
  obtain ⟨xs, m, _, rfl, hl, hxl, hf⟩ := DataW.trod_struct hu h
  have hxk : xs.length = 4 := hxl
  match xs, hxk with
  | [y0, y1, y2, y3], _ =>
    have g0 : DataW.trod enc Try.prog W 0 (fun _ => true) true m 9 [v0] = some y0 := hf 0 _ rfl
    obtain ⟨f0, e0, w0⟩ := (Opn.string Try.underlying9) _ _ _ g0 (Fits.field hu hw 0 rfl rfl)
    have g1 : DataW.trod enc Try.prog W 0 (fun _ => true) true m 23 [v1] = some y1 := hf 1 _ rfl
    obtain ⟨f1, e1, w1⟩ := (Opn.int Try.underlying23) _ _ _ g1 (Fits.field hu hw 1 rfl rfl)
    have g2 : DataW.trod enc Try.prog W 0 (fun _ => true) true m 3 [v2] = some y2 := hf 2 _ rfl
    obtain ⟨f2, e2, w2⟩ := (Opn.int Try.underlying3) _ _ _ g2 (Fits.field hu hw 2 rfl rfl)
    have g3 : DataW.trod enc Try.prog W 0 (fun _ => true) true m 9 [v3] = some y3 := hf 3 _ rfl
    obtain ⟨f3, e3, w3⟩ := (Opn.string Try.underlying9) _ _ _ g3 (Fits.field hu hw 3 rfl rfl)
    cases e0
    cases e1
    cases e2
    cases e3
    exact ⟨f0, f1, f2, f3, rfl, Opn.u64 w1, w0⟩
theorem Opn.agg15 {v v0 v1 v2 v3 v4 v5 v6 v7 v8 v9 v10 v11 v12 v13 v14 : Value} (h : v.cells.toList = [v0, v1, v2, v3, v4, v5, v6, v7, v8, v9, v10, v11, v12, v13, v14]) : v = .agg #[v0, v1, v2, v3, v4, v5, v6, v7, v8, v9, v10, v11, v12, v13, v14] := by
  cases v <;> simp [Value.cells] at h
  rename_i cs
  obtain ⟨l⟩ := cs
  simp at h
  subst h
  rfl
set_option maxRecDepth 100000 in
theorem open_item {fuel : Nat} {v : Value} {x : DataW H × List MemPlace} (h : DataW.trod enc Try.prog W 0 (fun _ => true) true fuel 38 v.cells.toList = some x) (hw : Fits 38 x) :
    ∃ (y : Itm.It) (A : Option Addr) (c : Nat), v = .agg #[.int .u8 y.kd, .int .u64 y.hi, .int .u64 y.lo, .int .u64 y.id, .int .u64 y.par, .string y.nm, .int .i64 y.st, .int .i64 y.en, .bool y.bad, .slice A y.ats.length c, .int .u64 y.rv, .string y.k, .int .u64 y.wt, .int .i64 y.t, .string y.b] ∧ Kd.C k36 W A y.ats.length y.ats ∧ y.ats.length ≤ c ∧ Itm.enG y.hi y.lo y.id y.par y.nm y.ats y.rv y.k y.wt = true := by
  generalize hcs : v.cells.toList = cs at h
  have hc : Try.prog.cellsOf 38 = 15 := by kernel_rfl
  have hu := Try.underlying38
  obtain ⟨xs, m, _, rfl, hl, hxl, hf⟩ := DataW.trod_struct hu h
  rw [hc] at hl
  have hxk : xs.length = 3 := hxl
  match cs, hl with
  | [v0, v1, v2, v3, v4, v5, v6, v7, v8, v9, v10, v11, v12, v13, v14], _ =>
    match xs, hxk with
    | [y0, y1, y2], _ =>
      have g0 : DataW.trod enc Try.prog W 0 (fun _ => true) true m 5 [v0] = some y0 := hf 0 _ rfl
      obtain ⟨kd, e0, _⟩ := (Opn.int Try.underlying5) _ _ _ g0 (Fits.field hu hw 0 rfl rfl)
      have g1 : DataW.trod enc Try.prog W 0 (fun _ => true) true m 26 [v1, v2, v3, v4, v5, v6, v7, v8, v9, v10] = some y1 := hf 1 _ rfl
      obtain ⟨hi, lo, id, par, nm, st, en, bad, ats, rv, A, c, e1, hC, hcl, r1, r2, r3, r4, r5, r7, r9⟩ := Opn.span g1 (Fits.field hu hw 1 rfl rfl)
      have g2 : DataW.trod enc Try.prog W 0 (fun _ => true) true m 29 [v11, v12, v13, v14] = some y2 := hf 2 _ rfl
      obtain ⟨k, wt, t, b, e2, r6, r8⟩ := Opn.log g2 (Fits.field hu hw 2 rfl rfl)
      cases e0
      cases e1
      cases e2
      refine ⟨⟨kd, hi, lo, id, par, nm, st, en, bad, ats, rv, k, wt, t, b⟩, A, c, Opn.agg15 hcs, hC, hcl, ?_⟩
      have hmx : reachBytes ≤ 140737488355328 := by decide
      unfold Itm.enG
      simp only [Bool.and_eq_true, Itm.u64B_iff, Itm.bigB_iff, List.all_eq_true]
      exact ⟨r1, r2, r3, r4, r5, r6, Nat.le_trans r7 hmx, Nat.le_trans r8 hmx, fun a ha => Nat.le_trans (r9 a ha) hmx⟩
end
end Go.Proofs.Ytfapckmobeppnaa.Px
