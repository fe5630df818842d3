/- A parameter of kind []Deed: what a reading of it holds. -/
import Derived.Test.YtiheghnojmfmfaaGthW
import Derived.WalkKit
import Derived.ProofKit
import Derived.OpenShut
import Derived.ShutString
import Derived.ChangeOld
import Derived.Below
import Derived.SizedLaws
import Derived.LaidMore
namespace Go.Proofs.Ytiheghnojmfmfaa.Px
open Go.ChangeShapes Go.WideShapes Go.ChangeAt Go.RowKit Go.Proofs.YtiheghnojmfmfaaW.PrintWords Go.Proofs.YtiheghnojmfmfaaW.PrintLast Go.Proofs.YtiheghnojmfmfaaW.PrintMore
set_option linter.unusedVariables false
set_option linter.unusedSimpArgs false

theorem Gth.u16_wfD {x : Int} (h : (Lit.int .u16 x).wf = true) : 0 ≤ x ∧ x < 65536 := by
  simp only [Lit.wf, IntKind.min, IntKind.max, IntKind.signed, IntKind.bits, Bool.and_eq_true, decide_eq_true_eq] at h
  simp at h; omega
def Opn {H : Type} (enc : TypeId × Value → H) (W : World) (t : TypeId) {α : Type} (d : Kd α) (ok : α → Prop) : Prop :=
  ∀ fuel cs x, DataW.trod enc Try.prog W 0 (fun _ => true) true fuel t cs = some x → ∃ y, d.K W y cs ∧ ok y
section
variable {H : Type} {enc : TypeId × Value → H} {W : World}
theorem Opn.int {t : TypeId} {k : IntKind} (hu : Try.prog.underlying t = some (.int k)) : Opn enc W t (Kd.int k) (fun y => (Lit.int k y).wf = true) := by
  intro fuel cs x h
  cases fuel with
  | zero => simp [DataW.trod] at h
  | succ n =>
    unfold DataW.trod at h
    rw [hu] at h
    split at h <;> simp_all
    obtain ⟨⟨h1, h2⟩, h3⟩ := h
    exact ⟨_, rfl, h2⟩
theorem Opn.rows {α : Type} {d : Kd α} {ok : α → Prop} {a : Addr} {len : Nat} (key : ∀ i, i < len → ∃ y c, d.K W y c ∧ ok y ∧ ∀ j u, c[j]? = some u → W.cell? (a.add (i * d.sz + j)) = some u) :
    ∀ m, m ≤ len → ∃ xs : List α, xs.length = m ∧ (∀ j p, xs[j]? = some p → ∃ c, c.length = d.sz ∧ d.K W p c ∧ ∀ i u, c[i]? = some u → W.cell? (a.add (j * d.sz + i)) = some u) ∧ ∀ y ∈ xs, ok y := by
  intro m
  induction m with
  | zero => intro _; exact ⟨[], rfl, fun j p h => by simp at h, fun y hy => by cases hy⟩
  | succ m ih =>
    intro hm
    obtain ⟨xs, hl, hx, hb⟩ := ih (by omega)
    obtain ⟨y, c, h1, h2, h3⟩ := key m (by omega)
    refine ⟨xs ++ [y], by rw [List.length_append, hl]; rfl, fun j p hj => ?_, fun z hz => ?_⟩
    · rcases Nat.lt_or_ge j xs.length with h | h
      · rw [List.getElem?_append_left h] at hj; exact hx j p hj
      · rw [List.getElem?_append_right h] at hj
        have hj0 : j - xs.length = 0 := by
          rcases Nat.eq_zero_or_pos (j - xs.length) with h' | h'
          · exact h'
          · rw [List.getElem?_eq_none (by simp; omega)] at hj; cases hj
        rw [hj0] at hj
        have hp : y = p := by simpa using hj
        subst hp
        obtain rfl : j = m := by omega
        exact ⟨c, d.K_len h1, h1, h3⟩
    · rcases List.mem_append.1 hz with h | h
      · exact hb z h
      · rw [List.mem_singleton.1 h]; exact h2
theorem Opn.slice {t e : TypeId} {α : Type} {d : Kd α} {ok : α → Prop} (hu : Try.prog.underlying t = some (.slice e)) (hsz : Try.prog.cellsOf e = d.sz) (hd : Opn enc W e d ok) : Opn enc W t (Kd.slice e d) (fun ys => ∀ y ∈ ys, ok y) := by
  intro fuel cs x h
  have hmx : maxLen ≤ 9223372036854775807 := by decide
  rcases DataW.trod_slice hu h with ⟨rfl, _⟩ | ⟨a', len', cap', elems, rest, n, _, rfl, hx, _, hl, hm, hlen, hel, _, _⟩
  · exact ⟨[], ⟨none, 0, rfl, Nat.le_refl _, ⟨rfl, Nat.zero_le _, fun h => absurd h (Nat.lt_irrefl 0)⟩⟩, fun y hy => by cases hy⟩
  · have key : ∀ i, i < len' → ∃ y c, d.K W y c ∧ ok y ∧ ∀ j u, c[j]? = some u → W.cell? (a'.add (i * d.sz + j)) = some u := by
      intro i hi
      have hE := hel i hi
      rw [hsz] at hE
      cases hy : elems[i]? with
      | none => rw [List.getElem?_eq_none_iff] at hy; omega
      | some z =>
        rw [hy] at hE
        simp only [Option.bind_eq_some_iff] at hE
        obtain ⟨c1, hc1, hy1⟩ := hE
        obtain ⟨y, hK, hok⟩ := hd _ _ _ hy1
        obtain ⟨_, hcl, hcc⟩ := World.cells?_some hc1
        refine ⟨y, c1, hK, hok, fun j u hj => ?_⟩
        have hjl : j < d.sz := by
          have := (List.getElem?_eq_some_iff.1 hj).1
          omega
        have := hcc j hjl
        rw [hj] at this
        rw [← add_add]
        exact this
    obtain ⟨xs, h1, h2, h3⟩ := Opn.rows key len' (Nat.le_refl _)
    refine ⟨xs, ⟨some a', cap', by rw [h1], by omega, ⟨rfl, by omega, fun _ => ⟨a', rfl, fun j p hj => h2 j p hj⟩⟩⟩, h3⟩
set_option maxRecDepth 100000 in
theorem Opn.deed : Opn enc W 42 Gth.kD (fun x => Gth.okD x) := by
  intro fuel cs x h
  have hu := Try.underlying42
  obtain ⟨xs, m, _, _, hl, hxl, hf⟩ := DataW.trod_struct hu h
  have hc : Try.prog.cellsOf 42 = 4 := by kernel_rfl
  rw [hc] at hl
  have hxk : xs.length = 4 := hxl
  match cs, hl with
  | [v0, v1, v2, v3], _ =>
    match xs, hxk with
    | [y0, y1, y2, y3], _ =>
      have g0 : DataW.trod enc Try.prog W 0 (fun _ => true) true m 5 [v0] = some y0 := hf 0 _ rfl
      obtain ⟨f0, e0, w0⟩ := (Opn.int Try.underlying5) _ _ _ g0
      have g1 : DataW.trod enc Try.prog W 0 (fun _ => true) true m 5 [v1] = some y1 := hf 1 _ rfl
      obtain ⟨f1, e1, w1⟩ := (Opn.int Try.underlying5) _ _ _ g1
      have g2 : DataW.trod enc Try.prog W 0 (fun _ => true) true m 5 [v2] = some y2 := hf 2 _ rfl
      obtain ⟨f2, e2, w2⟩ := (Opn.int Try.underlying5) _ _ _ g2
      have g3 : DataW.trod enc Try.prog W 0 (fun _ => true) true m 24 [v3] = some y3 := hf 3 _ rfl
      obtain ⟨f3, e3, w3⟩ := (Opn.int Try.underlying24) _ _ _ g3
      cases e0
      cases e1
      cases e2
      cases e3
      have h3 := Gth.u16_wfD w3
      exact ⟨(f0, f1, f2, f3), ⟨[_], [_, _, _], rfl, rfl, [_], [_, _], rfl, rfl, [_], [_], rfl, rfl, rfl⟩, u8_wf w2, h3.1, (show f3 ≤ 65535 by omega)⟩
set_option maxRecDepth 100000 in
theorem open_deeds {fuel : Nat} {a : Option Addr} {len cap : Nat} {x : DataW H × List MemPlace} (h : DataW.trod enc Try.prog W 0 (fun _ => true) true fuel 39 [.slice a len cap] = some x) :
    ∃ xs : List Gth.Deed, xs.length = len ∧ Kd.C Gth.kD W a len xs ∧ len ≤ cap ∧ ∀ x ∈ xs, Gth.okD x := by
  have hcell : Try.prog.cellsOf 42 = 4 := by kernel_rfl
  obtain ⟨xs, ⟨A, c, he, hl, hC⟩, hok⟩ := Opn.slice Try.underlying39 (show Try.prog.cellsOf 42 = Gth.kD.sz from hcell) Opn.deed _ _ _ h
  simp only [List.cons.injEq, Value.slice.injEq, and_true] at he
  obtain ⟨rfl, rfl, rfl⟩ := he
  exact ⟨xs, rfl, hC, hl, hok⟩
end
end Go.Proofs.Ytiheghnojmfmfaa.Px
