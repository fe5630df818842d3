/- Gather's fits$1. -/
import Derived.Test.YtiheghnojmfmfaaGthM
namespace Go.Proofs.Ytiheghnojmfmfaa.Px
open Go.RowKit Go.Proofs.YtiheghnojmfmfaaW.PrintWords Go.Proofs.YtiheghnojmfmfaaW.PrintLast Go.Proofs.YtiheghnojmfmfaaW.PrintMore
set_option linter.unusedVariables false
set_option linter.unusedSimpArgs false

/-- The entries that the laws put in. -/
def Gth.small (L : List S73) : Prop := L.length ≤ 110 ∧ ∀ e ∈ L, e.f1.length ≤ 20
theorem Gth.size_eq (f0 : Int) (l : List Int) (h : l.length ≤ 20) : gather_entry_size.f f0 l = some (1 + (l.length : Int)) := by
  unfold gather_entry_size.f
  have e1 : IntKind.u64.wrap ((l.length : Nat) : Int) = (l.length : Int) := by rw [wrap_u64]; omega
  rw [e1, put_eq (by omega) (by omega), Option.bind_some]
  rw [putL_small (by omega)]
  simp only [List.length_singleton]
  congr 1; unfold wrap64; omega
theorem Gth.i64w (x : Int) : IntKind.i64.wrap x = wrap64 x := by
  unfold wrap64 IntKind.wrap; simp [IntKind.bits, IntKind.signed]; split <;> omega
theorem Gth.put_one {i : Int} (h0 : 0 ≤ i) (h : i < 110) : num_Put.f (IntKind.u64.wrap (IntKind.i64.wrap (i + 1))) = some [i + 1] := by
  have e1 : IntKind.i64.wrap (i + 1) = i + 1 := by rw [Gth.i64w]; unfold wrap64; omega
  have e2 : IntKind.u64.wrap (i + 1) = i + 1 := by rw [wrap_u64]; omega
  rw [e1, e2, put_eq (by omega) (by omega), putL_small (by omega)]
  congr 2; omega
theorem Gth.rd_small {L : List S73} (h : Gth.small L) (i : Int) (h0 : 0 ≤ i) (hi : i < L.length) : (rd_T73 L i).f1.length ≤ 20 := by
  unfold rd_T73
  rw [List.getD_eq_getElem?_getD, List.getElem?_eq_getElem (by omega), Option.getD_some]
  exact h.2 _ (List.getElem_mem _)
set_option maxHeartbeats 4000000 in
theorem Gth.full_calls (w0 w : World) (ok : Nat → Prop) (g lb gb : Nat) (i x : Int) (L : List S73) (items age now : Int) (h : Gth.F w ok g L items age now)
    (h0 : 0 ≤ i) (hi : i < L.length) (hs : Gth.small L) (hx : 0 ≤ x) (hx2 : x ≤ 21 * i)
    (hl : w.heap[lb]? = some (.cells #[.int .i64 x] 3 (0, 0))) (hg : w.heap[gb]? = some (.cells #[.pointer (some ⟨g, 0, none⟩)] 29 (0, 0)))
    (HB : Below w0.heap.size w0 w) (hlb : w0.heap.size ≤ lb) :
    Calls Try.prog 51 #[.int .i64 i, .pointer (some ⟨lb, 0, none⟩), .pointer (some ⟨gb, 0, none⟩)] w fun e w' => e = .returned (.bool false) ∧ ∃ y : Int, 0 ≤ y ∧ y ≤ 21 * (i + 1) ∧ w'.heap[lb]? = some (.cells #[.int .i64 y] 3 (0, 0)) ∧ Kept w w' (fun k => k = lb) ∧ Below w0.heap.size w0 w' := by
  obtain ⟨A, c, hh, hc, ho, hf⟩ := h
  obtain ⟨ad, A1, c1, rfl, g1, g2, hc1, hC⟩ := at_T73 (Kd.F_now hf) i h0 hi
  have h20 := Gth.rd_small hs i h0 hi
  have hL := hs.1
  generalize rd_T73 L i = R at g1 g2 hc1 hC h20
  obtain ⟨f0, l⟩ := R
  dsimp only at g1 g2 hc1 hC h20
  have x0 : w.cell? ⟨lb, 0, none⟩ = some (.int .i64 x) := blk_cell hl 0
  have xf := blk_frozen hl 0
  have x1 : w.cell? ⟨gb, 0, none⟩ = some (.pointer (some ⟨g, 0, none⟩)) := blk_cell hg 0
  have x2 : w.cell? ⟨g, 0, none⟩ = some (.slice (some ad) L.length c) := blk_cell hh 0
  have hiN : (i.toNat : Int) = i := Int.toNat_of_nonneg h0
  clear hf hs
  go_enter Try.func51, Try.ntmps51
  go_wp2_with (fail)
  go_region_with (
    go_at_call 52
    refine (gather_entry_size.calls f0 A1 c1 l (1 + l.length) _ (Kd.C_below hC (below_drew (Below.refl _ w))) hc1 (Gth.size_eq f0 l h20)).mono ?_
    rintro e w9 ⟨rfl, hb9⟩
    have hl9 := blk_below (blk_drew hl) hb9
    have y0 : w9.cell? ⟨lb, 0, none⟩ = some (.int .i64 x) := blk_cell hl9 0
    have yf := blk_frozen hl9 0)
  all_goals (
    have hB9 := below_step (below_drew HB) hb9
    have hK9 : Kept w w9 (fun k => k = lb) := Kept.of_below (below_then (below_drew (Below.refl w.heap.size w)) (Nat.le_refl _) hb9) _
    have hy : IntKind.i64.wrap (x + (1 + (l.length : Int))) = x + (1 + (l.length : Int)) := by rw [Gth.i64w]; unfold wrap64; omega
    rw [hy]
    have hl10 := blk_set hl9 0 (.int .i64 (x + (1 + (l.length : Int))))
    have hB10 := below_set (j := 0) (v := .int .i64 (x + (1 + (l.length : Int)))) hB9 hlb
    have hK10 := hK9.setCell (p := ⟨lb, 0, none⟩) (Or.inl rfl) (.int .i64 (x + (1 + (l.length : Int))))
    generalize w9.setCell ⟨lb, 0, none⟩ (.int .i64 (x + (1 + (l.length : Int)))) = w10 at hl10 hB10 hK10 ⊢
    have hlast : decide (IntKind.i64.wrap (1 + (x + (1 + (l.length : Int)))) > 3800) = false := decide_eq_false (by rw [Gth.i64w]; unfold wrap64; omega)
    have z0 : w10.cell? ⟨lb, 0, none⟩ = some (.int .i64 (x + (1 + (l.length : Int)))) := blk_cell hl10 0
    clear hl hg hh hC x0 x1 x2 xf g1 g2 hl9 y0 yf hb9 hB9 hK9)
  all_goals (
    go_wp2_with (fail))
  all_goals (
    go_region_with (
      go_at_call 37
      refine (num_Put.calls _ [i + 1] _ (Gth.put_one h0 (by omega))).mono ?_
      rintro e w11 ⟨v, rfl, hR, hb11⟩
      obtain ⟨A2, c2, rfl⟩ := Kd.N_slice (Kd.R_N hR)
      have hl11 := blk_below (blk_drew hl10) hb11
      have z1 : w11.cell? ⟨lb, 0, none⟩ = some (.int .i64 (x + (1 + (l.length : Int)))) := blk_cell hl11 0))
  all_goals (
    go_wp2
    go_ret
    refine ⟨rfl, x + (1 + (l.length : Int)), by omega, by omega, ?_, ?_, ?_⟩
    · exact hl11
    · exact hK10.below (below_then (below_drew (Below.refl w10.heap.size w10)) (Nat.le_refl _) hb11)
    · exact below_step (below_drew hB10) hb11)
end Go.Proofs.Ytiheghnojmfmfaa.Px
