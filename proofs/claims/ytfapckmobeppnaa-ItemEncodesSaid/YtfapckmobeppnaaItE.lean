/- The law ItemEncodes' walk, by hand. -/
import Derived.Test.YtfapckmobeppnaaPx28
import Derived.Test.YtfapckmobeppnaaPx4
import Derived.Test.YtfapckmobeppnaaTel
import Derived.Test.YtfapckmobeppnaaItmT
import Derived.Test.YtfapckmobeppnaaItmZ
namespace Go.Proofs.Ytfapckmobeppnaa.Px
open Go.RowKit Go.Proofs.YtfapckmobeppnaaW.PrintWords Go.Proofs.YtfapckmobeppnaaW.PrintLast Go.Proofs.YtfapckmobeppnaaW.PrintMore
set_option linter.unusedVariables false
set_option linter.unusedSimpArgs false

def ItE.cs (y : Itm.It) (A : Option Addr) (c : Nat) : Array Value := #[.int .u8 y.kd, .int .u64 y.hi, .int .u64 y.lo, .int .u64 y.id, .int .u64 y.par, .string y.nm, .int .i64 y.st, .int .i64 y.en, .bool y.bad, .slice A y.ats.length c, .int .u64 y.rv, .string y.k, .int .u64 y.wt, .int .i64 y.t, .string y.b]
/-- What holds where the switch's arms meet. -/
def ItE.Rel (w : World) (gx gy : Nat) (X : Array Value) (W : World) : Prop :=
  ∃ (y : Itm.It) (A : Option Addr) (c : Nat), W.heap[gy]? = some (.cells (ItE.cs y A c) 38 (0, 0)) ∧ Kd.R k36 36 W w.heap.size (fun _ => True) (.slice A y.ats.length c) y.ats ∧ Itm.enG y.hi y.lo y.id y.par y.nm y.ats y.rv y.k y.wt = true ∧ y.ats.length ≤ 100 ∧ W.heap[gx]? = some (.cells X 38 (0, 0)) ∧ Below w.heap.size w W
theorem ItE.ne : ∀ q, q ∈ 36 :: k36.E → q ≠ 38 := by
  intro q hq
  have : q = 36 := by simpa [k36, Kd.iso, Kd.pair, Kd.string, Kd.scalar] using hq
  omega
theorem ItE.rng (n : Int) : 0 ≤ IntKind.u64.wrap n ∧ IntKind.u64.wrap n < 18446744073709551616 := by rw [wrap_u64]; omega
/-- A field other than the attributes is written. -/
theorem ItE.set {w W : World} {gx gy : Nat} {X : Array Value} {y : Itm.It} {A : Option Addr} {c : Nat} (hY : W.heap[gy]? = some (.cells (ItE.cs y A c) 38 (0, 0))) (hR : Kd.R k36 36 W w.heap.size (fun _ => True) (.slice A y.ats.length c) y.ats) (hX : W.heap[gx]? = some (.cells X 38 (0, 0))) (HB : Below w.heap.size w W) (hn : gx ≠ gy) (hg : w.heap.size ≤ gy) (j : Nat) (u : Value) (y' : Itm.It) (e : (ItE.cs y A c).setIfInBounds j u = ItE.cs y' A c) (ea : y'.ats = y.ats) (hE : Itm.enG y'.hi y'.lo y'.id y'.par y'.nm y'.ats y'.rv y'.k y'.wt = true) (hl : y.ats.length ≤ 100) : ItE.Rel w gx gy X (W.setCell ⟨gy, j, none⟩ u) := by
  refine ⟨y', A, c, blk_put hY j u e, ?_, hE, by rw [ea]; exact hl, blk_far hX (p := ⟨gy, j, none⟩) hn u, below_set HB hg⟩
  rw [ea]
  exact Kd.R_set hR hY ItE.ne j u
set_option maxHeartbeats 8000000 in
set_option maxRecDepth 100000 in
theorem ItE.early (x : Itm.It) (A0 : Option Addr) (c0 : Nat) (A1 : Option Addr) (c1 : Nat) (l1 : List Int) (a2 a3 : Int) (a4 : ByteArray) (w : World) (hr0 : Kd.C k36 w A0 x.ats.length x.ats) (hc0 : x.ats.length ≤ c0) (hg0 : Itm.enG x.hi x.lo x.id x.par x.nm x.ats x.rv x.k x.wt = true) (hr1 : Kd.C (Kd.int .u8) w A1 l1.length l1) (hc1 : l1.length ≤ c1) (hb1 : bytesP l1) (h2 : 0 ≤ a2 ∧ a2 ≤ 255) (hbig : 12 < x.ats.length ∨ 100 < a4.size) :
    Calls Try.prog 5 #[.agg #[.int .u8 x.kd, .int .u64 x.hi, .int .u64 x.lo, .int .u64 x.id, .int .u64 x.par, .string x.nm, .int .i64 x.st, .int .i64 x.en, .bool x.bad, .slice A0 x.ats.length c0, .int .u64 x.rv, .string x.k, .int .u64 x.wt, .int .i64 x.t, .string x.b], .slice A1 l1.length c1, .int .u8 a2, .int .i64 a3, .string a4] w fun e w' => e = .returned (.bool true) ∧ Below w.heap.size w w' := by
  replace hr0 := Aside0.mk hr0
  replace hr1 := Aside0.mk hr1
  replace hb1 := Aside0.mk hb1
  replace hg0 := Aside0.mk hg0
  by_cases hb : 12 < x.ats.length
  · have g1 : decide (12 < (x.ats.length : Int)) = true := decide_eq_true (by omega)
    clear hb hbig
    have hu38 := Try.underlying38
    have hX := Aside0.mk (blk_new w (.cells #[.int .u8 x.kd, .int .u64 x.hi, .int .u64 x.lo, .int .u64 x.id, .int .u64 x.par, .string x.nm, .int .i64 x.st, .int .i64 x.en, .bool x.bad, .slice A0 x.ats.length c0, .int .u64 x.rv, .string x.k, .int .u64 x.wt, .int .i64 x.t, .string x.b] 38 (0, 0)))
    have HB := Aside0.mk (below_alloc (Below.refl w.heap.size w) (.cells #[.int .u8 x.kd, .int .u64 x.hi, .int .u64 x.lo, .int .u64 x.id, .int .u64 x.par, .string x.nm, .int .i64 x.st, .int .i64 x.en, .bool x.bad, .slice A0 x.ats.length c0, .int .u64 x.rv, .string x.k, .int .u64 x.wt, .int .i64 x.t, .string x.b] 38 (0, 0)))
    go_enter Try.func5, Try.ntmps5
    go_upto_region 1 with (fail)
    generalize w.alloc (.cells #[.int .u8 x.kd, .int .u64 x.hi, .int .u64 x.lo, .int .u64 x.id, .int .u64 x.par, .string x.nm, .int .i64 x.st, .int .i64 x.en, .bool x.bad, .slice A0 x.ats.length c0, .int .u64 x.rv, .string x.k, .int .u64 x.wt, .int .i64 x.t, .string x.b] 38 (0, 0)) = w1 at *
    have z9 : w1.cell? ⟨w.heap.size, 9, none⟩ = some (.slice A0 x.ats.length c0) := blk_cell hX.out 9
    go_wp2_with (fail)
    refine (Itm.known_calls' true w1 rfl).mono ?_
    rintro e w2 ⟨rfl, hB2⟩
    replace HB := Aside0.mk (below_step HB.out hB2)
    clear hB2
    go_wp2_with (fail)
    go_ret
    exact ⟨rfl, HB.out⟩
  · have g1 : decide (12 < (x.ats.length : Int)) = false := decide_eq_false (by omega)
    have g2 : decide (100 < (a4.size : Int)) = true := decide_eq_true (by omega)
    clear hb hbig
    have hu38 := Try.underlying38
    have hX := Aside0.mk (blk_new w (.cells #[.int .u8 x.kd, .int .u64 x.hi, .int .u64 x.lo, .int .u64 x.id, .int .u64 x.par, .string x.nm, .int .i64 x.st, .int .i64 x.en, .bool x.bad, .slice A0 x.ats.length c0, .int .u64 x.rv, .string x.k, .int .u64 x.wt, .int .i64 x.t, .string x.b] 38 (0, 0)))
    have HB := Aside0.mk (below_alloc (Below.refl w.heap.size w) (.cells #[.int .u8 x.kd, .int .u64 x.hi, .int .u64 x.lo, .int .u64 x.id, .int .u64 x.par, .string x.nm, .int .i64 x.st, .int .i64 x.en, .bool x.bad, .slice A0 x.ats.length c0, .int .u64 x.rv, .string x.k, .int .u64 x.wt, .int .i64 x.t, .string x.b] 38 (0, 0)))
    go_enter Try.func5, Try.ntmps5
    go_upto_region 1 with (fail)
    generalize w.alloc (.cells #[.int .u8 x.kd, .int .u64 x.hi, .int .u64 x.lo, .int .u64 x.id, .int .u64 x.par, .string x.nm, .int .i64 x.st, .int .i64 x.en, .bool x.bad, .slice A0 x.ats.length c0, .int .u64 x.rv, .string x.k, .int .u64 x.wt, .int .i64 x.t, .string x.b] 38 (0, 0)) = w1 at *
    have z9 : w1.cell? ⟨w.heap.size, 9, none⟩ = some (.slice A0 x.ats.length c0) := blk_cell hX.out 9
    go_wp2_with (fail)
    refine (Itm.known_calls' true w1 rfl).mono ?_
    rintro e w2 ⟨rfl, hB2⟩
    replace HB := Aside0.mk (below_step HB.out hB2)
    clear hB2
    go_wp2_with (fail)
    go_ret
    exact ⟨rfl, HB.out⟩
set_option maxHeartbeats 8000000 in
set_option maxRecDepth 100000 in
theorem ItE.calls (x : Itm.It) (A0 : Option Addr) (c0 : Nat) (A1 : Option Addr) (c1 : Nat) (l1 : List Int) (a2 a3 : Int) (a4 : ByteArray) (w : World) (hr0 : Kd.C k36 w A0 x.ats.length x.ats) (hc0 : x.ats.length ≤ c0) (hg0 : Itm.enG x.hi x.lo x.id x.par x.nm x.ats x.rv x.k x.wt = true) (hr1 : Kd.C (Kd.int .u8) w A1 l1.length l1) (hc1 : l1.length ≤ c1) (hb1 : bytesP l1) (h2 : 0 ≤ a2 ∧ a2 ≤ 255) (n1 : x.ats.length ≤ 12) (n2 : a4.size ≤ 100) :
    Calls Try.prog 5 #[.agg #[.int .u8 x.kd, .int .u64 x.hi, .int .u64 x.lo, .int .u64 x.id, .int .u64 x.par, .string x.nm, .int .i64 x.st, .int .i64 x.en, .bool x.bad, .slice A0 x.ats.length c0, .int .u64 x.rv, .string x.k, .int .u64 x.wt, .int .i64 x.t, .string x.b], .slice A1 l1.length c1, .int .u8 a2, .int .i64 a3, .string a4] w fun e w' => e = .returned (.bool true) ∧ Below w.heap.size w w' := by
  replace hr0 := Aside0.mk hr0
  replace hr1 := Aside0.mk hr1
  replace hb1 := Aside0.mk hb1
  replace hg0 := Aside0.mk hg0
  have g1 : decide (12 < (x.ats.length : Int)) = false := decide_eq_false (by omega)
  have g2 : decide (100 < (a4.size : Int)) = false := decide_eq_false (by omega)
  obtain ⟨y, L, hI, hE, hA⟩ := ItX.item l1 hb1.out
  obtain ⟨⟨r1, r2, r3, r4, r5, r6⟩, ⟨s1, s2, s3, s4⟩, _⟩ := ItO.small hE
  have hI0 := Aside0.mk (hI 0)
  replace s4 := Aside0.mk s4
  clear hI hE
  have hu38 := Try.underlying38
  have hX := Aside0.mk (blk_new w (.cells #[.int .u8 x.kd, .int .u64 x.hi, .int .u64 x.lo, .int .u64 x.id, .int .u64 x.par, .string x.nm, .int .i64 x.st, .int .i64 x.en, .bool x.bad, .slice A0 x.ats.length c0, .int .u64 x.rv, .string x.k, .int .u64 x.wt, .int .i64 x.t, .string x.b] 38 (0, 0)))
  have HB := Aside0.mk (below_alloc (Below.refl w.heap.size w) (.cells #[.int .u8 x.kd, .int .u64 x.hi, .int .u64 x.lo, .int .u64 x.id, .int .u64 x.par, .string x.nm, .int .i64 x.st, .int .i64 x.en, .bool x.bad, .slice A0 x.ats.length c0, .int .u64 x.rv, .string x.k, .int .u64 x.wt, .int .i64 x.t, .string x.b] 38 (0, 0)))
  go_enter Try.func5, Try.ntmps5
  go_upto_region 1 with (fail)
  generalize w.alloc (.cells #[.int .u8 x.kd, .int .u64 x.hi, .int .u64 x.lo, .int .u64 x.id, .int .u64 x.par, .string x.nm, .int .i64 x.st, .int .i64 x.en, .bool x.bad, .slice A0 x.ats.length c0, .int .u64 x.rv, .string x.k, .int .u64 x.wt, .int .i64 x.t, .string x.b] 38 (0, 0)) = w1 at *
  have z9 : w1.cell? ⟨w.heap.size, 9, none⟩ = some (.slice A0 x.ats.length c0) := blk_cell hX.out 9
  go_wp2_with (fail)
  refine (Itm.known_calls' true w1 rfl).mono ?_
  rintro e w2 ⟨rfl, hB2⟩
  replace HB := Aside0.mk (below_step HB.out hB2)
  replace hX := Aside0.mk (blk_below hX.out hB2)
  clear hB2 z9
  go_wp2_with (fail)
  refine (telemeterlaw03_Item.calls 1 A1 c1 l1 y.kd y.hi y.lo y.id y.par y.nm y.st y.en y.bad y.ats y.rv y.k y.wt y.t y.b w2 (Kd.C_below hr1.out HB.out) hc1 hI0.out).mono ?_
  rintro e w3 ⟨v3, rfl, hN3, hB3⟩
  obtain ⟨A3, c3, e3⟩ := Kd.R_slice hN3
  subst e3
  have hR := Aside0.mk (Kd.R_alloc (Kd.R_lower hN3 (Nat.le_trans HB.out.size (Nat.le_refl _))) (.cells #[.int .u8 y.kd, .int .u64 y.hi, .int .u64 y.lo, .int .u64 y.id, .int .u64 y.par, .string y.nm, .int .i64 y.st, .int .i64 y.en, .bool y.bad, .slice A3 y.ats.length c3, .int .u64 y.rv, .string y.k, .int .u64 y.wt, .int .i64 y.t, .string y.b] 38 (0, 0)))
  have hgn := Aside0.mk (Nat.ne_of_lt (blk_lt (blk_below hX.out hB3)))
  replace hX := Aside0.mk (blk_alloc (blk_below hX.out hB3) (.cells #[.int .u8 y.kd, .int .u64 y.hi, .int .u64 y.lo, .int .u64 y.id, .int .u64 y.par, .string y.nm, .int .i64 y.st, .int .i64 y.en, .bool y.bad, .slice A3 y.ats.length c3, .int .u64 y.rv, .string y.k, .int .u64 y.wt, .int .i64 y.t, .string y.b] 38 (0, 0)))
  replace HB := Aside0.mk (below_step HB.out hB3)
  have hgs := Aside0.mk HB.out.size
  replace HB := Aside0.mk (below_alloc HB.out (.cells #[.int .u8 y.kd, .int .u64 y.hi, .int .u64 y.lo, .int .u64 y.id, .int .u64 y.par, .string y.nm, .int .i64 y.st, .int .i64 y.en, .bool y.bad, .slice A3 y.ats.length c3, .int .u64 y.rv, .string y.k, .int .u64 y.wt, .int .i64 y.t, .string y.b] 38 (0, 0)))
  have hY := Aside0.mk (blk_new w3 (.cells #[.int .u8 y.kd, .int .u64 y.hi, .int .u64 y.lo, .int .u64 y.id, .int .u64 y.par, .string y.nm, .int .i64 y.st, .int .i64 y.en, .bool y.bad, .slice A3 y.ats.length c3, .int .u64 y.rv, .string y.k, .int .u64 y.wt, .int .i64 y.t, .string y.b] 38 (0, 0)))
  clear hN3 hI0
  go_upto_region 4 with (fail)
  obtain ⟨gy, hgy⟩ : ∃ gy, gy = w3.heap.size := ⟨_, rfl⟩
  rw [← hgy] at hY hgn hgs ⊢
  generalize w3.alloc (.cells #[.int .u8 y.kd, .int .u64 y.hi, .int .u64 y.lo, .int .u64 y.id, .int .u64 y.par, .string y.nm, .int .i64 y.st, .int .i64 y.en, .bool y.bad, .slice A3 y.ats.length c3, .int .u64 y.rv, .string y.k, .int .u64 y.wt, .int .i64 y.t, .string y.b] 38 (0, 0)) = w4 at *
  clear hgy hB3 hA
  go_upto_block 0 with (fail)
  go_cut [31, 32] (fun v31 v32 wc => ItE.Rel w w.heap.size gy #[.int .u8 x.kd, .int .u64 x.hi, .int .u64 x.lo, .int .u64 x.id, .int .u64 x.par, .string x.nm, .int .i64 x.st, .int .i64 x.en, .bool x.bad, .slice A0 x.ats.length c0, .int .u64 x.rv, .string x.k, .int .u64 x.wt, .int .i64 x.t, .string x.b] wc)
  case first =>
    have hq : a2 % 8 = 0 ∨ a2 % 8 = 1 ∨ a2 % 8 = 2 ∨ a2 % 8 = 3 ∨ a2 % 8 = 4 ∨ a2 % 8 = 5 ∨ a2 % 8 = 6 ∨ a2 % 8 = 7 := by omega
    have hE : ∀ (id : Int) (nm : ByteArray) (ats : List S36) (rv wt : Int), (0 ≤ id ∧ id < 18446744073709551616) → nm.size ≤ 100 → (∀ a ∈ ats, a.f0.size ≤ 100) → (0 ≤ rv ∧ rv < 18446744073709551616) → (0 ≤ wt ∧ wt < 18446744073709551616) → Itm.enG y.hi y.lo id y.par nm ats rv y.k wt = true := fun id nm ats rv wt q1 q2 q3 q4 q5 => ItX.enG r1 r2 q1 r4 q4 q5 (by omega) (by omega) (fun a ha => Nat.le_trans (q3 a ha) (by decide))
    have hsz : ∀ a ∈ y.ats, a.f0.size ≤ 100 := fun a ha => Nat.le_trans (s4.out a ha) (by decide)
    replace hE := Aside0.mk hE
    replace hsz := Aside0.mk hsz
    rcases hq with hq | hq | hq | hq | hq | hq | hq | hq
    · have f6 := blk_frozen hY.out 6
      have y6 := blk_cell hY.out 6
      simp only [List.getElem?_toArray, List.getElem?_cons_succ, List.getElem?_cons_zero] at y6
      go_wp2_with (fail)
      go_meet
      case rel => exact ItE.set hY.out hR.out hX.out HB.out hgn.out hgs.out 6 (.int .i64 a3) { y with st := a3 } rfl rfl (hE.out _ _ _ _ _ r3 (by dsimp only; omega) hsz.out r5 r6) (by omega)
    · have f5 := blk_frozen hY.out 5
      have y5 := blk_cell hY.out 5
      simp only [List.getElem?_toArray, List.getElem?_cons_succ, List.getElem?_cons_zero] at y5
      go_wp2_with (fail)
      go_meet
      case rel => exact ItE.set hY.out hR.out hX.out HB.out hgn.out hgs.out 5 (.string a4) { y with nm := a4 } rfl rfl (hE.out _ _ _ _ _ r3 n2 hsz.out r5 r6) (by omega)
    · have f14 := blk_frozen hY.out 14
      have y14 := blk_cell hY.out 14
      simp only [List.getElem?_toArray, List.getElem?_cons_succ, List.getElem?_cons_zero] at y14
      go_wp2_with (fail)
      go_meet
      case rel => exact ItE.set hY.out hR.out hX.out HB.out hgn.out hgs.out 14 (.string a4) { y with b := a4 } rfl rfl (hE.out _ _ _ _ _ r3 (by dsimp only; omega) hsz.out r5 r6) (by omega)
    · have f12 := blk_frozen hY.out 12
      have y12 := blk_cell hY.out 12
      simp only [List.getElem?_toArray, List.getElem?_cons_succ, List.getElem?_cons_zero] at y12
      go_wp2_with (fail)
      go_meet
      case rel => exact ItE.set hY.out hR.out hX.out HB.out hgn.out hgs.out 12 (.int .u64 (IntKind.u64.wrap a3)) { y with wt := IntKind.u64.wrap a3 } rfl rfl (hE.out _ _ _ _ _ r3 (by dsimp only; omega) hsz.out r5 (ItE.rng _)) (by omega)
    · have f9 := blk_frozen hY.out 9
      have y9 : w4.cell? ⟨gy, 9, none⟩ = some (.slice A3 y.ats.length c3) := blk_cell hY.out 9
      go_wp2_with (first | ((with_reducible refine gate_builtin (b := .append) (xs := #[.tmp 57, .tmp 61]) rfl ?_); (try (refine gate_guard (by rfl) ?_; dsimp only)); at_builtin; refine Kd.R_append k36 (w0 := w) w.heap.size rfl (.tmp 57) (.tmp 61) 24 36 (.agg #[(.string ⟨#[]⟩), (.string ⟨#[]⟩)]) 32 rfl Try.underlying24 Spn.info64 rfl (by decide) (by omega) (.slice A3 y.ats.length c3) y.ats (⟨a4, a4⟩ : S36) [.string a4, .string a4] (fun _ => True) (fun _ => False) rfl (by first | (go_simp; done) | (go_simp; rfl)) ?aP (fun _ hk => hk.elim) ?aF ?aO ?aB ?aS ?aL ?_; (case aP => exact k36_mkM _ _ _ (⟨a4, a4⟩ : S36)); (case aF => exact fun _ _ => trivial); (case aO => exact hR.out); (case aB => exact HB.out); (case aS => exact HB.out.size); (case aL => omega); intro v5 w5 ho hb hg hat; replace hX := Aside0.mk (blk_grown hX.out hg (Kd.R_ne hR.out hX.out (by decide))); replace hY := Aside0.mk (blk_grown hY.out hg (Kd.R_ne hR.out hY.out (by decide))); replace hR := Aside0.mk ho; replace HB := Aside0.mk hb; clear ho hb hg hat f9 y9; obtain ⟨A5, c5, e5⟩ := Kd.R_slice hR.out; subst e5; have f9 := blk_frozen hY.out 9; have y9 : w5.cell? ⟨gy, 9, none⟩ = some (.slice A3 y.ats.length c3) := blk_cell hY.out 9))
      go_meet
      case rel =>
        refine ⟨{ y with ats := y.ats ++ [⟨a4, a4⟩] }, A5, c5, blk_put hY.out 9 _ (by simp only [ItE.cs, List.length_append, List.length_cons, List.length_nil]; rfl), Kd.R_set hR.out hY.out ItE.ne 9 _, hE.out _ _ _ _ _ r3 (by dsimp only; omega) (fun a ha => ?_) r5 r6, by rw [List.length_append]; simp; omega, blk_far hX.out (p := ⟨gy, 9, none⟩) hgn.out _, below_set HB.out hgs.out⟩
        rcases List.mem_append.1 ha with ha | ha
        · exact hsz.out a ha
        · rw [List.mem_singleton.1 ha]; exact n2
    · have f10 := blk_frozen hY.out 10
      have y10 := blk_cell hY.out 10
      simp only [List.getElem?_toArray, List.getElem?_cons_succ, List.getElem?_cons_zero] at y10
      go_wp2_with (fail)
      go_meet
      case rel => exact ItE.set hY.out hR.out hX.out HB.out hgn.out hgs.out 10 (.int .u64 (IntKind.u64.wrap a3)) { y with rv := IntKind.u64.wrap a3 } rfl rfl (hE.out _ _ _ _ _ r3 (by dsimp only; omega) hsz.out (ItE.rng _) r6) (by omega)
    · have f3 := blk_frozen hY.out 3
      have y3 := blk_cell hY.out 3
      simp only [List.getElem?_toArray, List.getElem?_cons_succ, List.getElem?_cons_zero] at y3
      go_wp2_with (fail)
      go_meet
      case rel => exact ItE.set hY.out hR.out hX.out HB.out hgn.out hgs.out 3 (.int .u64 (IntKind.u64.wrap (Int.tmod a3 2))) { y with id := IntKind.u64.wrap (Int.tmod a3 2) } rfl rfl (hE.out _ _ _ _ _ (ItE.rng _) (by dsimp only; omega) hsz.out r5 r6) (by omega)
    · go_wp2_with (fail)
      go_meet
      case rel => exact ⟨y, A3, c3, hY.out, hR.out, hE.out _ _ _ _ _ r3 (by omega) hsz.out r5 r6, by omega, hX.out, HB.out⟩
  case rest =>
    obtain ⟨y2, A5, c5, hY2, hR2, hE2, hl2, hX2, HB2⟩ := hcut
    replace hY := Aside0.mk hY2
    replace hR := Aside0.mk hR2
    replace hX := Aside0.mk hX2
    replace HB := Aside0.mk HB2
    replace hE2 := Aside0.mk hE2
    clear hY2 hR2 hX2 HB2
    obtain ⟨z0, z1, z2, z3, z4, z5, z6, z7, z8, z9, z10, z11, z12, z13, z14⟩ := RfC.cells15 hX.out
    go_wp2_with (fail)
    refine (Tel.tells_calls x.kd x.hi x.lo x.id x.par x.nm x.st x.en x.bad A0 c0 x.ats x.rv x.k x.wt x.t x.b wc (Kd.C_below hr0.out HB.out) hc0 (by omega) hg0.out).mono ?_
    rintro e w6 ⟨rfl, hb⟩
    replace hY := Aside0.mk (blk_below hY.out hb)
    replace hR := Aside0.mk (Kd.R_below hR.out hb)
    replace HB := Aside0.mk (below_step HB.out hb)
    clear hb z0 z1 z2 z3 z4 z5 z6 z7 z8 z9 z10 z11 z12 z13 z14 hX
    obtain ⟨z0, z1, z2, z3, z4, z5, z6, z7, z8, z9, z10, z11, z12, z13, z14⟩ := RfC.cells15 hY.out
    go_wp2_with (fail)
    refine (Tel.tells_calls y2.kd y2.hi y2.lo y2.id y2.par y2.nm y2.st y2.en y2.bad A5 c5 y2.ats y2.rv y2.k y2.wt y2.t y2.b w6 (Kd.R_reads' hR.out).2.2 (Kd.R_reads' hR.out).2.1 (by omega) hE2.out).mono ?_
    rintro e w7 ⟨rfl, hb⟩
    replace HB := Aside0.mk (below_step HB.out hb)
    clear hb z0 z1 z2 z3 z4 z5 z6 z7 z8 z9 z10 z11 z12 z13 z14
    go_wp2_with (fail)
    go_ret
    exact ⟨rfl, HB.out⟩
  theorem ItE.all (x : Itm.It) (A0 : Option Addr) (c0 : Nat) (A1 : Option Addr) (c1 : Nat) (l1 : List Int) (a2 a3 : Int) (a4 : ByteArray) (w : World) (hr0 : Kd.C k36 w A0 x.ats.length x.ats) (hc0 : x.ats.length ≤ c0) (hg0 : Itm.enG x.hi x.lo x.id x.par x.nm x.ats x.rv x.k x.wt = true) (hr1 : Kd.C (Kd.int .u8) w A1 l1.length l1) (hc1 : l1.length ≤ c1) (hb1 : bytesP l1) (h2 : 0 ≤ a2 ∧ a2 ≤ 255) :
      Calls Try.prog 5 #[.agg #[.int .u8 x.kd, .int .u64 x.hi, .int .u64 x.lo, .int .u64 x.id, .int .u64 x.par, .string x.nm, .int .i64 x.st, .int .i64 x.en, .bool x.bad, .slice A0 x.ats.length c0, .int .u64 x.rv, .string x.k, .int .u64 x.wt, .int .i64 x.t, .string x.b], .slice A1 l1.length c1, .int .u8 a2, .int .i64 a3, .string a4] w fun e w' => e = .returned (.bool true) ∧ Below w.heap.size w w' := by
    by_cases h : 12 < x.ats.length ∨ 100 < a4.size
    · exact ItE.early x A0 c0 A1 c1 l1 a2 a3 a4 w hr0 hc0 hg0 hr1 hc1 hb1 h2 h
    · exact ItE.calls x A0 c0 A1 c1 l1 a2 a3 a4 w hr0 hc0 hg0 hr1 hc1 hb1 h2 (by omega) (by omega)
end Go.Proofs.Ytfapckmobeppnaa.Px
