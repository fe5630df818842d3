/- The document's Decode, by hand: it tells what the package's does. -/
import Derived.Test.YtfapckmobeppnaaPutA
import Derived.Test.YtfapckmobeppnaaRefC
namespace Go.Proofs.Ytfapckmobeppnaa.Px
open Go.RowKit Go.Proofs.YtfapckmobeppnaaW.PrintWords Go.Proofs.YtfapckmobeppnaaW.PrintLast Go.Proofs.YtfapckmobeppnaaW.PrintMore
set_option linter.unusedVariables false
set_option linter.unusedSimpArgs false

def RfD.Post (y : Itm.It) (e : Int) (w : World) : Ending → World → Prop := fun r w' => ∃ v, r = .returned (.tuple #[.agg #[.int .u8 y.kd, .int .u64 y.hi, .int .u64 y.lo, .int .u64 y.id, .int .u64 y.par, .string y.nm, .int .i64 y.st, .int .i64 y.en, .bool y.bad, v, .int .u64 y.rv, .string y.k, .int .u64 y.wt, .int .i64 y.t, .string y.b], .int .i64 e]) ∧ Kd.R k36 36 w' w.heap.size (fun _ => True) v y.ats ∧ Below w.heap.size w w'
def RfD.xc (x : Itm.It) (A9 : Option Addr) (c9 : Nat) : Array Value := #[.int .u8 x.kd, .int .u64 x.hi, .int .u64 x.lo, .int .u64 x.id, .int .u64 x.par, .string x.nm, .int .i64 x.st, .int .i64 x.en, .bool x.bad, .slice A9 x.ats.length c9, .int .u64 x.rv, .string x.k, .int .u64 x.wt, .int .i64 x.t, .string x.b]
theorem RfD.neI : ∀ q, q ∈ 36 :: k36.E → q ≠ 38 := by
 intro q hq
 have : q = 36 := by simpa [k36, Kd.iso, Kd.pair, Kd.string, Kd.scalar] using hq
 omega
theorem RfD.store15 {W : World} {g t : Nat} {c0 c1 c2 c3 c4 c5 c6 c7 c8 c9 c10 c11 c12 c13 c14 v0 v1 v2 v3 v4 v5 v6 v7 v8 v9 v10 v11 v12 v13 v14 : Value} (h : W.heap[g]? = some (.cells #[c0, c1, c2, c3, c4, c5, c6, c7, c8, c9, c10, c11, c12, c13, c14] t (0, 0))) : (((((((((((((((W.setCell ⟨g, 0, none⟩ v0).setCell ⟨g, 1, none⟩ v1).setCell ⟨g, 2, none⟩ v2).setCell ⟨g, 3, none⟩ v3).setCell ⟨g, 4, none⟩ v4).setCell ⟨g, 5, none⟩ v5).setCell ⟨g, 6, none⟩ v6).setCell ⟨g, 7, none⟩ v7).setCell ⟨g, 8, none⟩ v8).setCell ⟨g, 9, none⟩ v9).setCell ⟨g, 10, none⟩ v10).setCell ⟨g, 11, none⟩ v11).setCell ⟨g, 12, none⟩ v12).setCell ⟨g, 13, none⟩ v13).setCell ⟨g, 14, none⟩ v14).heap[g]? = some (.cells #[v0, v1, v2, v3, v4, v5, v6, v7, v8, v9, v10, v11, v12, v13, v14] t (0, 0)) := by
 have := (blk_set (blk_set (blk_set (blk_set (blk_set (blk_set (blk_set (blk_set (blk_set (blk_set (blk_set (blk_set (blk_set (blk_set (blk_set h 0 v0) 1 v1) 2 v2) 3 v3) 4 v4) 5 v5) 6 v6) 7 v7) 8 v8) 9 v9) 10 v10) 11 v11) 12 v12) 13 v13) 14 v14)
 simpa using this
theorem RfD.far15 (W : World) (g k : Nat) (hk : k ≠ g) (v0 v1 v2 v3 v4 v5 v6 v7 v8 v9 v10 v11 v12 v13 v14 : Value) : (((((((((((((((W.setCell ⟨g, 0, none⟩ v0).setCell ⟨g, 1, none⟩ v1).setCell ⟨g, 2, none⟩ v2).setCell ⟨g, 3, none⟩ v3).setCell ⟨g, 4, none⟩ v4).setCell ⟨g, 5, none⟩ v5).setCell ⟨g, 6, none⟩ v6).setCell ⟨g, 7, none⟩ v7).setCell ⟨g, 8, none⟩ v8).setCell ⟨g, 9, none⟩ v9).setCell ⟨g, 10, none⟩ v10).setCell ⟨g, 11, none⟩ v11).setCell ⟨g, 12, none⟩ v12).setCell ⟨g, 13, none⟩ v13).setCell ⟨g, 14, none⟩ v14).heap[k]? = W.heap[k]? := by
 repeat rw [heap_setCell_other _ _ _ _ hk]
set_option maxHeartbeats 1000000 in
theorem RfD.fin (a : Act) (w W : World) (y : Itm.It) (e : Int) (v : Value) (h2 : a.tmps[2]? = some (.pointer (some ⟨w.heap.size, 0, none⟩))) (h3 : a.tmps[3]? = some (.int .i64 e)) (hd : a.defers = []) (hZ : W.heap[w.heap.size]? = some (.cells #[.int .u8 0, .int .u64 0, .int .u64 0, .int .u64 0, .int .u64 0, .string ⟨#[]⟩, .int .i64 0, .int .i64 0, .bool false, .slice none 0 0, .int .u64 0, .string ⟨#[]⟩, .int .u64 0, .int .i64 0, .string ⟨#[]⟩] 38 (0, 0))) (HB : Below w.heap.size w W) (hR : Kd.R k36 36 W w.heap.size (fun _ => True) v y.ats) :
  bodyPost Try.prog Try.f34 (RfD.Post y e w) Exit.ret a (((((((((((((((W.setCell ⟨w.heap.size, 0, none⟩ (.int .u8 y.kd)).setCell ⟨w.heap.size, 1, none⟩ (.int .u64 y.hi)).setCell ⟨w.heap.size, 2, none⟩ (.int .u64 y.lo)).setCell ⟨w.heap.size, 3, none⟩ (.int .u64 y.id)).setCell ⟨w.heap.size, 4, none⟩ (.int .u64 y.par)).setCell ⟨w.heap.size, 5, none⟩ (.string y.nm)).setCell ⟨w.heap.size, 6, none⟩ (.int .i64 y.st)).setCell ⟨w.heap.size, 7, none⟩ (.int .i64 y.en)).setCell ⟨w.heap.size, 8, none⟩ (.bool y.bad)).setCell ⟨w.heap.size, 9, none⟩ v).setCell ⟨w.heap.size, 10, none⟩ (.int .u64 y.rv)).setCell ⟨w.heap.size, 11, none⟩ (.string y.k)).setCell ⟨w.heap.size, 12, none⟩ (.int .u64 y.wt)).setCell ⟨w.heap.size, 13, none⟩ (.int .i64 y.t)).setCell ⟨w.heap.size, 14, none⟩ (.string y.b)) := by
 have hN := RfD.store15 (v0 := (.int .u8 y.kd)) (v1 := (.int .u64 y.hi)) (v2 := (.int .u64 y.lo)) (v3 := (.int .u64 y.id)) (v4 := (.int .u64 y.par)) (v5 := (.string y.nm)) (v6 := (.int .i64 y.st)) (v7 := (.int .i64 y.en)) (v8 := (.bool y.bad)) (v9 := v) (v10 := (.int .u64 y.rv)) (v11 := (.string y.k)) (v12 := (.int .u64 y.wt)) (v13 := (.int .i64 y.t)) (v14 := (.string y.b)) hZ
 have hB2 := (below_set (j := 14) (v := (.string y.b)) (below_set (j := 13) (v := (.int .i64 y.t)) (below_set (j := 12) (v := (.int .u64 y.wt)) (below_set (j := 11) (v := (.string y.k)) (below_set (j := 10) (v := (.int .u64 y.rv)) (below_set (j := 9) (v := v) (below_set (j := 8) (v := (.bool y.bad)) (below_set (j := 7) (v := (.int .i64 y.en)) (below_set (j := 6) (v := (.int .i64 y.st)) (below_set (j := 5) (v := (.string y.nm)) (below_set (j := 4) (v := (.int .u64 y.par)) (below_set (j := 3) (v := (.int .u64 y.id)) (below_set (j := 2) (v := (.int .u64 y.lo)) (below_set (j := 1) (v := (.int .u64 y.hi)) (below_set (j := 0) (v := (.int .u8 y.kd)) HB (Nat.le_refl _)) (Nat.le_refl _)) (Nat.le_refl _)) (Nat.le_refl _)) (Nat.le_refl _)) (Nat.le_refl _)) (Nat.le_refl _)) (Nat.le_refl _)) (Nat.le_refl _)) (Nat.le_refl _)) (Nat.le_refl _)) (Nat.le_refl _)) (Nat.le_refl _)) (Nat.le_refl _)) (Nat.le_refl _))
 have hR2 := Kd.R_mono (Kd.R_step (Kd.R_types hR hZ RfD.neI) (fun k hk _ => RfD.far15 W w.heap.size k hk.2 (.int .u8 y.kd) (.int .u64 y.hi) (.int .u64 y.lo) (.int .u64 y.id) (.int .u64 y.par) (.string y.nm) (.int .i64 y.st) (.int .i64 y.en) (.bool y.bad) v (.int .u64 y.rv) (.string y.k) (.int .u64 y.wt) (.int .i64 y.t) (.string y.b))) (fun _ _ => trivial) (ok' := fun _ => True)
 generalize (((((((((((((((W.setCell ⟨w.heap.size, 0, none⟩ (.int .u8 y.kd)).setCell ⟨w.heap.size, 1, none⟩ (.int .u64 y.hi)).setCell ⟨w.heap.size, 2, none⟩ (.int .u64 y.lo)).setCell ⟨w.heap.size, 3, none⟩ (.int .u64 y.id)).setCell ⟨w.heap.size, 4, none⟩ (.int .u64 y.par)).setCell ⟨w.heap.size, 5, none⟩ (.string y.nm)).setCell ⟨w.heap.size, 6, none⟩ (.int .i64 y.st)).setCell ⟨w.heap.size, 7, none⟩ (.int .i64 y.en)).setCell ⟨w.heap.size, 8, none⟩ (.bool y.bad)).setCell ⟨w.heap.size, 9, none⟩ v).setCell ⟨w.heap.size, 10, none⟩ (.int .u64 y.rv)).setCell ⟨w.heap.size, 11, none⟩ (.string y.k)).setCell ⟨w.heap.size, 12, none⟩ (.int .u64 y.wt)).setCell ⟨w.heap.size, 13, none⟩ (.int .i64 y.t)).setCell ⟨w.heap.size, 14, none⟩ (.string y.b)) = wf at *
 obtain ⟨z0, z1, z2, z3, z4, z5, z6, z7, z8, z9, z10, z11, z12, z13, z14⟩ := RfC.cells15 hN
 have hres : Try.f34.results = #[.cell 2 38, .tmp 3] := by kernel_rfl
 refine bodyPost_ret (v := .tuple #[.agg #[.int .u8 y.kd, .int .u64 y.hi, .int .u64 y.lo, .int .u64 y.id, .int .u64 y.par, .string y.nm, .int .i64 y.st, .int .i64 y.en, .bool y.bad, v, .int .u64 y.rv, .string y.k, .int .u64 y.wt, .int .i64 y.t, .string y.b], .int .i64 e]) ?_ hd ⟨v, rfl, hR2, hB2⟩
 simp only [results, hres]
 go_simp
theorem RfD.storeS {W : World} {g t : Nat} {c0 c1 c2 c3 c4 c5 c6 c7 c8 c9 c10 c11 c12 c13 c14 v1 v2 v3 v4 v5 v6 v7 v8 v9 v10 : Value} (h : W.heap[g]? = some (.cells #[c0, c1, c2, c3, c4, c5, c6, c7, c8, c9, c10, c11, c12, c13, c14] t (0, 0))) : ((((((((((W.setCell ⟨g, 1, none⟩ v1).setCell ⟨g, 2, none⟩ v2).setCell ⟨g, 3, none⟩ v3).setCell ⟨g, 4, none⟩ v4).setCell ⟨g, 5, none⟩ v5).setCell ⟨g, 6, none⟩ v6).setCell ⟨g, 7, none⟩ v7).setCell ⟨g, 8, none⟩ v8).setCell ⟨g, 9, none⟩ v9).setCell ⟨g, 10, none⟩ v10).heap[g]? = some (.cells #[c0, v1, v2, v3, v4, v5, v6, v7, v8, v9, v10, c11, c12, c13, c14] t (0, 0)) := by
 have := (blk_set (blk_set (blk_set (blk_set (blk_set (blk_set (blk_set (blk_set (blk_set (blk_set h 1 v1) 2 v2) 3 v3) 4 v4) 5 v5) 6 v6) 7 v7) 8 v8) 9 v9) 10 v10)
 simpa using this
theorem RfD.farS (W : World) (g k : Nat) (hk : k ≠ g) (v1 v2 v3 v4 v5 v6 v7 v8 v9 v10 : Value) : ((((((((((W.setCell ⟨g, 1, none⟩ v1).setCell ⟨g, 2, none⟩ v2).setCell ⟨g, 3, none⟩ v3).setCell ⟨g, 4, none⟩ v4).setCell ⟨g, 5, none⟩ v5).setCell ⟨g, 6, none⟩ v6).setCell ⟨g, 7, none⟩ v7).setCell ⟨g, 8, none⟩ v8).setCell ⟨g, 9, none⟩ v9).setCell ⟨g, 10, none⟩ v10).heap[k]? = W.heap[k]? := by
 repeat rw [heap_setCell_other _ _ _ _ hk]
def RfD.Mid (w : World) (t : List Int) (v4 v5 : Value) (W : World) : Prop := ∃ (fs : List RfF.Fd) (b : Bool) (A : Option Addr) (c : Nat), v4 = .slice A fs.length c ∧ v5 = .bool b ∧ telemeterref03_fields.f (t.length + 25) t = some (fs, b) ∧ Kd.C k94 W A fs.length fs ∧ Below w.heap.size w W ∧ W.heap[w.heap.size]? = some (.cells #[.int .u8 0, .int .u64 0, .int .u64 0, .int .u64 0, .int .u64 0, .string ⟨#[]⟩, .int .i64 0, .int .i64 0, .bool false, .slice none 0 0, .int .u64 0, .string ⟨#[]⟩, .int .u64 0, .int .i64 0, .string ⟨#[]⟩] 38 (0, 0))
theorem RfD.put_same {x x1 : Itm.It} {no n : Int} {s : ByteArray} (hk : x.kd = 1) (hp : Itm.putF x no n s = some x1) : s.size ≤ 100000 ∧ x1.kd = x.kd ∧ x1.k = x.k ∧ x1.wt = x.wt ∧ x1.t = x.t ∧ x1.b = x.b := by
 unfold Itm.putF at hp
 by_cases hs : s.size ≤ 100000
 ·rw [if_pos hs, if_pos hk] at hp
  refine ⟨hs, ?_⟩
  by_cases c1 : no = 1
  ·rw [if_pos c1] at hp; cases hp; exact ⟨rfl, rfl, rfl, rfl, rfl⟩
  rw [if_neg c1] at hp
  by_cases c2 : no = 2
  ·rw [if_pos c2] at hp; cases hp; exact ⟨rfl, rfl, rfl, rfl, rfl⟩
  rw [if_neg c2] at hp
  by_cases c3 : no = 3
  ·rw [if_pos c3] at hp; cases hp; exact ⟨rfl, rfl, rfl, rfl, rfl⟩
  rw [if_neg c3] at hp
  by_cases c4 : no = 4
  ·rw [if_pos c4] at hp; cases hp; exact ⟨rfl, rfl, rfl, rfl, rfl⟩
  rw [if_neg c4] at hp
  by_cases c5 : no = 5
  ·rw [if_pos c5] at hp; cases hp; exact ⟨rfl, rfl, rfl, rfl, rfl⟩
  rw [if_neg c5] at hp
  by_cases c6 : no = 6
  ·rw [if_pos c6] at hp; cases hp; exact ⟨rfl, rfl, rfl, rfl, rfl⟩
  rw [if_neg c6] at hp
  by_cases c7 : no = 7
  ·rw [if_pos c7] at hp; cases hp; exact ⟨rfl, rfl, rfl, rfl, rfl⟩
  rw [if_neg c7] at hp
  by_cases c8 : no = 8
  ·rw [if_pos c8] at hp; cases hp; exact ⟨rfl, rfl, rfl, rfl, rfl⟩
  rw [if_neg c8] at hp
  by_cases c9 : no = 9
  ·rw [if_pos c9] at hp; cases hp; exact ⟨rfl, rfl, rfl, rfl, rfl⟩
  rw [if_neg c9] at hp
  by_cases c10 : no = 10
  ·rw [if_pos c10] at hp
   obtain ⟨⟨k, up, ee⟩, hg, hp⟩ := Option.bind_eq_some_iff.mp hp
   dsimp only at hp
   by_cases he : ee = 0
   ·rw [if_pos he] at hp
    split at hp
    ·cases hp; exact ⟨rfl, rfl, rfl, rfl, rfl⟩
    ·cases hp
   ·rw [if_neg he] at hp; cases hp; exact ⟨rfl, rfl, rfl, rfl, rfl⟩
  rw [if_neg c10] at hp
  cases hp; exact ⟨rfl, rfl, rfl, rfl, rfl⟩
 ·rw [if_neg hs] at hp
  cases hp
 /-- What holds where the arms of a round meet. -/
 def RfD.Step (wc : World) (x1 : Itm.It) (W : World) : Prop := ∃ (A : Option Addr) (c : Nat), W.heap[wc.heap.size]? = some (.cells (RfD.xc x1 A c) 38 (0, 0)) ∧ Kd.R k36 36 W wc.heap.size (fun k => wc.heap.size < k) (.slice A x1.ats.length c) x1.ats ∧ Below wc.heap.size wc W
 theorem RfD.Step.set {wc W : World} {x x1 : Itm.It} {A9 : Option Addr} {c9 : Nat} (hX : W.heap[wc.heap.size]? = some (.cells (RfD.xc x A9 c9) 38 (0, 0))) (hR : Kd.R k36 36 W wc.heap.size (fun k => wc.heap.size < k) (.slice A9 x.ats.length c9) x.ats) (HB : Below wc.heap.size wc W) (j : Nat) (u : Value) (e : (RfD.xc x A9 c9).setIfInBounds j u = RfD.xc x1 A9 c9) (ea : x1.ats = x.ats) : RfD.Step wc x1 (W.setCell ⟨wc.heap.size, j, none⟩ u) := by
  refine ⟨A9, c9, blk_put hX j u e, ?_, below_set HB (Nat.le_refl _)⟩
  rw [ea]
  exact Kd.R_set hR hX RfD.neI j u
set_option maxHeartbeats 40000000 in
set_option maxRecDepth 100000 in
theorem RfD.dec_nil (A : Option Addr) (c : Nat) (L : List Int) (w : World) (hl : L.length = 0) : Calls Try.prog 34 #[.slice A L.length c] w (RfD.Post Itm.It.z 40 w) := by
 have g0 : ((L.length : Int) == 0) = true := beq_iff_eq.mpr (by omega)
 rw [hl] at g0 ⊢
 have HB := Aside0.mk (below_alloc (Below.refl w.heap.size w) (.cells #[.int .u8 0, .int .u64 0, .int .u64 0, .int .u64 0, .int .u64 0, .string ⟨#[]⟩, .int .i64 0, .int .i64 0, .bool false, .slice none 0 0, .int .u64 0, .string ⟨#[]⟩, .int .u64 0, .int .i64 0, .string ⟨#[]⟩] 38 (0, 0)))
 have hZ := Aside0.mk (blk_new w (.cells #[.int .u8 0, .int .u64 0, .int .u64 0, .int .u64 0, .int .u64 0, .string ⟨#[]⟩, .int .i64 0, .int .i64 0, .bool false, .slice none 0 0, .int .u64 0, .string ⟨#[]⟩, .int .u64 0, .int .i64 0, .string ⟨#[]⟩] 38 (0, 0)))
 go_enter Try.func34, Try.ntmps34
 go_upto_region 1 with (fail)
 generalize w.alloc (.cells #[.int .u8 0, .int .u64 0, .int .u64 0, .int .u64 0, .int .u64 0, .string ⟨#[]⟩, .int .i64 0, .int .i64 0, .bool false, .slice none 0 0, .int .u64 0, .string ⟨#[]⟩, .int .u64 0, .int .i64 0, .string ⟨#[]⟩] 38 (0, 0)) = w1 at *
 have o0 := (blk_cell hZ.out 0).trans rfl
 have p0 := blk_frozen hZ.out 0
 have o1 := (blk_cell hZ.out 1).trans rfl
 have p1 := blk_frozen hZ.out 1
 have o2 := (blk_cell hZ.out 2).trans rfl
 have p2 := blk_frozen hZ.out 2
 have o3 := (blk_cell hZ.out 3).trans rfl
 have p3 := blk_frozen hZ.out 3
 have o4 := (blk_cell hZ.out 4).trans rfl
 have p4 := blk_frozen hZ.out 4
 have o5 := (blk_cell hZ.out 5).trans rfl
 have p5 := blk_frozen hZ.out 5
 have o6 := (blk_cell hZ.out 6).trans rfl
 have p6 := blk_frozen hZ.out 6
 have o7 := (blk_cell hZ.out 7).trans rfl
 have p7 := blk_frozen hZ.out 7
 have o8 := (blk_cell hZ.out 8).trans rfl
 have p8 := blk_frozen hZ.out 8
 have o9 := (blk_cell hZ.out 9).trans rfl
 have p9 := blk_frozen hZ.out 9
 have o10 := (blk_cell hZ.out 10).trans rfl
 have p10 := blk_frozen hZ.out 10
 have o11 := (blk_cell hZ.out 11).trans rfl
 have p11 := blk_frozen hZ.out 11
 have o12 := (blk_cell hZ.out 12).trans rfl
 have p12 := blk_frozen hZ.out 12
 have o13 := (blk_cell hZ.out 13).trans rfl
 have p13 := blk_frozen hZ.out 13
 have o14 := (blk_cell hZ.out 14).trans rfl
 have p14 := blk_frozen hZ.out 14
 go_wp2_with (fail)
 exact RfD.fin _ w w1 Itm.It.z 40 (.slice none 0 0) rfl rfl rfl hZ.out HB.out (Kd.R_nil _ _ _ _ _)
end Go.Proofs.Ytfapckmobeppnaa.Px
