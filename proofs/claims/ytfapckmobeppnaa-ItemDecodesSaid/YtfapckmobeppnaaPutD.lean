/- The document's put, by hand: a field is put into a span. -/
import Derived.Test.YtfapckmobeppnaaRefF
import Derived.Test.YtfapckmobeppnaaItmJ
namespace Go.Proofs.Ytfapckmobeppnaa.Px
open Go.RowKit Go.Proofs.YtfapckmobeppnaaW.PrintWords Go.Proofs.YtfapckmobeppnaaW.PrintLast Go.Proofs.YtfapckmobeppnaaW.PrintMore
set_option linter.unusedVariables false
set_option linter.unusedSimpArgs false

def RfD.sc (x : Itm.It) (A9 : Option Addr) (c9 : Nat) : Array Value := #[.int .u64 x.hi, .int .u64 x.lo, .int .u64 x.id, .int .u64 x.par, .string x.nm, .int .i64 x.st, .int .i64 x.en, .bool x.bad, .slice A9 x.ats.length c9, .int .u64 x.rv]
theorem RfD.ne : ∀ q, q ∈ 36 :: k36.E → q ≠ 26 := by
 intro q hq
 have : q = 36 := by simpa [k36, Kd.iso, Kd.pair, Kd.string, Kd.scalar] using hq
 omega
theorem RfD.cells10 {w : World} {g t : Nat} {c0 c1 c2 c3 c4 c5 c6 c7 c8 c9 : Value} (h : w.heap[g]? = some (.cells #[c0, c1, c2, c3, c4, c5, c6, c7, c8, c9] t (0, 0))) : w.cell? ⟨g, 0, none⟩ = some c0 ∧ w.cell? ⟨g, 1, none⟩ = some c1 ∧ w.cell? ⟨g, 2, none⟩ = some c2 ∧ w.cell? ⟨g, 3, none⟩ = some c3 ∧ w.cell? ⟨g, 4, none⟩ = some c4 ∧ w.cell? ⟨g, 5, none⟩ = some c5 ∧ w.cell? ⟨g, 6, none⟩ = some c6 ∧ w.cell? ⟨g, 7, none⟩ = some c7 ∧ w.cell? ⟨g, 8, none⟩ = some c8 ∧ w.cell? ⟨g, 9, none⟩ = some c9 := ⟨blk_cell h 0, blk_cell h 1, blk_cell h 2, blk_cell h 3, blk_cell h 4, blk_cell h 5, blk_cell h 6, blk_cell h 7, blk_cell h 8, blk_cell h 9⟩
/-- What holds where put's arms meet. -/
structure RfD.PRel (w1 w : World) (ok : Nat → Prop) (x : Itm.It) (A9 : Option Addr) (c9 : Nat) (W : World) : Prop where
 hS : W.heap[w.heap.size]? = some (.cells (RfD.sc x A9 c9) 26 (0, 0))
 hZ : W.heap[w.heap.size + 2]? = some (.cells #[.int .u64 0, .int .u64 0, .int .u64 0, .int .u64 0, .string ⟨#[]⟩, .int .i64 0, .int .i64 0, .bool false, .slice none 0 0, .int .u64 0] 26 (0, 0))
 hR : Kd.R k36 36 W w1.heap.size (fun k => ok k ∨ w.heap.size ≤ k) (.slice A9 x.ats.length c9) x.ats
 hK : Kept w W ok
 hB : Below w1.heap.size w1 W
def RfD.PPost (w1 w : World) (ok : Nat → Prop) (x x2 : Itm.It) (e : Ending) (w2 : World) : Prop := ∃ A2 c2, e = .returned (.agg (RfD.sc x2 A2 c2)) ∧ Kd.R k36 36 w2 w1.heap.size (fun k => ok k ∨ w.heap.size ≤ k) (.slice A2 x2.ats.length c2) x2.ats ∧ Kept w w2 ok ∧ Below w1.heap.size w1 w2
theorem RfD.PRel.set {w1 w W : World} {ok : Nat → Prop} {x : Itm.It} {A9 : Option Addr} {c9 : Nat} (h : RfD.PRel w1 w ok x A9 c9 W) (hw : w1.heap.size ≤ w.heap.size) (j : Nat) (u : Value) (x' : Itm.It) (e : (RfD.sc x A9 c9).setIfInBounds j u = RfD.sc x' A9 c9) (ea : x'.ats = x.ats) : RfD.PRel w1 w ok x' A9 c9 (W.setCell ⟨w.heap.size, j, none⟩ u) := by
 refine ⟨blk_put h.hS j u e, blk_far h.hZ (p := ⟨w.heap.size, j, none⟩) (show w.heap.size + 2 ≠ w.heap.size by omega) u, ?_, h.hK.setCell (p := ⟨w.heap.size, j, none⟩) (Or.inr (Nat.le_refl _)) u, below_set h.hB hw⟩
 rw [ea]
 exact Kd.R_set h.hR h.hS RfD.ne j u

def RfD.T23 : Bool × List (List Nat × List Nat) := (true, [([], []), ([0], [0]), ([], []), ([], []), ([3], [3]), ([], []), ([4, 5], [4, 5]), ([2, 6], [2, 6]), ([7], [7]), ([1, 8], [1, 8]), ([0, 1, 2, 3, 4, 5, 6, 7, 8, 9], []), ([10, 9, 9, 0, 1, 2, 3, 4, 5, 6, 7, 8, 9], [9, 10])])
theorem RfD.T23_tab : rtab .any (opsOf Try.f49 23) = RfD.T23 := by kernel_rfl
set_option maxHeartbeats 40000000 in
set_option maxRecDepth 100000 in
theorem RfD.put_no (w1 w : World) (x : Itm.It) (A9 : Option Addr) (c9 : Nat) (tn n : Int) (s : ByteArray) (ok : Nat → Prop) (hs : s.size ≤ 100000) (HB1 : Below w1.heap.size w1 w) (hR : Kd.R k36 36 w w1.heap.size ok (.slice A9 x.ats.length c9) x.ats) (k : ByteArray) (up ee : Int) (hg : num_GetText.f (bytesOf s) 0 60 = some (k, up, ee)) (hee : ee ≠ 0) :
  Calls Try.prog 49 #[.agg #[.int .u64 x.hi, .int .u64 x.lo, .int .u64 x.id, .int .u64 x.par, .string x.nm, .int .i64 x.st, .int .i64 x.en, .bool x.bad, .slice A9 x.ats.length c9, .int .u64 x.rv], .agg #[.int .u64 10, .int .i64 tn, .int .u64 n, .string s]] w (RfD.PPost w1 w ok x x) := by
 have hb_e : (ee == 0) = false := beq_eq_false_iff_ne.mpr hee
 obtain ⟨W3, hW3⟩ : ∃ W3, W3 = ((w.alloc (.cells #[.int .u64 x.hi, .int .u64 x.lo, .int .u64 x.id, .int .u64 x.par, .string x.nm, .int .i64 x.st, .int .i64 x.en, .bool x.bad, .slice A9 x.ats.length c9, .int .u64 x.rv] 26 (0, 0))).alloc (.cells #[.int .u64 10, .int .i64 tn, .int .u64 n, .string s] 94 (0, 0))).alloc (.cells #[.int .u64 0, .int .u64 0, .int .u64 0, .int .u64 0, .string ⟨#[]⟩, .int .i64 0, .int .i64 0, .bool false, .slice none 0 0, .int .u64 0] 26 (0, 0)) := ⟨_, rfl⟩
 have q1 : (w.alloc (.cells #[.int .u64 x.hi, .int .u64 x.lo, .int .u64 x.id, .int .u64 x.par, .string x.nm, .int .i64 x.st, .int .i64 x.en, .bool x.bad, .slice A9 x.ats.length c9, .int .u64 x.rv] 26 (0, 0))).heap.size = w.heap.size + 1 := World.size_alloc _ _
 have q2 : ((w.alloc (.cells #[.int .u64 x.hi, .int .u64 x.lo, .int .u64 x.id, .int .u64 x.par, .string x.nm, .int .i64 x.st, .int .i64 x.en, .bool x.bad, .slice A9 x.ats.length c9, .int .u64 x.rv] 26 (0, 0))).alloc (.cells #[.int .u64 10, .int .i64 tn, .int .u64 n, .string s] 94 (0, 0))).heap.size = w.heap.size + 2 := by rw [World.size_alloc, q1]
 have q3 : W3.heap.size = w.heap.size + 3 := by rw [hW3, World.size_alloc, q2]
 have hF : W3.heap[w.heap.size + 1]? = some (.cells #[.int .u64 10, .int .i64 tn, .int .u64 n, .string s] 94 (0, 0)) := by rw [hW3]; have := blk_new (w.alloc (.cells #[.int .u64 x.hi, .int .u64 x.lo, .int .u64 x.id, .int .u64 x.par, .string x.nm, .int .i64 x.st, .int .i64 x.en, .bool x.bad, .slice A9 x.ats.length c9, .int .u64 x.rv] 26 (0, 0))) (.cells #[.int .u64 10, .int .i64 tn, .int .u64 n, .string s] 94 (0, 0)); rw [q1] at this; exact blk_alloc this _
 have hw : w1.heap.size ≤ w.heap.size := HB1.size
 have hP : RfD.PRel w1 w ok x A9 c9 W3 := by
  rw [hW3]
  refine ⟨blk_alloc (blk_alloc (blk_new w _) _) _, by have := blk_new ((w.alloc (.cells #[.int .u64 x.hi, .int .u64 x.lo, .int .u64 x.id, .int .u64 x.par, .string x.nm, .int .i64 x.st, .int .i64 x.en, .bool x.bad, .slice A9 x.ats.length c9, .int .u64 x.rv] 26 (0, 0))).alloc (.cells #[.int .u64 10, .int .i64 tn, .int .u64 n, .string s] 94 (0, 0))) (.cells #[.int .u64 0, .int .u64 0, .int .u64 0, .int .u64 0, .string ⟨#[]⟩, .int .i64 0, .int .i64 0, .bool false, .slice none 0 0, .int .u64 0] 26 (0, 0)); rw [q2] at this; exact this, Kd.R_mono (Kd.R_alloc (Kd.R_alloc (Kd.R_alloc hR _) _) _) (fun _ h => Or.inl h), ?_, below_alloc (below_alloc (below_alloc HB1 _) _) _⟩
  exact Kept.of_below (below_alloc (below_alloc (below_alloc (Below.refl w.heap.size w) _) _) _) ok
 clear q1 q2 HB1 hR
 replace hF := Aside0.mk hF
 replace hP := Aside0.mk hP
 go_enter Try.func49, Try.ntmps49
 go_upto_region 1 with (fail)
 rw [← hW3]
 clear hW3
 have f0 : W3.cell? ⟨w.heap.size + 1, 0, none⟩ = some (.int .u64 10) := blk_cell hF.out 0
 have f2 : W3.cell? ⟨w.heap.size + 1, 2, none⟩ = some (.int .u64 n) := blk_cell hF.out 2
 have f3 : W3.cell? ⟨w.heap.size + 1, 3, none⟩ = some (.string s) := blk_cell hF.out 3
 have kb := fun W => print_bytes (P := Try.prog) 9 22 5 Try.underlying9 Try.underlying22 Try.underlying5 s W
 have hlb : (bytesOf s).length = s.size := bytesOf_length s
 have cG := telemeterref01_GetText.calls 23 (some ⟨W3.heap.size, 0, none⟩) (grownCap W3 s.size 0 5) (bytesOf s) 0 60 k up ee (Lib.bytesWorld W3 5 s) (Kd.F_now (Itm.bytes_F W3 s (by omega))) (by rw [hlb]; exact grownCap_ge _ _ _ _) ((RfF.getText_eq _ (bytesOf_bytes s) (by omega) 0 60 (by omega) 23 (Nat.le_refl _)).trans hg)
 rw [hlb] at cG
 replace cG := Aside0.mk cG
 have hBs := Aside0.mk (bytes_below (Below.refl W3.heap.size W3) (Nat.le_refl _) 5 s)
 replace hg := Aside0.mk hg
 replace q3 := Aside0.mk q3
 go_wp2_with (fail)
 clear kb
 refine cG.out.mono ?_
 clear cG
 rintro e w4 ⟨rfl, hb4⟩
 have hb := Aside0.mk (below_step hBs.out hb4)
 have hP4 : RfD.PRel w1 w ok x A9 c9 w4 := ⟨blk_below hP.out.hS hb.out, blk_below hP.out.hZ hb.out, Kd.R_below hP.out.hR hb.out, hP.out.hK.below hb.out, below_step hP.out.hB hb.out⟩
 have hF4 := blk_below hF.out hb.out
 clear f0 f2 f3 hP hF hBs hb4 hb
 replace hP4 := Aside0.mk hP4
 replace hF4 := Aside0.mk hF4
 clear hF4
 go_upto_region 24 with (fail)
 have hS_ : w4.heap[w.heap.size]? = some (.cells #[.int .u64 x.hi, .int .u64 x.lo, .int .u64 x.id, .int .u64 x.par, .string x.nm, .int .i64 x.st, .int .i64 x.en, .bool x.bad, .slice A9 x.ats.length c9, .int .u64 x.rv] 26 (0, 0)) := hP4.out.hS
 have hZ_ : w4.heap[w.heap.size + 1 + 1]? = some (.cells #[.int .u64 0, .int .u64 0, .int .u64 0, .int .u64 0, .string ⟨#[]⟩, .int .i64 0, .int .i64 0, .bool false, .slice none 0 0, .int .u64 0] 26 (0, 0)) := hP4.out.hZ
 have hQ_ := Aside0.mk hP4.out
 have hu26 := Try.underlying26
 obtain ⟨z0, z1, z2, z3, z4, z5, z6, z7, z8, z9⟩ := RfD.cells10 hS_
 obtain ⟨o0, o1, o2, o3, o4, o5, o6, o7, o8, o9⟩ := RfD.cells10 hZ_
 have p0 := blk_frozen hZ_ 0
 have p1 := blk_frozen hZ_ 1
 have p2 := blk_frozen hZ_ 2
 have p3 := blk_frozen hZ_ 3
 have p4 := blk_frozen hZ_ 4
 have p5 := blk_frozen hZ_ 5
 have p6 := blk_frozen hZ_ 6
 have p7 := blk_frozen hZ_ 7
 have p8 := blk_frozen hZ_ 8
 have p9 := blk_frozen hZ_ 9
 go_wp2_with (fail)
 clear z0 o0 p0 z1 o1 p1 z2 o2 p2 z3 o3 p3 z4 o4 p4 z5 o5 p5 z6 o6 p6 z7 o7 p7 z8 o8 p8 z9 o9 p9
 have hN_ := Spn.store10 w4 (w.heap.size + 1 + 1) _ _ _ _ _ _ _ _ _ _ (.int .u64 x.hi) (.int .u64 x.lo) (.int .u64 x.id) (.int .u64 x.par) (.string x.nm) (.int .i64 x.st) (.int .i64 x.en) (.bool x.bad) (.slice A9 x.ats.length c9) (.int .u64 x.rv) hZ_
 have hR_ := Kd.R_mono (Kd.R_step (Kd.R_types hQ_.out.hR hQ_.out.hZ RfD.ne) (fun k hk _ => Spn.far10 w4 (w.heap.size + 1 + 1) k hk.2 (.int .u64 x.hi) (.int .u64 x.lo) (.int .u64 x.id) (.int .u64 x.par) (.string x.nm) (.int .i64 x.st) (.int .i64 x.en) (.bool x.bad) (.slice A9 x.ats.length c9) (.int .u64 x.rv))) (fun _ h => h.1)
 have hB_ := Spn.below10 w1 w4 (w.heap.size + 1 + 1) hQ_.out.hB (by omega) (.int .u64 x.hi) (.int .u64 x.lo) (.int .u64 x.id) (.int .u64 x.par) (.string x.nm) (.int .i64 x.st) (.int .i64 x.en) (.bool x.bad) (.slice A9 x.ats.length c9) (.int .u64 x.rv)
 have g_ : w.heap.size ≤ w.heap.size + 1 + 1 := by omega
 have hK_ := ((((((((((hQ_.out.hK.setCell (p := ⟨w.heap.size + 1 + 1, 0, none⟩) (Or.inr g_) (.int .u64 x.hi)).setCell (p := ⟨w.heap.size + 1 + 1, 1, none⟩) (Or.inr g_) (.int .u64 x.lo)).setCell (p := ⟨w.heap.size + 1 + 1, 2, none⟩) (Or.inr g_) (.int .u64 x.id)).setCell (p := ⟨w.heap.size + 1 + 1, 3, none⟩) (Or.inr g_) (.int .u64 x.par)).setCell (p := ⟨w.heap.size + 1 + 1, 4, none⟩) (Or.inr g_) (.string x.nm)).setCell (p := ⟨w.heap.size + 1 + 1, 5, none⟩) (Or.inr g_) (.int .i64 x.st)).setCell (p := ⟨w.heap.size + 1 + 1, 6, none⟩) (Or.inr g_) (.int .i64 x.en)).setCell (p := ⟨w.heap.size + 1 + 1, 7, none⟩) (Or.inr g_) (.bool x.bad)).setCell (p := ⟨w.heap.size + 1 + 1, 8, none⟩) (Or.inr g_) (.slice A9 x.ats.length c9)).setCell (p := ⟨w.heap.size + 1 + 1, 9, none⟩) (Or.inr g_) (.int .u64 x.rv))
 clear hS_ hZ_ hQ_
 generalize ((((((((((w4.setCell ⟨w.heap.size + 1 + 1, 0, none⟩ (.int .u64 x.hi)).setCell ⟨w.heap.size + 1 + 1, 1, none⟩ (.int .u64 x.lo)).setCell ⟨w.heap.size + 1 + 1, 2, none⟩ (.int .u64 x.id)).setCell ⟨w.heap.size + 1 + 1, 3, none⟩ (.int .u64 x.par)).setCell ⟨w.heap.size + 1 + 1, 4, none⟩ (.string x.nm)).setCell ⟨w.heap.size + 1 + 1, 5, none⟩ (.int .i64 x.st)).setCell ⟨w.heap.size + 1 + 1, 6, none⟩ (.int .i64 x.en)).setCell ⟨w.heap.size + 1 + 1, 7, none⟩ (.bool x.bad)).setCell ⟨w.heap.size + 1 + 1, 8, none⟩ (.slice A9 x.ats.length c9)).setCell ⟨w.heap.size + 1 + 1, 9, none⟩ (.int .u64 x.rv)) = wf_ at *
 obtain ⟨y0, y1, y2, y3, y4, y5, y6, y7, y8, y9⟩ := RfD.cells10 hN_
 have hres : Try.f49.results = #[.cell 4 26] := by kernel_rfl
 refine bodyPost_ret (v := .agg #[.int .u64 x.hi, .int .u64 x.lo, .int .u64 x.id, .int .u64 x.par, .string x.nm, .int .i64 x.st, .int .i64 x.en, .bool x.bad, .slice A9 x.ats.length c9, .int .u64 x.rv]) ?_ rfl ⟨A9, c9, rfl, hR_, hK_, hB_⟩
 simp only [results, hres]
 go_simp
set_option maxHeartbeats 40000000 in
set_option maxRecDepth 100000 in
theorem RfD.put_attr (w1 w : World) (x : Itm.It) (A9 : Option Addr) (c9 : Nat) (tn n : Int) (s : ByteArray) (ok : Nat → Prop) (hs : s.size ≤ 100000) (HB1 : Below w1.heap.size w1 w) (hR : Kd.R k36 36 w w1.heap.size ok (.slice A9 x.ats.length c9) x.ats) (k : ByteArray) (up : Int) (hg : num_GetText.f (bytesOf s) 0 60 = some (k, up, 0)) (hup : 0 ≤ up ∧ up ≤ s.size) (hlen : x.ats.length ≤ 100000) :
  Calls Try.prog 49 #[.agg #[.int .u64 x.hi, .int .u64 x.lo, .int .u64 x.id, .int .u64 x.par, .string x.nm, .int .i64 x.st, .int .i64 x.en, .bool x.bad, .slice A9 x.ats.length c9, .int .u64 x.rv], .agg #[.int .u64 10, .int .i64 tn, .int .u64 n, .string s]] w (RfD.PPost w1 w ok x { x with ats := x.ats ++ [⟨k, s.extract up.toNat s.size⟩] }) := by
 obtain ⟨hup0, hup1⟩ := hup
 obtain ⟨x2, hx2⟩ : ∃ x2 : Itm.It, x2 = { x with ats := x.ats ++ [⟨k, s.extract up.toNat s.size⟩] } := ⟨_, rfl⟩
 rw [← hx2]
 replace hx2 := Aside0.mk hx2
 obtain ⟨W3, hW3⟩ : ∃ W3, W3 = ((w.alloc (.cells #[.int .u64 x.hi, .int .u64 x.lo, .int .u64 x.id, .int .u64 x.par, .string x.nm, .int .i64 x.st, .int .i64 x.en, .bool x.bad, .slice A9 x.ats.length c9, .int .u64 x.rv] 26 (0, 0))).alloc (.cells #[.int .u64 10, .int .i64 tn, .int .u64 n, .string s] 94 (0, 0))).alloc (.cells #[.int .u64 0, .int .u64 0, .int .u64 0, .int .u64 0, .string ⟨#[]⟩, .int .i64 0, .int .i64 0, .bool false, .slice none 0 0, .int .u64 0] 26 (0, 0)) := ⟨_, rfl⟩
 have q1 : (w.alloc (.cells #[.int .u64 x.hi, .int .u64 x.lo, .int .u64 x.id, .int .u64 x.par, .string x.nm, .int .i64 x.st, .int .i64 x.en, .bool x.bad, .slice A9 x.ats.length c9, .int .u64 x.rv] 26 (0, 0))).heap.size = w.heap.size + 1 := World.size_alloc _ _
 have q2 : ((w.alloc (.cells #[.int .u64 x.hi, .int .u64 x.lo, .int .u64 x.id, .int .u64 x.par, .string x.nm, .int .i64 x.st, .int .i64 x.en, .bool x.bad, .slice A9 x.ats.length c9, .int .u64 x.rv] 26 (0, 0))).alloc (.cells #[.int .u64 10, .int .i64 tn, .int .u64 n, .string s] 94 (0, 0))).heap.size = w.heap.size + 2 := by rw [World.size_alloc, q1]
 have q3 : W3.heap.size = w.heap.size + 3 := by rw [hW3, World.size_alloc, q2]
 have hF : W3.heap[w.heap.size + 1]? = some (.cells #[.int .u64 10, .int .i64 tn, .int .u64 n, .string s] 94 (0, 0)) := by rw [hW3]; have := blk_new (w.alloc (.cells #[.int .u64 x.hi, .int .u64 x.lo, .int .u64 x.id, .int .u64 x.par, .string x.nm, .int .i64 x.st, .int .i64 x.en, .bool x.bad, .slice A9 x.ats.length c9, .int .u64 x.rv] 26 (0, 0))) (.cells #[.int .u64 10, .int .i64 tn, .int .u64 n, .string s] 94 (0, 0)); rw [q1] at this; exact blk_alloc this _
 have hw : w1.heap.size ≤ w.heap.size := HB1.size
 have hP : RfD.PRel w1 w ok x A9 c9 W3 := by
  rw [hW3]
  refine ⟨blk_alloc (blk_alloc (blk_new w _) _) _, by have := blk_new ((w.alloc (.cells #[.int .u64 x.hi, .int .u64 x.lo, .int .u64 x.id, .int .u64 x.par, .string x.nm, .int .i64 x.st, .int .i64 x.en, .bool x.bad, .slice A9 x.ats.length c9, .int .u64 x.rv] 26 (0, 0))).alloc (.cells #[.int .u64 10, .int .i64 tn, .int .u64 n, .string s] 94 (0, 0))) (.cells #[.int .u64 0, .int .u64 0, .int .u64 0, .int .u64 0, .string ⟨#[]⟩, .int .i64 0, .int .i64 0, .bool false, .slice none 0 0, .int .u64 0] 26 (0, 0)); rw [q2] at this; exact this, Kd.R_mono (Kd.R_alloc (Kd.R_alloc (Kd.R_alloc hR _) _) _) (fun _ h => Or.inl h), ?_, below_alloc (below_alloc (below_alloc HB1 _) _) _⟩
  exact Kept.of_below (below_alloc (below_alloc (below_alloc (Below.refl w.heap.size w) _) _) _) ok
 clear q1 q2 HB1 hR
 replace hF := Aside0.mk hF
 replace hP := Aside0.mk hP
 go_enter Try.func49, Try.ntmps49
 go_upto_region 1 with (fail)
 rw [← hW3]
 clear hW3
 have f0 : W3.cell? ⟨w.heap.size + 1, 0, none⟩ = some (.int .u64 10) := blk_cell hF.out 0
 have f2 : W3.cell? ⟨w.heap.size + 1, 2, none⟩ = some (.int .u64 n) := blk_cell hF.out 2
 have f3 : W3.cell? ⟨w.heap.size + 1, 3, none⟩ = some (.string s) := blk_cell hF.out 3
 have kb := fun W => print_bytes (P := Try.prog) 9 22 5 Try.underlying9 Try.underlying22 Try.underlying5 s W
 have hlb : (bytesOf s).length = s.size := bytesOf_length s
 have cG := telemeterref01_GetText.calls 23 (some ⟨W3.heap.size, 0, none⟩) (grownCap W3 s.size 0 5) (bytesOf s) 0 60 k up 0 (Lib.bytesWorld W3 5 s) (Kd.F_now (Itm.bytes_F W3 s (by omega))) (by rw [hlb]; exact grownCap_ge _ _ _ _) ((RfF.getText_eq _ (bytesOf_bytes s) (by omega) 0 60 (by omega) 23 (Nat.le_refl _)).trans hg)
 rw [hlb] at cG
 replace cG := Aside0.mk cG
 have hBs := Aside0.mk (bytes_below (Below.refl W3.heap.size W3) (Nat.le_refl _) 5 s)
 replace hg := Aside0.mk hg
 replace q3 := Aside0.mk q3
 go_wp2_with (fail)
 clear kb
 refine cG.out.mono ?_
 clear cG
 rintro e w4 ⟨rfl, hb4⟩
 have hb := Aside0.mk (below_step hBs.out hb4)
 have hP4 : RfD.PRel w1 w ok x A9 c9 w4 := ⟨blk_below hP.out.hS hb.out, blk_below hP.out.hZ hb.out, Kd.R_below hP.out.hR hb.out, hP.out.hK.below hb.out, below_step hP.out.hB hb.out⟩
 have hF4 := blk_below hF.out hb.out
 clear f0 f2 f3 hP hF hBs hb4 hb
 replace hP4 := Aside0.mk hP4
 replace hF4 := Aside0.mk hF4
 go_upto_region 23 with (fail)
 have hsz : w.heap.size ≤ w4.drew.heap.size := hP4.out.hK.1
 replace hP4 : Aside0 (RfD.PRel w1 w ok x A9 c9 w4.drew) := ⟨blk_drew hP4.out.hS, blk_drew hP4.out.hZ, Kd.R_drew hP4.out.hR, hP4.out.hK.drew, below_drew1 hP4.out.hB⟩
 replace hF4 := Aside0.mk (blk_drew hF4.out)
 refine start_ (n := 12) (S := fun w' => w'.cell? ⟨w.heap.size, 8, none⟩ = some (.slice A9 x.ats.length c9) ∧ w'.cell? ⟨w.heap.size + 1, 3, none⟩ = some (.string s)) (ds := [9, 11]) #[false, false, false, false, false, false, false, false, false, false, false, false] (by kernel_rfl) rfl rfl ⟨(blk_cell hP4.out.hS 8).trans rfl, (blk_cell hF4.out 3).trans rfl⟩ (fun hHeld => ?_)
 refine with_tab RfD.T23_tab (fun HT_ => ?_)
 generalize w4.drew = wd at hHeld hP4 hF4 hsz ⊢
 refine pure_ (i := 0) (N := (some 70)) (v := ?_) (a' := ?_) #[true, false, false, false, false, false, false, false, false, false, false, false] rfl rfl (any_of HT_.out (by kernel_rfl)) (fun _ _ _ h => h) (Or.inl ⟨by rfl, ?_⟩) ?_ ?_
 rotate_left
 ·intro w'
  go_simp
  with_reducible rfl
 rotate_left
 ·simp only [ps_]
  rfl
 refine take_ (i := 1) (N := (some 71)) (v := ?_) (a' := ?_) #[true, true, false, false, false, false, false, false, false, false, false, false] rfl rfl (take_of HT_.out (by kernel_rfl)) (fun _ _ _ h => h) (Or.inl ⟨by rfl, ?_⟩) hHeld ?_ ?_
 rotate_left
 ·rintro w' ⟨s0_, s1_⟩
  go_simp
  with_reducible rfl
 rotate_left
 ·simp only [ps_]
  rfl
 refine pure_ (i := 2) (N := (some 72)) (v := ?_) (a' := ?_) #[true, true, true, false, false, false, false, false, false, false, false, false] rfl rfl (any_of HT_.out (by kernel_rfl)) (fun _ _ _ h => h) (Or.inl ⟨by rfl, ?_⟩) ?_ ?_
 rotate_left
 ·intro w'
  go_simp
  with_reducible rfl
 rotate_left
 ·simp only [ps_]
  rfl
 refine pure_ (i := 3) (N := (some 73)) (v := ?_) (a' := ?_) #[true, true, true, true, false, false, false, false, false, false, false, false] rfl rfl (any_of HT_.out (by kernel_rfl)) (fun _ _ _ h => h) (Or.inl ⟨by rfl, ?_⟩) ?_ ?_
 rotate_left
 ·intro w'
  go_simp
  with_reducible rfl
 rotate_left
 ·simp only [ps_]
  rfl
 refine take_ (i := 4) (N := (some 74)) (v := ?_) (a' := ?_) #[true, true, true, true, true, false, false, false, false, false, false, false] rfl rfl (take_of HT_.out (by kernel_rfl)) (fun _ _ _ h => h) (Or.inl ⟨by rfl, ?_⟩) hHeld ?_ ?_
 rotate_left
 ·rintro w' ⟨s0_, s1_⟩
  go_simp
  with_reducible rfl
 rotate_left
 ·simp only [ps_]
  rfl
 refine pure_ (i := 5) (N := (some 75)) (v := ?_) (a' := ?_) #[true, true, true, true, true, true, false, false, false, false, false, false] rfl rfl (any_of HT_.out (by kernel_rfl)) (fun _ _ _ h => h) (Or.inl ⟨by rfl, ?_⟩) ?_ ?_
 rotate_left
 ·intro w'
  go_simp
  with_reducible rfl
 rotate_left
 ·simp only [ps_]
  rfl
 refine pure_ (i := 6) (N := (some 76)) (v := ?_) (a' := ?_) #[true, true, true, true, true, true, true, false, false, false, false, false] rfl rfl (any_of HT_.out (by kernel_rfl)) (fun _ _ _ h => h) (Or.inl ⟨by rfl, ?_⟩) ?_ ?_
 rotate_left
 ·intro w'
  go_simp
  first | done | with_reducible rfl | rfl
 rotate_left
 ·simp only [ps_]
  rfl
 refine pure_ (i := 7) (N := (some 77)) (v := ?_) (a' := ?_) #[true, true, true, true, true, true, true, true, false, false, false, false] rfl rfl (any_of HT_.out (by kernel_rfl)) (fun _ _ _ h => h) (Or.inl ⟨by rfl, ?_⟩) ?_ ?_
 rotate_left
 ·intro w'
  go_simp
  with_reducible rfl
 rotate_left
 ·simp only [ps_]
  rfl
 refine one_ (i := 8) (N := (some 78)) #[true, true, true, true, true, true, true, true, true, false, false, false] rfl rfl (one_of HT_.out (by kernel_rfl)) (by decide) (fun K hK => ?_)
 refine value_ (w1 := ?_) (v := ?_) (by rfl) rfl ?_ ?_
 rotate_left 2
 ·go_simp
  constructor
  ·rfl
  ·rfl
 refine hK.out _ _ ⟨(blk_cell (blk_alloc hP4.out.hS _) 8).trans rfl, (blk_cell (blk_alloc hF4.out _) 3).trans rfl⟩ (fun hHeld6 => ?_)
 clear hK K
 refine norm_ (a' := ?_) ?_ ?_
 rotate_left
 ·show Act.put _ (some 78) _ = _
  simp only [ps_]
  rfl
 refine last_ (i := 9) (N := (some 79)) #[true, true, true, true, true, true, true, true, true, true, false, false] rfl rfl (one_of HT_.out (by kernel_rfl)) (by decide) (fun K hK => ?_)
 refine Kd.R_append_step k36 (w0 := w1) w1.heap.size (by rfl) (.tmp 71) (.tmp 78) 24 36 (.agg #[(.string ⟨#[]⟩), (.string ⟨#[]⟩)]) 32 rfl Try.underlying24 Spn.info64 rfl (by decide) (by omega) (.slice A9 x.ats.length c9) x.ats (⟨k, s.extract up.toNat s.size⟩ : S36) [.string k, .string (s.extract up.toNat s.size)] (fun k => ok k ∨ w.heap.size ≤ k) (fun _ => False) rfl rfl ?aP (fun _ hk => hk.elim) ?aF ?aO ?aB ?aS ?aL ?_
 case aP => exact k36_mkM _ _ _ _
 case aF => exact fun k_ hk_ => Or.inr (by omega)
 case aO => exact hP4.out.hR
 case aB => exact hP4.out.hB
 case aS => exact hP4.out.hB.size
 case aL => omega
 intro v1 w9 hR1 hB9 hG9 hO9
 clear hHeld6
 have hS9 := Aside0.mk (blk_grown hP4.out.hS hG9 (Kd.R_ne hP4.out.hR hP4.out.hS (by decide)))
 have hZ9 := Aside0.mk (blk_grown hP4.out.hZ hG9 (Kd.R_ne hP4.out.hR hP4.out.hZ (by decide)))
 have hK9 := Aside0.mk (Kept.of_grown hG9 hP4.out.hK (fun k_ hk_ => hP4.out.hR.1 k_ hk_))
 obtain ⟨Av, cv, hv1⟩ := Kd.R_slice hR1
 subst hv1
 have hln : (x.ats ++ [(⟨k, s.extract up.toNat s.size⟩ : S36)]).length = x.ats.length + 1 := by simp
 rw [hln] at hR1 ⊢
 replace hR1 := Aside0.mk hR1
 replace hB9 := Aside0.mk hB9
 clear hG9 hO9 hHeld hF4 hP4
 refine hK.out _ _ ?_
 clear hK K
 refine norm_ (a' := ?_) ?_ ?_
 rotate_left
 ·show Act.put _ (some 79) _ = _
  simp only [ps_]
  rfl
 refine pure_ (i := 10) (N := (some 80)) (v := ?_) (a' := ?_) #[true, true, true, true, true, true, true, true, true, true, true, false] rfl rfl (any_of HT_.out (by kernel_rfl)) (fun _ _ _ h => h) (Or.inl ⟨by rfl, ?_⟩) ?_ ?_
 rotate_left
 ·intro w'
  go_simp
  with_reducible rfl
 rotate_left
 ·simp only [ps_]
  rfl
 refine last_ (i := 11) (N := none) #[true, true, true, true, true, true, true, true, true, true, true, true] rfl rfl (one_of HT_.out (by kernel_rfl)) (by decide) (fun K hK => ?_)
 have z8 : w9.cell? ⟨w.heap.size, 8, none⟩ = some (.slice A9 x.ats.length c9) := (blk_cell hS9.out 8).trans rfl
 have fz8 := blk_frozen hS9.out 8
 refine skip_ (w1 := ?_) (by rfl) rfl ?_ ?_
 rotate_left
 ·go_simp
  rfl
 refine hK.out _ _ ?_
 clear hK K z8 fz8
 refine done_ (done_of HT_.out (by kernel_rfl)) ?_
 clear HT_
 have hQ5 : RfD.PRel w1 w ok x2 Av cv (w9.setCell ⟨w.heap.size, 8, none⟩ (.slice Av (x.ats.length + 1) cv)) := by
  rw [hx2.out]
  refine ⟨blk_put hS9.out 8 (.slice Av (x.ats.length + 1) cv) ?_, blk_far hZ9.out (p := ⟨w.heap.size, 8, none⟩) (show w.heap.size + 2 ≠ w.heap.size by omega) _, ?_, hK9.out.setCell (p := ⟨w.heap.size, 8, none⟩) (Or.inr (Nat.le_refl _)) _, below_set hB9.out hw⟩
  ·simp only [RfD.sc, List.length_append, List.length_cons, List.length_nil]
   rfl
  ·have := Kd.R_set hR1.out hS9.out RfD.ne 8 (.slice Av (x.ats.length + 1) cv)
   simpa using this
 generalize w9.setCell ⟨w.heap.size, 8, none⟩ (.slice Av (x.ats.length + 1) cv) = w10 at *
 clear hS9 hZ9 hK9 hB9 hR1 hln
 have hS_ : w10.heap[w.heap.size]? = some (.cells #[.int .u64 x2.hi, .int .u64 x2.lo, .int .u64 x2.id, .int .u64 x2.par, .string x2.nm, .int .i64 x2.st, .int .i64 x2.en, .bool x2.bad, .slice Av x2.ats.length cv, .int .u64 x2.rv] 26 (0, 0)) := hQ5.hS
 have hZ_ : w10.heap[w.heap.size + 1 + 1]? = some (.cells #[.int .u64 0, .int .u64 0, .int .u64 0, .int .u64 0, .string ⟨#[]⟩, .int .i64 0, .int .i64 0, .bool false, .slice none 0 0, .int .u64 0] 26 (0, 0)) := hQ5.hZ
 have hQ_ := Aside0.mk hQ5
 have hu26 := Try.underlying26
 obtain ⟨z0, z1, z2, z3, z4, z5, z6, z7, z8, z9⟩ := RfD.cells10 hS_
 obtain ⟨o0, o1, o2, o3, o4, o5, o6, o7, o8, o9⟩ := RfD.cells10 hZ_
 have p0 := blk_frozen hZ_ 0
 have p1 := blk_frozen hZ_ 1
 have p2 := blk_frozen hZ_ 2
 have p3 := blk_frozen hZ_ 3
 have p4 := blk_frozen hZ_ 4
 have p5 := blk_frozen hZ_ 5
 have p6 := blk_frozen hZ_ 6
 have p7 := blk_frozen hZ_ 7
 have p8 := blk_frozen hZ_ 8
 have p9 := blk_frozen hZ_ 9
 go_wp2_with (fail)
 clear z0 o0 p0 z1 o1 p1 z2 o2 p2 z3 o3 p3 z4 o4 p4 z5 o5 p5 z6 o6 p6 z7 o7 p7 z8 o8 p8 z9 o9 p9
 have hN_ := Spn.store10 w10 (w.heap.size + 1 + 1) _ _ _ _ _ _ _ _ _ _ (.int .u64 x2.hi) (.int .u64 x2.lo) (.int .u64 x2.id) (.int .u64 x2.par) (.string x2.nm) (.int .i64 x2.st) (.int .i64 x2.en) (.bool x2.bad) (.slice Av x2.ats.length cv) (.int .u64 x2.rv) hZ_
 have hR_ := Kd.R_mono (Kd.R_step (Kd.R_types hQ_.out.hR hQ_.out.hZ RfD.ne) (fun k hk _ => Spn.far10 w10 (w.heap.size + 1 + 1) k hk.2 (.int .u64 x2.hi) (.int .u64 x2.lo) (.int .u64 x2.id) (.int .u64 x2.par) (.string x2.nm) (.int .i64 x2.st) (.int .i64 x2.en) (.bool x2.bad) (.slice Av x2.ats.length cv) (.int .u64 x2.rv))) (fun _ h => h.1)
 have hB_ := Spn.below10 w1 w10 (w.heap.size + 1 + 1) hQ_.out.hB (by omega) (.int .u64 x2.hi) (.int .u64 x2.lo) (.int .u64 x2.id) (.int .u64 x2.par) (.string x2.nm) (.int .i64 x2.st) (.int .i64 x2.en) (.bool x2.bad) (.slice Av x2.ats.length cv) (.int .u64 x2.rv)
 have g_ : w.heap.size ≤ w.heap.size + 1 + 1 := by omega
 have hK_ := ((((((((((hQ_.out.hK.setCell (p := ⟨w.heap.size + 1 + 1, 0, none⟩) (Or.inr g_) (.int .u64 x2.hi)).setCell (p := ⟨w.heap.size + 1 + 1, 1, none⟩) (Or.inr g_) (.int .u64 x2.lo)).setCell (p := ⟨w.heap.size + 1 + 1, 2, none⟩) (Or.inr g_) (.int .u64 x2.id)).setCell (p := ⟨w.heap.size + 1 + 1, 3, none⟩) (Or.inr g_) (.int .u64 x2.par)).setCell (p := ⟨w.heap.size + 1 + 1, 4, none⟩) (Or.inr g_) (.string x2.nm)).setCell (p := ⟨w.heap.size + 1 + 1, 5, none⟩) (Or.inr g_) (.int .i64 x2.st)).setCell (p := ⟨w.heap.size + 1 + 1, 6, none⟩) (Or.inr g_) (.int .i64 x2.en)).setCell (p := ⟨w.heap.size + 1 + 1, 7, none⟩) (Or.inr g_) (.bool x2.bad)).setCell (p := ⟨w.heap.size + 1 + 1, 8, none⟩) (Or.inr g_) (.slice Av x2.ats.length cv)).setCell (p := ⟨w.heap.size + 1 + 1, 9, none⟩) (Or.inr g_) (.int .u64 x2.rv))
 clear hS_ hZ_ hQ_
 generalize ((((((((((w10.setCell ⟨w.heap.size + 1 + 1, 0, none⟩ (.int .u64 x2.hi)).setCell ⟨w.heap.size + 1 + 1, 1, none⟩ (.int .u64 x2.lo)).setCell ⟨w.heap.size + 1 + 1, 2, none⟩ (.int .u64 x2.id)).setCell ⟨w.heap.size + 1 + 1, 3, none⟩ (.int .u64 x2.par)).setCell ⟨w.heap.size + 1 + 1, 4, none⟩ (.string x2.nm)).setCell ⟨w.heap.size + 1 + 1, 5, none⟩ (.int .i64 x2.st)).setCell ⟨w.heap.size + 1 + 1, 6, none⟩ (.int .i64 x2.en)).setCell ⟨w.heap.size + 1 + 1, 7, none⟩ (.bool x2.bad)).setCell ⟨w.heap.size + 1 + 1, 8, none⟩ (.slice Av x2.ats.length cv)).setCell ⟨w.heap.size + 1 + 1, 9, none⟩ (.int .u64 x2.rv)) = wf_ at *
 obtain ⟨y0, y1, y2, y3, y4, y5, y6, y7, y8, y9⟩ := RfD.cells10 hN_
 have hres : Try.f49.results = #[.cell 4 26] := by kernel_rfl
 refine bodyPost_ret (v := .agg #[.int .u64 x2.hi, .int .u64 x2.lo, .int .u64 x2.id, .int .u64 x2.par, .string x2.nm, .int .i64 x2.st, .int .i64 x2.en, .bool x2.bad, .slice Av x2.ats.length cv, .int .u64 x2.rv]) ?_ rfl ⟨Av, cv, rfl, hR_, hK_, hB_⟩
 simp only [results, hres]
 go_simp
end Go.Proofs.Ytfapckmobeppnaa.Px
