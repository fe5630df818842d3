/- The reader: next. -/
import Derived.Test.YtfapckmobeppnaaItmE
import Derived.Test.YtfapckmobeppnaaPx1
namespace Go.Proofs.Ytfapckmobeppnaa.Px
open Go.RowKit Go.Proofs.YtfapckmobeppnaaW.PrintWords Go.Proofs.YtfapckmobeppnaaW.PrintLast Go.Proofs.YtfapckmobeppnaaW.PrintMore
set_option linter.unusedVariables false
set_option linter.unusedSimpArgs false

def Itm.T40 : Bool × List (List Nat × List Nat) := (true, [([], []), ([0], [0]), ([1], [1]), ([2], [2]), ([], []), ([4], [4]), ([5], [5]), ([6], [6]), ([3, 7], [3, 7]), ([8], [8]), ([9], [9]), ([9], [9]), ([9], [9]), ([10, 8, 0, 1, 2, 3, 4, 5, 6, 7, 8, 9, 10], [10]), ([11, 13, 0, 1, 2, 3, 4, 5, 6, 7, 8, 9, 10, 11, 13], [11]), ([12, 14, 0, 1, 2, 3, 4, 5, 6, 7, 8, 9, 10, 11, 12, 13, 14], [12])])
theorem Itm.T40_tab : rtab .any (opsOf Try.f40 1) = Itm.T40 := by kernel_rfl
end Go.Proofs.Ytfapckmobeppnaa.Px

/- The reader's log. -/
namespace Go.Proofs.Ytfapckmobeppnaa.Px
open Go.RowKit Go.Proofs.YtfapckmobeppnaaW.PrintWords Go.Proofs.YtfapckmobeppnaaW.PrintLast Go.Proofs.YtfapckmobeppnaaW.PrintMore
set_option linter.unusedVariables false
set_option linter.unusedSimpArgs false

set_option maxHeartbeats 1000000 in
set_option maxRecDepth 100000 in
theorem Itm.rlog_key (w0 w : World) (rb : Nat) (C : Array Value) (n : Int) (s : ByteArray) (tx : Bool) (old : Value) (HB0 : Below w0.heap.size w0 w) (hrb0 : w0.heap.size ≤ rb) (hC : w.heap[rb]? = some (.cells C 79 (0, 0))) (ho : C[11]? = some old) :
  Calls Try.prog 38 #[.pointer (some ⟨rb, 0, none⟩), .agg #[.int .u64 1, .int .u64 n, .string s, .bool tx]] w fun e w' => (∃ v, e = .returned v) ∧ w'.heap[rb]? = some (.cells (C.setIfInBounds 11 (.string s)) 79 (0, 0)) ∧ Kept w w' (fun k => k = rb) ∧ Below w0.heap.size w0 w' := by
 have hlt := blk_lt hC
 have hBB := Aside0.mk (below_set (j := 11) (v := .string s) (below_alloc HB0 (.cells #[.int .u64 1, .int .u64 n, .string s, .bool tx] 82 (0, 0))) hrb0)
 have hb1 := blk_alloc hC (.cells #[.int .u64 1, .int .u64 n, .string s, .bool tx] 82 (0, 0))
 have hK1 := Aside0.mk (Kept.alloc (Kept.refl w (fun k => k = rb)) (.cells #[.int .u64 1, .int .u64 n, .string s, .bool tx] 82 (0, 0)))
 have hf1 := blk_new w (.cells #[.int .u64 1, .int .u64 n, .string s, .bool tx] 82 (0, 0))
 go_enter Try.func38, Try.ntmps38
 obtain ⟨W1, hW1⟩ : ∃ W1, W1 = w.alloc (.cells #[.int .u64 1, .int .u64 n, .string s, .bool tx] 82 (0, 0)) := ⟨_, rfl⟩
 rw [← hW1] at hb1 hK1 hf1 hBB
 go_upto_region 1 with (fail)
 rw [← hW1]
 clear hW1 hC
 have z0 : W1.cell? ⟨w.heap.size, 0, none⟩ = some (.int .u64 1) := blk_cell hf1 0
 have z1 : W1.cell? ⟨w.heap.size, 1, none⟩ = some (.int .u64 n) := blk_cell hf1 1
 have z2 : W1.cell? ⟨w.heap.size, 2, none⟩ = some (.string s) := blk_cell hf1 2
 have y : W1.cell? ⟨rb, 11, none⟩ = some old := (blk_cell hb1 11).trans ho
 have yf := blk_frozen hb1 11
 have hb2 := Aside0.mk (blk_set hb1 11 (.string s))
 have hK2 := Aside0.mk (hK1.out.setCell (p := ⟨rb, 11, none⟩) (Or.inl rfl) (.string s))
 clear hb1 hK1 hf1
 go_wp2_with (fail)
 go_end0
 exact ⟨⟨_, rfl⟩, hb2.out, hK2.out, hBB.out⟩
set_option maxHeartbeats 1000000 in
set_option maxRecDepth 100000 in
theorem Itm.rlog_weight (w0 w : World) (rb : Nat) (C : Array Value) (n : Int) (s : ByteArray) (tx : Bool) (old : Value) (HB0 : Below w0.heap.size w0 w) (hrb0 : w0.heap.size ≤ rb) (hC : w.heap[rb]? = some (.cells C 79 (0, 0))) (ho : C[12]? = some old) :
  Calls Try.prog 38 #[.pointer (some ⟨rb, 0, none⟩), .agg #[.int .u64 2, .int .u64 n, .string s, .bool tx]] w fun e w' => (∃ v, e = .returned v) ∧ w'.heap[rb]? = some (.cells (C.setIfInBounds 12 (.int .u64 n)) 79 (0, 0)) ∧ Kept w w' (fun k => k = rb) ∧ Below w0.heap.size w0 w' := by
 have hlt := blk_lt hC
 have hBB := Aside0.mk (below_set (j := 12) (v := .int .u64 n) (below_alloc HB0 (.cells #[.int .u64 2, .int .u64 n, .string s, .bool tx] 82 (0, 0))) hrb0)
 have hb1 := blk_alloc hC (.cells #[.int .u64 2, .int .u64 n, .string s, .bool tx] 82 (0, 0))
 have hK1 := Aside0.mk (Kept.alloc (Kept.refl w (fun k => k = rb)) (.cells #[.int .u64 2, .int .u64 n, .string s, .bool tx] 82 (0, 0)))
 have hf1 := blk_new w (.cells #[.int .u64 2, .int .u64 n, .string s, .bool tx] 82 (0, 0))
 go_enter Try.func38, Try.ntmps38
 obtain ⟨W1, hW1⟩ : ∃ W1, W1 = w.alloc (.cells #[.int .u64 2, .int .u64 n, .string s, .bool tx] 82 (0, 0)) := ⟨_, rfl⟩
 rw [← hW1] at hb1 hK1 hf1 hBB
 go_upto_region 1 with (fail)
 rw [← hW1]
 clear hW1 hC
 have z0 : W1.cell? ⟨w.heap.size, 0, none⟩ = some (.int .u64 2) := blk_cell hf1 0
 have z1 : W1.cell? ⟨w.heap.size, 1, none⟩ = some (.int .u64 n) := blk_cell hf1 1
 have z2 : W1.cell? ⟨w.heap.size, 2, none⟩ = some (.string s) := blk_cell hf1 2
 have y : W1.cell? ⟨rb, 12, none⟩ = some old := (blk_cell hb1 12).trans ho
 have yf := blk_frozen hb1 12
 have hb2 := Aside0.mk (blk_set hb1 12 (.int .u64 n))
 have hK2 := Aside0.mk (hK1.out.setCell (p := ⟨rb, 12, none⟩) (Or.inl rfl) (.int .u64 n))
 clear hb1 hK1 hf1
 go_wp2_with (fail)
 go_end0
 exact ⟨⟨_, rfl⟩, hb2.out, hK2.out, hBB.out⟩
set_option maxHeartbeats 1000000 in
set_option maxRecDepth 100000 in
theorem Itm.rlog_body (w0 w : World) (rb : Nat) (C : Array Value) (n : Int) (s : ByteArray) (tx : Bool) (old : Value) (HB0 : Below w0.heap.size w0 w) (hrb0 : w0.heap.size ≤ rb) (hC : w.heap[rb]? = some (.cells C 79 (0, 0))) (ho : C[14]? = some old) :
  Calls Try.prog 38 #[.pointer (some ⟨rb, 0, none⟩), .agg #[.int .u64 4, .int .u64 n, .string s, .bool tx]] w fun e w' => (∃ v, e = .returned v) ∧ w'.heap[rb]? = some (.cells (C.setIfInBounds 14 (.string s)) 79 (0, 0)) ∧ Kept w w' (fun k => k = rb) ∧ Below w0.heap.size w0 w' := by
 have hlt := blk_lt hC
 have hBB := Aside0.mk (below_set (j := 14) (v := .string s) (below_alloc HB0 (.cells #[.int .u64 4, .int .u64 n, .string s, .bool tx] 82 (0, 0))) hrb0)
 have hb1 := blk_alloc hC (.cells #[.int .u64 4, .int .u64 n, .string s, .bool tx] 82 (0, 0))
 have hK1 := Aside0.mk (Kept.alloc (Kept.refl w (fun k => k = rb)) (.cells #[.int .u64 4, .int .u64 n, .string s, .bool tx] 82 (0, 0)))
 have hf1 := blk_new w (.cells #[.int .u64 4, .int .u64 n, .string s, .bool tx] 82 (0, 0))
 go_enter Try.func38, Try.ntmps38
 obtain ⟨W1, hW1⟩ : ∃ W1, W1 = w.alloc (.cells #[.int .u64 4, .int .u64 n, .string s, .bool tx] 82 (0, 0)) := ⟨_, rfl⟩
 rw [← hW1] at hb1 hK1 hf1 hBB
 go_upto_region 1 with (fail)
 rw [← hW1]
 clear hW1 hC
 have z0 : W1.cell? ⟨w.heap.size, 0, none⟩ = some (.int .u64 4) := blk_cell hf1 0
 have z1 : W1.cell? ⟨w.heap.size, 1, none⟩ = some (.int .u64 n) := blk_cell hf1 1
 have z2 : W1.cell? ⟨w.heap.size, 2, none⟩ = some (.string s) := blk_cell hf1 2
 have y : W1.cell? ⟨rb, 14, none⟩ = some old := (blk_cell hb1 14).trans ho
 have yf := blk_frozen hb1 14
 have hb2 := Aside0.mk (blk_set hb1 14 (.string s))
 have hK2 := Aside0.mk (hK1.out.setCell (p := ⟨rb, 14, none⟩) (Or.inl rfl) (.string s))
 clear hb1 hK1 hf1
 go_wp2_with (fail)
 go_end0
 exact ⟨⟨_, rfl⟩, hb2.out, hK2.out, hBB.out⟩
end Go.Proofs.Ytfapckmobeppnaa.Px
