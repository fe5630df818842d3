/- The reader's span: an attribute. -/
import Derived.Test.YtfapckmobeppnaaItmI
import Derived.Test.YtfapckmobeppnaaSpan
namespace Go.Proofs.Ytfapckmobeppnaa.Px
open Go.RowKit Go.Proofs.YtfapckmobeppnaaW.PrintWords Go.Proofs.YtfapckmobeppnaaW.PrintLast Go.Proofs.YtfapckmobeppnaaW.PrintMore
set_option linter.unusedVariables false
set_option linter.unusedSimpArgs false

def Itm.T24 : Bool × List (List Nat × List Nat) := (true, [([], []), ([], []), ([1], [1]), ([2], [2]), ([3], [3]), ([], []), ([], []), ([6], [6]), ([], []), ([7, 8], [7, 8]), ([5, 9], [5, 9]), ([10], [10]), ([4, 11], [4, 11]), ([0, 0, 1, 2, 3, 4, 5, 6, 7, 8, 9, 10, 11, 12], [0]), ([13, 0, 1, 2, 3, 4, 5, 6, 7, 8, 9, 10, 11, 12], [13]), ([14, 12, 12, 0, 1, 2, 3, 4, 5, 6, 7, 8, 9, 10, 11, 12], [12, 14])])
theorem Itm.T24_tab : rtab .any (opsOf Try.f39 24) = Itm.T24 := by kernel_rfl
theorem Itm.E79 : ∀ q, q ∈ 36 :: k36.E → q ≠ 79 := by
 intro q hq
 have : q = 36 := by simpa [k36, Kd.iso, Kd.pair, Kd.string, Kd.scalar] using hq
 omega
set_option maxHeartbeats 1000000 in
set_option maxRecDepth 100000 in
theorem Itm.rspan_attr (w0 w : World) (rb : Nat) (C : Array Value) (n : Int) (s : ByteArray) (tx : Bool) (ok : Nat → Prop) (A9 : Option Addr) (c9 : Nat) (ats : List S36) (k : ByteArray) (up : Int) (HB0 : Below w0.heap.size w0 w) (hrb0 : w0.heap.size ≤ rb) (hC : w.heap[rb]? = some (.cells C 79 (0, 0))) (ho : C[9]? = some (.slice A9 ats.length c9))
  (hR : Kd.R k36 36 w w0.heap.size ok (.slice A9 ats.length c9) ats) (hok : ¬ ok rb) (hs : s.size ≤ 140737488355328) (hg : num_GetText.f (bytesOf s) 0 60 = some (k, up, 0)) (hto : 0 ≤ up ∧ up ≤ s.size) (hlen : ats.length ≤ 100000) :
  Calls Try.prog 39 #[.pointer (some ⟨rb, 0, none⟩), .agg #[.int .u64 10, .int .u64 n, .string s, .bool tx]] w fun e w' => (∃ v, e = .returned v) ∧ (∃ A' c', w'.heap[rb]? = some (.cells (C.setIfInBounds 9 (.slice A' (ats.length + 1) c')) 79 (0, 0)) ∧ Kd.R k36 36 w' w0.heap.size (fun k => ok k ∨ w.heap.size ≤ k) (.slice A' (ats.length + 1) c') (ats ++ [⟨k, s.extract up.toNat s.size⟩])) ∧ Kept w w' (fun k => ok k ∨ k = rb) ∧ Below w0.heap.size w0 w' := by
 have kb := fun W => print_bytes (P := Try.prog) 9 22 5 Try.underlying9 Try.underlying22 Try.underlying5 s W
 have hlt := blk_lt hC
 have hBB := Aside0.mk (below_alloc HB0 (.cells #[.int .u64 10, .int .u64 n, .string s, .bool tx] 82 (0, 0)))
 have hB1 := Aside0.mk (below_alloc (Below.refl w.heap.size w) (.cells #[.int .u64 10, .int .u64 n, .string s, .bool tx] 82 (0, 0)))
 have hb1 := blk_alloc hC (.cells #[.int .u64 10, .int .u64 n, .string s, .bool tx] 82 (0, 0))
 have hf1 := blk_new w (.cells #[.int .u64 10, .int .u64 n, .string s, .bool tx] 82 (0, 0))
 replace hR := Aside0.mk hR
 have hs1 : (w.alloc (.cells #[.int .u64 10, .int .u64 n, .string s, .bool tx] 82 (0, 0))).heap.size = w.heap.size + 1 := World.size_alloc _ _
 go_enter Try.func39, Try.ntmps39
 obtain ⟨W1, hW1⟩ : ∃ W1, W1 = w.alloc (.cells #[.int .u64 10, .int .u64 n, .string s, .bool tx] 82 (0, 0)) := ⟨_, rfl⟩
 rw [← hW1] at hb1 hB1 hf1 hBB hs1
 go_upto_region 1 with (fail)
 rw [← hW1]
 clear hW1 hC
 have z0 : W1.cell? ⟨w.heap.size, 0, none⟩ = some (.int .u64 10) := blk_cell hf1 0
 have z1 : W1.cell? ⟨w.heap.size, 1, none⟩ = some (.int .u64 n) := blk_cell hf1 1
 have z2 : W1.cell? ⟨w.heap.size, 2, none⟩ = some (.string s) := blk_cell hf1 2
 have hF := Aside0.mk (Itm.bytes_F W1 s (by omega))
 have hB := Aside0.mk (bytes_below (Below.refl W1.heap.size W1) (Nat.le_refl _) 5 s)
 have hfm := Aside0.mk hf1; have hbm := Aside0.mk hb1
 clear hf1 hb1
 go_wp2_with (fail)
 clear kb
 have hlb : (bytesOf s).length = s.size := bytesOf_length s
 have cG := Num.GetText_same (some ⟨w.heap.size + 1, 0, none⟩) (grownCap W1 s.size 0 5) (bytesOf s) 0 60 k up 0 (Lib.bytesWorld W1 5 s) (by have := Kd.F_now hF.out; rw [hs1] at this; exact this) (by rw [hlb]; exact grownCap_ge _ _ _ _) hg
 rw [hlb] at cG
 refine cG.mono ?_
 clear cG
 rintro e w2 ⟨rfl, hw2⟩
 have hBs := hB.out
 rw [hw2] at hBs
 clear hw2
 have hB2 := Aside0.mk (below_step hB1.out hBs)
 have hBB2 := Aside0.mk (below_step hBB.out hBs)
 have hf2 := Aside0.mk (blk_below hfm.out hBs)
 have hb2 := Aside0.mk (blk_below hbm.out hBs)
 have z2' : w2.cell? ⟨w.heap.size, 2, none⟩ = some (.string s) := blk_cell hf2.out 2
 have y9 : w2.cell? ⟨rb, 9, none⟩ = some (.slice A9 ats.length c9) := (blk_cell hb2.out 9).trans ho
 clear z0 z1 z2 hF hB hfm hbm hBs hB1 hBB
 go_wp2_with (fail)
 have hOK : ¬ (ok rb ∨ w.heap.size ≤ rb) := by rintro (h_ | h_); exact hok h_; omega
 have hbd := Aside0.mk (blk_drew hb2.out)
 have hfd := Aside0.mk (blk_drew hf2.out)
 have hRd := Aside0.mk (Kd.R_drew (Kd.R_mono (ok' := fun k => ok k ∨ w.heap.size ≤ k) (Kd.R_below hR.out hB2.out) (fun _ h_ => Or.inl h_)))
 have HBd := Aside0.mk (below_drew hBB2.out)
 have HKd := Aside0.mk (Kept.drew (Kept.of_below hB2.out (fun k => ok k ∨ k = rb)))
 have hsd : w.heap.size ≤ w2.drew.heap.size := by have := hB2.out.size; simpa using this
 have hup0 : 0 ≤ up := hto.1
 have hup1 : up ≤ (s.size : Int) := hto.2
 clear hb2 hf2 hB2 hBB2 z2' y9 hR hg
 refine start_ (n := 16) (S := fun w' => w'.cell? ⟨w.heap.size, 2, none⟩ = some (.string s) ∧ w'.cell? ⟨rb, 9, none⟩ = some (.slice A9 ats.length c9)) (ds := [12, 15]) #[false, false, false, false, false, false, false, false, false, false, false, false, false, false, false, false] (by kernel_rfl) rfl rfl ⟨(blk_cell hfd.out 2).trans rfl, (blk_cell hbd.out 9).trans ho⟩ (fun hHeld => ?_)
 refine with_tab Itm.T24_tab (fun HT_ => ?_)
 generalize w2.drew = wd at hHeld hbd hfd hRd HBd HKd hsd ⊢
 refine pure_ (i := 0) (N := (some 92)) (v := ?_) (a' := ?_) #[true, false, false, false, false, false, false, false, false, false, false, false, false, false, false, false] rfl rfl (any_of HT_.out (by kernel_rfl)) (fun _ _ _ h => h) (Or.inl ⟨by rfl, ?_⟩) ?_ ?_
 rotate_left
 ·intro w'
  go_simp
  with_reducible rfl
 rotate_left
 ·simp only [ps_]
  rfl
 refine pure_ (i := 1) (N := (some 93)) (v := ?_) (a' := ?_) #[true, true, false, false, false, false, false, false, false, false, false, false, false, false, false, false] rfl rfl (any_of HT_.out (by kernel_rfl)) (fun _ _ _ h => h) (Or.inl ⟨by rfl, ?_⟩) ?_ ?_
 rotate_left
 ·intro w'
  go_simp
  with_reducible rfl
 rotate_left
 ·simp only [ps_]
  rfl
 refine pure_ (i := 2) (N := (some 94)) (v := ?_) (a' := ?_) #[true, true, true, false, false, false, false, false, false, false, false, false, false, false, false, false] rfl rfl (any_of HT_.out (by kernel_rfl)) (fun _ _ _ h => h) (Or.inl ⟨by rfl, ?_⟩) ?_ ?_
 rotate_left
 ·intro w'
  go_simp
  with_reducible rfl
 rotate_left
 ·simp only [ps_]
  rfl
 refine pure_ (i := 3) (N := (some 95)) (v := ?_) (a' := ?_) #[true, true, true, true, false, false, false, false, false, false, false, false, false, false, false, false] rfl rfl (any_of HT_.out (by kernel_rfl)) (fun _ _ _ h => h) (Or.inl ⟨by rfl, ?_⟩) ?_ ?_
 rotate_left
 ·intro w'
  go_simp
  with_reducible rfl
 rotate_left
 ·simp only [ps_]
  rfl
 refine take_ (i := 4) (N := (some 96)) (v := ?_) (a' := ?_) #[true, true, true, true, true, false, false, false, false, false, false, false, false, false, false, false] rfl rfl (take_of HT_.out (by kernel_rfl)) (fun _ _ _ h => h) (Or.inl ⟨by rfl, ?_⟩) hHeld ?_ ?_
 rotate_left
 ·rintro w' ⟨s0, s1⟩
  go_simp
  with_reducible rfl
 rotate_left
 ·simp only [ps_]
  rfl
 refine pure_ (i := 5) (N := (some 97)) (v := ?_) (a' := ?_) #[true, true, true, true, true, true, false, false, false, false, false, false, false, false, false, false] rfl rfl (any_of HT_.out (by kernel_rfl)) (fun _ _ _ h => h) (Or.inl ⟨by rfl, ?_⟩) ?_ ?_
 rotate_left
 ·intro w'
  go_simp
  with_reducible rfl
 rotate_left
 ·simp only [ps_]
  rfl
 refine pure_ (i := 6) (N := (some 98)) (v := ?_) (a' := ?_) #[true, true, true, true, true, true, true, false, false, false, false, false, false, false, false, false] rfl rfl (any_of HT_.out (by kernel_rfl)) (fun _ _ _ h => h) (Or.inl ⟨by rfl, ?_⟩) ?_ ?_
 rotate_left
 ·intro w'
  go_simp
  with_reducible rfl
 rotate_left
 ·simp only [ps_]
  rfl
 refine take_ (i := 7) (N := (some 99)) (v := ?_) (a' := ?_) #[true, true, true, true, true, true, true, true, false, false, false, false, false, false, false, false] rfl rfl (take_of HT_.out (by kernel_rfl)) (fun _ _ _ h => h) (Or.inl ⟨by rfl, ?_⟩) hHeld ?_ ?_
 rotate_left
 ·rintro w' ⟨s0, s1⟩
  go_simp
  with_reducible rfl
 rotate_left
 ·simp only [ps_]
  rfl
 refine pure_ (i := 8) (N := (some 100)) (v := ?_) (a' := ?_) #[true, true, true, true, true, true, true, true, true, false, false, false, false, false, false, false] rfl rfl (any_of HT_.out (by kernel_rfl)) (fun _ _ _ h => h) (Or.inl ⟨by rfl, ?_⟩) ?_ ?_
 rotate_left
 ·intro w'
  go_simp
  with_reducible rfl
 rotate_left
 ·simp only [ps_]
  rfl
 refine pure_ (i := 9) (N := (some 101)) (v := ?_) (a' := ?_) #[true, true, true, true, true, true, true, true, true, true, false, false, false, false, false, false] rfl rfl (any_of HT_.out (by kernel_rfl)) (fun _ _ _ h => h) (Or.inl ⟨by rfl, ?_⟩) ?_ ?_
 rotate_left
 ·intro w'
  go_simp
  first | done | with_reducible rfl | rfl
 rotate_left
 ·simp only [ps_]
  rfl
 refine pure_ (i := 10) (N := (some 102)) (v := ?_) (a' := ?_) #[true, true, true, true, true, true, true, true, true, true, true, false, false, false, false, false] rfl rfl (any_of HT_.out (by kernel_rfl)) (fun _ _ _ h => h) (Or.inl ⟨by rfl, ?_⟩) ?_ ?_
 rotate_left
 ·intro w'
  go_simp
  with_reducible rfl
 rotate_left
 ·simp only [ps_]
  rfl
 refine one_ (i := 11) (N := (some 103)) #[true, true, true, true, true, true, true, true, true, true, true, true, false, false, false, false] rfl rfl (one_of HT_.out (by kernel_rfl)) (by decide) (fun K hK => ?_)
 refine value_ (w1 := ?_) (v := ?_) (by rfl) rfl ?_ ?_
 rotate_left 2
 ·go_simp
  constructor
  ·rfl
  ·rfl
 refine hK.out _ _ ⟨(blk_cell (blk_alloc hfd.out _) 2).trans rfl, (blk_cell (blk_alloc hbd.out _) 9).trans ho⟩ (fun hHeld6 => ?_)
 clear hK K
 refine norm_ (a' := ?_) ?_ ?_
 rotate_left
 ·show Act.put _ (some 103) _ = _
  simp only [ps_]
  rfl
 refine last_ (i := 12) (N := (some 104)) #[true, true, true, true, true, true, true, true, true, true, true, true, true, false, false, false] rfl rfl (one_of HT_.out (by kernel_rfl)) (by decide) (fun K hK => ?_)
 refine Kd.R_append_step k36 (w0 := w0) w0.heap.size (by rfl) (.tmp 96) (.tmp 103) 24 36 (.agg #[(.string ⟨#[]⟩), (.string ⟨#[]⟩)]) 32 rfl Try.underlying24 Spn.info64 rfl (by decide) (by omega) (.slice A9 ats.length c9) ats (⟨k, s.extract up.toNat s.size⟩ : S36) [.string k, .string (s.extract up.toNat s.size)] (fun k => ok k ∨ w.heap.size ≤ k) (fun _ => False) rfl rfl ?aP (fun _ hk => hk.elim) ?aF ?aO ?aB ?aS ?aL ?_
 case aP => exact k36_mkM _ _ _ _
 case aF => exact fun k_ hk_ => Or.inr (by omega)
 case aO => exact hRd.out
 case aB => exact HBd.out
 case aS => exact HBd.out.size
 case aL => omega
 intro v1 w9 hR1 hB9 hG9 hO9
 clear hHeld6
 have hbf := Aside0.mk (blk_grown hbd.out hG9 (fun he_ => hOK (hRd.out.1 rb he_.symm)))
 have HKf := Aside0.mk (Kept.of_grown hG9 HKd.out (fun k_ hk_ => (hRd.out.1 k_ hk_).elim (fun h_ => Or.inl (Or.inl h_)) Or.inr))
 have HBf := Aside0.mk hB9
 obtain ⟨Av, cv, hv1⟩ := Kd.R_slice hR1
 subst hv1
 have hln : (ats ++ [(⟨k, s.extract up.toNat s.size⟩ : S36)]).length = ats.length + 1 := by simp
 rw [hln] at hR1 ⊢
 have hR1a := Aside0.mk hR1
 clear hR1 hB9 hG9 hO9 hHeld hRd hfd hbd HBd HKd
 refine hK.out _ _ ?_
 clear hK K
 refine norm_ (a' := ?_) ?_ ?_
 rotate_left
 ·show Act.put _ (some 104) _ = _
  simp only [ps_]
  rfl
 refine pure_ (i := 13) (N := (some 105)) (v := ?_) (a' := ?_) #[true, true, true, true, true, true, true, true, true, true, true, true, true, true, false, false] rfl rfl (any_of HT_.out (by kernel_rfl)) (fun _ _ _ h => h) (Or.inl ⟨by rfl, ?_⟩) ?_ ?_
 rotate_left
 ·intro w'
  go_simp
  with_reducible rfl
 rotate_left
 ·simp only [ps_]
  rfl
 refine pure_ (i := 14) (N := (some 106)) (v := ?_) (a' := ?_) #[true, true, true, true, true, true, true, true, true, true, true, true, true, true, true, false] rfl rfl (any_of HT_.out (by kernel_rfl)) (fun _ _ _ h => h) (Or.inl ⟨by rfl, ?_⟩) ?_ ?_
 rotate_left
 ·intro w'
  go_simp
  with_reducible rfl
 rotate_left
 ·simp only [ps_]
  rfl
 refine last_ (i := 15) (N := none) #[true, true, true, true, true, true, true, true, true, true, true, true, true, true, true, true] rfl rfl (one_of HT_.out (by kernel_rfl)) (by decide) (fun K hK => ?_)
 have z8 : w9.cell? ⟨rb, 9, none⟩ = some (.slice A9 ats.length c9) := (blk_cell hbf.out 9).trans ho
 have fz8 := blk_frozen hbf.out 9
 refine skip_ (w1 := ?_) (by rfl) rfl ?_ ?_
 rotate_left
 ·go_simp
  rfl
 refine hK.out _ _ ?_
 clear hK K z8 fz8
 refine done_ (done_of HT_.out (by kernel_rfl)) ?_
 clear HT_
 have hbn := Aside0.mk (blk_set hbf.out 9 (.slice Av (ats.length + 1) cv))
 have HBn := Aside0.mk (below_set (j := 9) (v := .slice Av (ats.length + 1) cv) HBf.out hrb0)
 have HRn := Aside0.mk (Kd.R_set hR1a.out hbf.out Itm.E79 9 (.slice Av (ats.length + 1) cv))
 have HKn := Aside0.mk (HKf.out.setCell (p := ⟨rb, 9, none⟩) (Or.inl (Or.inr rfl)) (.slice Av (ats.length + 1) cv))
 clear hbf HBf hR1a HKf
 go_wp2_with (fail)
 go_end0
 exact ⟨⟨_, rfl⟩, ⟨_, _, hbn.out, HRn.out⟩, HKn.out, HBn.out⟩
-- END ATTR
set_option maxHeartbeats 1000000 in
set_option maxRecDepth 100000 in
theorem Itm.rspan_attr_no (w0 w : World) (rb : Nat) (C : Array Value) (n : Int) (s : ByteArray) (tx : Bool) (k : ByteArray) (up ee : Int) (HB0 : Below w0.heap.size w0 w) (hrb0 : w0.heap.size ≤ rb) (hC : w.heap[rb]? = some (.cells C 79 (0, 0)))
  (hs : s.size ≤ 140737488355328) (hg : num_GetText.f (bytesOf s) 0 60 = some (k, up, ee)) (hee : ee ≠ 0) :
  Calls Try.prog 39 #[.pointer (some ⟨rb, 0, none⟩), .agg #[.int .u64 10, .int .u64 n, .string s, .bool tx]] w fun e w' => (∃ v, e = .returned v) ∧ w'.heap[rb]? = some (.cells C 79 (0, 0)) ∧ Kept w w' (fun k => k = rb) ∧ Below w0.heap.size w0 w' := by
 have kb := fun W => print_bytes (P := Try.prog) 9 22 5 Try.underlying9 Try.underlying22 Try.underlying5 s W
 have hlt := blk_lt hC
 have hBB := Aside0.mk (below_alloc HB0 (.cells #[.int .u64 10, .int .u64 n, .string s, .bool tx] 82 (0, 0)))
 have hB1 := Aside0.mk (below_alloc (Below.refl w.heap.size w) (.cells #[.int .u64 10, .int .u64 n, .string s, .bool tx] 82 (0, 0)))
 have hb1 := blk_alloc hC (.cells #[.int .u64 10, .int .u64 n, .string s, .bool tx] 82 (0, 0))
 have hf1 := blk_new w (.cells #[.int .u64 10, .int .u64 n, .string s, .bool tx] 82 (0, 0))
 have hb_e : (ee == 0) = false := beq_eq_false_iff_ne.mpr hee
 have hs1 : (w.alloc (.cells #[.int .u64 10, .int .u64 n, .string s, .bool tx] 82 (0, 0))).heap.size = w.heap.size + 1 := World.size_alloc _ _
 go_enter Try.func39, Try.ntmps39
 obtain ⟨W1, hW1⟩ : ∃ W1, W1 = w.alloc (.cells #[.int .u64 10, .int .u64 n, .string s, .bool tx] 82 (0, 0)) := ⟨_, rfl⟩
 rw [← hW1] at hb1 hB1 hf1 hBB hs1
 go_upto_region 1 with (fail)
 rw [← hW1]
 clear hW1 hC
 have z0 : W1.cell? ⟨w.heap.size, 0, none⟩ = some (.int .u64 10) := blk_cell hf1 0
 have z1 : W1.cell? ⟨w.heap.size, 1, none⟩ = some (.int .u64 n) := blk_cell hf1 1
 have z2 : W1.cell? ⟨w.heap.size, 2, none⟩ = some (.string s) := blk_cell hf1 2
 have hF := Aside0.mk (Itm.bytes_F W1 s (by omega))
 have hB := Aside0.mk (bytes_below (Below.refl W1.heap.size W1) (Nat.le_refl _) 5 s)
 have hfm := Aside0.mk hf1; have hbm := Aside0.mk hb1
 clear hf1 hb1
 go_wp2_with (fail)
 clear kb
 have hlb : (bytesOf s).length = s.size := bytesOf_length s
 have cG := Num.GetText_same (some ⟨w.heap.size + 1, 0, none⟩) (grownCap W1 s.size 0 5) (bytesOf s) 0 60 k up ee (Lib.bytesWorld W1 5 s) (by have := Kd.F_now hF.out; rw [hs1] at this; exact this) (by rw [hlb]; exact grownCap_ge _ _ _ _) hg
 rw [hlb] at cG
 refine cG.mono ?_
 clear cG
 rintro e w2 ⟨rfl, hw2⟩
 have hBs := hB.out
 rw [hw2] at hBs
 clear hw2
 have hB2 := Aside0.mk (below_step hB1.out hBs)
 have hBB2 := Aside0.mk (below_step hBB.out hBs)
 have hb2 := Aside0.mk (blk_below hbm.out hBs)
 clear z0 z1 z2 hF hB hfm hbm hBs hB1 hBB
 go_wp2_with (fail)
 go_end0
 exact ⟨⟨_, rfl⟩, hb2.out, Kept.of_below hB2.out _, hBB2.out⟩
end Go.Proofs.Ytfapckmobeppnaa.Px
