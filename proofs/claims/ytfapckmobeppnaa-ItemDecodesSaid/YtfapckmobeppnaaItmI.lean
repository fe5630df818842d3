/- The reader's next, in general. -/
import Derived.Test.YtfapckmobeppnaaItmF
import Derived.Test.YtfapckmobeppnaaItmG
namespace Go.Proofs.Ytfapckmobeppnaa.Px
open Go.RowKit Go.Proofs.YtfapckmobeppnaaW.PrintWords Go.Proofs.YtfapckmobeppnaaW.PrintLast Go.Proofs.YtfapckmobeppnaaW.PrintMore
set_option linter.unusedVariables false
set_option linter.unusedSimpArgs false

set_option maxHeartbeats 1000000 in
set_option maxRecDepth 100000 in
theorem Itm.next_textE (w0 w : World) (rb : Nat) (C : Array Value) (A : Option Addr) (c : Nat) (l : List Int) (q tag p : Int) (s : ByteArray) (q2 ee : Int) (HB0 : Below w0.heap.size w0 w) (hrb0 : w0.heap.size ≤ rb) (hC : w.heap[rb]? = some (.cells C 79 (0, 0))) (h15 : C[15]? = some (.slice A l.length c)) (h16 : C[16]? = some (.int .i64 q))
  (hr : Kd.C (Kd.int .u8) w A l.length l) (hc : l.length ≤ c) (hg : num_Get.f l q = some (tag, p, 0)) (htg : 0 ≤ tag ∧ tag < 18446744073709551616) (han : Go.bits .and .u64 tag 1 = 1) (ht : num_GetText.f l p 4096 = some (s, q2, ee)) :
  Calls Try.prog 40 #[.pointer (some ⟨rb, 0, none⟩)] w fun e w' => e = .returned (.tuple #[.agg #[.int .u64 (tag / 2), .int .u64 0, .string s, .bool true], .bool (ee == 0)]) ∧ w'.heap[rb]? = some (.cells (C.setIfInBounds 16 (.int .i64 q2)) 79 (0, 0)) ∧ Kept w w' (fun k => k = rb) ∧ Below w0.heap.size w0 w' := by
 have hlt := blk_lt hC
 have hb1 := Aside0.mk (blk_drew (blk_alloc hC (.cells #[.int .u64 0, .int .u64 0, .string ⟨#[]⟩, .bool false] 82 (0, 0))))
 have hK1 := Aside0.mk (Kept.drew (Kept.alloc (Kept.refl w (fun k => k = rb)) (.cells #[.int .u64 0, .int .u64 0, .string ⟨#[]⟩, .bool false] 82 (0, 0))))
 have hf1 := Aside0.mk (blk_drew (blk_new w (.cells #[.int .u64 0, .int .u64 0, .string ⟨#[]⟩, .bool false] 82 (0, 0))))
 have hr1 := Aside0.mk (Kd.C_drew (Kd.C_alloc hr (.cells #[.int .u64 0, .int .u64 0, .string ⟨#[]⟩, .bool false] 82 (0, 0))))
 have h15a := Aside0.mk h15; have h16a := Aside0.mk h16
 have hr0 := Aside0.mk hr
 have hB1 := Aside0.mk (below_drew (below_alloc (Below.refl w.heap.size w) (.cells #[.int .u64 0, .int .u64 0, .string ⟨#[]⟩, .bool false] 82 (0, 0))))
 have hBB1 := Aside0.mk (below_drew (below_alloc HB0 (.cells #[.int .u64 0, .int .u64 0, .string ⟨#[]⟩, .bool false] 82 (0, 0))))
 have hle := below_size HB0
 clear hr h15 h16 hC HB0
 go_enter Try.func40, Try.ntmps40
 go_wp2_with (fail)
 generalize w.alloc (.cells #[.int .u64 0, .int .u64 0, .string ⟨#[]⟩, .bool false] 82 (0, 0)) = W1 at *
 have y15 : W1.drew.cell? ⟨rb, 15, none⟩ = some (.slice A l.length c) := (blk_cell hb1.out 15).trans h15a.out
 have y16 : W1.drew.cell? ⟨rb, 16, none⟩ = some (.int .i64 q) := (blk_cell hb1.out 16).trans h16a.out
 refine start_ (n := 16) (S := fun w' => w'.cell? ⟨rb, 15, none⟩ = some (.slice A l.length c) ∧ w'.cell? ⟨rb, 16, none⟩ = some (.int .i64 q)) (ds := [8]) #[false, false, false, false, false, false, false, false, false, false, false, false, false, false, false, false] (by kernel_rfl) rfl rfl ⟨y15, y16⟩ (fun hHeld => ?_)
 refine with_tab Itm.T40_tab (fun HT_ => ?_)
 generalize W1.drew = w2 at hHeld hb1 hK1 hf1 hr1 hB1 hBB1 y15 y16 ⊢
 refine pure_ (i := 0) (N := (some 8)) (v := ?_) (a' := ?_) #[true, false, false, false, false, false, false, false, false, false, false, false, false, false, false, false] rfl rfl (any_of HT_.out (by kernel_rfl)) (fun _ _ _ h => h) (Or.inl ⟨by rfl, ?_⟩) ?_ ?_
 rotate_left
 ·intro w'
  go_simp
  with_reducible rfl
 rotate_left
 ·simp only [ps_]
  rfl
 refine pure_ (i := 1) (N := (some 9)) (v := ?_) (a' := ?_) #[true, true, false, false, false, false, false, false, false, false, false, false, false, false, false, false] rfl rfl (any_of HT_.out (by kernel_rfl)) (fun _ _ _ h => h) (Or.inl ⟨by rfl, ?_⟩) ?_ ?_
 rotate_left
 ·intro w'
  go_simp
  with_reducible rfl
 rotate_left
 ·simp only [ps_]
  rfl
 refine pure_ (i := 2) (N := (some 10)) (v := ?_) (a' := ?_) #[true, true, true, false, false, false, false, false, false, false, false, false, false, false, false, false] rfl rfl (any_of HT_.out (by kernel_rfl)) (fun _ _ _ h => h) (Or.inl ⟨by rfl, ?_⟩) ?_ ?_
 rotate_left
 ·intro w'
  go_simp
  with_reducible rfl
 rotate_left
 ·simp only [ps_]
  rfl
 refine take_ (i := 3) (N := (some 11)) (v := ?_) (a' := ?_) #[true, true, true, true, false, false, false, false, false, false, false, false, false, false, false, false] rfl rfl (take_of HT_.out (by kernel_rfl)) (fun _ _ _ h => h) (Or.inl ⟨by rfl, ?_⟩) hHeld ?_ ?_
 rotate_left
 ·rintro w' ⟨s0, s1⟩
  go_simp
  with_reducible rfl
 rotate_left
 ·simp only [ps_]
  rfl
 refine pure_ (i := 4) (N := (some 12)) (v := ?_) (a' := ?_) #[true, true, true, true, true, false, false, false, false, false, false, false, false, false, false, false] rfl rfl (any_of HT_.out (by kernel_rfl)) (fun _ _ _ h => h) (Or.inl ⟨by rfl, ?_⟩) ?_ ?_
 rotate_left
 ·intro w'
  go_simp
  with_reducible rfl
 rotate_left
 ·simp only [ps_]
  rfl
 refine pure_ (i := 5) (N := (some 13)) (v := ?_) (a' := ?_) #[true, true, true, true, true, true, false, false, false, false, false, false, false, false, false, false] rfl rfl (any_of HT_.out (by kernel_rfl)) (fun _ _ _ h => h) (Or.inl ⟨by rfl, ?_⟩) ?_ ?_
 rotate_left
 ·intro w'
  go_simp
  with_reducible rfl
 rotate_left
 ·simp only [ps_]
  rfl
 refine pure_ (i := 6) (N := (some 14)) (v := ?_) (a' := ?_) #[true, true, true, true, true, true, true, false, false, false, false, false, false, false, false, false] rfl rfl (any_of HT_.out (by kernel_rfl)) (fun _ _ _ h => h) (Or.inl ⟨by rfl, ?_⟩) ?_ ?_
 rotate_left
 ·intro w'
  go_simp
  with_reducible rfl
 rotate_left
 ·simp only [ps_]
  rfl
 refine take_ (i := 7) (N := (some 15)) (v := ?_) (a' := ?_) #[true, true, true, true, true, true, true, true, false, false, false, false, false, false, false, false] rfl rfl (take_of HT_.out (by kernel_rfl)) (fun _ _ _ h => h) (Or.inl ⟨by rfl, ?_⟩) hHeld ?_ ?_
 rotate_left
 ·rintro w' ⟨s0, s1⟩
  go_simp
  with_reducible rfl
 rotate_left
 ·simp only [ps_]
  rfl
 refine last_ (i := 8) (N := (some 16)) #[true, true, true, true, true, true, true, true, true, false, false, false, false, false, false, false] rfl rfl (one_of HT_.out (by kernel_rfl)) (by decide) (fun K hK => ?_)
 refine goes_ Try.func54 (by kernel_rfl) rfl #[.slice A l.length c, .int .i64 q] (by rfl) rfl rfl (by (try simp only [List.map_toArray, List.map_cons, List.map_nil]); first | done | rfl) ?_
 refine (Num.Get_same A c l q tag p 0 w2 hr1.out hc hg).mono ?_
 rintro e w3 ⟨rfl, rfl⟩
 refine ⟨_, rfl, ?_⟩
 refine hK.out _ _ ?_
 clear hK K
 refine norm_ (a' := ?_) ?_ ?_
 rotate_left
 ·show Act.put _ (some 16) _ = _
  simp only [ps_]
  rfl
 refine pure_ (i := 9) (N := (some 7)) (v := ?_) (a' := ?_) #[true, true, true, true, true, true, true, true, true, true, false, false, false, false, false, false] rfl rfl (any_of HT_.out (by kernel_rfl)) (fun _ _ _ h => h) (Or.inl ⟨by rfl, ?_⟩) ?_ ?_
 rotate_left
 ·intro w'
  go_simp
  with_reducible rfl
 rotate_left
 ·simp only [ps_]
  rfl
 refine pure_ (i := 10) (N := (some 17)) (v := ?_) (a' := ?_) #[true, true, true, true, true, true, true, true, true, true, true, false, false, false, false, false] rfl rfl (any_of HT_.out (by kernel_rfl)) (fun _ _ _ h => h) (Or.inl ⟨by rfl, ?_⟩) ?_ ?_
 rotate_left
 ·intro w'
  go_simp
  with_reducible rfl
 rotate_left
 ·simp only [ps_]
  rfl
 refine pure_ (i := 11) (N := (some 18)) (v := ?_) (a' := ?_) #[true, true, true, true, true, true, true, true, true, true, true, true, false, false, false, false] rfl rfl (any_of HT_.out (by kernel_rfl)) (fun _ _ _ h => h) (Or.inl ⟨by rfl, ?_⟩) ?_ ?_
 rotate_left
 ·intro w'
  go_simp
  with_reducible rfl
 rotate_left
 ·simp only [ps_]
  rfl
 refine pure_ (i := 12) (N := (some 19)) (v := ?_) (a' := ?_) #[true, true, true, true, true, true, true, true, true, true, true, true, true, false, false, false] rfl rfl (any_of HT_.out (by kernel_rfl)) (fun _ _ _ h => h) (Or.inl ⟨by rfl, ?_⟩) ?_ ?_
 rotate_left
 ·intro w'
  go_simp
  with_reducible rfl
 rotate_left
 ·simp only [ps_]
  rfl
 refine pure_ (i := 13) (N := (some 4)) (v := ?_) (a' := ?_) #[true, true, true, true, true, true, true, true, true, true, true, true, true, true, false, false] rfl rfl (any_of HT_.out (by kernel_rfl)) (fun _ _ _ h => h) (Or.inl ⟨by rfl, ?_⟩) ?_ ?_
 rotate_left
 ·intro w'
  go_simp
  with_reducible rfl
 rotate_left
 ·simp only [ps_]
  rfl
 refine pure_ (i := 14) (N := (some 5)) (v := ?_) (a' := ?_) #[true, true, true, true, true, true, true, true, true, true, true, true, true, true, true, false] rfl rfl (any_of HT_.out (by kernel_rfl)) (fun _ _ _ h => h) (Or.inl ⟨by rfl, ?_⟩) ?_ ?_
 rotate_left
 ·intro w'
  go_simp
  with_reducible rfl
 rotate_left
 ·simp only [ps_]
  rfl
 refine pure_ (i := 15) (N := (some 6)) (v := ?_) (a' := ?_) #[true, true, true, true, true, true, true, true, true, true, true, true, true, true, true, true] rfl rfl (any_of HT_.out (by kernel_rfl)) (fun _ _ _ h => h) (Or.inl ⟨by rfl, ?_⟩) ?_ ?_
 rotate_left
 ·intro w'
  go_simp
  with_reducible rfl
 rotate_left
 ·simp only [ps_]
  rfl
 refine done_ (done_of HT_.out (by kernel_rfl)) ?_
 clear HT_
 have x0 : w2.cell? ⟨w.heap.size, 0, none⟩ = some (.int .u64 0) := blk_cell hf1.out 0
 have x1 : w2.cell? ⟨w.heap.size, 1, none⟩ = some (.int .u64 0) := blk_cell hf1.out 1
 have x2 : w2.cell? ⟨w.heap.size, 2, none⟩ = some (.string ⟨#[]⟩) := blk_cell hf1.out 2
 have x3 : w2.cell? ⟨w.heap.size, 3, none⟩ = some (.bool false) := blk_cell hf1.out 3
 have u0 := blk_frozen hf1.out 0
 have u1 := blk_frozen hf1.out 1
 have u2 := blk_frozen hf1.out 2
 have u3 := blk_frozen hf1.out 3
 have u16 := blk_frozen hb1.out 16
 have hne : rb ≠ w.heap.size := by omega
 have hne2 : w.heap.size ≠ rb := by omega
 go_wp2_with (fail)
 have hf4 : ((w2.setCell ⟨w.heap.size, 0, none⟩ (.int .u64 (tag / 2))).setCell ⟨w.heap.size, 3, none⟩ (.bool true)).heap[w.heap.size]? = some (.cells #[.int .u64 (tag / 2), .int .u64 0, .string ⟨#[]⟩, .bool true] 82 (0, 0)) := blk_put (blk_put hf1.out 0 (.int .u64 (tag / 2)) rfl) 3 (.bool true) rfl
 have hb4 : ((w2.setCell ⟨w.heap.size, 0, none⟩ (.int .u64 (tag / 2))).setCell ⟨w.heap.size, 3, none⟩ (.bool true)).heap[rb]? = some (.cells C 79 (0, 0)) := blk_far (blk_far hb1.out (p := ⟨w.heap.size, 0, none⟩) hne _) (p := ⟨w.heap.size, 3, none⟩) hne _
 have hK4 := (hK1.out.setCell (p := ⟨w.heap.size, 0, none⟩) (Or.inr (Nat.le_refl _)) (.int .u64 (tag / 2))).setCell (p := ⟨w.heap.size, 3, none⟩) (Or.inr (Nat.le_refl _)) (.bool true)
 have hB4 := below_set (j := 3) (v := .bool true) (below_set (j := 0) (v := .int .u64 (tag / 2)) hB1.out (Nat.le_refl _)) (Nat.le_refl _)
 have hBB4 := below_set (j := 3) (v := .bool true) (below_set (j := 0) (v := .int .u64 (tag / 2)) hBB1.out hle) hle
 generalize ((w2.setCell ⟨w.heap.size, 0, none⟩ (.int .u64 (tag / 2))).setCell ⟨w.heap.size, 3, none⟩ (.bool true)) = w4 at hf4 hb4 hK4 hB4 hBB4 ⊢
 have hr4 := Kd.C_below hr0.out hB4
 have hf4a := Aside0.mk hf4; have hb4a := Aside0.mk hb4; have hK4a := Aside0.mk hK4
 replace hBB4 := Aside0.mk hBB4
 clear x0 x1 x2 x3 u0 u1 u2 u3 u16 hf1 hb1 hK1 hr1 hB1 hBB1 y15 y16 hB4
 have v2 := blk_frozen hf4 2
 have v16 := blk_frozen hb4 16
 have d2 : w4.cell? ⟨w.heap.size, 2, none⟩ = some (.string ⟨#[]⟩) := blk_cell hf4 2
 have d1 : w4.cell? ⟨w.heap.size, 1, none⟩ = some (.int .u64 0) := blk_cell hf4 1
 have d16 : w4.cell? ⟨rb, 16, none⟩ = some (.int .i64 q) := (blk_cell hb4 16).trans h16a.out
 clear hf4 hb4 hK4
 refine (Num.GetText_same A c l p 4096 s q2 ee w4 hr4 hc ht).mono ?_
 rintro e w5 ⟨rfl, rfl⟩
 clear hr4
 have hf5 : ((w4.setCell ⟨w.heap.size, 2, none⟩ (.string s)).setCell ⟨rb, 16, none⟩ (.int .i64 q2)).heap[w.heap.size]? = some (.cells #[.int .u64 (tag / 2), .int .u64 0, .string s, .bool true] 82 (0, 0)) := blk_far (blk_put hf4a.out 2 (.string s) rfl) (p := ⟨rb, 16, none⟩) hne2 _
 have hb5 : ((w4.setCell ⟨w.heap.size, 2, none⟩ (.string s)).setCell ⟨rb, 16, none⟩ (.int .i64 q2)).heap[rb]? = some (.cells (C.setIfInBounds 16 (.int .i64 q2)) 79 (0, 0)) := blk_set (blk_far hb4a.out (p := ⟨w.heap.size, 2, none⟩) hne _) 16 _
 have hK5 := (hK4a.out.setCell (p := ⟨w.heap.size, 2, none⟩) (Or.inr (Nat.le_refl _)) (.string s)).setCell (p := ⟨rb, 16, none⟩) (Or.inl rfl) (.int .i64 q2)
 have hBB5 := below_set (j := 16) (v := .int .i64 q2) (below_set (j := 2) (v := .string s) hBB4.out hle) hrb0
 have v16' : (w4.setCell ⟨w.heap.size, 2, none⟩ (.string s)).frozen? ⟨rb, 16, none⟩ = false := blk_frozen (blk_far hb4a.out (p := ⟨w.heap.size, 2, none⟩) hne _) 16
 clear hf4a hb4a hK4a
 obtain ⟨W5, hW5⟩ : ∃ W5, W5 = (w4.setCell ⟨w.heap.size, 2, none⟩ (.string s)).setCell ⟨rb, 16, none⟩ (.int .i64 q2) := ⟨_, rfl⟩
 rw [← hW5] at hf5 hb5 hK5 hBB5
 have t0 : W5.cell? ⟨w.heap.size, 0, none⟩ = some (.int .u64 (tag / 2)) := blk_cell hf5 0
 have t1 : W5.cell? ⟨w.heap.size, 1, none⟩ = some (.int .u64 0) := blk_cell hf5 1
 have t2 : W5.cell? ⟨w.heap.size, 2, none⟩ = some (.string s) := blk_cell hf5 2
 have t3 : W5.cell? ⟨w.heap.size, 3, none⟩ = some (.bool true) := blk_cell hf5 3
 have k0 := blk_frozen hf5 0
 have k1 := blk_frozen hf5 1
 have k2 := blk_frozen hf5 2
 have k3 := blk_frozen hf5 3
 go_upto_region 8 with (fail)
 rw [← hW5]
 clear hW5 d1 d2 d16 v16 v16' hf5
 have hb6 := blk_far (blk_far (blk_far (blk_far hb5 (p := ⟨w.heap.size, 0, none⟩) hne (.int .u64 (tag / 2))) (p := ⟨w.heap.size, 1, none⟩) hne (.int .u64 0)) (p := ⟨w.heap.size, 2, none⟩) hne (.string s)) (p := ⟨w.heap.size, 3, none⟩) hne (.bool true)
 have hK6 := (((hK5.setCell (p := ⟨w.heap.size, 0, none⟩) (Or.inr (Nat.le_refl _)) (.int .u64 (tag / 2))).setCell (p := ⟨w.heap.size, 1, none⟩) (Or.inr (Nat.le_refl _)) (.int .u64 0)).setCell (p := ⟨w.heap.size, 2, none⟩) (Or.inr (Nat.le_refl _)) (.string s)).setCell (p := ⟨w.heap.size, 3, none⟩) (Or.inr (Nat.le_refl _)) (.bool true)
 have hBB6 := Aside0.mk (below_set (j := 3) (v := .bool true) (below_set (j := 2) (v := .string s) (below_set (j := 1) (v := .int .u64 0) (below_set (j := 0) (v := .int .u64 (tag / 2)) hBB5 hle) hle) hle) hle)
 have hb6a := Aside0.mk hb6; have hK6a := Aside0.mk hK6
 clear hb5 hK5 hb6 hK6 hBB5
 go_wp2_with (fail)
 have hres : Try.f40.results = #[.cell 2 82, .tmp 3] := by kernel_rfl
 refine bodyPost_ret (v := .tuple #[.agg #[.int .u64 (tag / 2), .int .u64 0, .string s, .bool true], .bool (ee == 0)]) ?_ rfl ⟨rfl, hb6a.out, hK6a.out, hBB6.out⟩
 simp only [results, hres]
 go_simp
set_option maxHeartbeats 1000000 in
set_option maxRecDepth 100000 in
theorem Itm.next_numE (w0 w : World) (rb : Nat) (C : Array Value) (A : Option Addr) (c : Nat) (l : List Int) (q tag p : Int) (n : Int) (q2 ee : Int) (HB0 : Below w0.heap.size w0 w) (hrb0 : w0.heap.size ≤ rb) (hC : w.heap[rb]? = some (.cells C 79 (0, 0))) (h15 : C[15]? = some (.slice A l.length c)) (h16 : C[16]? = some (.int .i64 q))
  (hr : Kd.C (Kd.int .u8) w A l.length l) (hc : l.length ≤ c) (hg : num_Get.f l q = some (tag, p, 0)) (htg : 0 ≤ tag ∧ tag < 18446744073709551616) (han : Go.bits .and .u64 tag 1 = 0) (ht : num_Get.f l p = some (n, q2, ee)) :
  Calls Try.prog 40 #[.pointer (some ⟨rb, 0, none⟩)] w fun e w' => e = .returned (.tuple #[.agg #[.int .u64 (tag / 2), .int .u64 n, .string ⟨#[]⟩, .bool false], .bool (ee == 0)]) ∧ w'.heap[rb]? = some (.cells (C.setIfInBounds 16 (.int .i64 q2)) 79 (0, 0)) ∧ Kept w w' (fun k => k = rb) ∧ Below w0.heap.size w0 w' := by
 have hlt := blk_lt hC
 have hb1 := Aside0.mk (blk_drew (blk_alloc hC (.cells #[.int .u64 0, .int .u64 0, .string ⟨#[]⟩, .bool false] 82 (0, 0))))
 have hK1 := Aside0.mk (Kept.drew (Kept.alloc (Kept.refl w (fun k => k = rb)) (.cells #[.int .u64 0, .int .u64 0, .string ⟨#[]⟩, .bool false] 82 (0, 0))))
 have hf1 := Aside0.mk (blk_drew (blk_new w (.cells #[.int .u64 0, .int .u64 0, .string ⟨#[]⟩, .bool false] 82 (0, 0))))
 have hr1 := Aside0.mk (Kd.C_drew (Kd.C_alloc hr (.cells #[.int .u64 0, .int .u64 0, .string ⟨#[]⟩, .bool false] 82 (0, 0))))
 have h15a := Aside0.mk h15; have h16a := Aside0.mk h16
 have hr0 := Aside0.mk hr
 have hB1 := Aside0.mk (below_drew (below_alloc (Below.refl w.heap.size w) (.cells #[.int .u64 0, .int .u64 0, .string ⟨#[]⟩, .bool false] 82 (0, 0))))
 have hBB1 := Aside0.mk (below_drew (below_alloc HB0 (.cells #[.int .u64 0, .int .u64 0, .string ⟨#[]⟩, .bool false] 82 (0, 0))))
 have hle := below_size HB0
 clear hr h15 h16 hC HB0
 go_enter Try.func40, Try.ntmps40
 go_wp2_with (fail)
 generalize w.alloc (.cells #[.int .u64 0, .int .u64 0, .string ⟨#[]⟩, .bool false] 82 (0, 0)) = W1 at *
 have y15 : W1.drew.cell? ⟨rb, 15, none⟩ = some (.slice A l.length c) := (blk_cell hb1.out 15).trans h15a.out
 have y16 : W1.drew.cell? ⟨rb, 16, none⟩ = some (.int .i64 q) := (blk_cell hb1.out 16).trans h16a.out
 refine start_ (n := 16) (S := fun w' => w'.cell? ⟨rb, 15, none⟩ = some (.slice A l.length c) ∧ w'.cell? ⟨rb, 16, none⟩ = some (.int .i64 q)) (ds := [8]) #[false, false, false, false, false, false, false, false, false, false, false, false, false, false, false, false] (by kernel_rfl) rfl rfl ⟨y15, y16⟩ (fun hHeld => ?_)
 refine with_tab Itm.T40_tab (fun HT_ => ?_)
 generalize W1.drew = w2 at hHeld hb1 hK1 hf1 hr1 hB1 hBB1 y15 y16 ⊢
 refine pure_ (i := 0) (N := (some 8)) (v := ?_) (a' := ?_) #[true, false, false, false, false, false, false, false, false, false, false, false, false, false, false, false] rfl rfl (any_of HT_.out (by kernel_rfl)) (fun _ _ _ h => h) (Or.inl ⟨by rfl, ?_⟩) ?_ ?_
 rotate_left
 ·intro w'
  go_simp
  with_reducible rfl
 rotate_left
 ·simp only [ps_]
  rfl
 refine pure_ (i := 1) (N := (some 9)) (v := ?_) (a' := ?_) #[true, true, false, false, false, false, false, false, false, false, false, false, false, false, false, false] rfl rfl (any_of HT_.out (by kernel_rfl)) (fun _ _ _ h => h) (Or.inl ⟨by rfl, ?_⟩) ?_ ?_
 rotate_left
 ·intro w'
  go_simp
  with_reducible rfl
 rotate_left
 ·simp only [ps_]
  rfl
 refine pure_ (i := 2) (N := (some 10)) (v := ?_) (a' := ?_) #[true, true, true, false, false, false, false, false, false, false, false, false, false, false, false, false] rfl rfl (any_of HT_.out (by kernel_rfl)) (fun _ _ _ h => h) (Or.inl ⟨by rfl, ?_⟩) ?_ ?_
 rotate_left
 ·intro w'
  go_simp
  with_reducible rfl
 rotate_left
 ·simp only [ps_]
  rfl
 refine take_ (i := 3) (N := (some 11)) (v := ?_) (a' := ?_) #[true, true, true, true, false, false, false, false, false, false, false, false, false, false, false, false] rfl rfl (take_of HT_.out (by kernel_rfl)) (fun _ _ _ h => h) (Or.inl ⟨by rfl, ?_⟩) hHeld ?_ ?_
 rotate_left
 ·rintro w' ⟨s0, s1⟩
  go_simp
  with_reducible rfl
 rotate_left
 ·simp only [ps_]
  rfl
 refine pure_ (i := 4) (N := (some 12)) (v := ?_) (a' := ?_) #[true, true, true, true, true, false, false, false, false, false, false, false, false, false, false, false] rfl rfl (any_of HT_.out (by kernel_rfl)) (fun _ _ _ h => h) (Or.inl ⟨by rfl, ?_⟩) ?_ ?_
 rotate_left
 ·intro w'
  go_simp
  with_reducible rfl
 rotate_left
 ·simp only [ps_]
  rfl
 refine pure_ (i := 5) (N := (some 13)) (v := ?_) (a' := ?_) #[true, true, true, true, true, true, false, false, false, false, false, false, false, false, false, false] rfl rfl (any_of HT_.out (by kernel_rfl)) (fun _ _ _ h => h) (Or.inl ⟨by rfl, ?_⟩) ?_ ?_
 rotate_left
 ·intro w'
  go_simp
  with_reducible rfl
 rotate_left
 ·simp only [ps_]
  rfl
 refine pure_ (i := 6) (N := (some 14)) (v := ?_) (a' := ?_) #[true, true, true, true, true, true, true, false, false, false, false, false, false, false, false, false] rfl rfl (any_of HT_.out (by kernel_rfl)) (fun _ _ _ h => h) (Or.inl ⟨by rfl, ?_⟩) ?_ ?_
 rotate_left
 ·intro w'
  go_simp
  with_reducible rfl
 rotate_left
 ·simp only [ps_]
  rfl
 refine take_ (i := 7) (N := (some 15)) (v := ?_) (a' := ?_) #[true, true, true, true, true, true, true, true, false, false, false, false, false, false, false, false] rfl rfl (take_of HT_.out (by kernel_rfl)) (fun _ _ _ h => h) (Or.inl ⟨by rfl, ?_⟩) hHeld ?_ ?_
 rotate_left
 ·rintro w' ⟨s0, s1⟩
  go_simp
  with_reducible rfl
 rotate_left
 ·simp only [ps_]
  rfl
 refine last_ (i := 8) (N := (some 16)) #[true, true, true, true, true, true, true, true, true, false, false, false, false, false, false, false] rfl rfl (one_of HT_.out (by kernel_rfl)) (by decide) (fun K hK => ?_)
 refine goes_ Try.func54 (by kernel_rfl) rfl #[.slice A l.length c, .int .i64 q] (by rfl) rfl rfl (by (try simp only [List.map_toArray, List.map_cons, List.map_nil]); first | done | rfl) ?_
 refine (Num.Get_same A c l q tag p 0 w2 hr1.out hc hg).mono ?_
 rintro e w3 ⟨rfl, rfl⟩
 refine ⟨_, rfl, ?_⟩
 refine hK.out _ _ ?_
 clear hK K
 refine norm_ (a' := ?_) ?_ ?_
 rotate_left
 ·show Act.put _ (some 16) _ = _
  simp only [ps_]
  rfl
 refine pure_ (i := 9) (N := (some 7)) (v := ?_) (a' := ?_) #[true, true, true, true, true, true, true, true, true, true, false, false, false, false, false, false] rfl rfl (any_of HT_.out (by kernel_rfl)) (fun _ _ _ h => h) (Or.inl ⟨by rfl, ?_⟩) ?_ ?_
 rotate_left
 ·intro w'
  go_simp
  with_reducible rfl
 rotate_left
 ·simp only [ps_]
  rfl
 refine pure_ (i := 10) (N := (some 17)) (v := ?_) (a' := ?_) #[true, true, true, true, true, true, true, true, true, true, true, false, false, false, false, false] rfl rfl (any_of HT_.out (by kernel_rfl)) (fun _ _ _ h => h) (Or.inl ⟨by rfl, ?_⟩) ?_ ?_
 rotate_left
 ·intro w'
  go_simp
  with_reducible rfl
 rotate_left
 ·simp only [ps_]
  rfl
 refine pure_ (i := 11) (N := (some 18)) (v := ?_) (a' := ?_) #[true, true, true, true, true, true, true, true, true, true, true, true, false, false, false, false] rfl rfl (any_of HT_.out (by kernel_rfl)) (fun _ _ _ h => h) (Or.inl ⟨by rfl, ?_⟩) ?_ ?_
 rotate_left
 ·intro w'
  go_simp
  with_reducible rfl
 rotate_left
 ·simp only [ps_]
  rfl
 refine pure_ (i := 12) (N := (some 19)) (v := ?_) (a' := ?_) #[true, true, true, true, true, true, true, true, true, true, true, true, true, false, false, false] rfl rfl (any_of HT_.out (by kernel_rfl)) (fun _ _ _ h => h) (Or.inl ⟨by rfl, ?_⟩) ?_ ?_
 rotate_left
 ·intro w'
  go_simp
  with_reducible rfl
 rotate_left
 ·simp only [ps_]
  rfl
 refine pure_ (i := 13) (N := (some 4)) (v := ?_) (a' := ?_) #[true, true, true, true, true, true, true, true, true, true, true, true, true, true, false, false] rfl rfl (any_of HT_.out (by kernel_rfl)) (fun _ _ _ h => h) (Or.inl ⟨by rfl, ?_⟩) ?_ ?_
 rotate_left
 ·intro w'
  go_simp
  with_reducible rfl
 rotate_left
 ·simp only [ps_]
  rfl
 refine pure_ (i := 14) (N := (some 5)) (v := ?_) (a' := ?_) #[true, true, true, true, true, true, true, true, true, true, true, true, true, true, true, false] rfl rfl (any_of HT_.out (by kernel_rfl)) (fun _ _ _ h => h) (Or.inl ⟨by rfl, ?_⟩) ?_ ?_
 rotate_left
 ·intro w'
  go_simp
  with_reducible rfl
 rotate_left
 ·simp only [ps_]
  rfl
 refine pure_ (i := 15) (N := (some 6)) (v := ?_) (a' := ?_) #[true, true, true, true, true, true, true, true, true, true, true, true, true, true, true, true] rfl rfl (any_of HT_.out (by kernel_rfl)) (fun _ _ _ h => h) (Or.inl ⟨by rfl, ?_⟩) ?_ ?_
 rotate_left
 ·intro w'
  go_simp
  with_reducible rfl
 rotate_left
 ·simp only [ps_]
  rfl
 refine done_ (done_of HT_.out (by kernel_rfl)) ?_
 clear HT_
 have x0 : w2.cell? ⟨w.heap.size, 0, none⟩ = some (.int .u64 0) := blk_cell hf1.out 0
 have x1 : w2.cell? ⟨w.heap.size, 1, none⟩ = some (.int .u64 0) := blk_cell hf1.out 1
 have x2 : w2.cell? ⟨w.heap.size, 2, none⟩ = some (.string ⟨#[]⟩) := blk_cell hf1.out 2
 have x3 : w2.cell? ⟨w.heap.size, 3, none⟩ = some (.bool false) := blk_cell hf1.out 3
 have u0 := blk_frozen hf1.out 0
 have u1 := blk_frozen hf1.out 1
 have u2 := blk_frozen hf1.out 2
 have u3 := blk_frozen hf1.out 3
 have u16 := blk_frozen hb1.out 16
 have hne : rb ≠ w.heap.size := by omega
 have hne2 : w.heap.size ≠ rb := by omega
 go_wp2_with (fail)
 have hf4 : ((w2.setCell ⟨w.heap.size, 0, none⟩ (.int .u64 (tag / 2))).setCell ⟨w.heap.size, 3, none⟩ (.bool false)).heap[w.heap.size]? = some (.cells #[.int .u64 (tag / 2), .int .u64 0, .string ⟨#[]⟩, .bool false] 82 (0, 0)) := blk_put (blk_put hf1.out 0 (.int .u64 (tag / 2)) rfl) 3 (.bool false) rfl
 have hb4 : ((w2.setCell ⟨w.heap.size, 0, none⟩ (.int .u64 (tag / 2))).setCell ⟨w.heap.size, 3, none⟩ (.bool false)).heap[rb]? = some (.cells C 79 (0, 0)) := blk_far (blk_far hb1.out (p := ⟨w.heap.size, 0, none⟩) hne _) (p := ⟨w.heap.size, 3, none⟩) hne _
 have hK4 := (hK1.out.setCell (p := ⟨w.heap.size, 0, none⟩) (Or.inr (Nat.le_refl _)) (.int .u64 (tag / 2))).setCell (p := ⟨w.heap.size, 3, none⟩) (Or.inr (Nat.le_refl _)) (.bool false)
 have hB4 := below_set (j := 3) (v := .bool false) (below_set (j := 0) (v := .int .u64 (tag / 2)) hB1.out (Nat.le_refl _)) (Nat.le_refl _)
 have hBB4 := below_set (j := 3) (v := .bool false) (below_set (j := 0) (v := .int .u64 (tag / 2)) hBB1.out hle) hle
 generalize ((w2.setCell ⟨w.heap.size, 0, none⟩ (.int .u64 (tag / 2))).setCell ⟨w.heap.size, 3, none⟩ (.bool false)) = w4 at hf4 hb4 hK4 hB4 hBB4 ⊢
 have hr4 := Kd.C_below hr0.out hB4
 have hf4a := Aside0.mk hf4; have hb4a := Aside0.mk hb4; have hK4a := Aside0.mk hK4
 replace hBB4 := Aside0.mk hBB4
 clear x0 x1 x2 x3 u0 u1 u2 u3 u16 hf1 hb1 hK1 hr1 hB1 hBB1 y15 y16 hB4
 have v1 := blk_frozen hf4 1
 have v16 := blk_frozen hb4 16
 have d2 : w4.cell? ⟨w.heap.size, 2, none⟩ = some (.string ⟨#[]⟩) := blk_cell hf4 2
 have d1 : w4.cell? ⟨w.heap.size, 1, none⟩ = some (.int .u64 0) := blk_cell hf4 1
 have d16 : w4.cell? ⟨rb, 16, none⟩ = some (.int .i64 q) := (blk_cell hb4 16).trans h16a.out
 clear hf4 hb4 hK4
 refine (Num.Get_same A c l p n q2 ee w4 hr4 hc ht).mono ?_
 rintro e w5 ⟨rfl, rfl⟩
 clear hr4
 have hf5 : ((w4.setCell ⟨w.heap.size, 1, none⟩ (.int .u64 n)).setCell ⟨rb, 16, none⟩ (.int .i64 q2)).heap[w.heap.size]? = some (.cells #[.int .u64 (tag / 2), .int .u64 n, .string ⟨#[]⟩, .bool false] 82 (0, 0)) := blk_far (blk_put hf4a.out 1 (.int .u64 n) rfl) (p := ⟨rb, 16, none⟩) hne2 _
 have hb5 : ((w4.setCell ⟨w.heap.size, 1, none⟩ (.int .u64 n)).setCell ⟨rb, 16, none⟩ (.int .i64 q2)).heap[rb]? = some (.cells (C.setIfInBounds 16 (.int .i64 q2)) 79 (0, 0)) := blk_set (blk_far hb4a.out (p := ⟨w.heap.size, 1, none⟩) hne _) 16 _
 have hK5 := (hK4a.out.setCell (p := ⟨w.heap.size, 1, none⟩) (Or.inr (Nat.le_refl _)) (.int .u64 n)).setCell (p := ⟨rb, 16, none⟩) (Or.inl rfl) (.int .i64 q2)
 have hBB5 := below_set (j := 16) (v := .int .i64 q2) (below_set (j := 1) (v := .int .u64 n) hBB4.out hle) hrb0
 have v16' : (w4.setCell ⟨w.heap.size, 1, none⟩ (.int .u64 n)).frozen? ⟨rb, 16, none⟩ = false := blk_frozen (blk_far hb4a.out (p := ⟨w.heap.size, 1, none⟩) hne _) 16
 clear hf4a hb4a hK4a
 obtain ⟨W5, hW5⟩ : ∃ W5, W5 = (w4.setCell ⟨w.heap.size, 1, none⟩ (.int .u64 n)).setCell ⟨rb, 16, none⟩ (.int .i64 q2) := ⟨_, rfl⟩
 rw [← hW5] at hf5 hb5 hK5 hBB5
 have t0 : W5.cell? ⟨w.heap.size, 0, none⟩ = some (.int .u64 (tag / 2)) := blk_cell hf5 0
 have t1 : W5.cell? ⟨w.heap.size, 1, none⟩ = some (.int .u64 n) := blk_cell hf5 1
 have t2 : W5.cell? ⟨w.heap.size, 2, none⟩ = some (.string ⟨#[]⟩) := blk_cell hf5 2
 have t3 : W5.cell? ⟨w.heap.size, 3, none⟩ = some (.bool false) := blk_cell hf5 3
 have k0 := blk_frozen hf5 0
 have k1 := blk_frozen hf5 1
 have k2 := blk_frozen hf5 2
 have k3 := blk_frozen hf5 3
 go_upto_region 8 with (fail)
 rw [← hW5]
 clear hW5 d1 d2 d16 v16 v16' hf5
 have hb6 := blk_far (blk_far (blk_far (blk_far hb5 (p := ⟨w.heap.size, 0, none⟩) hne (.int .u64 (tag / 2))) (p := ⟨w.heap.size, 1, none⟩) hne (.int .u64 n)) (p := ⟨w.heap.size, 2, none⟩) hne (.string ⟨#[]⟩)) (p := ⟨w.heap.size, 3, none⟩) hne (.bool false)
 have hK6 := (((hK5.setCell (p := ⟨w.heap.size, 0, none⟩) (Or.inr (Nat.le_refl _)) (.int .u64 (tag / 2))).setCell (p := ⟨w.heap.size, 1, none⟩) (Or.inr (Nat.le_refl _)) (.int .u64 n)).setCell (p := ⟨w.heap.size, 2, none⟩) (Or.inr (Nat.le_refl _)) (.string ⟨#[]⟩)).setCell (p := ⟨w.heap.size, 3, none⟩) (Or.inr (Nat.le_refl _)) (.bool false)
 have hBB6 := Aside0.mk (below_set (j := 3) (v := .bool false) (below_set (j := 2) (v := .string ⟨#[]⟩) (below_set (j := 1) (v := .int .u64 n) (below_set (j := 0) (v := .int .u64 (tag / 2)) hBB5 hle) hle) hle) hle)
 have hb6a := Aside0.mk hb6; have hK6a := Aside0.mk hK6
 clear hb5 hK5 hb6 hK6 hBB5
 go_wp2_with (fail)
 have hres : Try.f40.results = #[.cell 2 82, .tmp 3] := by kernel_rfl
 refine bodyPost_ret (v := .tuple #[.agg #[.int .u64 (tag / 2), .int .u64 n, .string ⟨#[]⟩, .bool false], .bool (ee == 0)]) ?_ rfl ⟨rfl, hb6a.out, hK6a.out, hBB6.out⟩
 simp only [results, hres]
 go_simp
set_option maxHeartbeats 1000000 in
set_option maxRecDepth 100000 in
theorem Itm.next_none (w0 w : World) (rb : Nat) (C : Array Value) (A : Option Addr) (c : Nat) (l : List Int) (q tag p ee : Int) (HB0 : Below w0.heap.size w0 w) (hrb0 : w0.heap.size ≤ rb) (hC : w.heap[rb]? = some (.cells C 79 (0, 0))) (h15 : C[15]? = some (.slice A l.length c)) (h16 : C[16]? = some (.int .i64 q))
  (hr : Kd.C (Kd.int .u8) w A l.length l) (hc : l.length ≤ c) (hg : num_Get.f l q = some (tag, p, ee)) (hee : ee ≠ 0) :
  Calls Try.prog 40 #[.pointer (some ⟨rb, 0, none⟩)] w fun e w' => (∃ no n s tx, e = .returned (.tuple #[.agg #[.int .u64 no, .int .u64 n, .string s, .bool tx], .bool false])) ∧ Kept w w' (fun k => k = rb) ∧ Below w0.heap.size w0 w' := by
 have hlt := blk_lt hC
 have hb1 := Aside0.mk (blk_drew (blk_alloc hC (.cells #[.int .u64 0, .int .u64 0, .string ⟨#[]⟩, .bool false] 82 (0, 0))))
 have hK1 := Aside0.mk (Kept.drew (Kept.alloc (Kept.refl w (fun k => k = rb)) (.cells #[.int .u64 0, .int .u64 0, .string ⟨#[]⟩, .bool false] 82 (0, 0))))
 have hf1 := Aside0.mk (blk_drew (blk_new w (.cells #[.int .u64 0, .int .u64 0, .string ⟨#[]⟩, .bool false] 82 (0, 0))))
 have hr1 := Aside0.mk (Kd.C_drew (Kd.C_alloc hr (.cells #[.int .u64 0, .int .u64 0, .string ⟨#[]⟩, .bool false] 82 (0, 0))))
 have h15a := Aside0.mk h15; have h16a := Aside0.mk h16
 have hr0 := Aside0.mk hr
 have hB1 := Aside0.mk (below_drew (below_alloc (Below.refl w.heap.size w) (.cells #[.int .u64 0, .int .u64 0, .string ⟨#[]⟩, .bool false] 82 (0, 0))))
 have hBB1 := Aside0.mk (below_drew (below_alloc HB0 (.cells #[.int .u64 0, .int .u64 0, .string ⟨#[]⟩, .bool false] 82 (0, 0))))
 have hle := below_size HB0
 clear hr h15 h16 hC HB0
 go_enter Try.func40, Try.ntmps40
 go_wp2_with (fail)
 generalize w.alloc (.cells #[.int .u64 0, .int .u64 0, .string ⟨#[]⟩, .bool false] 82 (0, 0)) = W1 at *
 have y15 : W1.drew.cell? ⟨rb, 15, none⟩ = some (.slice A l.length c) := (blk_cell hb1.out 15).trans h15a.out
 have y16 : W1.drew.cell? ⟨rb, 16, none⟩ = some (.int .i64 q) := (blk_cell hb1.out 16).trans h16a.out
 refine start_ (n := 16) (S := fun w' => w'.cell? ⟨rb, 15, none⟩ = some (.slice A l.length c) ∧ w'.cell? ⟨rb, 16, none⟩ = some (.int .i64 q)) (ds := [8]) #[false, false, false, false, false, false, false, false, false, false, false, false, false, false, false, false] (by kernel_rfl) rfl rfl ⟨y15, y16⟩ (fun hHeld => ?_)
 refine with_tab Itm.T40_tab (fun HT_ => ?_)
 generalize W1.drew = w2 at hHeld hb1 hK1 hf1 hr1 hB1 hBB1 y15 y16 ⊢
 refine pure_ (i := 0) (N := (some 8)) (v := ?_) (a' := ?_) #[true, false, false, false, false, false, false, false, false, false, false, false, false, false, false, false] rfl rfl (any_of HT_.out (by kernel_rfl)) (fun _ _ _ h => h) (Or.inl ⟨by rfl, ?_⟩) ?_ ?_
 rotate_left
 ·intro w'
  go_simp
  with_reducible rfl
 rotate_left
 ·simp only [ps_]
  rfl
 refine pure_ (i := 1) (N := (some 9)) (v := ?_) (a' := ?_) #[true, true, false, false, false, false, false, false, false, false, false, false, false, false, false, false] rfl rfl (any_of HT_.out (by kernel_rfl)) (fun _ _ _ h => h) (Or.inl ⟨by rfl, ?_⟩) ?_ ?_
 rotate_left
 ·intro w'
  go_simp
  with_reducible rfl
 rotate_left
 ·simp only [ps_]
  rfl
 refine pure_ (i := 2) (N := (some 10)) (v := ?_) (a' := ?_) #[true, true, true, false, false, false, false, false, false, false, false, false, false, false, false, false] rfl rfl (any_of HT_.out (by kernel_rfl)) (fun _ _ _ h => h) (Or.inl ⟨by rfl, ?_⟩) ?_ ?_
 rotate_left
 ·intro w'
  go_simp
  with_reducible rfl
 rotate_left
 ·simp only [ps_]
  rfl
 refine take_ (i := 3) (N := (some 11)) (v := ?_) (a' := ?_) #[true, true, true, true, false, false, false, false, false, false, false, false, false, false, false, false] rfl rfl (take_of HT_.out (by kernel_rfl)) (fun _ _ _ h => h) (Or.inl ⟨by rfl, ?_⟩) hHeld ?_ ?_
 rotate_left
 ·rintro w' ⟨s0, s1⟩
  go_simp
  with_reducible rfl
 rotate_left
 ·simp only [ps_]
  rfl
 refine pure_ (i := 4) (N := (some 12)) (v := ?_) (a' := ?_) #[true, true, true, true, true, false, false, false, false, false, false, false, false, false, false, false] rfl rfl (any_of HT_.out (by kernel_rfl)) (fun _ _ _ h => h) (Or.inl ⟨by rfl, ?_⟩) ?_ ?_
 rotate_left
 ·intro w'
  go_simp
  with_reducible rfl
 rotate_left
 ·simp only [ps_]
  rfl
 refine pure_ (i := 5) (N := (some 13)) (v := ?_) (a' := ?_) #[true, true, true, true, true, true, false, false, false, false, false, false, false, false, false, false] rfl rfl (any_of HT_.out (by kernel_rfl)) (fun _ _ _ h => h) (Or.inl ⟨by rfl, ?_⟩) ?_ ?_
 rotate_left
 ·intro w'
  go_simp
  with_reducible rfl
 rotate_left
 ·simp only [ps_]
  rfl
 refine pure_ (i := 6) (N := (some 14)) (v := ?_) (a' := ?_) #[true, true, true, true, true, true, true, false, false, false, false, false, false, false, false, false] rfl rfl (any_of HT_.out (by kernel_rfl)) (fun _ _ _ h => h) (Or.inl ⟨by rfl, ?_⟩) ?_ ?_
 rotate_left
 ·intro w'
  go_simp
  with_reducible rfl
 rotate_left
 ·simp only [ps_]
  rfl
 refine take_ (i := 7) (N := (some 15)) (v := ?_) (a' := ?_) #[true, true, true, true, true, true, true, true, false, false, false, false, false, false, false, false] rfl rfl (take_of HT_.out (by kernel_rfl)) (fun _ _ _ h => h) (Or.inl ⟨by rfl, ?_⟩) hHeld ?_ ?_
 rotate_left
 ·rintro w' ⟨s0, s1⟩
  go_simp
  with_reducible rfl
 rotate_left
 ·simp only [ps_]
  rfl
 refine last_ (i := 8) (N := (some 16)) #[true, true, true, true, true, true, true, true, true, false, false, false, false, false, false, false] rfl rfl (one_of HT_.out (by kernel_rfl)) (by decide) (fun K hK => ?_)
 refine goes_ Try.func54 (by kernel_rfl) rfl #[.slice A l.length c, .int .i64 q] (by rfl) rfl rfl (by (try simp only [List.map_toArray, List.map_cons, List.map_nil]); first | done | rfl) ?_
 refine (Num.Get_same A c l q tag p ee w2 hr1.out hc hg).mono ?_
 rintro e w3 ⟨rfl, rfl⟩
 refine ⟨_, rfl, ?_⟩
 refine hK.out _ _ ?_
 clear hK K
 refine norm_ (a' := ?_) ?_ ?_
 rotate_left
 ·show Act.put _ (some 16) _ = _
  simp only [ps_]
  rfl
 refine pure_ (i := 9) (N := (some 7)) (v := ?_) (a' := ?_) #[true, true, true, true, true, true, true, true, true, true, false, false, false, false, false, false] rfl rfl (any_of HT_.out (by kernel_rfl)) (fun _ _ _ h => h) (Or.inl ⟨by rfl, ?_⟩) ?_ ?_
 rotate_left
 ·intro w'
  go_simp
  with_reducible rfl
 rotate_left
 ·simp only [ps_]
  rfl
 refine pure_ (i := 10) (N := (some 17)) (v := ?_) (a' := ?_) #[true, true, true, true, true, true, true, true, true, true, true, false, false, false, false, false] rfl rfl (any_of HT_.out (by kernel_rfl)) (fun _ _ _ h => h) (Or.inl ⟨by rfl, ?_⟩) ?_ ?_
 rotate_left
 ·intro w'
  go_simp
  with_reducible rfl
 rotate_left
 ·simp only [ps_]
  rfl
 refine pure_ (i := 11) (N := (some 18)) (v := ?_) (a' := ?_) #[true, true, true, true, true, true, true, true, true, true, true, true, false, false, false, false] rfl rfl (any_of HT_.out (by kernel_rfl)) (fun _ _ _ h => h) (Or.inl ⟨by rfl, ?_⟩) ?_ ?_
 rotate_left
 ·intro w'
  go_simp
  with_reducible rfl
 rotate_left
 ·simp only [ps_]
  rfl
 refine pure_ (i := 12) (N := (some 19)) (v := ?_) (a' := ?_) #[true, true, true, true, true, true, true, true, true, true, true, true, true, false, false, false] rfl rfl (any_of HT_.out (by kernel_rfl)) (fun _ _ _ h => h) (Or.inl ⟨by rfl, ?_⟩) ?_ ?_
 rotate_left
 ·intro w'
  go_simp
  with_reducible rfl
 rotate_left
 ·simp only [ps_]
  rfl
 refine pure_ (i := 13) (N := (some 4)) (v := ?_) (a' := ?_) #[true, true, true, true, true, true, true, true, true, true, true, true, true, true, false, false] rfl rfl (any_of HT_.out (by kernel_rfl)) (fun _ _ _ h => h) (Or.inl ⟨by rfl, ?_⟩) ?_ ?_
 rotate_left
 ·intro w'
  go_simp
  with_reducible rfl
 rotate_left
 ·simp only [ps_]
  rfl
 refine pure_ (i := 14) (N := (some 5)) (v := ?_) (a' := ?_) #[true, true, true, true, true, true, true, true, true, true, true, true, true, true, true, false] rfl rfl (any_of HT_.out (by kernel_rfl)) (fun _ _ _ h => h) (Or.inl ⟨by rfl, ?_⟩) ?_ ?_
 rotate_left
 ·intro w'
  go_simp
  with_reducible rfl
 rotate_left
 ·simp only [ps_]
  rfl
 refine pure_ (i := 15) (N := (some 6)) (v := ?_) (a' := ?_) #[true, true, true, true, true, true, true, true, true, true, true, true, true, true, true, true] rfl rfl (any_of HT_.out (by kernel_rfl)) (fun _ _ _ h => h) (Or.inl ⟨by rfl, ?_⟩) ?_ ?_
 rotate_left
 ·intro w'
  go_simp
  with_reducible rfl
 rotate_left
 ·simp only [ps_]
  rfl
 refine done_ (done_of HT_.out (by kernel_rfl)) ?_
 clear HT_
 have x0 : w2.cell? ⟨w.heap.size, 0, none⟩ = some (.int .u64 0) := blk_cell hf1.out 0
 have x1 : w2.cell? ⟨w.heap.size, 1, none⟩ = some (.int .u64 0) := blk_cell hf1.out 1
 have x2 : w2.cell? ⟨w.heap.size, 2, none⟩ = some (.string ⟨#[]⟩) := blk_cell hf1.out 2
 have x3 : w2.cell? ⟨w.heap.size, 3, none⟩ = some (.bool false) := blk_cell hf1.out 3
 have u0 := blk_frozen hf1.out 0
 have u1 := blk_frozen hf1.out 1
 have u2 := blk_frozen hf1.out 2
 have u3 := blk_frozen hf1.out 3
 have u16 := blk_frozen hb1.out 16
 have heb : (ee == 0) = false := beq_eq_false_iff_ne.mpr hee
 have hb5 : ∀ v0 v1 v2 v3 : Value, Kept w ((((w2.setCell ⟨w.heap.size, 0, none⟩ v0).setCell ⟨w.heap.size, 1, none⟩ v1).setCell ⟨w.heap.size, 2, none⟩ v2).setCell ⟨w.heap.size, 3, none⟩ v3) (fun k => k = rb) ∧ Below w0.heap.size w0 ((((w2.setCell ⟨w.heap.size, 0, none⟩ v0).setCell ⟨w.heap.size, 1, none⟩ v1).setCell ⟨w.heap.size, 2, none⟩ v2).setCell ⟨w.heap.size, 3, none⟩ v3) := fun v0 v1 v2 v3 =>
  ⟨(((hK1.out.setCell (p := ⟨w.heap.size, 0, none⟩) (Or.inr (Nat.le_refl _)) v0).setCell (p := ⟨w.heap.size, 1, none⟩) (Or.inr (Nat.le_refl _)) v1).setCell (p := ⟨w.heap.size, 2, none⟩) (Or.inr (Nat.le_refl _)) v2).setCell (p := ⟨w.heap.size, 3, none⟩) (Or.inr (Nat.le_refl _)) v3, below_set (j := 3) (v := v3) (below_set (j := 2) (v := v2) (below_set (j := 1) (v := v1) (below_set (j := 0) (v := v0) hBB1.out hle) hle) hle) hle⟩
 go_wp2_with (fail)
 have hres : Try.f40.results = #[.cell 2 82, .tmp 3] := by kernel_rfl
 refine bodyPost_ret (v := .tuple #[.agg #[.int .u64 0, .int .u64 0, .string ⟨#[]⟩, .bool false], .bool false]) ?_ rfl ⟨⟨_, _, _, _, rfl⟩, hb5 _ _ _ _⟩
 simp only [results, hres]
 go_simp
end Go.Proofs.Ytfapckmobeppnaa.Px

/- The reader's span and log: one field each. -/
namespace Go.Proofs.Ytfapckmobeppnaa.Px
open Go.RowKit Go.Proofs.YtfapckmobeppnaaW.PrintWords Go.Proofs.YtfapckmobeppnaaW.PrintLast Go.Proofs.YtfapckmobeppnaaW.PrintMore
set_option linter.unusedVariables false
set_option linter.unusedSimpArgs false

set_option maxHeartbeats 1000000 in
set_option maxRecDepth 100000 in
theorem Itm.rspan_1 (w0 w : World) (rb : Nat) (C : Array Value) (n : Int) (s : ByteArray) (tx : Bool) (old : Value) (HB0 : Below w0.heap.size w0 w) (hrb0 : w0.heap.size ≤ rb) (hC : w.heap[rb]? = some (.cells C 79 (0, 0))) (ho : C[1]? = some old) :
  Calls Try.prog 39 #[.pointer (some ⟨rb, 0, none⟩), .agg #[.int .u64 1, .int .u64 n, .string s, .bool tx]] w fun e w' => (∃ v, e = .returned v) ∧ w'.heap[rb]? = some (.cells (C.setIfInBounds 1 (.int .u64 n)) 79 (0, 0)) ∧ Kept w w' (fun k => k = rb) ∧ Below w0.heap.size w0 w' := by
 have hlt := blk_lt hC
 have hBB := Aside0.mk (below_set (j := 1) (v := .int .u64 n) (below_alloc HB0 (.cells #[.int .u64 1, .int .u64 n, .string s, .bool tx] 82 (0, 0))) hrb0)
 have hb1 := blk_alloc hC (.cells #[.int .u64 1, .int .u64 n, .string s, .bool tx] 82 (0, 0))
 have hK1 := Aside0.mk (Kept.alloc (Kept.refl w (fun k => k = rb)) (.cells #[.int .u64 1, .int .u64 n, .string s, .bool tx] 82 (0, 0)))
 have hf1 := blk_new w (.cells #[.int .u64 1, .int .u64 n, .string s, .bool tx] 82 (0, 0))
 go_enter Try.func39, Try.ntmps39
 obtain ⟨W1, hW1⟩ : ∃ W1, W1 = w.alloc (.cells #[.int .u64 1, .int .u64 n, .string s, .bool tx] 82 (0, 0)) := ⟨_, rfl⟩
 rw [← hW1] at hb1 hK1 hf1 hBB
 go_upto_region 1 with (fail)
 rw [← hW1]
 clear hW1 hC
 have z0 : W1.cell? ⟨w.heap.size, 0, none⟩ = some (.int .u64 1) := blk_cell hf1 0
 have z1 : W1.cell? ⟨w.heap.size, 1, none⟩ = some (.int .u64 n) := blk_cell hf1 1
 have z2 : W1.cell? ⟨w.heap.size, 2, none⟩ = some (.string s) := blk_cell hf1 2
 have y : W1.cell? ⟨rb, 1, none⟩ = some old := (blk_cell hb1 1).trans ho
 have yf := blk_frozen hb1 1
 have hb2 := Aside0.mk (blk_set hb1 1 (.int .u64 n))
 have hK2 := Aside0.mk (hK1.out.setCell (p := ⟨rb, 1, none⟩) (Or.inl rfl) (.int .u64 n))
 clear hb1 hK1 hf1
 go_wp2_with (fail)
 go_end0
 exact ⟨⟨_, rfl⟩, hb2.out, hK2.out, hBB.out⟩
set_option maxHeartbeats 1000000 in
set_option maxRecDepth 100000 in
theorem Itm.rspan_2 (w0 w : World) (rb : Nat) (C : Array Value) (n : Int) (s : ByteArray) (tx : Bool) (old : Value) (HB0 : Below w0.heap.size w0 w) (hrb0 : w0.heap.size ≤ rb) (hC : w.heap[rb]? = some (.cells C 79 (0, 0))) (ho : C[2]? = some old) :
  Calls Try.prog 39 #[.pointer (some ⟨rb, 0, none⟩), .agg #[.int .u64 2, .int .u64 n, .string s, .bool tx]] w fun e w' => (∃ v, e = .returned v) ∧ w'.heap[rb]? = some (.cells (C.setIfInBounds 2 (.int .u64 n)) 79 (0, 0)) ∧ Kept w w' (fun k => k = rb) ∧ Below w0.heap.size w0 w' := by
 have hlt := blk_lt hC
 have hBB := Aside0.mk (below_set (j := 2) (v := .int .u64 n) (below_alloc HB0 (.cells #[.int .u64 2, .int .u64 n, .string s, .bool tx] 82 (0, 0))) hrb0)
 have hb1 := blk_alloc hC (.cells #[.int .u64 2, .int .u64 n, .string s, .bool tx] 82 (0, 0))
 have hK1 := Aside0.mk (Kept.alloc (Kept.refl w (fun k => k = rb)) (.cells #[.int .u64 2, .int .u64 n, .string s, .bool tx] 82 (0, 0)))
 have hf1 := blk_new w (.cells #[.int .u64 2, .int .u64 n, .string s, .bool tx] 82 (0, 0))
 go_enter Try.func39, Try.ntmps39
 obtain ⟨W1, hW1⟩ : ∃ W1, W1 = w.alloc (.cells #[.int .u64 2, .int .u64 n, .string s, .bool tx] 82 (0, 0)) := ⟨_, rfl⟩
 rw [← hW1] at hb1 hK1 hf1 hBB
 go_upto_region 1 with (fail)
 rw [← hW1]
 clear hW1 hC
 have z0 : W1.cell? ⟨w.heap.size, 0, none⟩ = some (.int .u64 2) := blk_cell hf1 0
 have z1 : W1.cell? ⟨w.heap.size, 1, none⟩ = some (.int .u64 n) := blk_cell hf1 1
 have z2 : W1.cell? ⟨w.heap.size, 2, none⟩ = some (.string s) := blk_cell hf1 2
 have y : W1.cell? ⟨rb, 2, none⟩ = some old := (blk_cell hb1 2).trans ho
 have yf := blk_frozen hb1 2
 have hb2 := Aside0.mk (blk_set hb1 2 (.int .u64 n))
 have hK2 := Aside0.mk (hK1.out.setCell (p := ⟨rb, 2, none⟩) (Or.inl rfl) (.int .u64 n))
 clear hb1 hK1 hf1
 go_wp2_with (fail)
 go_end0
 exact ⟨⟨_, rfl⟩, hb2.out, hK2.out, hBB.out⟩
set_option maxHeartbeats 1000000 in
set_option maxRecDepth 100000 in
theorem Itm.rspan_3 (w0 w : World) (rb : Nat) (C : Array Value) (n : Int) (s : ByteArray) (tx : Bool) (old : Value) (HB0 : Below w0.heap.size w0 w) (hrb0 : w0.heap.size ≤ rb) (hC : w.heap[rb]? = some (.cells C 79 (0, 0))) (ho : C[3]? = some old) :
  Calls Try.prog 39 #[.pointer (some ⟨rb, 0, none⟩), .agg #[.int .u64 3, .int .u64 n, .string s, .bool tx]] w fun e w' => (∃ v, e = .returned v) ∧ w'.heap[rb]? = some (.cells (C.setIfInBounds 3 (.int .u64 n)) 79 (0, 0)) ∧ Kept w w' (fun k => k = rb) ∧ Below w0.heap.size w0 w' := by
 have hlt := blk_lt hC
 have hBB := Aside0.mk (below_set (j := 3) (v := .int .u64 n) (below_alloc HB0 (.cells #[.int .u64 3, .int .u64 n, .string s, .bool tx] 82 (0, 0))) hrb0)
 have hb1 := blk_alloc hC (.cells #[.int .u64 3, .int .u64 n, .string s, .bool tx] 82 (0, 0))
 have hK1 := Aside0.mk (Kept.alloc (Kept.refl w (fun k => k = rb)) (.cells #[.int .u64 3, .int .u64 n, .string s, .bool tx] 82 (0, 0)))
 have hf1 := blk_new w (.cells #[.int .u64 3, .int .u64 n, .string s, .bool tx] 82 (0, 0))
 go_enter Try.func39, Try.ntmps39
 obtain ⟨W1, hW1⟩ : ∃ W1, W1 = w.alloc (.cells #[.int .u64 3, .int .u64 n, .string s, .bool tx] 82 (0, 0)) := ⟨_, rfl⟩
 rw [← hW1] at hb1 hK1 hf1 hBB
 go_upto_region 1 with (fail)
 rw [← hW1]
 clear hW1 hC
 have z0 : W1.cell? ⟨w.heap.size, 0, none⟩ = some (.int .u64 3) := blk_cell hf1 0
 have z1 : W1.cell? ⟨w.heap.size, 1, none⟩ = some (.int .u64 n) := blk_cell hf1 1
 have z2 : W1.cell? ⟨w.heap.size, 2, none⟩ = some (.string s) := blk_cell hf1 2
 have y : W1.cell? ⟨rb, 3, none⟩ = some old := (blk_cell hb1 3).trans ho
 have yf := blk_frozen hb1 3
 have hb2 := Aside0.mk (blk_set hb1 3 (.int .u64 n))
 have hK2 := Aside0.mk (hK1.out.setCell (p := ⟨rb, 3, none⟩) (Or.inl rfl) (.int .u64 n))
 clear hb1 hK1 hf1
 go_wp2_with (fail)
 go_end0
 exact ⟨⟨_, rfl⟩, hb2.out, hK2.out, hBB.out⟩
set_option maxHeartbeats 1000000 in
set_option maxRecDepth 100000 in
theorem Itm.rspan_4 (w0 w : World) (rb : Nat) (C : Array Value) (n : Int) (s : ByteArray) (tx : Bool) (old : Value) (HB0 : Below w0.heap.size w0 w) (hrb0 : w0.heap.size ≤ rb) (hC : w.heap[rb]? = some (.cells C 79 (0, 0))) (ho : C[4]? = some old) :
  Calls Try.prog 39 #[.pointer (some ⟨rb, 0, none⟩), .agg #[.int .u64 4, .int .u64 n, .string s, .bool tx]] w fun e w' => (∃ v, e = .returned v) ∧ w'.heap[rb]? = some (.cells (C.setIfInBounds 4 (.int .u64 n)) 79 (0, 0)) ∧ Kept w w' (fun k => k = rb) ∧ Below w0.heap.size w0 w' := by
 have hlt := blk_lt hC
 have hBB := Aside0.mk (below_set (j := 4) (v := .int .u64 n) (below_alloc HB0 (.cells #[.int .u64 4, .int .u64 n, .string s, .bool tx] 82 (0, 0))) hrb0)
 have hb1 := blk_alloc hC (.cells #[.int .u64 4, .int .u64 n, .string s, .bool tx] 82 (0, 0))
 have hK1 := Aside0.mk (Kept.alloc (Kept.refl w (fun k => k = rb)) (.cells #[.int .u64 4, .int .u64 n, .string s, .bool tx] 82 (0, 0)))
 have hf1 := blk_new w (.cells #[.int .u64 4, .int .u64 n, .string s, .bool tx] 82 (0, 0))
 go_enter Try.func39, Try.ntmps39
 obtain ⟨W1, hW1⟩ : ∃ W1, W1 = w.alloc (.cells #[.int .u64 4, .int .u64 n, .string s, .bool tx] 82 (0, 0)) := ⟨_, rfl⟩
 rw [← hW1] at hb1 hK1 hf1 hBB
 go_upto_region 1 with (fail)
 rw [← hW1]
 clear hW1 hC
 have z0 : W1.cell? ⟨w.heap.size, 0, none⟩ = some (.int .u64 4) := blk_cell hf1 0
 have z1 : W1.cell? ⟨w.heap.size, 1, none⟩ = some (.int .u64 n) := blk_cell hf1 1
 have z2 : W1.cell? ⟨w.heap.size, 2, none⟩ = some (.string s) := blk_cell hf1 2
 have y : W1.cell? ⟨rb, 4, none⟩ = some old := (blk_cell hb1 4).trans ho
 have yf := blk_frozen hb1 4
 have hb2 := Aside0.mk (blk_set hb1 4 (.int .u64 n))
 have hK2 := Aside0.mk (hK1.out.setCell (p := ⟨rb, 4, none⟩) (Or.inl rfl) (.int .u64 n))
 clear hb1 hK1 hf1
 go_wp2_with (fail)
 go_end0
 exact ⟨⟨_, rfl⟩, hb2.out, hK2.out, hBB.out⟩
set_option maxHeartbeats 1000000 in
set_option maxRecDepth 100000 in
theorem Itm.rspan_5 (w0 w : World) (rb : Nat) (C : Array Value) (n : Int) (s : ByteArray) (tx : Bool) (old : Value) (HB0 : Below w0.heap.size w0 w) (hrb0 : w0.heap.size ≤ rb) (hC : w.heap[rb]? = some (.cells C 79 (0, 0))) (ho : C[5]? = some old) :
  Calls Try.prog 39 #[.pointer (some ⟨rb, 0, none⟩), .agg #[.int .u64 5, .int .u64 n, .string s, .bool tx]] w fun e w' => (∃ v, e = .returned v) ∧ w'.heap[rb]? = some (.cells (C.setIfInBounds 5 (.string s)) 79 (0, 0)) ∧ Kept w w' (fun k => k = rb) ∧ Below w0.heap.size w0 w' := by
 have hlt := blk_lt hC
 have hBB := Aside0.mk (below_set (j := 5) (v := .string s) (below_alloc HB0 (.cells #[.int .u64 5, .int .u64 n, .string s, .bool tx] 82 (0, 0))) hrb0)
 have hb1 := blk_alloc hC (.cells #[.int .u64 5, .int .u64 n, .string s, .bool tx] 82 (0, 0))
 have hK1 := Aside0.mk (Kept.alloc (Kept.refl w (fun k => k = rb)) (.cells #[.int .u64 5, .int .u64 n, .string s, .bool tx] 82 (0, 0)))
 have hf1 := blk_new w (.cells #[.int .u64 5, .int .u64 n, .string s, .bool tx] 82 (0, 0))
 go_enter Try.func39, Try.ntmps39
 obtain ⟨W1, hW1⟩ : ∃ W1, W1 = w.alloc (.cells #[.int .u64 5, .int .u64 n, .string s, .bool tx] 82 (0, 0)) := ⟨_, rfl⟩
 rw [← hW1] at hb1 hK1 hf1 hBB
 go_upto_region 1 with (fail)
 rw [← hW1]
 clear hW1 hC
 have z0 : W1.cell? ⟨w.heap.size, 0, none⟩ = some (.int .u64 5) := blk_cell hf1 0
 have z1 : W1.cell? ⟨w.heap.size, 1, none⟩ = some (.int .u64 n) := blk_cell hf1 1
 have z2 : W1.cell? ⟨w.heap.size, 2, none⟩ = some (.string s) := blk_cell hf1 2
 have y : W1.cell? ⟨rb, 5, none⟩ = some old := (blk_cell hb1 5).trans ho
 have yf := blk_frozen hb1 5
 have hb2 := Aside0.mk (blk_set hb1 5 (.string s))
 have hK2 := Aside0.mk (hK1.out.setCell (p := ⟨rb, 5, none⟩) (Or.inl rfl) (.string s))
 clear hb1 hK1 hf1
 go_wp2_with (fail)
 go_end0
 exact ⟨⟨_, rfl⟩, hb2.out, hK2.out, hBB.out⟩
set_option maxHeartbeats 1000000 in
set_option maxRecDepth 100000 in
theorem Itm.rspan_6 (w0 w : World) (rb : Nat) (C : Array Value) (n : Int) (s : ByteArray) (tx : Bool) (old : Value) (HB0 : Below w0.heap.size w0 w) (hrb0 : w0.heap.size ≤ rb) (hC : w.heap[rb]? = some (.cells C 79 (0, 0))) (ho : C[6]? = some old) :
  Calls Try.prog 39 #[.pointer (some ⟨rb, 0, none⟩), .agg #[.int .u64 6, .int .u64 n, .string s, .bool tx]] w fun e w' => (∃ v, e = .returned v) ∧ w'.heap[rb]? = some (.cells (C.setIfInBounds 6 (.int .i64 (wrap64 n))) 79 (0, 0)) ∧ Kept w w' (fun k => k = rb) ∧ Below w0.heap.size w0 w' := by
 have hlt := blk_lt hC
 have hw64 : IntKind.i64.wrap n = wrap64 n := Itm.i64w n
 have hBB := Aside0.mk (below_set (j := 6) (v := .int .i64 (wrap64 n)) (below_alloc HB0 (.cells #[.int .u64 6, .int .u64 n, .string s, .bool tx] 82 (0, 0))) hrb0)
 have hb1 := blk_alloc hC (.cells #[.int .u64 6, .int .u64 n, .string s, .bool tx] 82 (0, 0))
 have hK1 := Aside0.mk (Kept.alloc (Kept.refl w (fun k => k = rb)) (.cells #[.int .u64 6, .int .u64 n, .string s, .bool tx] 82 (0, 0)))
 have hf1 := blk_new w (.cells #[.int .u64 6, .int .u64 n, .string s, .bool tx] 82 (0, 0))
 go_enter Try.func39, Try.ntmps39
 obtain ⟨W1, hW1⟩ : ∃ W1, W1 = w.alloc (.cells #[.int .u64 6, .int .u64 n, .string s, .bool tx] 82 (0, 0)) := ⟨_, rfl⟩
 rw [← hW1] at hb1 hK1 hf1 hBB
 go_upto_region 1 with (fail)
 rw [← hW1]
 clear hW1 hC
 have z0 : W1.cell? ⟨w.heap.size, 0, none⟩ = some (.int .u64 6) := blk_cell hf1 0
 have z1 : W1.cell? ⟨w.heap.size, 1, none⟩ = some (.int .u64 n) := blk_cell hf1 1
 have z2 : W1.cell? ⟨w.heap.size, 2, none⟩ = some (.string s) := blk_cell hf1 2
 have y : W1.cell? ⟨rb, 6, none⟩ = some old := (blk_cell hb1 6).trans ho
 have yf := blk_frozen hb1 6
 have hb2 := Aside0.mk (blk_set hb1 6 (.int .i64 (wrap64 n)))
 have hK2 := Aside0.mk (hK1.out.setCell (p := ⟨rb, 6, none⟩) (Or.inl rfl) (.int .i64 (wrap64 n)))
 clear hb1 hK1 hf1
 go_wp2_with (fail)
 go_end0
 exact ⟨⟨_, rfl⟩, hb2.out, hK2.out, hBB.out⟩
set_option maxHeartbeats 1000000 in
set_option maxRecDepth 100000 in
theorem Itm.rspan_7 (w0 w : World) (rb : Nat) (C : Array Value) (n : Int) (s : ByteArray) (tx : Bool) (old : Value) (HB0 : Below w0.heap.size w0 w) (hrb0 : w0.heap.size ≤ rb) (hC : w.heap[rb]? = some (.cells C 79 (0, 0))) (ho : C[7]? = some old) :
  Calls Try.prog 39 #[.pointer (some ⟨rb, 0, none⟩), .agg #[.int .u64 7, .int .u64 n, .string s, .bool tx]] w fun e w' => (∃ v, e = .returned v) ∧ w'.heap[rb]? = some (.cells (C.setIfInBounds 7 (.int .i64 (wrap64 n))) 79 (0, 0)) ∧ Kept w w' (fun k => k = rb) ∧ Below w0.heap.size w0 w' := by
 have hlt := blk_lt hC
 have hw64 : IntKind.i64.wrap n = wrap64 n := Itm.i64w n
 have hBB := Aside0.mk (below_set (j := 7) (v := .int .i64 (wrap64 n)) (below_alloc HB0 (.cells #[.int .u64 7, .int .u64 n, .string s, .bool tx] 82 (0, 0))) hrb0)
 have hb1 := blk_alloc hC (.cells #[.int .u64 7, .int .u64 n, .string s, .bool tx] 82 (0, 0))
 have hK1 := Aside0.mk (Kept.alloc (Kept.refl w (fun k => k = rb)) (.cells #[.int .u64 7, .int .u64 n, .string s, .bool tx] 82 (0, 0)))
 have hf1 := blk_new w (.cells #[.int .u64 7, .int .u64 n, .string s, .bool tx] 82 (0, 0))
 go_enter Try.func39, Try.ntmps39
 obtain ⟨W1, hW1⟩ : ∃ W1, W1 = w.alloc (.cells #[.int .u64 7, .int .u64 n, .string s, .bool tx] 82 (0, 0)) := ⟨_, rfl⟩
 rw [← hW1] at hb1 hK1 hf1 hBB
 go_upto_region 1 with (fail)
 rw [← hW1]
 clear hW1 hC
 have z0 : W1.cell? ⟨w.heap.size, 0, none⟩ = some (.int .u64 7) := blk_cell hf1 0
 have z1 : W1.cell? ⟨w.heap.size, 1, none⟩ = some (.int .u64 n) := blk_cell hf1 1
 have z2 : W1.cell? ⟨w.heap.size, 2, none⟩ = some (.string s) := blk_cell hf1 2
 have y : W1.cell? ⟨rb, 7, none⟩ = some old := (blk_cell hb1 7).trans ho
 have yf := blk_frozen hb1 7
 have hb2 := Aside0.mk (blk_set hb1 7 (.int .i64 (wrap64 n)))
 have hK2 := Aside0.mk (hK1.out.setCell (p := ⟨rb, 7, none⟩) (Or.inl rfl) (.int .i64 (wrap64 n)))
 clear hb1 hK1 hf1
 go_wp2_with (fail)
 go_end0
 exact ⟨⟨_, rfl⟩, hb2.out, hK2.out, hBB.out⟩
set_option maxHeartbeats 1000000 in
set_option maxRecDepth 100000 in
theorem Itm.rspan_8 (w0 w : World) (rb : Nat) (C : Array Value) (n : Int) (s : ByteArray) (tx : Bool) (old : Value) (HB0 : Below w0.heap.size w0 w) (hrb0 : w0.heap.size ≤ rb) (hC : w.heap[rb]? = some (.cells C 79 (0, 0))) (ho : C[8]? = some old) :
  Calls Try.prog 39 #[.pointer (some ⟨rb, 0, none⟩), .agg #[.int .u64 8, .int .u64 n, .string s, .bool tx]] w fun e w' => (∃ v, e = .returned v) ∧ w'.heap[rb]? = some (.cells (C.setIfInBounds 8 (.bool (n == 1))) 79 (0, 0)) ∧ Kept w w' (fun k => k = rb) ∧ Below w0.heap.size w0 w' := by
 have hlt := blk_lt hC
 have hBB := Aside0.mk (below_set (j := 8) (v := .bool (n == 1)) (below_alloc HB0 (.cells #[.int .u64 8, .int .u64 n, .string s, .bool tx] 82 (0, 0))) hrb0)
 have hb1 := blk_alloc hC (.cells #[.int .u64 8, .int .u64 n, .string s, .bool tx] 82 (0, 0))
 have hK1 := Aside0.mk (Kept.alloc (Kept.refl w (fun k => k = rb)) (.cells #[.int .u64 8, .int .u64 n, .string s, .bool tx] 82 (0, 0)))
 have hf1 := blk_new w (.cells #[.int .u64 8, .int .u64 n, .string s, .bool tx] 82 (0, 0))
 go_enter Try.func39, Try.ntmps39
 obtain ⟨W1, hW1⟩ : ∃ W1, W1 = w.alloc (.cells #[.int .u64 8, .int .u64 n, .string s, .bool tx] 82 (0, 0)) := ⟨_, rfl⟩
 rw [← hW1] at hb1 hK1 hf1 hBB
 go_upto_region 1 with (fail)
 rw [← hW1]
 clear hW1 hC
 have z0 : W1.cell? ⟨w.heap.size, 0, none⟩ = some (.int .u64 8) := blk_cell hf1 0
 have z1 : W1.cell? ⟨w.heap.size, 1, none⟩ = some (.int .u64 n) := blk_cell hf1 1
 have z2 : W1.cell? ⟨w.heap.size, 2, none⟩ = some (.string s) := blk_cell hf1 2
 have y : W1.cell? ⟨rb, 8, none⟩ = some old := (blk_cell hb1 8).trans ho
 have yf := blk_frozen hb1 8
 have hb2 := Aside0.mk (blk_set hb1 8 (.bool (n == 1)))
 have hK2 := Aside0.mk (hK1.out.setCell (p := ⟨rb, 8, none⟩) (Or.inl rfl) (.bool (n == 1)))
 clear hb1 hK1 hf1
 go_wp2_with (fail)
 go_end0
 exact ⟨⟨_, rfl⟩, hb2.out, hK2.out, hBB.out⟩
set_option maxHeartbeats 1000000 in
set_option maxRecDepth 100000 in
theorem Itm.rspan_9 (w0 w : World) (rb : Nat) (C : Array Value) (n : Int) (s : ByteArray) (tx : Bool) (old : Value) (HB0 : Below w0.heap.size w0 w) (hrb0 : w0.heap.size ≤ rb) (hC : w.heap[rb]? = some (.cells C 79 (0, 0))) (ho : C[10]? = some old) :
  Calls Try.prog 39 #[.pointer (some ⟨rb, 0, none⟩), .agg #[.int .u64 9, .int .u64 n, .string s, .bool tx]] w fun e w' => (∃ v, e = .returned v) ∧ w'.heap[rb]? = some (.cells (C.setIfInBounds 10 (.int .u64 n)) 79 (0, 0)) ∧ Kept w w' (fun k => k = rb) ∧ Below w0.heap.size w0 w' := by
 have hlt := blk_lt hC
 have hBB := Aside0.mk (below_set (j := 10) (v := .int .u64 n) (below_alloc HB0 (.cells #[.int .u64 9, .int .u64 n, .string s, .bool tx] 82 (0, 0))) hrb0)
 have hb1 := blk_alloc hC (.cells #[.int .u64 9, .int .u64 n, .string s, .bool tx] 82 (0, 0))
 have hK1 := Aside0.mk (Kept.alloc (Kept.refl w (fun k => k = rb)) (.cells #[.int .u64 9, .int .u64 n, .string s, .bool tx] 82 (0, 0)))
 have hf1 := blk_new w (.cells #[.int .u64 9, .int .u64 n, .string s, .bool tx] 82 (0, 0))
 go_enter Try.func39, Try.ntmps39
 obtain ⟨W1, hW1⟩ : ∃ W1, W1 = w.alloc (.cells #[.int .u64 9, .int .u64 n, .string s, .bool tx] 82 (0, 0)) := ⟨_, rfl⟩
 rw [← hW1] at hb1 hK1 hf1 hBB
 go_upto_region 1 with (fail)
 rw [← hW1]
 clear hW1 hC
 have z0 : W1.cell? ⟨w.heap.size, 0, none⟩ = some (.int .u64 9) := blk_cell hf1 0
 have z1 : W1.cell? ⟨w.heap.size, 1, none⟩ = some (.int .u64 n) := blk_cell hf1 1
 have z2 : W1.cell? ⟨w.heap.size, 2, none⟩ = some (.string s) := blk_cell hf1 2
 have y : W1.cell? ⟨rb, 10, none⟩ = some old := (blk_cell hb1 10).trans ho
 have yf := blk_frozen hb1 10
 have hb2 := Aside0.mk (blk_set hb1 10 (.int .u64 n))
 have hK2 := Aside0.mk (hK1.out.setCell (p := ⟨rb, 10, none⟩) (Or.inl rfl) (.int .u64 n))
 clear hb1 hK1 hf1
 go_wp2_with (fail)
 go_end0
 exact ⟨⟨_, rfl⟩, hb2.out, hK2.out, hBB.out⟩
set_option maxHeartbeats 1000000 in
set_option maxRecDepth 100000 in
theorem Itm.rlog_atE (w0 w : World) (rb : Nat) (C : Array Value) (n : Int) (s : ByteArray) (tx : Bool) (old : Value) (HB0 : Below w0.heap.size w0 w) (hrb0 : w0.heap.size ≤ rb) (hC : w.heap[rb]? = some (.cells C 79 (0, 0))) (ho : C[13]? = some old) :
  Calls Try.prog 38 #[.pointer (some ⟨rb, 0, none⟩), .agg #[.int .u64 3, .int .u64 n, .string s, .bool tx]] w fun e w' => (∃ v, e = .returned v) ∧ w'.heap[rb]? = some (.cells (C.setIfInBounds 13 (.int .i64 (wrap64 n))) 79 (0, 0)) ∧ Kept w w' (fun k => k = rb) ∧ Below w0.heap.size w0 w' := by
 have hlt := blk_lt hC
 have hw64 : IntKind.i64.wrap n = wrap64 n := Itm.i64w n
 have hBB := Aside0.mk (below_set (j := 13) (v := .int .i64 (wrap64 n)) (below_alloc HB0 (.cells #[.int .u64 3, .int .u64 n, .string s, .bool tx] 82 (0, 0))) hrb0)
 have hb1 := blk_alloc hC (.cells #[.int .u64 3, .int .u64 n, .string s, .bool tx] 82 (0, 0))
 have hK1 := Aside0.mk (Kept.alloc (Kept.refl w (fun k => k = rb)) (.cells #[.int .u64 3, .int .u64 n, .string s, .bool tx] 82 (0, 0)))
 have hf1 := blk_new w (.cells #[.int .u64 3, .int .u64 n, .string s, .bool tx] 82 (0, 0))
 go_enter Try.func38, Try.ntmps38
 obtain ⟨W1, hW1⟩ : ∃ W1, W1 = w.alloc (.cells #[.int .u64 3, .int .u64 n, .string s, .bool tx] 82 (0, 0)) := ⟨_, rfl⟩
 rw [← hW1] at hb1 hK1 hf1 hBB
 go_upto_region 1 with (fail)
 rw [← hW1]
 clear hW1 hC
 have z0 : W1.cell? ⟨w.heap.size, 0, none⟩ = some (.int .u64 3) := blk_cell hf1 0
 have z1 : W1.cell? ⟨w.heap.size, 1, none⟩ = some (.int .u64 n) := blk_cell hf1 1
 have z2 : W1.cell? ⟨w.heap.size, 2, none⟩ = some (.string s) := blk_cell hf1 2
 have y : W1.cell? ⟨rb, 13, none⟩ = some old := (blk_cell hb1 13).trans ho
 have yf := blk_frozen hb1 13
 have hb2 := Aside0.mk (blk_set hb1 13 (.int .i64 (wrap64 n)))
 have hK2 := Aside0.mk (hK1.out.setCell (p := ⟨rb, 13, none⟩) (Or.inl rfl) (.int .i64 (wrap64 n)))
 clear hb1 hK1 hf1
 go_wp2_with (fail)
 go_end0
 exact ⟨⟨_, rfl⟩, hb2.out, hK2.out, hBB.out⟩
set_option maxHeartbeats 1000000 in
set_option maxRecDepth 100000 in
theorem Itm.rlog_none (w0 w : World) (rb : Nat) (C : Array Value) (no n : Int) (s : ByteArray) (tx : Bool) (HB0 : Below w0.heap.size w0 w) (hrb0 : w0.heap.size ≤ rb) (hC : w.heap[rb]? = some (.cells C 79 (0, 0))) (hno : no ≠ 1 ∧ no ≠ 2 ∧ no ≠ 3 ∧ no ≠ 4) :
  Calls Try.prog 38 #[.pointer (some ⟨rb, 0, none⟩), .agg #[.int .u64 no, .int .u64 n, .string s, .bool tx]] w fun e w' => (∃ v, e = .returned v) ∧ w'.heap[rb]? = some (.cells C 79 (0, 0)) ∧ Kept w w' (fun k => k = rb) ∧ Below w0.heap.size w0 w' := by
 have hlt := blk_lt hC
 obtain ⟨hn1, hn2, hn3, hn4⟩ := hno
 have hb_1 : (no == 1) = false := beq_eq_false_iff_ne.mpr hn1
 have hb_2 : (no == 2) = false := beq_eq_false_iff_ne.mpr hn2
 have hb_3 : (no == 3) = false := beq_eq_false_iff_ne.mpr hn3
 have hb_4 : (no == 4) = false := beq_eq_false_iff_ne.mpr hn4
 have hBB := Aside0.mk (below_alloc HB0 (.cells #[.int .u64 no, .int .u64 n, .string s, .bool tx] 82 (0, 0)))
 have hb1 := blk_alloc hC (.cells #[.int .u64 no, .int .u64 n, .string s, .bool tx] 82 (0, 0))
 have hK1 := Aside0.mk (Kept.alloc (Kept.refl w (fun k => k = rb)) (.cells #[.int .u64 no, .int .u64 n, .string s, .bool tx] 82 (0, 0)))
 have hf1 := blk_new w (.cells #[.int .u64 no, .int .u64 n, .string s, .bool tx] 82 (0, 0))
 go_enter Try.func38, Try.ntmps38
 obtain ⟨W1, hW1⟩ : ∃ W1, W1 = w.alloc (.cells #[.int .u64 no, .int .u64 n, .string s, .bool tx] 82 (0, 0)) := ⟨_, rfl⟩
 rw [← hW1] at hb1 hK1 hf1 hBB
 go_upto_region 1 with (fail)
 rw [← hW1]
 clear hW1 hC
 have z0 : W1.cell? ⟨w.heap.size, 0, none⟩ = some (.int .u64 no) := blk_cell hf1 0
 have z1 : W1.cell? ⟨w.heap.size, 1, none⟩ = some (.int .u64 n) := blk_cell hf1 1
 have z2 : W1.cell? ⟨w.heap.size, 2, none⟩ = some (.string s) := blk_cell hf1 2
 have hb2 := Aside0.mk hb1
 have hK2 := hK1
 clear hb1 hK1 hf1
 go_wp2_with (fail)
 go_end0
 exact ⟨⟨_, rfl⟩, hb2.out, hK2.out, hBB.out⟩
set_option maxHeartbeats 1000000 in
set_option maxRecDepth 100000 in
theorem Itm.rspan_none (w0 w : World) (rb : Nat) (C : Array Value) (no n : Int) (s : ByteArray) (tx : Bool) (HB0 : Below w0.heap.size w0 w) (hrb0 : w0.heap.size ≤ rb) (hC : w.heap[rb]? = some (.cells C 79 (0, 0))) (hno : no ≠ 1 ∧ no ≠ 2 ∧ no ≠ 3 ∧ no ≠ 4 ∧ no ≠ 5 ∧ no ≠ 6 ∧ no ≠ 7 ∧ no ≠ 8 ∧ no ≠ 9 ∧ no ≠ 10) :
  Calls Try.prog 39 #[.pointer (some ⟨rb, 0, none⟩), .agg #[.int .u64 no, .int .u64 n, .string s, .bool tx]] w fun e w' => (∃ v, e = .returned v) ∧ w'.heap[rb]? = some (.cells C 79 (0, 0)) ∧ Kept w w' (fun k => k = rb) ∧ Below w0.heap.size w0 w' := by
 have hlt := blk_lt hC
 obtain ⟨hn1, hn2, hn3, hn4, hn5, hn6, hn7, hn8, hn9, hn10⟩ := hno
 have hb_1 : (no == 1) = false := beq_eq_false_iff_ne.mpr hn1
 have hb_2 : (no == 2) = false := beq_eq_false_iff_ne.mpr hn2
 have hb_3 : (no == 3) = false := beq_eq_false_iff_ne.mpr hn3
 have hb_4 : (no == 4) = false := beq_eq_false_iff_ne.mpr hn4
 have hb_5 : (no == 5) = false := beq_eq_false_iff_ne.mpr hn5
 have hb_6 : (no == 6) = false := beq_eq_false_iff_ne.mpr hn6
 have hb_7 : (no == 7) = false := beq_eq_false_iff_ne.mpr hn7
 have hb_8 : (no == 8) = false := beq_eq_false_iff_ne.mpr hn8
 have hb_9 : (no == 9) = false := beq_eq_false_iff_ne.mpr hn9
 have hb_10 : (no == 10) = false := beq_eq_false_iff_ne.mpr hn10
 have hBB := Aside0.mk (below_alloc HB0 (.cells #[.int .u64 no, .int .u64 n, .string s, .bool tx] 82 (0, 0)))
 have hb1 := blk_alloc hC (.cells #[.int .u64 no, .int .u64 n, .string s, .bool tx] 82 (0, 0))
 have hK1 := Aside0.mk (Kept.alloc (Kept.refl w (fun k => k = rb)) (.cells #[.int .u64 no, .int .u64 n, .string s, .bool tx] 82 (0, 0)))
 have hf1 := blk_new w (.cells #[.int .u64 no, .int .u64 n, .string s, .bool tx] 82 (0, 0))
 go_enter Try.func39, Try.ntmps39
 obtain ⟨W1, hW1⟩ : ∃ W1, W1 = w.alloc (.cells #[.int .u64 no, .int .u64 n, .string s, .bool tx] 82 (0, 0)) := ⟨_, rfl⟩
 rw [← hW1] at hb1 hK1 hf1 hBB
 go_upto_region 1 with (fail)
 rw [← hW1]
 clear hW1 hC
 have z0 : W1.cell? ⟨w.heap.size, 0, none⟩ = some (.int .u64 no) := blk_cell hf1 0
 have z1 : W1.cell? ⟨w.heap.size, 1, none⟩ = some (.int .u64 n) := blk_cell hf1 1
 have z2 : W1.cell? ⟨w.heap.size, 2, none⟩ = some (.string s) := blk_cell hf1 2
 have hb2 := Aside0.mk hb1
 have hK2 := hK1
 clear hb1 hK1 hf1
 go_wp2_with (fail)
 go_end0
 exact ⟨⟨_, rfl⟩, hb2.out, hK2.out, hBB.out⟩
end Go.Proofs.Ytfapckmobeppnaa.Px
