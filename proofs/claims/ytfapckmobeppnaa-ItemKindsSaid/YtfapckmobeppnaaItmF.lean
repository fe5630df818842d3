/- The reader: next. -/
import Derived.Test.YtfapckmobeppnaaItmE
import Derived.Test.YtfapckmobeppnaaPx21
namespace Go.Proofs.Ytfapckmobeppnaa.Px
open Go.RowKit Go.Proofs.YtfapckmobeppnaaW.PrintWords Go.Proofs.YtfapckmobeppnaaW.PrintLast Go.Proofs.YtfapckmobeppnaaW.PrintMore
set_option linter.unusedVariables false
set_option linter.unusedSimpArgs false

def Itm.T40 : Bool × List (List Nat × List Nat) := (true, [([], []), ([0], [0]), ([1], [1]), ([2], [2]), ([], []), ([4], [4]), ([5], [5]), ([6], [6]), ([3, 7], [3, 7]), ([8], [8]), ([9], [9]), ([9], [9]), ([9], [9]), ([10, 8, 0, 1, 2, 3, 4, 5, 6, 7, 8, 9, 10], [10]), ([11, 13, 0, 1, 2, 3, 4, 5, 6, 7, 8, 9, 10, 11, 13], [11]), ([12, 14, 0, 1, 2, 3, 4, 5, 6, 7, 8, 9, 10, 11, 12, 13, 14], [12])])
theorem Itm.T40_tab : rtab .any (opsOf Try.f40 1) = Itm.T40 := by kernel_rfl
set_option maxHeartbeats 1000000 in
set_option maxRecDepth 100000 in
theorem Itm.next_text (w0 w : World) (rb : Nat) (C : Array Value) (A : Option Addr) (c : Nat) (l : List Int) (q tag p : Int) (s : ByteArray) (q2 : Int) (HB0 : Below w0.heap.size w0 w) (hrb0 : w0.heap.size ≤ rb) (hC : w.heap[rb]? = some (.cells C 79 (0, 0))) (h15 : C[15]? = some (.slice A l.length c)) (h16 : C[16]? = some (.int .i64 q))
    (hr : Kd.C (Kd.int .u8) w A l.length l) (hc : l.length ≤ c) (hg : num_Get.f l q = some (tag, p, 0)) (htg : 0 ≤ tag ∧ tag < 18446744073709551616) (han : Go.bits .and .u64 tag 1 = 1) (ht : num_GetText.f l p 4096 = some (s, q2, 0)) :
    Calls Try.prog 40 #[.pointer (some ⟨rb, 0, none⟩)] w fun e w' => e = .returned (.tuple #[.agg #[.int .u64 (tag / 2), .int .u64 0, .string s, .bool true], .bool true]) ∧ w'.heap[rb]? = some (.cells (C.setIfInBounds 16 (.int .i64 q2)) 79 (0, 0)) ∧ Kept w w' (fun k => k = rb) ∧ Below w0.heap.size w0 w' := by
  have hlt := blk_lt hC
  have hb1 := Aside0.mk (blk_drew (blk_alloc hC (.cells #[.int .u64 0, .int .u64 0, .string ⟨#[]⟩, .bool false] 82 (0, 0))))
  have hK1 := Aside0.mk (Kept.drew (Kept.alloc (Kept.refl w (fun k => k = rb)) (.cells #[.int .u64 0, .int .u64 0, .string ⟨#[]⟩, .bool false] 82 (0, 0))))
  have hf1 := Aside0.mk (blk_drew (blk_new w (.cells #[.int .u64 0, .int .u64 0, .string ⟨#[]⟩, .bool false] 82 (0, 0))))
  have hr1 := Aside0.mk (Kd.C_drew (Kd.C_alloc hr (.cells #[.int .u64 0, .int .u64 0, .string ⟨#[]⟩, .bool false] 82 (0, 0))))
  have h15a := Aside0.mk h15; have h16a := Aside0.mk h16
  have hr0 := Aside0.mk hr
  have hB1 := Aside0.mk (below_drew (below_alloc (Below.refl w.heap.size w) (.cells #[.int .u64 0, .int .u64 0, .string ⟨#[]⟩, .bool false] 82 (0, 0))))
  have hBB1 := Aside0.mk (below_drew (below_alloc HB0 (.cells #[.int .u64 0, .int .u64 0, .string ⟨#[]⟩, .bool false] 82 (0, 0))))
  have hle := below_size HB0
  clear hr h15 h16 hC HB0
  go_enter Try.func40, Try.ntmps40
  go_wp2_with (fail)
  generalize w.alloc (.cells #[.int .u64 0, .int .u64 0, .string ⟨#[]⟩, .bool false] 82 (0, 0)) = W1 at *
  have y15 : W1.drew.cell? ⟨rb, 15, none⟩ = some (.slice A l.length c) := (blk_cell hb1.out 15).trans h15a.out
  have y16 : W1.drew.cell? ⟨rb, 16, none⟩ = some (.int .i64 q) := (blk_cell hb1.out 16).trans h16a.out
  refine start_ (n := 16) (S := fun w' => w'.cell? ⟨rb, 15, none⟩ = some (.slice A l.length c) ∧ w'.cell? ⟨rb, 16, none⟩ = some (.int .i64 q)) (ds := [8]) #[false, false, false, false, false, false, false, false, false, false, false, false, false, false, false, false] (by kernel_rfl) rfl rfl ⟨y15, y16⟩ (fun hHeld => ?_)
  refine with_tab Itm.T40_tab (fun HT_ => ?_)
  generalize W1.drew = w2 at hHeld hb1 hK1 hf1 hr1 hB1 hBB1 y15 y16 ⊢
  refine pure_ (i := 0) (N := (some 8)) (v := ?_) (a' := ?_) #[true, false, false, false, false, false, false, false, false, false, false, false, false, false, false, false] rfl rfl (any_of HT_.out (by kernel_rfl)) (fun _ _ _ h => h) (Or.inl ⟨by rfl, ?_⟩) ?_ ?_
  rotate_left
  · intro w'
    go_simp
    with_reducible rfl
  rotate_left
  · simp only [Act.put, List.setIfInBounds_toArray, List.set_cons_zero, List.set_cons_succ, i64_w, i32_w]
    rfl
  refine pure_ (i := 1) (N := (some 9)) (v := ?_) (a' := ?_) #[true, true, false, false, false, false, false, false, false, false, false, false, false, false, false, false] rfl rfl (any_of HT_.out (by kernel_rfl)) (fun _ _ _ h => h) (Or.inl ⟨by rfl, ?_⟩) ?_ ?_
  rotate_left
  · intro w'
    go_simp
    with_reducible rfl
  rotate_left
  · simp only [Act.put, List.setIfInBounds_toArray, List.set_cons_zero, List.set_cons_succ, i64_w, i32_w]
    rfl
  refine pure_ (i := 2) (N := (some 10)) (v := ?_) (a' := ?_) #[true, true, true, false, false, false, false, false, false, false, false, false, false, false, false, false] rfl rfl (any_of HT_.out (by kernel_rfl)) (fun _ _ _ h => h) (Or.inl ⟨by rfl, ?_⟩) ?_ ?_
  rotate_left
  · intro w'
    go_simp
    with_reducible rfl
  rotate_left
  · simp only [Act.put, List.setIfInBounds_toArray, List.set_cons_zero, List.set_cons_succ, i64_w, i32_w]
    rfl
  refine take_ (i := 3) (N := (some 11)) (v := ?_) (a' := ?_) #[true, true, true, true, false, false, false, false, false, false, false, false, false, false, false, false] rfl rfl (take_of HT_.out (by kernel_rfl)) (fun _ _ _ h => h) (Or.inl ⟨by rfl, ?_⟩) hHeld ?_ ?_
  rotate_left
  · rintro w' ⟨s0, s1⟩
    go_simp
    with_reducible rfl
  rotate_left
  · simp only [Act.put, List.setIfInBounds_toArray, List.set_cons_zero, List.set_cons_succ, i64_w, i32_w]
    rfl
  refine pure_ (i := 4) (N := (some 12)) (v := ?_) (a' := ?_) #[true, true, true, true, true, false, false, false, false, false, false, false, false, false, false, false] rfl rfl (any_of HT_.out (by kernel_rfl)) (fun _ _ _ h => h) (Or.inl ⟨by rfl, ?_⟩) ?_ ?_
  rotate_left
  · intro w'
    go_simp
    with_reducible rfl
  rotate_left
  · simp only [Act.put, List.setIfInBounds_toArray, List.set_cons_zero, List.set_cons_succ, i64_w, i32_w]
    rfl
  refine pure_ (i := 5) (N := (some 13)) (v := ?_) (a' := ?_) #[true, true, true, true, true, true, false, false, false, false, false, false, false, false, false, false] rfl rfl (any_of HT_.out (by kernel_rfl)) (fun _ _ _ h => h) (Or.inl ⟨by rfl, ?_⟩) ?_ ?_
  rotate_left
  · intro w'
    go_simp
    with_reducible rfl
  rotate_left
  · simp only [Act.put, List.setIfInBounds_toArray, List.set_cons_zero, List.set_cons_succ, i64_w, i32_w]
    rfl
  refine pure_ (i := 6) (N := (some 14)) (v := ?_) (a' := ?_) #[true, true, true, true, true, true, true, false, false, false, false, false, false, false, false, false] rfl rfl (any_of HT_.out (by kernel_rfl)) (fun _ _ _ h => h) (Or.inl ⟨by rfl, ?_⟩) ?_ ?_
  rotate_left
  · intro w'
    go_simp
    with_reducible rfl
  rotate_left
  · simp only [Act.put, List.setIfInBounds_toArray, List.set_cons_zero, List.set_cons_succ, i64_w, i32_w]
    rfl
  refine take_ (i := 7) (N := (some 15)) (v := ?_) (a' := ?_) #[true, true, true, true, true, true, true, true, false, false, false, false, false, false, false, false] rfl rfl (take_of HT_.out (by kernel_rfl)) (fun _ _ _ h => h) (Or.inl ⟨by rfl, ?_⟩) hHeld ?_ ?_
  rotate_left
  · rintro w' ⟨s0, s1⟩
    go_simp
    with_reducible rfl
  rotate_left
  · simp only [Act.put, List.setIfInBounds_toArray, List.set_cons_zero, List.set_cons_succ, i64_w, i32_w]
    rfl
  refine last_ (i := 8) (N := (some 16)) #[true, true, true, true, true, true, true, true, true, false, false, false, false, false, false, false] rfl rfl (one_of HT_.out (by kernel_rfl)) (by decide) (fun K hK => ?_)
  refine goes_ Try.func54 (by kernel_rfl) rfl #[.slice A l.length c, .int .i64 q] (by rfl) rfl rfl (by (try simp only [List.map_toArray, List.map_cons, List.map_nil]); first | done | rfl) ?_
  refine (Num.Get_same A c l q tag p 0 w2 hr1.out hc hg).mono ?_
  rintro e w3 ⟨rfl, rfl⟩
  refine ⟨_, rfl, ?_⟩
  refine hK.out _ _ ?_
  clear hK K
  refine norm_ (a' := ?_) ?_ ?_
  rotate_left
  · show Act.put _ (some 16) _ = _
    simp only [Act.put, List.setIfInBounds_toArray, List.set_cons_zero, List.set_cons_succ, i64_w, i32_w]
    rfl
  refine pure_ (i := 9) (N := (some 7)) (v := ?_) (a' := ?_) #[true, true, true, true, true, true, true, true, true, true, false, false, false, false, false, false] rfl rfl (any_of HT_.out (by kernel_rfl)) (fun _ _ _ h => h) (Or.inl ⟨by rfl, ?_⟩) ?_ ?_
  rotate_left
  · intro w'
    go_simp
    with_reducible rfl
  rotate_left
  · simp only [Act.put, List.setIfInBounds_toArray, List.set_cons_zero, List.set_cons_succ, i64_w, i32_w]
    rfl
  refine pure_ (i := 10) (N := (some 17)) (v := ?_) (a' := ?_) #[true, true, true, true, true, true, true, true, true, true, true, false, false, false, false, false] rfl rfl (any_of HT_.out (by kernel_rfl)) (fun _ _ _ h => h) (Or.inl ⟨by rfl, ?_⟩) ?_ ?_
  rotate_left
  · intro w'
    go_simp
    with_reducible rfl
  rotate_left
  · simp only [Act.put, List.setIfInBounds_toArray, List.set_cons_zero, List.set_cons_succ, i64_w, i32_w]
    rfl
  refine pure_ (i := 11) (N := (some 18)) (v := ?_) (a' := ?_) #[true, true, true, true, true, true, true, true, true, true, true, true, false, false, false, false] rfl rfl (any_of HT_.out (by kernel_rfl)) (fun _ _ _ h => h) (Or.inl ⟨by rfl, ?_⟩) ?_ ?_
  rotate_left
  · intro w'
    go_simp
    with_reducible rfl
  rotate_left
  · simp only [Act.put, List.setIfInBounds_toArray, List.set_cons_zero, List.set_cons_succ, i64_w, i32_w]
    rfl
  refine pure_ (i := 12) (N := (some 19)) (v := ?_) (a' := ?_) #[true, true, true, true, true, true, true, true, true, true, true, true, true, false, false, false] rfl rfl (any_of HT_.out (by kernel_rfl)) (fun _ _ _ h => h) (Or.inl ⟨by rfl, ?_⟩) ?_ ?_
  rotate_left
  · intro w'
    go_simp
    with_reducible rfl
  rotate_left
  · simp only [Act.put, List.setIfInBounds_toArray, List.set_cons_zero, List.set_cons_succ, i64_w, i32_w]
    rfl
  refine pure_ (i := 13) (N := (some 4)) (v := ?_) (a' := ?_) #[true, true, true, true, true, true, true, true, true, true, true, true, true, true, false, false] rfl rfl (any_of HT_.out (by kernel_rfl)) (fun _ _ _ h => h) (Or.inl ⟨by rfl, ?_⟩) ?_ ?_
  rotate_left
  · intro w'
    go_simp
    with_reducible rfl
  rotate_left
  · simp only [Act.put, List.setIfInBounds_toArray, List.set_cons_zero, List.set_cons_succ, i64_w, i32_w]
    rfl
  refine pure_ (i := 14) (N := (some 5)) (v := ?_) (a' := ?_) #[true, true, true, true, true, true, true, true, true, true, true, true, true, true, true, false] rfl rfl (any_of HT_.out (by kernel_rfl)) (fun _ _ _ h => h) (Or.inl ⟨by rfl, ?_⟩) ?_ ?_
  rotate_left
  · intro w'
    go_simp
    with_reducible rfl
  rotate_left
  · simp only [Act.put, List.setIfInBounds_toArray, List.set_cons_zero, List.set_cons_succ, i64_w, i32_w]
    rfl
  refine pure_ (i := 15) (N := (some 6)) (v := ?_) (a' := ?_) #[true, true, true, true, true, true, true, true, true, true, true, true, true, true, true, true] rfl rfl (any_of HT_.out (by kernel_rfl)) (fun _ _ _ h => h) (Or.inl ⟨by rfl, ?_⟩) ?_ ?_
  rotate_left
  · intro w'
    go_simp
    with_reducible rfl
  rotate_left
  · simp only [Act.put, List.setIfInBounds_toArray, List.set_cons_zero, List.set_cons_succ, i64_w, i32_w]
    rfl
  refine done_ (done_of HT_.out (by kernel_rfl)) ?_
  clear HT_
  have x0 : w2.cell? ⟨w.heap.size, 0, none⟩ = some (.int .u64 0) := blk_cell hf1.out 0
  have x1 : w2.cell? ⟨w.heap.size, 1, none⟩ = some (.int .u64 0) := blk_cell hf1.out 1
  have x2 : w2.cell? ⟨w.heap.size, 2, none⟩ = some (.string ⟨#[]⟩) := blk_cell hf1.out 2
  have x3 : w2.cell? ⟨w.heap.size, 3, none⟩ = some (.bool false) := blk_cell hf1.out 3
  have u0 := blk_frozen hf1.out 0
  have u1 := blk_frozen hf1.out 1
  have u2 := blk_frozen hf1.out 2
  have u3 := blk_frozen hf1.out 3
  have u16 := blk_frozen hb1.out 16
  have hne : rb ≠ w.heap.size := by omega
  have hne2 : w.heap.size ≠ rb := by omega
  go_wp2_with (fail)
  have hf4 : ((w2.setCell ⟨w.heap.size, 0, none⟩ (.int .u64 (tag / 2))).setCell ⟨w.heap.size, 3, none⟩ (.bool true)).heap[w.heap.size]? = some (.cells #[.int .u64 (tag / 2), .int .u64 0, .string ⟨#[]⟩, .bool true] 82 (0, 0)) := blk_put (blk_put hf1.out 0 (.int .u64 (tag / 2)) rfl) 3 (.bool true) rfl
  have hb4 : ((w2.setCell ⟨w.heap.size, 0, none⟩ (.int .u64 (tag / 2))).setCell ⟨w.heap.size, 3, none⟩ (.bool true)).heap[rb]? = some (.cells C 79 (0, 0)) := blk_far (blk_far hb1.out (p := ⟨w.heap.size, 0, none⟩) hne _) (p := ⟨w.heap.size, 3, none⟩) hne _
  have hK4 := (hK1.out.setCell (p := ⟨w.heap.size, 0, none⟩) (Or.inr (Nat.le_refl _)) (.int .u64 (tag / 2))).setCell (p := ⟨w.heap.size, 3, none⟩) (Or.inr (Nat.le_refl _)) (.bool true)
  have hB4 := below_set (j := 3) (v := .bool true) (below_set (j := 0) (v := .int .u64 (tag / 2)) hB1.out (Nat.le_refl _)) (Nat.le_refl _)
  have hBB4 := below_set (j := 3) (v := .bool true) (below_set (j := 0) (v := .int .u64 (tag / 2)) hBB1.out hle) hle
  generalize ((w2.setCell ⟨w.heap.size, 0, none⟩ (.int .u64 (tag / 2))).setCell ⟨w.heap.size, 3, none⟩ (.bool true)) = w4 at hf4 hb4 hK4 hB4 hBB4 ⊢
  have hr4 := Kd.C_below hr0.out hB4
  have hf4a := Aside0.mk hf4; have hb4a := Aside0.mk hb4; have hK4a := Aside0.mk hK4
  replace hBB4 := Aside0.mk hBB4
  clear x0 x1 x2 x3 u0 u1 u2 u3 u16 hf1 hb1 hK1 hr1 hB1 hBB1 y15 y16 hB4
  have v2 := blk_frozen hf4 2
  have v16 := blk_frozen hb4 16
  have d2 : w4.cell? ⟨w.heap.size, 2, none⟩ = some (.string ⟨#[]⟩) := blk_cell hf4 2
  have d1 : w4.cell? ⟨w.heap.size, 1, none⟩ = some (.int .u64 0) := blk_cell hf4 1
  have d16 : w4.cell? ⟨rb, 16, none⟩ = some (.int .i64 q) := (blk_cell hb4 16).trans h16a.out
  clear hf4 hb4 hK4
  refine (Num.GetText_same A c l p 4096 s q2 0 w4 hr4 hc ht).mono ?_
  rintro e w5 ⟨rfl, rfl⟩
  clear hr4
  have hf5 : ((w4.setCell ⟨w.heap.size, 2, none⟩ (.string s)).setCell ⟨rb, 16, none⟩ (.int .i64 q2)).heap[w.heap.size]? = some (.cells #[.int .u64 (tag / 2), .int .u64 0, .string s, .bool true] 82 (0, 0)) := blk_far (blk_put hf4a.out 2 (.string s) rfl) (p := ⟨rb, 16, none⟩) hne2 _
  have hb5 : ((w4.setCell ⟨w.heap.size, 2, none⟩ (.string s)).setCell ⟨rb, 16, none⟩ (.int .i64 q2)).heap[rb]? = some (.cells (C.setIfInBounds 16 (.int .i64 q2)) 79 (0, 0)) := blk_set (blk_far hb4a.out (p := ⟨w.heap.size, 2, none⟩) hne _) 16 _
  have hK5 := (hK4a.out.setCell (p := ⟨w.heap.size, 2, none⟩) (Or.inr (Nat.le_refl _)) (.string s)).setCell (p := ⟨rb, 16, none⟩) (Or.inl rfl) (.int .i64 q2)
  have hBB5 := below_set (j := 16) (v := .int .i64 q2) (below_set (j := 2) (v := .string s) hBB4.out hle) hrb0
  have v16' : (w4.setCell ⟨w.heap.size, 2, none⟩ (.string s)).frozen? ⟨rb, 16, none⟩ = false := blk_frozen (blk_far hb4a.out (p := ⟨w.heap.size, 2, none⟩) hne _) 16
  clear hf4a hb4a hK4a
  obtain ⟨W5, hW5⟩ : ∃ W5, W5 = (w4.setCell ⟨w.heap.size, 2, none⟩ (.string s)).setCell ⟨rb, 16, none⟩ (.int .i64 q2) := ⟨_, rfl⟩
  rw [← hW5] at hf5 hb5 hK5 hBB5
  have t0 : W5.cell? ⟨w.heap.size, 0, none⟩ = some (.int .u64 (tag / 2)) := blk_cell hf5 0
  have t1 : W5.cell? ⟨w.heap.size, 1, none⟩ = some (.int .u64 0) := blk_cell hf5 1
  have t2 : W5.cell? ⟨w.heap.size, 2, none⟩ = some (.string s) := blk_cell hf5 2
  have t3 : W5.cell? ⟨w.heap.size, 3, none⟩ = some (.bool true) := blk_cell hf5 3
  have k0 := blk_frozen hf5 0
  have k1 := blk_frozen hf5 1
  have k2 := blk_frozen hf5 2
  have k3 := blk_frozen hf5 3
  go_upto_region 8 with (fail)
  rw [← hW5]
  clear hW5 d1 d2 d16 v16 v16' hf5
  have hb6 := blk_far (blk_far (blk_far (blk_far hb5 (p := ⟨w.heap.size, 0, none⟩) hne (.int .u64 (tag / 2))) (p := ⟨w.heap.size, 1, none⟩) hne (.int .u64 0)) (p := ⟨w.heap.size, 2, none⟩) hne (.string s)) (p := ⟨w.heap.size, 3, none⟩) hne (.bool true)
  have hK6 := (((hK5.setCell (p := ⟨w.heap.size, 0, none⟩) (Or.inr (Nat.le_refl _)) (.int .u64 (tag / 2))).setCell (p := ⟨w.heap.size, 1, none⟩) (Or.inr (Nat.le_refl _)) (.int .u64 0)).setCell (p := ⟨w.heap.size, 2, none⟩) (Or.inr (Nat.le_refl _)) (.string s)).setCell (p := ⟨w.heap.size, 3, none⟩) (Or.inr (Nat.le_refl _)) (.bool true)
  have hBB6 := Aside0.mk (below_set (j := 3) (v := .bool true) (below_set (j := 2) (v := .string s) (below_set (j := 1) (v := .int .u64 0) (below_set (j := 0) (v := .int .u64 (tag / 2)) hBB5 hle) hle) hle) hle)
  have hb6a := Aside0.mk hb6; have hK6a := Aside0.mk hK6
  clear hb5 hK5 hb6 hK6 hBB5
  go_wp2_with (fail)
  have hres : Try.f40.results = #[.cell 2 82, .tmp 3] := by kernel_rfl
  refine bodyPost_ret (v := .tuple #[.agg #[.int .u64 (tag / 2), .int .u64 0, .string s, .bool true], .bool true]) ?_ rfl ⟨rfl, hb6a.out, hK6a.out, hBB6.out⟩
  simp only [results, hres]
  go_simp
set_option maxHeartbeats 1000000 in
set_option maxRecDepth 100000 in
theorem Itm.next_num (w0 w : World) (rb : Nat) (C : Array Value) (A : Option Addr) (c : Nat) (l : List Int) (q tag p : Int) (n : Int) (q2 : Int) (HB0 : Below w0.heap.size w0 w) (hrb0 : w0.heap.size ≤ rb) (hC : w.heap[rb]? = some (.cells C 79 (0, 0))) (h15 : C[15]? = some (.slice A l.length c)) (h16 : C[16]? = some (.int .i64 q))
    (hr : Kd.C (Kd.int .u8) w A l.length l) (hc : l.length ≤ c) (hg : num_Get.f l q = some (tag, p, 0)) (htg : 0 ≤ tag ∧ tag < 18446744073709551616) (han : Go.bits .and .u64 tag 1 = 0) (ht : num_Get.f l p = some (n, q2, 0)) :
    Calls Try.prog 40 #[.pointer (some ⟨rb, 0, none⟩)] w fun e w' => e = .returned (.tuple #[.agg #[.int .u64 (tag / 2), .int .u64 n, .string ⟨#[]⟩, .bool false], .bool true]) ∧ w'.heap[rb]? = some (.cells (C.setIfInBounds 16 (.int .i64 q2)) 79 (0, 0)) ∧ Kept w w' (fun k => k = rb) ∧ Below w0.heap.size w0 w' := by
  have hlt := blk_lt hC
  have hb1 := Aside0.mk (blk_drew (blk_alloc hC (.cells #[.int .u64 0, .int .u64 0, .string ⟨#[]⟩, .bool false] 82 (0, 0))))
  have hK1 := Aside0.mk (Kept.drew (Kept.alloc (Kept.refl w (fun k => k = rb)) (.cells #[.int .u64 0, .int .u64 0, .string ⟨#[]⟩, .bool false] 82 (0, 0))))
  have hf1 := Aside0.mk (blk_drew (blk_new w (.cells #[.int .u64 0, .int .u64 0, .string ⟨#[]⟩, .bool false] 82 (0, 0))))
  have hr1 := Aside0.mk (Kd.C_drew (Kd.C_alloc hr (.cells #[.int .u64 0, .int .u64 0, .string ⟨#[]⟩, .bool false] 82 (0, 0))))
  have h15a := Aside0.mk h15; have h16a := Aside0.mk h16
  have hr0 := Aside0.mk hr
  have hB1 := Aside0.mk (below_drew (below_alloc (Below.refl w.heap.size w) (.cells #[.int .u64 0, .int .u64 0, .string ⟨#[]⟩, .bool false] 82 (0, 0))))
  have hBB1 := Aside0.mk (below_drew (below_alloc HB0 (.cells #[.int .u64 0, .int .u64 0, .string ⟨#[]⟩, .bool false] 82 (0, 0))))
  have hle := below_size HB0
  clear hr h15 h16 hC HB0
  go_enter Try.func40, Try.ntmps40
  go_wp2_with (fail)
  generalize w.alloc (.cells #[.int .u64 0, .int .u64 0, .string ⟨#[]⟩, .bool false] 82 (0, 0)) = W1 at *
  have y15 : W1.drew.cell? ⟨rb, 15, none⟩ = some (.slice A l.length c) := (blk_cell hb1.out 15).trans h15a.out
  have y16 : W1.drew.cell? ⟨rb, 16, none⟩ = some (.int .i64 q) := (blk_cell hb1.out 16).trans h16a.out
  refine start_ (n := 16) (S := fun w' => w'.cell? ⟨rb, 15, none⟩ = some (.slice A l.length c) ∧ w'.cell? ⟨rb, 16, none⟩ = some (.int .i64 q)) (ds := [8]) #[false, false, false, false, false, false, false, false, false, false, false, false, false, false, false, false] (by kernel_rfl) rfl rfl ⟨y15, y16⟩ (fun hHeld => ?_)
  refine with_tab Itm.T40_tab (fun HT_ => ?_)
  generalize W1.drew = w2 at hHeld hb1 hK1 hf1 hr1 hB1 hBB1 y15 y16 ⊢
  refine pure_ (i := 0) (N := (some 8)) (v := ?_) (a' := ?_) #[true, false, false, false, false, false, false, false, false, false, false, false, false, false, false, false] rfl rfl (any_of HT_.out (by kernel_rfl)) (fun _ _ _ h => h) (Or.inl ⟨by rfl, ?_⟩) ?_ ?_
  rotate_left
  · intro w'
    go_simp
    with_reducible rfl
  rotate_left
  · simp only [Act.put, List.setIfInBounds_toArray, List.set_cons_zero, List.set_cons_succ, i64_w, i32_w]
    rfl
  refine pure_ (i := 1) (N := (some 9)) (v := ?_) (a' := ?_) #[true, true, false, false, false, false, false, false, false, false, false, false, false, false, false, false] rfl rfl (any_of HT_.out (by kernel_rfl)) (fun _ _ _ h => h) (Or.inl ⟨by rfl, ?_⟩) ?_ ?_
  rotate_left
  · intro w'
    go_simp
    with_reducible rfl
  rotate_left
  · simp only [Act.put, List.setIfInBounds_toArray, List.set_cons_zero, List.set_cons_succ, i64_w, i32_w]
    rfl
  refine pure_ (i := 2) (N := (some 10)) (v := ?_) (a' := ?_) #[true, true, true, false, false, false, false, false, false, false, false, false, false, false, false, false] rfl rfl (any_of HT_.out (by kernel_rfl)) (fun _ _ _ h => h) (Or.inl ⟨by rfl, ?_⟩) ?_ ?_
  rotate_left
  · intro w'
    go_simp
    with_reducible rfl
  rotate_left
  · simp only [Act.put, List.setIfInBounds_toArray, List.set_cons_zero, List.set_cons_succ, i64_w, i32_w]
    rfl
  refine take_ (i := 3) (N := (some 11)) (v := ?_) (a' := ?_) #[true, true, true, true, false, false, false, false, false, false, false, false, false, false, false, false] rfl rfl (take_of HT_.out (by kernel_rfl)) (fun _ _ _ h => h) (Or.inl ⟨by rfl, ?_⟩) hHeld ?_ ?_
  rotate_left
  · rintro w' ⟨s0, s1⟩
    go_simp
    with_reducible rfl
  rotate_left
  · simp only [Act.put, List.setIfInBounds_toArray, List.set_cons_zero, List.set_cons_succ, i64_w, i32_w]
    rfl
  refine pure_ (i := 4) (N := (some 12)) (v := ?_) (a' := ?_) #[true, true, true, true, true, false, false, false, false, false, false, false, false, false, false, false] rfl rfl (any_of HT_.out (by kernel_rfl)) (fun _ _ _ h => h) (Or.inl ⟨by rfl, ?_⟩) ?_ ?_
  rotate_left
  · intro w'
    go_simp
    with_reducible rfl
  rotate_left
  · simp only [Act.put, List.setIfInBounds_toArray, List.set_cons_zero, List.set_cons_succ, i64_w, i32_w]
    rfl
  refine pure_ (i := 5) (N := (some 13)) (v := ?_) (a' := ?_) #[true, true, true, true, true, true, false, false, false, false, false, false, false, false, false, false] rfl rfl (any_of HT_.out (by kernel_rfl)) (fun _ _ _ h => h) (Or.inl ⟨by rfl, ?_⟩) ?_ ?_
  rotate_left
  · intro w'
    go_simp
    with_reducible rfl
  rotate_left
  · simp only [Act.put, List.setIfInBounds_toArray, List.set_cons_zero, List.set_cons_succ, i64_w, i32_w]
    rfl
  refine pure_ (i := 6) (N := (some 14)) (v := ?_) (a' := ?_) #[true, true, true, true, true, true, true, false, false, false, false, false, false, false, false, false] rfl rfl (any_of HT_.out (by kernel_rfl)) (fun _ _ _ h => h) (Or.inl ⟨by rfl, ?_⟩) ?_ ?_
  rotate_left
  · intro w'
    go_simp
    with_reducible rfl
  rotate_left
  · simp only [Act.put, List.setIfInBounds_toArray, List.set_cons_zero, List.set_cons_succ, i64_w, i32_w]
    rfl
  refine take_ (i := 7) (N := (some 15)) (v := ?_) (a' := ?_) #[true, true, true, true, true, true, true, true, false, false, false, false, false, false, false, false] rfl rfl (take_of HT_.out (by kernel_rfl)) (fun _ _ _ h => h) (Or.inl ⟨by rfl, ?_⟩) hHeld ?_ ?_
  rotate_left
  · rintro w' ⟨s0, s1⟩
    go_simp
    with_reducible rfl
  rotate_left
  · simp only [Act.put, List.setIfInBounds_toArray, List.set_cons_zero, List.set_cons_succ, i64_w, i32_w]
    rfl
  refine last_ (i := 8) (N := (some 16)) #[true, true, true, true, true, true, true, true, true, false, false, false, false, false, false, false] rfl rfl (one_of HT_.out (by kernel_rfl)) (by decide) (fun K hK => ?_)
  refine goes_ Try.func54 (by kernel_rfl) rfl #[.slice A l.length c, .int .i64 q] (by rfl) rfl rfl (by (try simp only [List.map_toArray, List.map_cons, List.map_nil]); first | done | rfl) ?_
  refine (Num.Get_same A c l q tag p 0 w2 hr1.out hc hg).mono ?_
  rintro e w3 ⟨rfl, rfl⟩
  refine ⟨_, rfl, ?_⟩
  refine hK.out _ _ ?_
  clear hK K
  refine norm_ (a' := ?_) ?_ ?_
  rotate_left
  · show Act.put _ (some 16) _ = _
    simp only [Act.put, List.setIfInBounds_toArray, List.set_cons_zero, List.set_cons_succ, i64_w, i32_w]
    rfl
  refine pure_ (i := 9) (N := (some 7)) (v := ?_) (a' := ?_) #[true, true, true, true, true, true, true, true, true, true, false, false, false, false, false, false] rfl rfl (any_of HT_.out (by kernel_rfl)) (fun _ _ _ h => h) (Or.inl ⟨by rfl, ?_⟩) ?_ ?_
  rotate_left
  · intro w'
    go_simp
    with_reducible rfl
  rotate_left
  · simp only [Act.put, List.setIfInBounds_toArray, List.set_cons_zero, List.set_cons_succ, i64_w, i32_w]
    rfl
  refine pure_ (i := 10) (N := (some 17)) (v := ?_) (a' := ?_) #[true, true, true, true, true, true, true, true, true, true, true, false, false, false, false, false] rfl rfl (any_of HT_.out (by kernel_rfl)) (fun _ _ _ h => h) (Or.inl ⟨by rfl, ?_⟩) ?_ ?_
  rotate_left
  · intro w'
    go_simp
    with_reducible rfl
  rotate_left
  · simp only [Act.put, List.setIfInBounds_toArray, List.set_cons_zero, List.set_cons_succ, i64_w, i32_w]
    rfl
  refine pure_ (i := 11) (N := (some 18)) (v := ?_) (a' := ?_) #[true, true, true, true, true, true, true, true, true, true, true, true, false, false, false, false] rfl rfl (any_of HT_.out (by kernel_rfl)) (fun _ _ _ h => h) (Or.inl ⟨by rfl, ?_⟩) ?_ ?_
  rotate_left
  · intro w'
    go_simp
    with_reducible rfl
  rotate_left
  · simp only [Act.put, List.setIfInBounds_toArray, List.set_cons_zero, List.set_cons_succ, i64_w, i32_w]
    rfl
  refine pure_ (i := 12) (N := (some 19)) (v := ?_) (a' := ?_) #[true, true, true, true, true, true, true, true, true, true, true, true, true, false, false, false] rfl rfl (any_of HT_.out (by kernel_rfl)) (fun _ _ _ h => h) (Or.inl ⟨by rfl, ?_⟩) ?_ ?_
  rotate_left
  · intro w'
    go_simp
    with_reducible rfl
  rotate_left
  · simp only [Act.put, List.setIfInBounds_toArray, List.set_cons_zero, List.set_cons_succ, i64_w, i32_w]
    rfl
  refine pure_ (i := 13) (N := (some 4)) (v := ?_) (a' := ?_) #[true, true, true, true, true, true, true, true, true, true, true, true, true, true, false, false] rfl rfl (any_of HT_.out (by kernel_rfl)) (fun _ _ _ h => h) (Or.inl ⟨by rfl, ?_⟩) ?_ ?_
  rotate_left
  · intro w'
    go_simp
    with_reducible rfl
  rotate_left
  · simp only [Act.put, List.setIfInBounds_toArray, List.set_cons_zero, List.set_cons_succ, i64_w, i32_w]
    rfl
  refine pure_ (i := 14) (N := (some 5)) (v := ?_) (a' := ?_) #[true, true, true, true, true, true, true, true, true, true, true, true, true, true, true, false] rfl rfl (any_of HT_.out (by kernel_rfl)) (fun _ _ _ h => h) (Or.inl ⟨by rfl, ?_⟩) ?_ ?_
  rotate_left
  · intro w'
    go_simp
    with_reducible rfl
  rotate_left
  · simp only [Act.put, List.setIfInBounds_toArray, List.set_cons_zero, List.set_cons_succ, i64_w, i32_w]
    rfl
  refine pure_ (i := 15) (N := (some 6)) (v := ?_) (a' := ?_) #[true, true, true, true, true, true, true, true, true, true, true, true, true, true, true, true] rfl rfl (any_of HT_.out (by kernel_rfl)) (fun _ _ _ h => h) (Or.inl ⟨by rfl, ?_⟩) ?_ ?_
  rotate_left
  · intro w'
    go_simp
    with_reducible rfl
  rotate_left
  · simp only [Act.put, List.setIfInBounds_toArray, List.set_cons_zero, List.set_cons_succ, i64_w, i32_w]
    rfl
  refine done_ (done_of HT_.out (by kernel_rfl)) ?_
  clear HT_
  have x0 : w2.cell? ⟨w.heap.size, 0, none⟩ = some (.int .u64 0) := blk_cell hf1.out 0
  have x1 : w2.cell? ⟨w.heap.size, 1, none⟩ = some (.int .u64 0) := blk_cell hf1.out 1
  have x2 : w2.cell? ⟨w.heap.size, 2, none⟩ = some (.string ⟨#[]⟩) := blk_cell hf1.out 2
  have x3 : w2.cell? ⟨w.heap.size, 3, none⟩ = some (.bool false) := blk_cell hf1.out 3
  have u0 := blk_frozen hf1.out 0
  have u1 := blk_frozen hf1.out 1
  have u2 := blk_frozen hf1.out 2
  have u3 := blk_frozen hf1.out 3
  have u16 := blk_frozen hb1.out 16
  have hne : rb ≠ w.heap.size := by omega
  have hne2 : w.heap.size ≠ rb := by omega
  go_wp2_with (fail)
  have hf4 : ((w2.setCell ⟨w.heap.size, 0, none⟩ (.int .u64 (tag / 2))).setCell ⟨w.heap.size, 3, none⟩ (.bool false)).heap[w.heap.size]? = some (.cells #[.int .u64 (tag / 2), .int .u64 0, .string ⟨#[]⟩, .bool false] 82 (0, 0)) := blk_put (blk_put hf1.out 0 (.int .u64 (tag / 2)) rfl) 3 (.bool false) rfl
  have hb4 : ((w2.setCell ⟨w.heap.size, 0, none⟩ (.int .u64 (tag / 2))).setCell ⟨w.heap.size, 3, none⟩ (.bool false)).heap[rb]? = some (.cells C 79 (0, 0)) := blk_far (blk_far hb1.out (p := ⟨w.heap.size, 0, none⟩) hne _) (p := ⟨w.heap.size, 3, none⟩) hne _
  have hK4 := (hK1.out.setCell (p := ⟨w.heap.size, 0, none⟩) (Or.inr (Nat.le_refl _)) (.int .u64 (tag / 2))).setCell (p := ⟨w.heap.size, 3, none⟩) (Or.inr (Nat.le_refl _)) (.bool false)
  have hB4 := below_set (j := 3) (v := .bool false) (below_set (j := 0) (v := .int .u64 (tag / 2)) hB1.out (Nat.le_refl _)) (Nat.le_refl _)
  have hBB4 := below_set (j := 3) (v := .bool false) (below_set (j := 0) (v := .int .u64 (tag / 2)) hBB1.out hle) hle
  generalize ((w2.setCell ⟨w.heap.size, 0, none⟩ (.int .u64 (tag / 2))).setCell ⟨w.heap.size, 3, none⟩ (.bool false)) = w4 at hf4 hb4 hK4 hB4 hBB4 ⊢
  have hr4 := Kd.C_below hr0.out hB4
  have hf4a := Aside0.mk hf4; have hb4a := Aside0.mk hb4; have hK4a := Aside0.mk hK4
  replace hBB4 := Aside0.mk hBB4
  clear x0 x1 x2 x3 u0 u1 u2 u3 u16 hf1 hb1 hK1 hr1 hB1 hBB1 y15 y16 hB4
  have v1 := blk_frozen hf4 1
  have v16 := blk_frozen hb4 16
  have d2 : w4.cell? ⟨w.heap.size, 2, none⟩ = some (.string ⟨#[]⟩) := blk_cell hf4 2
  have d1 : w4.cell? ⟨w.heap.size, 1, none⟩ = some (.int .u64 0) := blk_cell hf4 1
  have d16 : w4.cell? ⟨rb, 16, none⟩ = some (.int .i64 q) := (blk_cell hb4 16).trans h16a.out
  clear hf4 hb4 hK4
  refine (Num.Get_same A c l p n q2 0 w4 hr4 hc ht).mono ?_
  rintro e w5 ⟨rfl, rfl⟩
  clear hr4
  have hf5 : ((w4.setCell ⟨w.heap.size, 1, none⟩ (.int .u64 n)).setCell ⟨rb, 16, none⟩ (.int .i64 q2)).heap[w.heap.size]? = some (.cells #[.int .u64 (tag / 2), .int .u64 n, .string ⟨#[]⟩, .bool false] 82 (0, 0)) := blk_far (blk_put hf4a.out 1 (.int .u64 n) rfl) (p := ⟨rb, 16, none⟩) hne2 _
  have hb5 : ((w4.setCell ⟨w.heap.size, 1, none⟩ (.int .u64 n)).setCell ⟨rb, 16, none⟩ (.int .i64 q2)).heap[rb]? = some (.cells (C.setIfInBounds 16 (.int .i64 q2)) 79 (0, 0)) := blk_set (blk_far hb4a.out (p := ⟨w.heap.size, 1, none⟩) hne _) 16 _
  have hK5 := (hK4a.out.setCell (p := ⟨w.heap.size, 1, none⟩) (Or.inr (Nat.le_refl _)) (.int .u64 n)).setCell (p := ⟨rb, 16, none⟩) (Or.inl rfl) (.int .i64 q2)
  have hBB5 := below_set (j := 16) (v := .int .i64 q2) (below_set (j := 1) (v := .int .u64 n) hBB4.out hle) hrb0
  have v16' : (w4.setCell ⟨w.heap.size, 1, none⟩ (.int .u64 n)).frozen? ⟨rb, 16, none⟩ = false := blk_frozen (blk_far hb4a.out (p := ⟨w.heap.size, 1, none⟩) hne _) 16
  clear hf4a hb4a hK4a
  obtain ⟨W5, hW5⟩ : ∃ W5, W5 = (w4.setCell ⟨w.heap.size, 1, none⟩ (.int .u64 n)).setCell ⟨rb, 16, none⟩ (.int .i64 q2) := ⟨_, rfl⟩
  rw [← hW5] at hf5 hb5 hK5 hBB5
  have t0 : W5.cell? ⟨w.heap.size, 0, none⟩ = some (.int .u64 (tag / 2)) := blk_cell hf5 0
  have t1 : W5.cell? ⟨w.heap.size, 1, none⟩ = some (.int .u64 n) := blk_cell hf5 1
  have t2 : W5.cell? ⟨w.heap.size, 2, none⟩ = some (.string ⟨#[]⟩) := blk_cell hf5 2
  have t3 : W5.cell? ⟨w.heap.size, 3, none⟩ = some (.bool false) := blk_cell hf5 3
  have k0 := blk_frozen hf5 0
  have k1 := blk_frozen hf5 1
  have k2 := blk_frozen hf5 2
  have k3 := blk_frozen hf5 3
  go_upto_region 8 with (fail)
  rw [← hW5]
  clear hW5 d1 d2 d16 v16 v16' hf5
  have hb6 := blk_far (blk_far (blk_far (blk_far hb5 (p := ⟨w.heap.size, 0, none⟩) hne (.int .u64 (tag / 2))) (p := ⟨w.heap.size, 1, none⟩) hne (.int .u64 n)) (p := ⟨w.heap.size, 2, none⟩) hne (.string ⟨#[]⟩)) (p := ⟨w.heap.size, 3, none⟩) hne (.bool false)
  have hK6 := (((hK5.setCell (p := ⟨w.heap.size, 0, none⟩) (Or.inr (Nat.le_refl _)) (.int .u64 (tag / 2))).setCell (p := ⟨w.heap.size, 1, none⟩) (Or.inr (Nat.le_refl _)) (.int .u64 n)).setCell (p := ⟨w.heap.size, 2, none⟩) (Or.inr (Nat.le_refl _)) (.string ⟨#[]⟩)).setCell (p := ⟨w.heap.size, 3, none⟩) (Or.inr (Nat.le_refl _)) (.bool false)
  have hBB6 := Aside0.mk (below_set (j := 3) (v := .bool false) (below_set (j := 2) (v := .string ⟨#[]⟩) (below_set (j := 1) (v := .int .u64 n) (below_set (j := 0) (v := .int .u64 (tag / 2)) hBB5 hle) hle) hle) hle)
  have hb6a := Aside0.mk hb6; have hK6a := Aside0.mk hK6
  clear hb5 hK5 hb6 hK6 hBB5
  go_wp2_with (fail)
  have hres : Try.f40.results = #[.cell 2 82, .tmp 3] := by kernel_rfl
  refine bodyPost_ret (v := .tuple #[.agg #[.int .u64 (tag / 2), .int .u64 n, .string ⟨#[]⟩, .bool false], .bool true]) ?_ rfl ⟨rfl, hb6a.out, hK6a.out, hBB6.out⟩
  simp only [results, hres]
  go_simp
end Go.Proofs.Ytfapckmobeppnaa.Px

/- The reader's log. -/
namespace Go.Proofs.Ytfapckmobeppnaa.Px
open Go.RowKit Go.Proofs.YtfapckmobeppnaaW.PrintWords Go.Proofs.YtfapckmobeppnaaW.PrintLast Go.Proofs.YtfapckmobeppnaaW.PrintMore
set_option linter.unusedVariables false
set_option linter.unusedSimpArgs false

set_option maxHeartbeats 1000000 in
set_option maxRecDepth 100000 in
theorem Itm.rlog_key (w0 w : World) (rb : Nat) (C : Array Value) (n : Int) (s : ByteArray) (tx : Bool) (old : Value) (HB0 : Below w0.heap.size w0 w) (hrb0 : w0.heap.size ≤ rb) (hC : w.heap[rb]? = some (.cells C 79 (0, 0))) (ho : C[11]? = some old) :
    Calls Try.prog 38 #[.pointer (some ⟨rb, 0, none⟩), .agg #[.int .u64 1, .int .u64 n, .string s, .bool tx]] w fun e w' => (∃ v, e = .returned v) ∧ w'.heap[rb]? = some (.cells (C.setIfInBounds 11 (.string s)) 79 (0, 0)) ∧ Kept w w' (fun k => k = rb) ∧ Below w0.heap.size w0 w' := by
  have hlt := blk_lt hC
  have hBB := Aside0.mk (below_set (j := 11) (v := .string s) (below_alloc HB0 (.cells #[.int .u64 1, .int .u64 n, .string s, .bool tx] 82 (0, 0))) hrb0)
  have hb1 := blk_alloc hC (.cells #[.int .u64 1, .int .u64 n, .string s, .bool tx] 82 (0, 0))
  have hK1 := Aside0.mk (Kept.alloc (Kept.refl w (fun k => k = rb)) (.cells #[.int .u64 1, .int .u64 n, .string s, .bool tx] 82 (0, 0)))
  have hf1 := blk_new w (.cells #[.int .u64 1, .int .u64 n, .string s, .bool tx] 82 (0, 0))
  go_enter Try.func38, Try.ntmps38
  obtain ⟨W1, hW1⟩ : ∃ W1, W1 = w.alloc (.cells #[.int .u64 1, .int .u64 n, .string s, .bool tx] 82 (0, 0)) := ⟨_, rfl⟩
  rw [← hW1] at hb1 hK1 hf1 hBB
  go_upto_region 1 with (fail)
  rw [← hW1]
  clear hW1 hC
  have z0 : W1.cell? ⟨w.heap.size, 0, none⟩ = some (.int .u64 1) := blk_cell hf1 0
  have z1 : W1.cell? ⟨w.heap.size, 1, none⟩ = some (.int .u64 n) := blk_cell hf1 1
  have z2 : W1.cell? ⟨w.heap.size, 2, none⟩ = some (.string s) := blk_cell hf1 2
  have y : W1.cell? ⟨rb, 11, none⟩ = some old := (blk_cell hb1 11).trans ho
  have yf := blk_frozen hb1 11
  have hb2 := Aside0.mk (blk_set hb1 11 (.string s))
  have hK2 := Aside0.mk (hK1.out.setCell (p := ⟨rb, 11, none⟩) (Or.inl rfl) (.string s))
  clear hb1 hK1 hf1
  go_wp2_with (fail)
  go_end0
  exact ⟨⟨_, rfl⟩, hb2.out, hK2.out, hBB.out⟩
set_option maxHeartbeats 1000000 in
set_option maxRecDepth 100000 in
theorem Itm.rlog_weight (w0 w : World) (rb : Nat) (C : Array Value) (n : Int) (s : ByteArray) (tx : Bool) (old : Value) (HB0 : Below w0.heap.size w0 w) (hrb0 : w0.heap.size ≤ rb) (hC : w.heap[rb]? = some (.cells C 79 (0, 0))) (ho : C[12]? = some old) :
    Calls Try.prog 38 #[.pointer (some ⟨rb, 0, none⟩), .agg #[.int .u64 2, .int .u64 n, .string s, .bool tx]] w fun e w' => (∃ v, e = .returned v) ∧ w'.heap[rb]? = some (.cells (C.setIfInBounds 12 (.int .u64 n)) 79 (0, 0)) ∧ Kept w w' (fun k => k = rb) ∧ Below w0.heap.size w0 w' := by
  have hlt := blk_lt hC
  have hBB := Aside0.mk (below_set (j := 12) (v := .int .u64 n) (below_alloc HB0 (.cells #[.int .u64 2, .int .u64 n, .string s, .bool tx] 82 (0, 0))) hrb0)
  have hb1 := blk_alloc hC (.cells #[.int .u64 2, .int .u64 n, .string s, .bool tx] 82 (0, 0))
  have hK1 := Aside0.mk (Kept.alloc (Kept.refl w (fun k => k = rb)) (.cells #[.int .u64 2, .int .u64 n, .string s, .bool tx] 82 (0, 0)))
  have hf1 := blk_new w (.cells #[.int .u64 2, .int .u64 n, .string s, .bool tx] 82 (0, 0))
  go_enter Try.func38, Try.ntmps38
  obtain ⟨W1, hW1⟩ : ∃ W1, W1 = w.alloc (.cells #[.int .u64 2, .int .u64 n, .string s, .bool tx] 82 (0, 0)) := ⟨_, rfl⟩
  rw [← hW1] at hb1 hK1 hf1 hBB
  go_upto_region 1 with (fail)
  rw [← hW1]
  clear hW1 hC
  have z0 : W1.cell? ⟨w.heap.size, 0, none⟩ = some (.int .u64 2) := blk_cell hf1 0
  have z1 : W1.cell? ⟨w.heap.size, 1, none⟩ = some (.int .u64 n) := blk_cell hf1 1
  have z2 : W1.cell? ⟨w.heap.size, 2, none⟩ = some (.string s) := blk_cell hf1 2
  have y : W1.cell? ⟨rb, 12, none⟩ = some old := (blk_cell hb1 12).trans ho
  have yf := blk_frozen hb1 12
  have hb2 := Aside0.mk (blk_set hb1 12 (.int .u64 n))
  have hK2 := Aside0.mk (hK1.out.setCell (p := ⟨rb, 12, none⟩) (Or.inl rfl) (.int .u64 n))
  clear hb1 hK1 hf1
  go_wp2_with (fail)
  go_end0
  exact ⟨⟨_, rfl⟩, hb2.out, hK2.out, hBB.out⟩
set_option maxHeartbeats 1000000 in
set_option maxRecDepth 100000 in
theorem Itm.rlog_at (w0 w : World) (rb : Nat) (C : Array Value) (n : Int) (s : ByteArray) (tx : Bool) (old : Value) (HB0 : Below w0.heap.size w0 w) (hrb0 : w0.heap.size ≤ rb) (hC : w.heap[rb]? = some (.cells C 79 (0, 0))) (ho : C[13]? = some old) (hn : 0 ≤ n ∧ n < 9223372036854775808) :
    Calls Try.prog 38 #[.pointer (some ⟨rb, 0, none⟩), .agg #[.int .u64 3, .int .u64 n, .string s, .bool tx]] w fun e w' => (∃ v, e = .returned v) ∧ w'.heap[rb]? = some (.cells (C.setIfInBounds 13 (.int .i64 n)) 79 (0, 0)) ∧ Kept w w' (fun k => k = rb) ∧ Below w0.heap.size w0 w' := by
  have hlt := blk_lt hC
  have hBB := Aside0.mk (below_set (j := 13) (v := .int .i64 n) (below_alloc HB0 (.cells #[.int .u64 3, .int .u64 n, .string s, .bool tx] 82 (0, 0))) hrb0)
  have hb1 := blk_alloc hC (.cells #[.int .u64 3, .int .u64 n, .string s, .bool tx] 82 (0, 0))
  have hK1 := Aside0.mk (Kept.alloc (Kept.refl w (fun k => k = rb)) (.cells #[.int .u64 3, .int .u64 n, .string s, .bool tx] 82 (0, 0)))
  have hf1 := blk_new w (.cells #[.int .u64 3, .int .u64 n, .string s, .bool tx] 82 (0, 0))
  go_enter Try.func38, Try.ntmps38
  obtain ⟨W1, hW1⟩ : ∃ W1, W1 = w.alloc (.cells #[.int .u64 3, .int .u64 n, .string s, .bool tx] 82 (0, 0)) := ⟨_, rfl⟩
  rw [← hW1] at hb1 hK1 hf1 hBB
  go_upto_region 1 with (fail)
  rw [← hW1]
  clear hW1 hC
  have z0 : W1.cell? ⟨w.heap.size, 0, none⟩ = some (.int .u64 3) := blk_cell hf1 0
  have z1 : W1.cell? ⟨w.heap.size, 1, none⟩ = some (.int .u64 n) := blk_cell hf1 1
  have z2 : W1.cell? ⟨w.heap.size, 2, none⟩ = some (.string s) := blk_cell hf1 2
  have y : W1.cell? ⟨rb, 13, none⟩ = some old := (blk_cell hb1 13).trans ho
  have yf := blk_frozen hb1 13
  have hb2 := Aside0.mk (blk_set hb1 13 (.int .i64 n))
  have hK2 := Aside0.mk (hK1.out.setCell (p := ⟨rb, 13, none⟩) (Or.inl rfl) (.int .i64 n))
  clear hb1 hK1 hf1
  go_wp2_with (fail)
  go_end0
  exact ⟨⟨_, rfl⟩, hb2.out, hK2.out, hBB.out⟩
set_option maxHeartbeats 1000000 in
set_option maxRecDepth 100000 in
theorem Itm.rlog_body (w0 w : World) (rb : Nat) (C : Array Value) (n : Int) (s : ByteArray) (tx : Bool) (old : Value) (HB0 : Below w0.heap.size w0 w) (hrb0 : w0.heap.size ≤ rb) (hC : w.heap[rb]? = some (.cells C 79 (0, 0))) (ho : C[14]? = some old) :
    Calls Try.prog 38 #[.pointer (some ⟨rb, 0, none⟩), .agg #[.int .u64 4, .int .u64 n, .string s, .bool tx]] w fun e w' => (∃ v, e = .returned v) ∧ w'.heap[rb]? = some (.cells (C.setIfInBounds 14 (.string s)) 79 (0, 0)) ∧ Kept w w' (fun k => k = rb) ∧ Below w0.heap.size w0 w' := by
  have hlt := blk_lt hC
  have hBB := Aside0.mk (below_set (j := 14) (v := .string s) (below_alloc HB0 (.cells #[.int .u64 4, .int .u64 n, .string s, .bool tx] 82 (0, 0))) hrb0)
  have hb1 := blk_alloc hC (.cells #[.int .u64 4, .int .u64 n, .string s, .bool tx] 82 (0, 0))
  have hK1 := Aside0.mk (Kept.alloc (Kept.refl w (fun k => k = rb)) (.cells #[.int .u64 4, .int .u64 n, .string s, .bool tx] 82 (0, 0)))
  have hf1 := blk_new w (.cells #[.int .u64 4, .int .u64 n, .string s, .bool tx] 82 (0, 0))
  go_enter Try.func38, Try.ntmps38
  obtain ⟨W1, hW1⟩ : ∃ W1, W1 = w.alloc (.cells #[.int .u64 4, .int .u64 n, .string s, .bool tx] 82 (0, 0)) := ⟨_, rfl⟩
  rw [← hW1] at hb1 hK1 hf1 hBB
  go_upto_region 1 with (fail)
  rw [← hW1]
  clear hW1 hC
  have z0 : W1.cell? ⟨w.heap.size, 0, none⟩ = some (.int .u64 4) := blk_cell hf1 0
  have z1 : W1.cell? ⟨w.heap.size, 1, none⟩ = some (.int .u64 n) := blk_cell hf1 1
  have z2 : W1.cell? ⟨w.heap.size, 2, none⟩ = some (.string s) := blk_cell hf1 2
  have y : W1.cell? ⟨rb, 14, none⟩ = some old := (blk_cell hb1 14).trans ho
  have yf := blk_frozen hb1 14
  have hb2 := Aside0.mk (blk_set hb1 14 (.string s))
  have hK2 := Aside0.mk (hK1.out.setCell (p := ⟨rb, 14, none⟩) (Or.inl rfl) (.string s))
  clear hb1 hK1 hf1
  go_wp2_with (fail)
  go_end0
  exact ⟨⟨_, rfl⟩, hb2.out, hK2.out, hBB.out⟩
end Go.Proofs.Ytfapckmobeppnaa.Px
