/- Gather's Add. -/
import Derived.Test.YtiheghnojmfmfaaGthT
import Derived.Test.YtiheghnojmfmfaaPx2
namespace Go.Proofs.Ytiheghnojmfmfaa.Px
open Go.RowKit Go.Proofs.YtiheghnojmfmfaaW.PrintWords Go.Proofs.YtiheghnojmfmfaaW.PrintLast Go.Proofs.YtiheghnojmfmfaaW.PrintMore
set_option linter.unusedVariables false
set_option linter.unusedSimpArgs false

theorem Gth.clone_eq (l : List Int) (h : l.length ≤ 140737488355328) : slices_Clone_byte_byte.f l = some l := by
  unfold slices_Clone_byte_byte.f; rw [if_pos h]
def Gth.T18 : Bool × List (List Nat × List Nat) := (true, [([], []), ([], []), ([1], [1]), ([2], [2]), ([3], [3]), ([], []), ([], []), ([6], [6]), ([5, 7], [5, 7]), ([8], [8]), ([4, 9, 7], [4, 9]), ([0, 0, 1, 2, 3, 4, 5, 6, 7, 8, 9, 10], [0]), ([11, 0, 1, 2, 3, 4, 5, 6, 7, 8, 9, 10], [11]), ([12, 10, 10, 0, 1, 2, 3, 4, 5, 6, 7, 8, 9, 10], [10, 12])])
theorem Gth.T18_tab : rtab .any (opsOf Try.f18 6) = Gth.T18 := by kernel_rfl
set_option maxHeartbeats 4000000 in
set_option maxRecDepth 100000 in
theorem Gth.Add_calls (w0 w : World) (ok : Nat → Prop) (g : Nat) (L : List S73) (items age now t : Int) (A0 : Option Addr) (c0 : Nat) (l0 : List Int) (h : Gth.N w w0.heap.size ok g L items age now) (hL : L.length ≤ 110)
    (hC : Kd.F (Kd.int .u8) w (fun k => k ≠ g) A0 l0.length l0) (hc0 : l0.length ≤ c0) (h1 : 1 ≤ l0.length) (h20 : l0.length ≤ 20) (ht : now ≤ t) (ht2 : t ≤ 1099511627776) (HB : Below w0.heap.size w0 w) :
    Calls Try.prog 18 #[.pointer (some ⟨g, 0, none⟩), .int .i64 t, .slice A0 l0.length c0] w fun e w' => e = .returned (.int .u16 0) ∧ Gth.N w' w0.heap.size (fun k => ok k ∨ w.heap.size ≤ k) g (L ++ [⟨t, l0⟩]) items age t ∧ Kept w w' (fun k => ok k ∨ k = g) ∧ Below w0.heap.size w0 w' := by
  have hglt := Gth.N_lt h
  obtain ⟨A, c, hh, hbg, ho, hn⟩ := h
  have b1 : ((l0.length : Int) == 0) = false := beq_eq_false_iff_ne.mpr (by omega)
  have b2 : decide ((l0.length : Int) > 1500) = false := decide_eq_false (by omega)
  have b3 : decide (t < now) = false := decide_eq_false (by omega)
  have b4 : decide (t > 1099511627776) = false := decide_eq_false (by omega)
  have c3 : w.cell? ⟨g, 3, none⟩ = some (.int .i64 now) := blk_cell hh 3
  have f3 := blk_frozen hh 3
  have hN0 := Kd.N_lt hn
  have hokv : ∀ k, (Value.slice A L.length c).ownBlock = some k → ok k := hn.1
  have hgv : some g ≠ (Value.slice A L.length c).ownBlock := fun he => ho (hn.1 g he.symm)
  have hha := Aside0.mk hh; have hna := Aside0.mk hn; have hCa := Aside0.mk hC
  clear hh hn hC
  go_enter Try.func18, Try.ntmps18
  go_wp2_with (fail)
  have hbl := blk_put hha.out 3 (.int .i64 t) rfl
  have hKs := (Kept.refl w (fun k => ok k ∨ k = g)).setCell (p := ⟨g, 3, none⟩) (Or.inr rfl |> Or.inl) (.int .i64 t)
  have hKg := (Kept.refl w (fun k => k = g)).setCell (p := ⟨g, 3, none⟩) (Or.inl rfl) (.int .i64 t)
  have HBs := below_set (j := 3) (v := .int .i64 t) HB hbg
  have hNs := Kd.N_kept hna.out hKg (fun k_ hk_ he_ => ho (he_ ▸ hk_))
  generalize w.setCell ⟨g, 3, none⟩ (.int .i64 t) = W5 at hbl hKs HBs hNs hKg ⊢
  have c0d : W5.drew.cell? ⟨g, 0, none⟩ = some (.slice A L.length c) := blk_cell hbl 0
  have hN2 := Aside0.mk (Kd.N_drew hNs)
  have hC2 := Aside0.mk (Kd.F_now (Kd.F_drew (Kd.F_kept hCa.out hKg (fun k_ hk_ => hk_))))
  have hb2 := Aside0.mk (blk_drew hbl)
  have HB2 := Aside0.mk (below_drew HBs)
  have hK2 := Aside0.mk (hKs.drew)
  have hszw : w.heap.size ≤ W5.drew.heap.size := hKs.1
  clear hbl hKs HBs hNs hKg c3 f3 b1 b2 b3 b4 hha hna hCa HB
  refine start_ (n := 14) (S := fun w' => w'.cell? ⟨g, 0, none⟩ = some (.slice A L.length c)) (ds := [10, 13]) #[false, false, false, false, false, false, false, false, false, false, false, false, false, false] (by kernel_rfl) rfl rfl c0d (fun hHeld => ?_)
  refine with_tab Gth.T18_tab (fun HT_ => ?_)
  generalize W5.drew = w2 at hHeld hN2 hC2 hb2 HB2 hK2 hszw ⊢
  refine pure_ (i := 0) (N := (some 31)) (v := ?_) (a' := ?_) #[true, false, false, false, false, false, false, false, false, false, false, false, false, false] rfl rfl (any_of HT_.out (by kernel_rfl)) (fun _ _ _ h => h) (Or.inl ⟨by rfl, ?_⟩) ?_ ?_
  rotate_left
  · intro w'
    go_simp
    with_reducible rfl
  rotate_left
  · simp only [Act.put, List.setIfInBounds_toArray, List.set_cons_zero, List.set_cons_succ, i64_w, i32_w]
    rfl
  refine pure_ (i := 1) (N := (some 32)) (v := ?_) (a' := ?_) #[true, true, false, false, false, false, false, false, false, false, false, false, false, false] rfl rfl (any_of HT_.out (by kernel_rfl)) (fun _ _ _ h => h) (Or.inl ⟨by rfl, ?_⟩) ?_ ?_
  rotate_left
  · intro w'
    go_simp
    with_reducible rfl
  rotate_left
  · simp only [Act.put, List.setIfInBounds_toArray, List.set_cons_zero, List.set_cons_succ, i64_w, i32_w]
    rfl
  refine pure_ (i := 2) (N := (some 33)) (v := ?_) (a' := ?_) #[true, true, true, false, false, false, false, false, false, false, false, false, false, false] rfl rfl (any_of HT_.out (by kernel_rfl)) (fun _ _ _ h => h) (Or.inl ⟨by rfl, ?_⟩) ?_ ?_
  rotate_left
  · intro w'
    go_simp
    with_reducible rfl
  rotate_left
  · simp only [Act.put, List.setIfInBounds_toArray, List.set_cons_zero, List.set_cons_succ, i64_w, i32_w]
    rfl
  refine pure_ (i := 3) (N := (some 34)) (v := ?_) (a' := ?_) #[true, true, true, true, false, false, false, false, false, false, false, false, false, false] rfl rfl (any_of HT_.out (by kernel_rfl)) (fun _ _ _ h => h) (Or.inl ⟨by rfl, ?_⟩) ?_ ?_
  rotate_left
  · intro w'
    go_simp
    with_reducible rfl
  rotate_left
  · simp only [Act.put, List.setIfInBounds_toArray, List.set_cons_zero, List.set_cons_succ, i64_w, i32_w]
    rfl
  refine take_ (i := 4) (N := (some 35)) (v := ?_) (a' := ?_) #[true, true, true, true, true, false, false, false, false, false, false, false, false, false] rfl rfl (take_of HT_.out (by kernel_rfl)) (fun _ _ _ h => h) (Or.inl ⟨by rfl, ?_⟩) hHeld ?_ ?_
  rotate_left
  · rintro w' s0
    go_simp
    with_reducible rfl
  rotate_left
  · simp only [Act.put, List.setIfInBounds_toArray, List.set_cons_zero, List.set_cons_succ, i64_w, i32_w]
    rfl
  refine pure_ (i := 5) (N := (some 36)) (v := ?_) (a' := ?_) #[true, true, true, true, true, true, false, false, false, false, false, false, false, false] rfl rfl (any_of HT_.out (by kernel_rfl)) (fun _ _ _ h => h) (Or.inl ⟨by rfl, ?_⟩) ?_ ?_
  rotate_left
  · intro w'
    go_simp
    with_reducible rfl
  rotate_left
  · simp only [Act.put, List.setIfInBounds_toArray, List.set_cons_zero, List.set_cons_succ, i64_w, i32_w]
    rfl
  refine pure_ (i := 6) (N := (some 37)) (v := ?_) (a' := ?_) #[true, true, true, true, true, true, true, false, false, false, false, false, false, false] rfl rfl (any_of HT_.out (by kernel_rfl)) (fun _ _ _ h => h) (Or.inl ⟨by rfl, ?_⟩) ?_ ?_
  rotate_left
  · intro w'
    go_simp
    with_reducible rfl
  rotate_left
  · simp only [Act.put, List.setIfInBounds_toArray, List.set_cons_zero, List.set_cons_succ, i64_w, i32_w]
    rfl
  refine one_ (i := 7) (N := (some 38)) #[true, true, true, true, true, true, true, true, false, false, false, false, false, false] rfl rfl (one_of HT_.out (by kernel_rfl)) (by decide) (fun K hK => ?_)
  refine goes_ Try.func35 (by kernel_rfl) rfl #[.slice A0 l0.length c0] (by rfl) rfl rfl (by (try simp only [List.map_toArray, List.map_cons, List.map_nil]); first | done | rfl) ?_
  refine (slices_Clone_byte_byte.calls A0 c0 l0 l0 _ hC2.out hc0 (Gth.clone_eq l0 (by omega))).mono ?_
  rintro e w3 ⟨v3, rfl, ho3, hb3⟩
  refine ⟨_, rfl, ?_⟩
  have hN3 := Aside0.mk (Kd.N_below hN2.out hb3)
  have hN3a := Aside0.mk (Kd.N_lt hN2.out)
  have hB3 := Aside0.mk (blk_below hb2.out hb3)
  have HB3 := Aside0.mk (below_step HB2.out hb3)
  have hK3 := Aside0.mk (hK2.out.below hb3)
  have hsz3 := below_size hb3
  have ho3a := Aside0.mk ho3
  obtain ⟨A3, c3, rfl⟩ := Kd.R_slice ho3
  have hS3 : w3.cell? ⟨g, 0, none⟩ = some (.slice A L.length c) := blk_cell hB3.out 0
  clear ho3 hb3 hN2 hC2 hb2 HB2 hK2 hHeld
  refine hK.out _ _ hS3 (fun hHeld => ?_)
  clear hK K
  refine norm_ (a' := ?_) ?_ ?_
  rotate_left
  · show Act.put _ (some 38) _ = _
    simp only [Act.put, List.setIfInBounds_toArray, List.set_cons_zero, List.set_cons_succ, i64_w, i32_w]
    rfl
  refine pure_ (i := 8) (N := (some 39)) (v := ?_) (a' := ?_) #[true, true, true, true, true, true, true, true, true, false, false, false, false, false] rfl rfl (any_of HT_.out (by kernel_rfl)) (fun _ _ _ h => h) (Or.inl ⟨by rfl, ?_⟩) ?_ ?_
  rotate_left
  · intro w'
    go_simp
    with_reducible rfl
  rotate_left
  · simp only [Act.put, List.setIfInBounds_toArray, List.set_cons_zero, List.set_cons_succ, i64_w, i32_w]
    rfl
  refine one_ (i := 9) (N := (some 40)) #[true, true, true, true, true, true, true, true, true, true, false, false, false, false] rfl rfl (one_of HT_.out (by kernel_rfl)) (by decide) (fun K hK => ?_)
  have hS4 : (w3.alloc (.cells #[.int .i64 t, .slice A3 l0.length c3] 73 (0, 0))).cell? ⟨g, 0, none⟩ = some (.slice A L.length c) := blk_cell (blk_alloc hB3.out _) 0
  refine value_ (w1 := ?_) (v := ?_) (by rfl) rfl ?_ ?_
  rotate_left 2
  · go_simp
    constructor
    · rfl
    · rfl
  refine hK.out _ _ hS4 (fun hHeld4 => ?_)
  clear hK K
  refine norm_ (a' := ?_) ?_ ?_
  rotate_left
  · show Act.put _ (some 40) _ = _
    simp only [Act.put, List.setIfInBounds_toArray, List.set_cons_zero, List.set_cons_succ, i64_w, i32_w]
    rfl
  refine last_ (i := 10) (N := (some 41)) #[true, true, true, true, true, true, true, true, true, true, true, false, false, false] rfl rfl (one_of HT_.out (by kernel_rfl)) (by decide) (fun K hK => ?_)
  refine Kd.N_append_step k73 (w0 := w0) w0.heap.size (by rfl) (.tmp 35) (.tmp 40) 68 73 (.agg #[.int .i64 0, .slice none 0 0]) 32 rfl Try.underlying68 Gth.info73 rfl (by decide) (by omega) (.slice A L.length c) L (⟨t, l0⟩ : S73) [.int .i64 t, .slice A3 l0.length c3] (fun k => ok k ∨ w.heap.size ≤ k) (fun k => w.heap.size ≤ k) rfl rfl ?aP ?aK ?aF ?aO ?aB ?aS ?aL ?_
  case aP => exact Kd.FK_of_M (k73_mkM w3 w.heap.size (fun k => w.heap.size ≤ k) ⟨t, l0⟩ (Kd.R_mono (Kd.R_lower (Kd.R_tight rfl ho3a.out) hszw) (fun k_ hk_ => by have := Kd.R_base ho3a.out k_ hk_.symm; omega)))
  case aK => exact fun k_ hk_ => ⟨Or.inr hk_, fun he_ => by have := hN0 k_ he_.symm; omega⟩
  case aF => exact fun k_ hk_ => Or.inr (by omega)
  case aO => exact Kd.N_mono hN3.out (fun _ hk_ => Or.inl hk_)
  case aB => exact HB3.out
  case aS => exact below_size HB3.out
  case aL => omega
  intro v1 w9 hN9 hB9 hG9 hO9
  refine hK.out _ _ ?_
  clear hK K
  have hK9 := Aside0.mk (Kept.of_grown hG9 hK3.out (fun k_ hk_ => Or.inl (Or.inl (hokv k_ hk_))))
  have hB9g := Aside0.mk (blk_grown hB3.out hG9 hgv)
  have hNa := Aside0.mk hN9
  have HBa := Aside0.mk hB9
  obtain ⟨A9, c9, rfl⟩ := Kd.N_slice hN9
  clear hN9 hB9 hG9 hO9 hHeld hHeld4 hS3 hS4
  refine norm_ (a' := ?_) ?_ ?_
  rotate_left
  · show Act.put _ (some 41) _ = _
    simp only [Act.put, List.setIfInBounds_toArray, List.set_cons_zero, List.set_cons_succ, i64_w, i32_w]
    rfl
  refine pure_ (i := 11) (N := (some 42)) (v := ?_) (a' := ?_) #[true, true, true, true, true, true, true, true, true, true, true, true, false, false] rfl rfl (any_of HT_.out (by kernel_rfl)) (fun _ _ _ h => h) (Or.inl ⟨by rfl, ?_⟩) ?_ ?_
  rotate_left
  · intro w'
    go_simp
    with_reducible rfl
  rotate_left
  · simp only [Act.put, List.setIfInBounds_toArray, List.set_cons_zero, List.set_cons_succ, i64_w, i32_w]
    rfl
  refine pure_ (i := 12) (N := (some 43)) (v := ?_) (a' := ?_) #[true, true, true, true, true, true, true, true, true, true, true, true, true, false] rfl rfl (any_of HT_.out (by kernel_rfl)) (fun _ _ _ h => h) (Or.inl ⟨by rfl, ?_⟩) ?_ ?_
  rotate_left
  · intro w'
    go_simp
    with_reducible rfl
  rotate_left
  · simp only [Act.put, List.setIfInBounds_toArray, List.set_cons_zero, List.set_cons_succ, i64_w, i32_w]
    rfl
  refine last_ (i := 13) (N := none) #[true, true, true, true, true, true, true, true, true, true, true, true, true, true] rfl rfl (one_of HT_.out (by kernel_rfl)) (by decide) (fun K hK => ?_)
  have z8 : w9.cell? ⟨g, 0, none⟩ = some (.slice A L.length c) := blk_cell hB9g.out 0
  have fz8 := blk_frozen hB9g.out 0
  refine skip_ (w1 := ?_) (by rfl) rfl ?_ ?_
  rotate_left
  · go_simp
    rfl
  refine hK.out _ _ ?_
  clear hK K z8 fz8
  refine done_ (done_of HT_.out (by kernel_rfl)) ?_
  clear HT_
  go_wp2
  go_ret
  have hNb := hNa.out
  rw [List.length_append, List.length_singleton] at hNb
  have hKr := (Kept.refl w9 (fun k => k = g)).setCell (p := ⟨g, 0, none⟩) (Or.inl rfl) (.slice A9 (L.length + 1) c9)
  have hbl := blk_put hB9g.out 0 (.slice A9 (L.length + 1) c9) rfl
  refine ⟨rfl, ⟨A9, c9, by rw [List.length_append, List.length_singleton]; exact hbl, hbg, fun hk_ => ?_, by rw [List.length_append, List.length_singleton]; exact Kd.N_kept hNb hKr (fun k_ hk_ he_ => by subst he_; exact hk_.elim ho (fun h_ => by omega))⟩, hK9.out.setCell (p := ⟨g, 0, none⟩) (Or.inl (Or.inr rfl)) _, below_set HBa.out hbg⟩
  · exact hk_.elim ho (fun h_ => by omega)
end Go.Proofs.Ytiheghnojmfmfaa.Px
