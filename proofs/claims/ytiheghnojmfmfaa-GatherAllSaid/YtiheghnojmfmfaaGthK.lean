/- known's walk: the chapter's example. -/
import Derived.Test.YtiheghnojmfmfaaGthP
import Derived.Lib.SlBytesConst
namespace Go.Proofs.Ytiheghnojmfmfaa.Px
open Go.RowKit Go.Proofs.YtiheghnojmfmfaaW.PrintWords Go.Proofs.YtiheghnojmfmfaaW.PrintLast Go.Proofs.YtiheghnojmfmfaaW.PrintMore
set_option linter.unusedVariables false
set_option linter.unusedSimpArgs false

/-- A row of numbers written out. -/
theorem Gth.lit_F {W : World} {b t : Nat} {fz : Nat × Nat} {l : List Int} (h : W.heap[b]? = some (.cells (l.map (Value.int .u8)).toArray t fz)) (hl : l.length ≤ 9223372036854775807) : Kd.F (Kd.int .u8) W (fun k => k = b) (some ⟨b, 0, none⟩) l.length l := by
  intro W' hW
  refine Kd.C_of_reads (enc := Value.int .u8) (d := (0 : Int)) (h1 := fun _ => rfl) ⟨rfl, hl, fun hp => ⟨⟨b, 0, none⟩, rfl, fun j hj => ?_⟩⟩
  have h2 : W'.heap[b]? = some (.cells (l.map (Value.int .u8)).toArray t fz) := (hW b rfl (blk_lt h)).trans h
  rw [add_plain, cell_of_row W' b j _ t fz h2]
  simp [List.getD_eq_getElem?_getD, List.getElem?_eq_getElem hj]
theorem Gth.batch_one (x : Int) (h : 0 ≤ x ∧ x ≤ 255) : Gth.batch [[x]] = [1, 1, x] := by
  unfold Gth.batch Gth.txt
  simp only [List.flatMap_cons, List.flatMap_nil, List.append_nil]
  rw [Gth.bytesOf_nums [x] (by intro y hy; simp at hy; omega)]
  simp only [List.length_cons, List.length_nil, Nat.zero_add]
  rw [putL_small (by omega)]
  rfl
theorem Gth.split_one (x : Int) (h : 0 ≤ x ∧ x ≤ 255) : Gth.split [1, 1, x] = ([[x]], 0) := by
  rw [← Gth.batch_one x h]
  refine Gth.split_batch [[x]] (by simp) (by simp) ?_ ?_
  · intro l hl
    simp only [List.mem_singleton] at hl
    subst hl
    exact ⟨by simp, by simp, by intro y hy; simp at hy; omega⟩
  · rw [Gth.batch_one x h]; simp
set_option maxHeartbeats 4000000 in
set_option maxRecDepth 100000 in
theorem Gth.known_calls (w : World) : Calls Try.prog 14 #[] w fun e w' => e = .returned (.bool true) ∧ Below w.heap.size w w' := by
  have kc := fun (w : World) (C : Array Value) (n c : Nat) => Lib.run_convert_bytes_const (P := Try.prog) w 22 5 C n c Try.underlying22 Try.underlying5
  have c1 := Gth.New_calls 2 10 w (by omega) (by omega) (by omega) (by omega)
  have hN0 := Aside0.mk (fun w => Gth.New_nil 0 1 w (Or.inl (by omega)))
  have hN1 := Aside0.mk (fun w => Gth.New_nil 101 1 w (Or.inr (by omega)))
  go_enter Try.func14, Try.ntmps14
  go_wp2_with (fail)
  refine c1.mono ?_
  clear c1
  rintro e w1 ⟨g, rfl, hG, hb1⟩
  replace hG := Aside0.mk hG; replace hb1 := Aside0.mk hb1
  go_wp2_with (fail)
  refine (hN0.out _).mono ?_
  rintro e w2 ⟨rfl, hb⟩
  replace hG := Aside0.mk (Gth.N_below hG.out hb); replace hb1 := Aside0.mk (below_step hb1.out hb)
  clear hb hN0
  go_wp2_with (fail)
  refine (hN1.out _).mono ?_
  rintro e w3 ⟨rfl, hb⟩
  replace hG := Aside0.mk (Gth.N_below hG.out hb); replace hb1 := Aside0.mk (below_step hb1.out hb)
  clear hb hN1
  go_wp2_with (fail)
  have hbA := Aside0.mk (blk_new w3 (.cells #[Value.int .u8 97] 5 (1, 2)))
  have hg3 := Gth.N_lt hG.out
  have hFA := Gth.lit_F (l := [97]) (show (w3.alloc (.cells #[Value.int .u8 97] 5 (1, 2))).heap[w3.heap.size]? = some (.cells ([(97 : Int)].map (Value.int .u8)).toArray 5 (1, 2)) from hbA.out) (by simp)
  have cA := Gth.Add_calls w (w3.alloc (.cells #[Value.int .u8 97] 5 (1, 2))) (fun _ => False) g [] 2 10 0 3 (some ⟨w3.heap.size, 0, none⟩) 1 [97] (Gth.N_below hG.out (below_alloc (Below.refl _ _) _)) (by simp) (Kd.F_mono hFA (fun k hk => by omega)) (by simp) (by simp) (by simp) (by omega) (by omega) (below_alloc hb1.out _)
  refine cA.mono ?_
  clear cA hG hbA hFA kc
  rintro e w4 ⟨rfl, hG, hK4, hb4⟩
  have hgw : w.heap.size ≤ g := by obtain ⟨_, _, _, h_, _⟩ := hG; exact h_
  have hFa := Aside0.mk (Gth.N_F hG); have hb4a := Aside0.mk hb4
  clear hG hK4 hb4 hb1
  have hsm : Gth.small ([] ++ [(⟨3, [97]⟩ : S73)]) := ⟨by simp, by simp⟩
  have cT := Gth.Take_none w4 _ g ([] ++ [⟨3, [97]⟩]) 2 10 3 9 hFa.out hsm (by omega) (by omega) (by omega) (by simp [rd_T73]) (by simp [rd_T73]) (Or.inr ⟨by simp, by simp [rd_T73]⟩)
  go_wp2_with (fail)
  refine cT.mono ?_
  clear cT
  rintro e w5 ⟨rfl, hb⟩
  replace hFa := Aside0.mk (Gth.F_below hFa.out hb); replace hb4a := Aside0.mk (below_step hb4a.out hb)
  clear hb
  have cT := Gth.Take_some w w5 _ g ([] ++ [⟨3, [97]⟩]) 2 10 3 13 hFa.out hsm (by omega) (by simp) (by omega) (by omega) (by simp [rd_T73]) (by simp [rd_T73]) (Or.inr (by simp [rd_T73])) hb4a.out hgw
  go_wp2_with (fail)
  refine cT.mono ?_
  clear cT
  rintro e w6 ⟨n, hn, hn1, v, rfl, hR, hF6, hK6, hb6⟩
  obtain rfl : n = 1 := by simp at hn; omega
  have hRt : Kd.R (Kd.int .u8) 5 w6 w5.heap.size (fun _ => True) v [1, 1, 97] := by
    have he_ : putL 1 ++ ((([] ++ [(⟨3, [97]⟩ : S73)]).take 1).flatMap (fun e : S73 => Gth.txt e.f1)) = [1, 1, 97] := by
      have h_ := Gth.batch_one 97 (by omega)
      unfold Gth.batch at h_
      simpa using h_
    rw [he_] at hR
    exact hR
  obtain ⟨A6, c6, rfl⟩ := Kd.R_slice hRt
  have hC6 := Aside0.mk (Kd.R_reads' hRt).2.2
  have hb6a := Aside0.mk hb6
  clear hR hF6 hK6 hb6 hRt hFa hb4a hn hn1 hsm
  go_wp2_with (fail)
  have hb7 := Aside0.mk (blk_new w6 (.cells #[Value.int .u8 1, Value.int .u8 1, Value.int .u8 97] 5 (0, 0)))
  have hFB := Gth.lit_F (l := [1, 1, 97]) (show (w6.alloc (.cells #[Value.int .u8 1, Value.int .u8 1, Value.int .u8 97] 5 (0, 0))).heap[w6.heap.size]? = some (.cells ([(1 : Int), 1, 97].map (Value.int .u8)).toArray 5 (0, 0)) from hb7.out) (by simp)
  have cS := Gth.Split_calls (some ⟨w6.heap.size, 0, none⟩) 3 [1, 1, 97] (w6.alloc (.cells #[Value.int .u8 1, Value.int .u8 1, Value.int .u8 97] 5 (0, 0))) (Kd.F_now hFB) (by simp) (by intro x hx; simp at hx; omega) (by simp)
  rw [Gth.split_one 97 (by omega)] at cS
  refine cS.mono ?_
  clear cS hFB hb7
  rintro e w7 ⟨v7, rfl, hN7, hb7⟩
  obtain ⟨A7, c7, rfl⟩ := Kd.N_slice hN7
  replace hC6 := Aside0.mk (Kd.C_below hC6.out (below_then (below_alloc (Below.refl _ w6) _) (below_size (below_alloc (Below.refl _ w6) _)) hb7))
  replace hb6a := Aside0.mk (below_step (below_alloc hb6a.out _) hb7)
  clear hN7 hb7
  have cS := Gth.Split_calls none 0 [] w7 (Kd.C_nil _ _) (by simp) (fun x hx => by simp at hx) (by simp)
  rw [Gth.split_nil] at cS
  go_wp2_with (fail)
  refine cS.mono ?_
  clear cS
  rintro e w8 ⟨v8, rfl, hN8, hb8⟩
  obtain ⟨A8, c8, rfl⟩ := Kd.N_slice hN8
  replace hC6 := Kd.C_below hC6.out hb8
  replace hb6a := Aside0.mk (below_step hb6a.out hb8)
  clear hN8 hb8
  have hcv0 := Kd.C_string (P := Try.prog) (A := A6) (c := c6) Try.underlying22 Try.underlying5 Try.underlying9 hC6
  have hsn : strOfNums [1, 1, 97] = ⟨#[1, 1, 97]⟩ := by rfl
  rw [hsn] at hcv0
  have hcv : (convert 22 9 (.slice A6 3 c6)).run Try.prog w8 = .ok (.string ⟨#[1, 1, 97]⟩) w8 := hcv0
  clear hC6 hcv0
  go_wp2_with (fail)
  go_ret
  exact ⟨rfl, hb6a.out⟩
def telemeterlaw16_known.f : Option Bool := some true
theorem Gth.known_calls' (r : Bool) (w : World) (h : telemeterlaw16_known.f = some r) : Calls Try.prog 14 #[] w fun e w' => e = .returned (.bool r) ∧ Below w.heap.size w w' := by
  obtain rfl := Option.some.inj h
  exact Gth.known_calls w
def telemeterlaw16_splits.f (l : List Int) : Option Bool := if l.length ≤ 100000 ∧ (l.all fun x => decide (0 ≤ x) && decide (x ≤ 255)) = true then some true else none
theorem Gth.splits_f (l : List Int) (hl : l.length ≤ 100000) (hb : bytesP l) : telemeterlaw16_splits.f l = some true := by
  unfold telemeterlaw16_splits.f
  rw [if_pos ⟨hl, by rw [List.all_eq_true]; intro x hx; have := hb x hx; simp; omega⟩]
theorem Gth.splits_calls' (A0 : Option Addr) (c0 : Nat) (l0 : List Int) (r : Bool) (w : World) (hr0 : Kd.C (Kd.int .u8) w A0 l0.length l0) (hc0 : l0.length ≤ c0) (h : telemeterlaw16_splits.f l0 = some r) : Calls Try.prog 16 #[.slice A0 l0.length c0] w fun e w' => e = .returned (.bool r) ∧ Below w.heap.size w w' := by
  unfold telemeterlaw16_splits.f at h
  split at h
  · rename_i hc
    obtain rfl := Option.some.inj h
    refine Gth.splits_calls A0 c0 l0 w hr0 hc0 (fun x hx => ?_) hc.1
    have := List.all_eq_true.mp hc.2 x hx
    simp at this
    exact this
  · cases h
end Go.Proofs.Ytiheghnojmfmfaa.Px
