/- GatherWaits' walk. -/
import Derived.Test.YtiheghnojmfmfaaGthU
namespace Go.Proofs.Ytiheghnojmfmfaa.Px
open Go.RowKit Go.Proofs.YtiheghnojmfmfaaW.PrintWords Go.Proofs.YtiheghnojmfmfaaW.PrintLast Go.Proofs.YtiheghnojmfmfaaW.PrintMore
set_option linter.unusedVariables false
set_option linter.unusedSimpArgs false

/-- When item i is put in. -/
def Gth.wt (old : Nat) (i : Nat) : Int := 7 + min (i : Int) ((old : Int) - 1)
def Gth.waitL (old : Nat) (x : Int) (m : Nat) : List S73 := (List.range m).map (fun i => (⟨Gth.wt old i, [x]⟩ : S73))
theorem Gth.waitL_succ (old : Nat) (x : Int) (m : Nat) : Gth.waitL old x (m + 1) = Gth.waitL old x m ++ [⟨Gth.wt old m, [x]⟩] := by
  unfold Gth.waitL; rw [List.range_succ, List.map_append]; rfl
theorem Gth.waitL_length (old : Nat) (x : Int) (m : Nat) : (Gth.waitL old x m).length = m := by unfold Gth.waitL; rw [List.length_map, List.length_range]
theorem Gth.waitL_small (old : Nat) (x : Int) (m : Nat) (h : m ≤ 110) : Gth.small (Gth.waitL old x m) := by
  refine ⟨by rw [Gth.waitL_length]; exact h, fun e he => ?_⟩
  unfold Gth.waitL at he
  obtain ⟨i, _, rfl⟩ := List.mem_map.mp he
  simp
theorem Gth.waitL_rd (old : Nat) (x : Int) (m : Nat) (h : 0 < m) (h1 : 1 ≤ old) : (rd_T73 (Gth.waitL old x m) 0).f0 = 7 := by
  unfold rd_T73 Gth.waitL
  rw [List.getD_eq_getElem?_getD, List.getElem?_eq_getElem (by simpa using h)]
  simp [Gth.wt]
  omega
theorem Gth.waitL_bytes (old : Nat) (x : Int) (m : Nat) (h : 0 ≤ x ∧ x ≤ 255) : ∀ l ∈ (Gth.waitL old x m).map (·.f1), 1 ≤ l.length ∧ l.length ≤ 1500 ∧ bytesP l := by
  intro l hl
  unfold Gth.waitL at hl
  rw [List.map_map] at hl
  obtain ⟨i, hi, rfl⟩ := List.mem_map.mp hl
  refine ⟨by simp, by simp, ?_⟩
  intro y hy
  simp at hy
  omega
/-- The time ahead of item j. -/
def Gth.wnow (old : Nat) : Nat → Int
  | 0 => 0
  | j + 1 => Gth.wt old j
theorem Gth.wnow_le (old j : Nat) (h : 1 ≤ old) : Gth.wnow old j ≤ Gth.wt old j := by
  cases j with
  | zero => simp only [Gth.wnow, Gth.wt]; omega
  | succ j => simp only [Gth.wnow, Gth.wt]; omega
set_option maxHeartbeats 4000000 in
set_option maxRecDepth 100000 in
theorem Gth.Waits_walk (a0 a1 a2 : Int) (w : World) (h0 : 0 ≤ a0 ∧ a0 ≤ 255) (h1 : 0 ≤ a1 ∧ a1 ≤ 255) (h2 : 0 ≤ a2 ∧ a2 ≤ 255) : Calls Try.prog 6 #[.int .u8 a0, .int .u8 a1, .int .u8 a2] w fun e w' => e = .returned (.bool true) ∧ Below w.heap.size w w' := by
  obtain ⟨n, hn⟩ : ∃ n : Nat, 2 + a0 % 50 = (n : Int) := ⟨(2 + a0 % 50).toNat, by omega⟩
  have hn1 : 2 ≤ n := by omega
  have hn2 : n ≤ 51 := by omega
  obtain ⟨old, hold⟩ : ∃ old : Nat, 1 + a1 = (old : Int) := ⟨(1 + a1).toNat, by omega⟩
  have ho1 : 1 ≤ old := by omega
  have ho2 : old ≤ 256 := by omega
  have hr1 : 0 ≤ a2 % ((n : Int) - 1) := Int.emod_nonneg _ (by omega)
  have hr2 : a2 % ((n : Int) - 1) < (n : Int) - 1 := Int.emod_lt_of_pos _ (by omega)
  obtain ⟨m, hm⟩ : ∃ m : Nat, 1 + a2 % ((n : Int) - 1) = (m : Int) := ⟨(1 + a2 % ((n : Int) - 1)).toNat, by omega⟩
  have hm1 : 1 ≤ m := by omega
  have hm2 : m < n := by omega
  have nz : ((n : Int) - 1 = 0) = False := eq_false (by omega)
  go_enter Try.func6, Try.ntmps6
  go_wp2_with (fail)
  have cN := Gth.New_calls n old w (by omega) (by omega) (by omega) (by omega)
  refine cN.mono ?_
  clear cN
  rintro e w1 ⟨g, rfl, hG, hb1⟩
  replace hG := Aside0.mk (⟨_, hG⟩ : ∃ ok : Nat → Prop, Gth.N w1 w.heap.size ok g (Gth.waitL old a2 0) n (old : Int) (Gth.wnow old 0)); replace hb1 := Aside0.mk hb1
  go_wp2_with (fail)
  clear hn hold hm nz hr1 hr2
  go_loopg [11] m (fun gg s11 wr => ∃ j : Nat, s11 = .int .i64 j ∧ j ≤ m ∧ m - j ≤ gg ∧ Aside0 (∃ ok : Nat → Prop, Gth.N wr w.heap.size ok g (Gth.waitL old a2 j) n (old : Int) (Gth.wnow old j)) ∧ Aside0 (Below w.heap.size w wr))
  case atStart => exact ⟨0, rfl, by omega, by omega, hG, hb1⟩
  case round =>
    clear hG hb1
    obtain ⟨j, rfl, hjm, hgg, ⟨ok, hG⟩, HB⟩ := hrel
    by_cases hj : j < m
    · have hjz : decide ((j : Int) < (m : Int)) = true := decide_eq_true (by omega)
      obtain ⟨q, hq⟩ : ∃ q : Int, min (j : Int) ((old : Int) - 1) = q := ⟨_, rfl⟩
      have hq0 : 0 ≤ q := by omega
      have hq1 : q ≤ 300 := by omega
      have hmin : (if (old : Int) - 1 < (j : Int) then (old : Int) - 1 else (j : Int)) = q := by split <;> omega
      have hwt : Gth.wt old j = 7 + q := by unfold Gth.wt; rw [hq]
      have hwn := Gth.wnow_le old j ho1
      have hglt := Gth.N_lt hG
      have hF := Gth.lit_F (l := [a2]) (show (wr.alloc (.cells #[Value.int .u8 a2] 5 (0, 0))).heap[wr.heap.size]? = some (.cells ([a2].map (Value.int .u8)).toArray 5 (0, 0)) from blk_new wr _) (by simp)
      have cA := Gth.Add_calls w (wr.alloc (.cells #[Value.int .u8 a2] 5 (0, 0))) ok g (Gth.waitL old a2 j) n old (Gth.wnow old j) (Gth.wt old j) (some ⟨wr.heap.size, 0, none⟩) 1 [a2] (Gth.N_below hG (below_alloc (Below.refl _ _) _)) (by rw [Gth.waitL_length]; omega) (Kd.F_mono hF (fun k hk => by omega)) (by simp) (by simp) (by simp) hwn (by omega) (below_alloc HB.out _)
      rw [← Gth.waitL_succ, hwt] at cA
      replace hwt := Aside0.mk hwt
      clear hq hwn
      clear hG hF
      go_wp2_with (fail)
      refine cA.mono ?_
      clear cA
      rintro e w2 ⟨rfl, hG, _, hb2⟩
      rw [← hwt.out] at hG
      replace hG := Aside0.mk (⟨_, hG⟩ : ∃ ok : Nat → Prop, Gth.N w2 w.heap.size ok g (Gth.waitL old a2 (j + 1)) n (old : Int) (Gth.wnow old (j + 1))); replace hb2 := Aside0.mk hb2
      clear HB
      go_wp2_with (fail)
      go_roundg (m - (j + 1))
      case measure => omega
      case rel => exact ⟨j + 1, by go_num, by omega, by omega, hG, hb2⟩
    · have hjz : decide ((j : Int) < (m : Int)) = false := decide_eq_false (by omega)
      have hjM : j = m := by omega
      subst hjM
      have hgw : w.heap.size ≤ g := by obtain ⟨_, _, _, h_, _⟩ := hG; exact h_
      have hF := Gth.N_F hG
      have hrd := Gth.waitL_rd old a2 j (by omega) ho1
      have hlen := Gth.waitL_length old a2 j
      have hsm := Gth.waitL_small old a2 j (by omega)
      have cL := Gth.Len_calls wr ok g (Gth.waitL old a2 j) n old (Gth.wnow old j) hF
      rw [hlen] at cL
      replace hF := Aside0.mk hF; replace hrd := Aside0.mk hrd; replace hlen := Aside0.mk hlen; replace hsm := Aside0.mk hsm
      clear hG
      go_wp2_with (fail)
      refine cL.mono ?_
      clear cL
      rintro e w2 ⟨rfl, hb⟩
      replace hF := Aside0.mk (Gth.F_below hF.out hb); replace HB := Aside0.mk (below_step HB.out hb)
      clear hb
      have cT := Gth.Take_none w2 ok g (Gth.waitL old a2 j) n old (Gth.wnow old j) (6 + old) hF.out hsm.out (by omega) (by omega) (by omega) (by rw [hrd.out]; omega) (by rw [hrd.out]; omega) (Or.inr ⟨by rw [hlen.out]; omega, by rw [hrd.out]; omega⟩)
      go_wp2_with (fail)
      refine cT.mono ?_
      clear cT
      rintro e w3 ⟨rfl, hb⟩
      replace hF := Aside0.mk (Gth.F_below hF.out hb); replace HB := Aside0.mk (below_step HB.out hb)
      clear hb
      have cT := Gth.Take_some w w3 ok g (Gth.waitL old a2 j) n old (Gth.wnow old j) (7 + old) hF.out hsm.out (by omega) (by rw [hlen.out]; omega) (by omega) (by omega) (by rw [hrd.out]; omega) (by rw [hrd.out]; omega) (Or.inr (by rw [hrd.out]; omega)) HB.out hgw
      go_wp2_with (fail)
      refine cT.mono ?_
      clear cT
      rintro e w4 ⟨n2, hn2', hn3, v, rfl, hR, _, _, hb2⟩
      rw [hlen.out] at hn2'
      obtain rfl : n2 = j := by omega
      rw [List.take_of_length_le (Nat.le_of_eq hlen.out)] at hR
      have hbt := Gth.batch_of (Gth.waitL old a2 n2)
      rw [hlen.out] at hbt
      rw [hbt] at hR
      have hbl := Gth.batch_length (Gth.waitL old a2 n2) hsm.out.2 (by rw [hlen.out]; omega)
      have hby := Gth.waitL_bytes old a2 n2 h2
      have hsp := Gth.split_batch ((Gth.waitL old a2 n2).map (·.f1)) (by rw [List.length_map, hlen.out]; omega) (by rw [List.length_map, hlen.out]; omega) hby (by omega)
      have hbb := Gth.batch_bytes _ (fun l hl => (hby l hl).2.2)
      obtain ⟨A2, c2, rfl⟩ := Kd.R_slice hR
      obtain ⟨_, hc2, hC2⟩ := Kd.R_reads' hR
      have cS := Gth.Split_calls A2 c2 _ w4 hC2 hc2 hbb (by omega)
      rw [hsp] at cS
      have hb2a := Aside0.mk hb2
      clear hR hC2 hby hsp hbb hF hb2 hn2' hbt HB hsm hlen hrd
      generalize Gth.batch ((Gth.waitL old a2 n2).map (·.f1)) = bb at *
      go_wp2_with (fail)
      refine cS.mono ?_
      clear cS
      rintro e w5 ⟨v3, rfl, hN3, hb3⟩
      replace hb2a := Aside0.mk (below_step hb2a.out hb3)
      obtain ⟨A3, c3, rfl⟩ := Kd.N_slice hN3
      clear hN3 hb3
      have hk1 : decide ((n2 : Int) ≥ 1) = true := decide_eq_true (by omega)
      go_wp2_with (fail)
      refine (Gth.known_calls _).mono ?_
      rintro e w6 ⟨rfl, hb4⟩
      go_wp2
      go_ret
      exact ⟨rfl, below_step hb2a.out hb4⟩
end Go.Proofs.Ytiheghnojmfmfaa.Px
