/- GatherFull's walk. -/
import Derived.Test.YtiheghnojmfmfaaGthK
namespace Go.Proofs.Ytiheghnojmfmfaa.Px
open Go.RowKit Go.Proofs.YtiheghnojmfmfaaW.PrintWords Go.Proofs.YtiheghnojmfmfaaW.PrintLast Go.Proofs.YtiheghnojmfmfaaW.PrintMore
set_option linter.unusedVariables false
set_option linter.unusedSimpArgs false

/-- So many items of one byte each, the byte its number. -/
def Gth.fullL (m : Nat) : List S73 := (List.range m).map (fun i : Nat => (⟨0, [(i : Int)]⟩ : S73))
theorem Gth.fullL_succ (m : Nat) : Gth.fullL (m + 1) = Gth.fullL m ++ [⟨0, [(m : Int)]⟩] := by
  unfold Gth.fullL; rw [List.range_succ, List.map_append]; rfl
theorem Gth.fullL_length (m : Nat) : (Gth.fullL m).length = m := by unfold Gth.fullL; rw [List.length_map, List.length_range]
theorem Gth.fullL_small (m : Nat) (h : m ≤ 110) : Gth.small (Gth.fullL m) := by
  refine ⟨by rw [Gth.fullL_length]; exact h, fun e he => ?_⟩
  unfold Gth.fullL at he
  obtain ⟨i, _, rfl⟩ := List.mem_map.mp he
  simp
/-- The items of a batch. -/
theorem Gth.batch_of (L : List S73) : putL L.length ++ L.flatMap (fun e => Gth.txt e.f1) = Gth.batch (L.map (·.f1)) := by
  unfold Gth.batch; rw [List.length_map, List.flatMap_map]
theorem Gth.batch_length (L : List S73) (h : ∀ e ∈ L, e.f1.length ≤ 20) (hl : L.length ≤ 110) : (Gth.batch (L.map (·.f1))).length ≤ 2400 := by
  rw [← Gth.batch_of, List.length_append, putL_small (by omega), List.length_singleton]
  have := Gth.flat_length L h
  omega
theorem Gth.batch_bytes (ls : List (List Int)) (h : ∀ l ∈ ls, bytesP l) : bytesP (Gth.batch ls) := (putL_bytes _).append (Gth.flat_bytes ls h)
theorem Gth.fullL_take (m n : Nat) (h : n ≤ m) : (Gth.fullL m).take n = Gth.fullL n := by
  unfold Gth.fullL; rw [← List.map_take, List.take_range, Nat.min_eq_left h]
theorem Gth.fullL_rd (m : Nat) (h : 0 < m) : (rd_T73 (Gth.fullL m) 0).f0 = 0 := by
  unfold rd_T73 Gth.fullL
  rw [List.getD_eq_getElem?_getD, List.getElem?_eq_getElem (by simpa using h)]
  simp
theorem Gth.fullL_bytes (m : Nat) (h : m ≤ 110) : ∀ l ∈ (Gth.fullL m).map (·.f1), 1 ≤ l.length ∧ l.length ≤ 1500 ∧ bytesP l := by
  intro l hl
  unfold Gth.fullL at hl
  rw [List.map_map] at hl
  obtain ⟨i, hi, rfl⟩ := List.mem_map.mp hl
  have := List.mem_range.mp hi
  refine ⟨by simp, by simp, ?_⟩
  intro x hx
  simp at hx
  omega
set_option maxHeartbeats 400000 in
set_option maxRecDepth 100000 in
theorem Gth.Full_walk (a0 a1 : Int) (w : World) (h0 : 0 ≤ a0 ∧ a0 ≤ 255) (h1 : 0 ≤ a1 ∧ a1 ≤ 255) : Calls Try.prog 4 #[.int .u8 a0, .int .u8 a1] w fun e w' => e = .returned (.bool true) ∧ Below w.heap.size w w' := by
  obtain ⟨n, hn⟩ : ∃ n : Nat, 1 + a0 % 100 = (n : Int) := ⟨(1 + a0 % 100).toNat, by omega⟩
  obtain ⟨d, hd⟩ : ∃ d : Nat, a1 % 7 = (d : Int) := ⟨(a1 % 7).toNat, by omega⟩
  have hn1 : 1 ≤ n := by omega
  have hn2 : n ≤ 100 := by omega
  have hd2 : d ≤ 6 := by omega
  go_enter Try.func4, Try.ntmps4
  go_wp2_with (fail)
  have cN := Gth.New_calls n 1099511627776 w (by omega) (by omega) (by omega) (by omega)
  refine cN.mono ?_
  clear cN
  rintro e w1 ⟨g, rfl, hG, hb1⟩
  replace hG := Aside0.mk (⟨_, hG⟩ : ∃ ok : Nat → Prop, Gth.N w1 w.heap.size ok g (Gth.fullL 0) n 1099511627776 0); replace hb1 := Aside0.mk hb1
  obtain ⟨m, hm⟩ : ∃ m : Nat, (n : Int) + (d : Int) = (m : Int) := ⟨n + d, by omega⟩
  go_wp2_with (fail)
  have hmn : n ≤ m := by omega
  have hm6 : m ≤ 106 := by omega
  replace hm := Aside0.mk hm
  clear hn hd
  go_loopg [8] m (fun gg s8 wr => ∃ j : Nat, s8 = .int .i64 j ∧ j ≤ m ∧ m - j ≤ gg ∧ Aside0 (∃ ok : Nat → Prop, Gth.N wr w.heap.size ok g (Gth.fullL j) n 1099511627776 0) ∧ Aside0 (Below w.heap.size w wr))
  case atStart => exact ⟨0, rfl, by omega, by omega, hG, hb1⟩
  case round =>
    clear hG hb1
    obtain ⟨j, rfl, hjm, hgg, ⟨ok, hG⟩, HB⟩ := hrel
    by_cases hj : j < m
    · have hjz : decide ((j : Int) < (m : Int)) = true := decide_eq_true (by omega)
      have e7 : IntKind.u8.wrap (j : Int) = (j : Int) := by rw [IntKind.wrap_u8]; omega
      have hglt := Gth.N_lt hG
      have hF := Gth.lit_F (l := [(j : Int)]) (show (wr.alloc (.cells #[Value.int .u8 j] 5 (0, 0))).heap[wr.heap.size]? = some (.cells ([(j : Int)].map (Value.int .u8)).toArray 5 (0, 0)) from blk_new wr _) (by simp)
      have cA := Gth.Add_calls w (wr.alloc (.cells #[Value.int .u8 j] 5 (0, 0))) ok g (Gth.fullL j) n 1099511627776 0 0 (some ⟨wr.heap.size, 0, none⟩) 1 [(j : Int)] (Gth.N_below hG (below_alloc (Below.refl _ _) _)) (by rw [Gth.fullL_length]; omega) (Kd.F_mono hF (fun k hk => by omega)) (by simp) (by simp) (by simp) (by omega) (by omega) (below_alloc HB.out _)
      rw [← Gth.fullL_succ] at cA
      clear hG hF
      go_wp2_with (fail)
      refine cA.mono ?_
      clear cA
      rintro e w2 ⟨rfl, hG, _, hb2⟩
      replace hG := Aside0.mk (⟨_, hG⟩ : ∃ ok : Nat → Prop, Gth.N w2 w.heap.size ok g (Gth.fullL (j + 1)) n 1099511627776 0); replace hb2 := Aside0.mk hb2
      clear HB
      go_wp2_with (fail)
      go_roundg (m - (j + 1))
      case measure => omega
      case rel => exact ⟨j + 1, by go_num, by omega, by omega, hG, hb2⟩
    · have hjz : decide ((j : Int) < (m : Int)) = false := decide_eq_false (by omega)
      have hjM : j = m := by omega
      subst hjM
      have hgw : w.heap.size ≤ g := by obtain ⟨_, _, _, h_, _⟩ := hG; exact h_
      have hF := Gth.N_F hG
      have hrd := Gth.fullL_rd j (by omega)
      have cT := Gth.Take_some w wr ok g (Gth.fullL j) n 1099511627776 0 0 hF (Gth.fullL_small j (by omega)) (by omega) (by rw [Gth.fullL_length]; omega) (by omega) (by omega) (by rw [hrd]; omega) (by rw [hrd]; omega) (Or.inl (by rw [Gth.fullL_length]; omega)) HB.out hgw
      clear hG hF hrd HB
      go_wp2_with (fail)
      refine cT.mono ?_
      clear cT
      rintro e w2 ⟨n2, hn2', hn3, v, rfl, hR, hF, _, hb2⟩
      rw [Gth.fullL_length] at hn2'
      obtain rfl : n2 = n := by omega
      rw [Gth.fullL_take j n2 (by omega)] at hR
      have hbt := Gth.batch_of (Gth.fullL n2)
      rw [Gth.fullL_length] at hbt
      rw [hbt] at hR
      have hbl := Gth.batch_length (Gth.fullL n2) (Gth.fullL_small n2 (by omega)).2 (by rw [Gth.fullL_length]; omega)
      have hby := Gth.fullL_bytes n2 (by omega)
      have hsp := Gth.split_batch ((Gth.fullL n2).map (·.f1)) (by rw [List.length_map, Gth.fullL_length]; omega) (by rw [List.length_map, Gth.fullL_length]; omega) hby (by omega)
      have hbb := Gth.batch_bytes _ (fun l hl => (hby l hl).2.2)
      obtain ⟨A2, c2, rfl⟩ := Kd.R_slice hR
      obtain ⟨_, hc2, hC2⟩ := Kd.R_reads' hR
      have cS := Gth.Split_calls A2 c2 _ w2 hC2 hc2 hbb (by omega)
      rw [hsp] at cS
      have hFa := Aside0.mk hF; have hb2a := Aside0.mk hb2
      clear hR hC2 hby hsp hbb hF hb2 hn2' hbt
      generalize Gth.batch ((Gth.fullL n2).map (·.f1)) = bb at *
      go_wp2_with (fail)
      refine cS.mono ?_
      clear cS
      rintro e w3 ⟨v3, rfl, hN3, hb3⟩
      replace hFa := Aside0.mk (Gth.F_below hFa.out hb3); replace hb2a := Aside0.mk (below_step hb2a.out hb3)
      obtain ⟨A3, c3, rfl⟩ := Kd.N_slice hN3
      have hN3a := Aside0.mk hN3
      obtain ⟨_, hc3, hC3⟩ := Kd.N_reads' hN3
      have hXl : ((Gth.fullL n2).map (·.f1)).length = n2 := by rw [List.length_map, Gth.fullL_length]
      have hX0 : rd_L1 ((Gth.fullL n2).map (·.f1)) 0 = [0] := by
        unfold rd_L1 Gth.fullL
        rw [List.map_map, List.getD_eq_getElem?_getD, List.getElem?_eq_getElem (by simp; omega)]
        simp
      have hdl : ((((Gth.fullL j).drop n2).length : Nat) : Int) = (j : Int) - (n2 : Int) := by rw [List.length_drop, Gth.fullL_length]; omega
      generalize (Gth.fullL n2).map (·.f1) = X at *
      generalize (Gth.fullL j).drop n2 = L9 at *
      obtain ⟨ad, A4, c4, e0, hx4, hl4, hi4⟩ := at_L1 hC3 0 (by omega) (by omega)
      cases e0
      rw [hX0] at hx4 hl4 hi4
      obtain ⟨ad5, e5, hx5⟩ := ReadsInt.at_ (Kd.reads_of_C (enc := Value.int .u8) (d := (0 : Int)) (h1 := fun _ => rfl) hi4) 0 (by omega) (by simp)
      cases e5
      have hr5 : rd [0] 0 = 0 := rfl
      rw [hr5] at hx5
      simp only [Int.toNat_zero, List.length_singleton] at hx4 hx5
      have hx4' : w3.cell? ad = some (.slice (some ad5) 1 c4) := by simpa [Addr.add] using hx4
      have hx5' : w3.cell? ad5 = some (.int .u8 0) := by simpa [Addr.add] using hx5
      have hXp : 0 < X.length := by omega
      have hXn : ((X.length : Int) != (n2 : Int)) = false := by rw [hXl]; simp
      have hX4a := Aside0.mk hx4'; have hX5a := Aside0.mk hx5'
      clear hN3 hb3 hC3 hi4 hx4 hx5 hX0 hl4
      replace hXl := Aside0.mk hXl
      replace hdl := Aside0.mk hdl
      go_wp2_with (fail)
      refine (Gth.known_calls _).mono ?_
      rintro e w4 ⟨rfl, hb4⟩
      have hx4 := (hb4.cell (World.block_lt_of_cell? _ _ hX4a.out)).trans hX4a.out
      have hx5 := (hb4.cell (World.block_lt_of_cell? _ _ hX5a.out)).trans hX5a.out
      have cL := Gth.Len_calls w4 ok g L9 n2 1099511627776 0 (Gth.F_below hFa.out hb4)
      rw [hdl.out] at cL
      replace hb2a := Aside0.mk (below_step hb2a.out hb4)
      clear hb4 hx4' hx5' hX4a hX5a hFa
      go_wp2_with (fail)
      refine cL.mono ?_
      clear cL
      rintro e w5 ⟨rfl, hb5⟩
      go_wp2
      go_ret
      exact ⟨rfl, below_step hb2a.out hb5⟩
end Go.Proofs.Ytiheghnojmfmfaa.Px
