/- GatherAll: the deeds, the items. -/
import Derived.Test.YtiheghnojmfmfaaGthV
import Derived.Test.YtiheghnojmfmfaaPx24
namespace Go.Proofs.Ytiheghnojmfmfaa.Px
open Go.RowKit Go.Proofs.YtiheghnojmfmfaaW.PrintWords Go.Proofs.YtiheghnojmfmfaaW.PrintLast Go.Proofs.YtiheghnojmfmfaaW.PrintMore
set_option linter.unusedVariables false
set_option linter.unusedSimpArgs false

abbrev Gth.Deed := Int × Int × Int × Int
def Gth.kD : Kd Gth.Deed := Kd.pair (Kd.int .u8) (Kd.pair (Kd.int .u8) (Kd.pair (Kd.int .u8) (Kd.int .u16)))
def Gth.zD : Gth.Deed := (0, 0, 0, 0)
theorem Gth.deed_at {w : World} {A : Option Addr} {n : Nat} {xs : List Gth.Deed} (h : Kd.C Gth.kD w A n xs) (i : Int) (h0 : 0 ≤ i) (h1 : i < n) : ∃ ad, A = some ad ∧
    w.cell? ⟨(ad.add (i.toNat * 4)).block, (ad.add (i.toNat * 4)).off + 2, none⟩ = some (.int .u8 (xs.getD i.toNat Gth.zD).2.2.1) ∧ w.cell? ⟨(ad.add (i.toNat * 4)).block, (ad.add (i.toNat * 4)).off + 3, none⟩ = some (.int .u16 (xs.getD i.toNat Gth.zD).2.2.2) := by
  obtain ⟨ad, c, e, _, hK, hc0⟩ := Kd.C_get h Gth.zD i h0 h1
  have hc : ∀ j u, c[j]? = some u → w.cell? (ad.add (i.toNat * 4 + j)) = some u := hc0
  obtain ⟨_, _, rfl, rfl, _, _, rfl, rfl, _, _, rfl, rfl, rfl⟩ := hK
  exact ⟨ad, e, by rw [← add_field _ _ 2 (by omega)]; exact hc 2 _ rfl, by rw [← add_field _ _ 3 (by omega)]; exact hc 3 _ rfl⟩
theorem Gth.piece_l0 (x : Int) (hx : 0 ≤ x ∧ x ≤ 255) (m : Nat) (hm : m ≤ 19) (d : Nat) : ∀ (k i : Nat) (y : List Int), i + d = m → d < k → y.length = m → bytesP y →
    ∃ l, telemeterlaw16_piece.l0 k x (m : Int) y (i : Int) = some l ∧ l.length = m ∧ bytesP l := by
  induction d with
  | zero =>
    intro k i y hi hk hy hb
    obtain ⟨k, rfl⟩ : ∃ j, k = j + 1 := ⟨k - 1, by omega⟩
    rw [telemeterlaw16_piece.l0, if_neg (by omega)]
    exact ⟨y, rfl, hy, hb⟩
  | succ d ih =>
    intro k i y hi hk hy hb
    obtain ⟨k, rfl⟩ : ∃ j, k = j + 1 := ⟨k - 1, by omega⟩
    rw [telemeterlaw16_piece.l0, if_pos (by omega), if_pos (by omega), if_pos (by omega), w64_succ i (by omega)]
    refine ih k (i + 1) _ (by omega) (by omega) (by rw [List.length_set]; exact hy) ?_
    intro z hz
    rcases List.mem_or_eq_of_mem_set hz with h | h
    · exact hb z h
    · rw [h]; exact hx
theorem Gth.piece_ex (b n : Int) (hb : 0 ≤ b ∧ b ≤ 255) (hn : 0 ≤ n ∧ n ≤ 1400) : ∃ l, telemeterlaw16_piece.f 50 b n = some l ∧ l.length ≤ 19 ∧ bytesP l := by
  obtain ⟨m, hm⟩ : ∃ m : Nat, (m : Int) = n % 20 := ⟨(n % 20).toNat, by omega⟩
  have hr : wrap64 (Int.tmod n 20) = (m : Int) := by rw [Int.tmod_eq_emod_of_nonneg hn.1, ← hm]; unfold wrap64; omega
  unfold telemeterlaw16_piece.f
  rw [if_neg (by omega), hr, telemeterlaw16_piece.j0, if_pos (by omega), if_pos (by omega), Int.toNat_natCast]
  obtain ⟨l, h1, h2, h3⟩ := Gth.piece_l0 b hb m (by omega) m 49 0 (List.replicate m 0) (by omega) (by omega) (by simp) (by intro x hx; have := List.eq_of_mem_replicate hx; omega)
  exact ⟨l, h1, by omega, h3⟩
/-- The item of a deed. -/
noncomputable def Gth.pc (x : Gth.Deed) : List Int := (telemeterlaw16_piece.f 50 x.2.2.1 (x.2.2.2 % 1400)).getD []
noncomputable def Gth.item (x : Gth.Deed) : List Int := Gth.pc x ++ [120]
def Gth.okD (x : Gth.Deed) : Prop := (0 ≤ x.2.2.1 ∧ x.2.2.1 ≤ 255) ∧ 0 ≤ x.2.2.2 ∧ x.2.2.2 ≤ 65535
theorem Gth.pc_eq (x : Gth.Deed) (h : Gth.okD x) : telemeterlaw16_piece.f 50 x.2.2.1 (x.2.2.2 % 1400) = some (Gth.pc x) ∧ (Gth.pc x).length ≤ 19 ∧ bytesP (Gth.pc x) := by
  obtain ⟨l, h1, h2, h3⟩ := Gth.piece_ex x.2.2.1 (x.2.2.2 % 1400) h.1 (by have := h.2; omega)
  unfold Gth.pc
  rw [h1]
  exact ⟨rfl, h2, h3⟩
theorem Gth.item_ok (x : Gth.Deed) (h : Gth.okD x) : 1 ≤ (Gth.item x).length ∧ (Gth.item x).length ≤ 20 ∧ bytesP (Gth.item x) := by
  obtain ⟨_, h2, h3⟩ := Gth.pc_eq x h
  unfold Gth.item
  refine ⟨by simp, by simp; omega, h3.append (by intro y hy; simp at hy; omega)⟩
noncomputable def Gth.allL (xs : List Gth.Deed) (j : Nat) : List S73 := (List.range j).map (fun i : Nat => (⟨(i : Int), Gth.item (xs.getD i Gth.zD)⟩ : S73))
theorem Gth.allL_succ (xs : List Gth.Deed) (j : Nat) : Gth.allL xs (j + 1) = Gth.allL xs j ++ [⟨(j : Int), Gth.item (xs.getD j Gth.zD)⟩] := by
  unfold Gth.allL; rw [List.range_succ, List.map_append]; rfl
theorem Gth.allL_length (xs : List Gth.Deed) (j : Nat) : (Gth.allL xs j).length = j := by unfold Gth.allL; rw [List.length_map, List.length_range]
theorem Gth.okD_getD (xs : List Gth.Deed) (h : ∀ x ∈ xs, Gth.okD x) (i : Nat) : Gth.okD (xs.getD i Gth.zD) := by
  rw [List.getD_eq_getElem?_getD]
  cases hh : xs[i]? with
  | none => exact ⟨⟨by decide, by decide⟩, by decide, by decide⟩
  | some x => exact h x (List.mem_of_getElem? hh)
theorem Gth.allL_mem (xs : List Gth.Deed) (h : ∀ x ∈ xs, Gth.okD x) (j : Nat) : ∀ e ∈ Gth.allL xs j, 0 ≤ e.f0 ∧ e.f0 < j ∧ 1 ≤ e.f1.length ∧ e.f1.length ≤ 20 ∧ bytesP e.f1 := by
  intro e he
  unfold Gth.allL at he
  obtain ⟨i, hi, rfl⟩ := List.mem_map.mp he
  have := List.mem_range.mp hi
  obtain ⟨h1, h2, h3⟩ := Gth.item_ok _ (Gth.okD_getD xs h i)
  exact ⟨by simp, by simp; omega, h1, h2, h3⟩
theorem Gth.rd_mem {L : List S73} (h : 0 < L.length) : rd_T73 L 0 ∈ L := by
  unfold rd_T73
  rw [List.getD_eq_getElem?_getD, List.getElem?_eq_getElem (by simpa using h)]
  exact List.getElem_mem _
def Gth.anow : Nat → Int
  | 0 => 0
  | j + 1 => j
theorem Gth.anow_le (j : Nat) : Gth.anow j ≤ j := by cases j <;> simp only [Gth.anow] <;> omega
def Gth.T5 : Bool × List (List Nat × List Nat) := (true, [([], []), ([], []), ([0, 1], [0, 1]), ([2], [2]), ([3], [3]), ([], []), ([], []), ([5, 6], [5, 6]), ([7], [7]), ([8], [8]), ([9], [9]), ([4, 10], [4, 10]), ([11, 11, 0, 1, 2, 3, 4, 5, 6, 7, 8, 9, 10, 11], [11])])
theorem Gth.T5_tab : rtab .any (opsOf Try.f5 11) = Gth.T5 := by kernel_rfl
set_option maxHeartbeats 1000000 in
set_option maxRecDepth 100000 in
theorem Gth.All_walk (a0 : Int) (A : Option Addr) (c : Nat) (xs : List Gth.Deed) (w : World) (h0 : 0 ≤ a0 ∧ a0 ≤ 255) (hC : Kd.C Gth.kD w A xs.length xs) (hc : xs.length ≤ c) (hx : ∀ x ∈ xs, Gth.okD x) :
    Calls Try.prog 5 #[.int .u8 a0, .slice A xs.length c] w fun e w' => e = .returned (.bool true) ∧ Below w.heap.size w w' := by
  have hknown := Aside0.mk Gth.known_calls
  obtain ⟨n, hn⟩ : ∃ n : Nat, 1 + a0 % 100 = (n : Int) := ⟨(1 + a0 % 100).toNat, by omega⟩
  have hn1 : 1 ≤ n := by omega
  have hn2 : n ≤ 100 := by omega
  go_enter Try.func5, Try.ntmps5
  by_cases h80 : (xs.length : Int) > 80
  · have h80b : decide ((xs.length : Int) > 80) = true := decide_eq_true h80
    clear h80
    go_wp2_with (fail)
    refine (hknown.out _).mono ?_
    rintro e w1 ⟨rfl, hb1⟩
    go_wp2
    go_ret
    exact ⟨rfl, hb1⟩
  have h80b : decide ((xs.length : Int) > 80) = false := decide_eq_false h80
  have h80n : xs.length ≤ 80 := by omega
  clear h80
  replace hC := Aside0.mk hC
  go_wp2_with (fail)
  refine (hknown.out _).mono ?_
  rintro e w1 ⟨rfl, hb1⟩
  replace hb1 := Aside0.mk hb1
  clear h80b
  go_wp2_with (fail)
  refine (Gth.New_calls n 0 w1 (by omega) (by omega) (by omega) (by omega)).mono ?_
  rintro e w2 ⟨g, rfl, hG, hb2⟩
  have hgw : w1.heap.size ≤ g := by obtain ⟨_, _, _, h_, _⟩ := hG; exact h_
  have hgw0 : w.heap.size ≤ g := Nat.le_trans (below_size hb1.out) hgw
  have hG0 : Gth.N w2 w.heap.size (fun k => False) g (Gth.allL xs 0) n 0 (Gth.anow 0) := by
    obtain ⟨A_, c_, h1_, h2_, h3_, h4_⟩ := hG
    exact ⟨A_, c_, h1_, hgw0, h3_, Kd.N_lower h4_ (below_size hb1.out)⟩
  replace hG0 := Aside0.mk hG0
  replace hb2 := Aside0.mk (below_step hb1.out hb2)
  clear hG hb1 hn
  go_wp2_with (fail)
  go_loopg [7, 9] xs.length (fun gg s7 s9 wr => ∃ (j : Nat) (okI okG : Nat → Prop), s9 = .int .i64 j ∧ j ≤ xs.length ∧ xs.length - j ≤ gg ∧ Aside0 (Kd.N (Kd.slice 5 (Kd.int .u8)) 22 wr w.heap.size okI s7 ((Gth.allL xs j).map (·.f1))) ∧ Aside0 (Gth.N wr w.heap.size okG g (Gth.allL xs j) n 0 (Gth.anow j)) ∧ Aside0 (∀ k, okI k → ¬ okG k ∧ k ≠ g ∧ k < wr.heap.size) ∧ Aside0 (∀ k, okG k → k < wr.heap.size) ∧ Aside0 (Below w.heap.size w wr))
  case atStart => exact ⟨0, fun _ => False, fun _ => False, rfl, by omega, by omega, ⟨Kd.N_nil _ _ _ _ _⟩, hG0, ⟨fun _ h => h.elim⟩, ⟨fun _ h => h.elim⟩, hb2⟩
  case round =>
    clear hG0 hb2
    obtain ⟨j, okI, okG, rfl, hjl, hgg, hI, hG, hdis, hok, HB⟩ := hrel
    by_cases hj : j < xs.length
    · have hjz : decide ((j : Int) < (xs.length : Int)) = true := decide_eq_true (by omega)
      have hjL : (j : Int) < (xs.length : Int) := by omega
      have hj0 : (0 : Int) ≤ (j : Int) := by omega
      obtain ⟨ad, e0, g1, g2⟩ := Gth.deed_at hC.out j hj0 hjL
      subst e0
      simp only [Int.toNat_natCast] at g1 g2
      have hxo := Gth.okD_getD xs hx j
      have hpc := Gth.pc_eq _ hxo
      have hit := Aside0.mk (Gth.item_ok _ hxo)
      have hsuc := Aside0.mk (Gth.allL_succ xs j)
      have hitem : Gth.item (xs.getD j Gth.zD) = Gth.pc (xs.getD j Gth.zD) ++ [120] := rfl
      generalize xs.getD j Gth.zD = x at *
      have hxb := hxo.1
      have hxn := hxo.2
      replace g1 := (HB.out.cell (World.block_lt_of_cell? _ _ g1)).trans g1
      replace g2 := (HB.out.cell (World.block_lt_of_cell? _ _ g2)).trans g2
      replace hpc := Aside0.mk hpc
      replace hpc := hpc.out
      have hglt := Gth.N_lt hG.out
      have hHw := Aside0.mk (below_drew (Below.refl wr.heap.size wr))
      replace hI := Aside0.mk (Kd.N_below hI.out hHw.out); replace hG := Aside0.mk (Gth.N_below hG.out hHw.out); replace HB := Aside0.mk (below_step HB.out hHw.out)
      replace hdis : Aside0 (∀ k, okI k → ¬ okG k ∧ k ≠ g ∧ k < wr.drew.heap.size) := hdis
      replace hok : Aside0 (∀ k, okG k → k < wr.drew.heap.size) := hok
      replace hglt : g < wr.drew.heap.size := hglt
      clear hHw
      go_wp2_with (fail)
      refine start_ (n := 13) (S := fun w' => w'.cell? ⟨(ad.add (j * 4)).block, (ad.add (j * 4)).off + 2, none⟩ = some (.int .u8 x.2.2.1) ∧ w'.cell? ⟨(ad.add (j * 4)).block, (ad.add (j * 4)).off + 3, none⟩ = some (.int .u16 x.2.2.2)) (ds := [11]) #[false, false, false, false, false, false, false, false, false, false, false, false, false] (by kernel_rfl) rfl rfl ⟨g1, g2⟩ (fun hHeld => ?_)
      refine with_tab Gth.T5_tab (fun HT_ => ?_)
      generalize wr.drew = wa at hHeld hI hG HB hdis hok hglt ⊢
      refine pure_ (i := 0) (N := (some 40)) (v := ?_) (a' := ?_) #[true, false, false, false, false, false, false, false, false, false, false, false, false] rfl rfl (any_of HT_.out (by kernel_rfl)) (fun _ _ _ h => h) (Or.inl ⟨by rfl, ?_⟩) ?_ ?_
      rotate_left
      · intro w'
        go_simp
        with_reducible rfl
      rotate_left
      · simp only [Act.put, List.setIfInBounds_toArray, List.set_cons_zero, List.set_cons_succ, i64_w, i32_w]
        rfl
      refine pure_ (i := 1) (N := (some 41)) (v := ?_) (a' := ?_) #[true, true, false, false, false, false, false, false, false, false, false, false, false] rfl rfl (any_of HT_.out (by kernel_rfl)) (fun _ _ _ h => h) (Or.inl ⟨by rfl, ?_⟩) ?_ ?_
      rotate_left
      · intro w'
        go_simp
        with_reducible rfl
      rotate_left
      · simp only [Act.put, List.setIfInBounds_toArray, List.set_cons_zero, List.set_cons_succ, i64_w, i32_w]
        rfl
      refine pure_ (i := 2) (N := (some 42)) (v := ?_) (a' := ?_) #[true, true, true, false, false, false, false, false, false, false, false, false, false] rfl rfl (any_of HT_.out (by kernel_rfl)) (fun _ _ _ h => h) (Or.inl ⟨by rfl, ?_⟩) ?_ ?_
      rotate_left
      · intro w'
        go_simp
        with_reducible rfl
      rotate_left
      · simp only [Act.put, List.setIfInBounds_toArray, List.set_cons_zero, List.set_cons_succ, i64_w, i32_w]
        rfl
      refine pure_ (i := 3) (N := (some 43)) (v := ?_) (a' := ?_) #[true, true, true, true, false, false, false, false, false, false, false, false, false] rfl rfl (any_of HT_.out (by kernel_rfl)) (fun _ _ _ h => h) (Or.inl ⟨by rfl, ?_⟩) ?_ ?_
      rotate_left
      · intro w'
        go_simp
        with_reducible rfl
      rotate_left
      · simp only [Act.put, List.setIfInBounds_toArray, List.set_cons_zero, List.set_cons_succ, i64_w, i32_w]
        rfl
      refine take_ (i := 4) (N := (some 44)) (v := ?_) (a' := ?_) #[true, true, true, true, true, false, false, false, false, false, false, false, false] rfl rfl (take_of HT_.out (by kernel_rfl)) (fun _ _ _ h => h) (Or.inl ⟨by rfl, ?_⟩) hHeld ?_ ?_
      rotate_left
      · rintro w' ⟨s0, s1⟩
        go_simp
        with_reducible rfl
      rotate_left
      · simp only [Act.put, List.setIfInBounds_toArray, List.set_cons_zero, List.set_cons_succ, i64_w, i32_w]
        rfl
      refine pure_ (i := 5) (N := (some 45)) (v := ?_) (a' := ?_) #[true, true, true, true, true, true, false, false, false, false, false, false, false] rfl rfl (any_of HT_.out (by kernel_rfl)) (fun _ _ _ h => h) (Or.inl ⟨by rfl, ?_⟩) ?_ ?_
      rotate_left
      · intro w'
        go_simp
        with_reducible rfl
      rotate_left
      · simp only [Act.put, List.setIfInBounds_toArray, List.set_cons_zero, List.set_cons_succ, i64_w, i32_w]
        rfl
      refine pure_ (i := 6) (N := (some 46)) (v := ?_) (a' := ?_) #[true, true, true, true, true, true, true, false, false, false, false, false, false] rfl rfl (any_of HT_.out (by kernel_rfl)) (fun _ _ _ h => h) (Or.inl ⟨by rfl, ?_⟩) ?_ ?_
      rotate_left
      · intro w'
        go_simp
        with_reducible rfl
      rotate_left
      · simp only [Act.put, List.setIfInBounds_toArray, List.set_cons_zero, List.set_cons_succ, i64_w, i32_w]
        rfl
      refine pure_ (i := 7) (N := (some 47)) (v := ?_) (a' := ?_) #[true, true, true, true, true, true, true, true, false, false, false, false, false] rfl rfl (any_of HT_.out (by kernel_rfl)) (fun _ _ _ h => h) (Or.inl ⟨by rfl, ?_⟩) ?_ ?_
      rotate_left
      · intro w'
        go_simp
        with_reducible rfl
      rotate_left
      · simp only [Act.put, List.setIfInBounds_toArray, List.set_cons_zero, List.set_cons_succ, i64_w, i32_w]
        rfl
      refine pure_ (i := 8) (N := (some 48)) (v := ?_) (a' := ?_) #[true, true, true, true, true, true, true, true, true, false, false, false, false] rfl rfl (any_of HT_.out (by kernel_rfl)) (fun _ _ _ h => h) (Or.inl ⟨by rfl, ?_⟩) ?_ ?_
      rotate_left
      · intro w'
        go_simp
        with_reducible rfl
      rotate_left
      · simp only [Act.put, List.setIfInBounds_toArray, List.set_cons_zero, List.set_cons_succ, i64_w, i32_w]
        rfl
      refine take_ (i := 9) (N := (some 49)) (v := ?_) (a' := ?_) #[true, true, true, true, true, true, true, true, true, true, false, false, false] rfl rfl (take_of HT_.out (by kernel_rfl)) (fun _ _ _ h => h) (Or.inl ⟨by rfl, ?_⟩) hHeld ?_ ?_
      rotate_left
      · rintro w' ⟨s0, s1⟩
        go_simp
        with_reducible rfl
      rotate_left
      · simp only [Act.put, List.setIfInBounds_toArray, List.set_cons_zero, List.set_cons_succ, i64_w, i32_w]
        rfl
      refine pure_ (i := 10) (N := (some 50)) (v := .int .u16 (x.2.2.2 % 1400)) (a' := ?_) #[true, true, true, true, true, true, true, true, true, true, true, false, false] rfl rfl (any_of HT_.out (by kernel_rfl)) (fun _ _ _ h => h) (Or.inl ⟨by rfl, ?_⟩) ?_ ?_
      · intro w'
        go_simp
        exact Int.tmod_eq_emod_of_nonneg hxn.1
      rotate_left
      · simp only [Act.put, List.setIfInBounds_toArray, List.set_cons_zero, List.set_cons_succ, i64_w, i32_w]
        rfl
      refine last_ (i := 11) (N := (some 51)) #[true, true, true, true, true, true, true, true, true, true, true, true, false] rfl rfl (one_of HT_.out (by kernel_rfl)) (by decide) (fun K hK => ?_)
      refine goes_ Try.func22 (by kernel_rfl) rfl #[.int .u8 x.2.2.1, .int .u16 (x.2.2.2 % 1400)] (by rfl) rfl rfl (by (try simp only [List.map_toArray, List.map_cons, List.map_nil]); first | done | rfl) ?_
      refine (telemeterlaw16_piece.calls 50 _ _ _ _ hpc.1).mono ?_
      rintro e w1 ⟨v1, rfl, ho1, hb1⟩
      refine ⟨_, rfl, ?_⟩
      refine hK.out _ _ ?_
      clear hK K
      have hP := Aside0.mk ho1; have hb1a := Aside0.mk hb1
      clear ho1 hb1
      refine norm_ (a' := ?_) ?_ ?_
      rotate_left
      · show Act.put _ (some 51) _ = _
        simp only [Act.put, List.setIfInBounds_toArray, List.set_cons_zero, List.set_cons_succ, i64_w, i32_w]
        rfl
      refine pure_ (i := 12) (N := (some 10)) (v := ?_) (a' := ?_) #[true, true, true, true, true, true, true, true, true, true, true, true, true] rfl rfl (any_of HT_.out (by kernel_rfl)) (fun _ _ _ h => h) (Or.inl ⟨by rfl, ?_⟩) ?_ ?_
      rotate_left
      · intro w'
        go_simp
        with_reducible rfl
      rotate_left
      · simp only [Act.put, List.setIfInBounds_toArray, List.set_cons_zero, List.set_cons_succ, i64_w, i32_w]
        rfl
      refine done_ (done_of HT_.out (by kernel_rfl)) ?_
      clear HT_
      obtain ⟨A1, c1, rfl⟩ := Kd.R_slice hP.out
      have hpl := hpc.2.1
      have hwa := Aside0.mk (below_size hb1a.out)
      go_wp2_with (first
        | ((with_reducible refine gate_builtin (b := .append) (xs := #[.tmp 52, .tmp 53]) rfl ?_); at_builtin; refine Kd.R_append (Kd.int .u8) (w0 := wa) wa.heap.size rfl (.tmp 52) (.tmp 53) 22 5 (.int .u8 0) 1 rfl Try.underlying22 info5 rfl (by decide) (by omega) (.slice A1 (Gth.pc x).length c1) (Gth.pc x) 120 [.int .u8 120] (fun _ => True) (fun _ => False) rfl rfl ?aP (fun _ h => h.elim) ?aF ?aO ?aB ?aS ?aL ?_; (case aP => exact rfl); (case aF => exact fun _ _ => trivial); (case aO => exact hP.out); (case aB => exact hb1a.out); (case aS => exact hwa.out); (case aL => omega); intro v2 w3 ho_ hb_ hg_ hat_; rw [← hitem] at ho_; have hP2 := Aside0.mk ho_; have hb2a := Aside0.mk hb_; clear ho_ hb_ hg_ hat_ hP hb1a hitem))
      obtain ⟨A2, c2, rfl⟩ := Kd.R_slice hP2.out
      have hsz3 := below_size hb2a.out
      obtain ⟨_, hc2, _⟩ := Kd.R_reads' hP2.out
      have hFp := Kd.F_mono (ok' := fun k => wa.heap.size ≤ k ∧ k < w3.heap.size) (Kd.N_F (Kd.R_N (Kd.R_bound hP2.out))) (fun k hk => ⟨hk.2.1, hk.2.2.1⟩)
      have hG3 := Gth.N_below hG.out hb2a.out
      have cA := Gth.Add_calls w w3 okG g (Gth.allL xs j) n 0 (Gth.anow j) j A2 c2 (Gth.item x) hG3 (by rw [Gth.allL_length]; omega) (Kd.F_mono hFp (fun k hk => by omega)) hc2 hit.out.1 hit.out.2.1 (Gth.anow_le j) (by omega) (below_step HB.out hb2a.out)
      rw [← hsuc.out] at cA
      have hI3 := Aside0.mk (Kd.N_below hI.out hb2a.out)
      have hFpa := Aside0.mk hFp
      clear hG3 hG hI HB hFp
      go_wp2_with (fail)
      refine cA.mono ?_
      clear cA
      rintro e w4 ⟨rfl, hG4, hK4, hb4⟩
      have hsz4 := hK4.1
      have hF4 := Kd.F_kept hFpa.out hK4 (fun k hk h => by rcases h with h | h; (have := hok.out k h; omega); omega)
      have hI4 := Kd.N_kept hI3.out hK4 (fun k hk h => by rcases h with h | h; exact (hdis.out k hk).1 h; exact (hdis.out k hk).2.1 h)
      have hFK := Aside0.mk (Kd.FK_slice_mk (e := 5) hc2 hF4)
      have hG4a := Aside0.mk (Gth.N_bound hG4)
      have hI4a := Aside0.mk hI4
      have hb4a := Aside0.mk hb4
      have hIl : (((Gth.allL xs j).map (·.f1)).length + 1) * 24 ≤ 140737488355328 := by rw [List.length_map, Gth.allL_length]; omega
      have hsuc2 := Aside0.mk (show (Gth.allL xs (j + 1)).map (·.f1) = (Gth.allL xs j).map (·.f1) ++ [Gth.item x] by rw [hsuc.out, List.map_append]; rfl)
      clear hFpa hI3 hK4 hG4 hI4 hb4 hF4 hP2 hb2a
      go_wp2_with (first
        | ((with_reducible refine gate_builtin (b := .append) (xs := #[.tmp 60, .tmp 62]) rfl ?_); at_builtin; refine Kd.N_append (Kd.slice 5 (Kd.int .u8)) (w0 := w) w.heap.size rfl (.tmp 60) (.tmp 62) 23 22 (.slice none 0 0) 24 rfl Try.underlying23 Gth.info22 rfl (by decide) (by omega) u7 ((Gth.allL xs j).map (·.f1)) (Gth.item x) [.slice A2 (Gth.item x).length c2] (fun k => okI k ∨ (wa.heap.size ≤ k ∧ k < w3.heap.size) ∨ w4.heap.size ≤ k) (fun k => wa.heap.size ≤ k ∧ k < w3.heap.size) rfl rfl ?aP ?aK ?aF ?aO ?aB ?aS ?aL ?_; (case aP => exact hFK.out); (case aK => exact (fun k_ hk_ => ⟨Or.inr (Or.inl hk_), fun he_ => by have := (hdis.out k_ (hI4a.out.1 k_ he_.symm)).2.2; omega⟩)); (case aF => exact (fun k_ hk_ => Or.inr (Or.inr hk_))); (case aO => exact Kd.N_mono hI4a.out (fun _ hk_ => Or.inl hk_)); (case aB => exact hb4a.out); (case aS => exact below_size hb4a.out); (case aL => exact hIl); intro v5 w5 ho_ hb_ hg_ hat_; rw [← hsuc2.out] at ho_; have hI5 := Aside0.mk ho_; have hb5 := Aside0.mk hb_; have hg5 := Aside0.mk hg_; have hat5 := Aside0.mk hat_; clear ho_ hb_ hg_ hat_))
      have hKg := Aside0.mk (Kept.of_grown hg5.out (Kept.refl w4 (fun k => some k = u7.ownBlock)) (fun k hk => Or.inl hk.symm))
      have hsz5 := hKg.out.1
      have hG5 := Gth.N_kept hG4a.out hKg.out (fun h_ => (hdis.out g (hI4a.out.1 g h_.symm)).2.1 rfl) (fun k hk h_ => by
        have h1_ := hdis.out k (hI4a.out.1 k h_.symm)
        rcases hk.1 with h2_ | h2_
        · exact h1_.1 h2_
        · omega)
      have hI5b := Kd.N_bound hI5.out
      go_roundg (xs.length - (j + 1))
      case measure => omega
      case rel =>
        refine ⟨j + 1, _, _, by go_num, by omega, by omega, ⟨hI5b⟩, ⟨hG5⟩, ⟨fun k hk => ?_⟩, ⟨fun k hk => ?_⟩, hb5⟩
        · obtain ⟨hk1, hk2⟩ := hk
          refine ⟨fun h2_ => ?_, ?_, hk2⟩
          · rcases hk1 with h3_ | h3_ | h3_
            · rcases h2_.1 with h4_ | h4_
              · exact (hdis.out k h3_).1 h4_
              · have := (hdis.out k h3_).2.2; omega
            · rcases h2_.1 with h4_ | h4_
              · have := hok.out k h4_; omega
              · omega
            · have := h2_.2; omega
          · rcases hk1 with h3_ | h3_ | h3_
            · exact (hdis.out k h3_).2.1
            · omega
            · omega
        · have := hk.2; omega
    · have hjM : j = xs.length := by omega
      have hjz : decide ((j : Int) < (xs.length : Int)) = false := decide_eq_false (by omega)
      subst hjM
      clear hjl hgg hj
      have hglr := Gth.N_lt hG.out
      have hF0 := Aside0.mk (Gth.N_F hG.out)
      have hmem := Aside0.mk (Gth.allL_mem xs hx xs.length)
      have hlen := Aside0.mk (Gth.allL_length xs xs.length)
      obtain ⟨A7, c7, rfl⟩ := Kd.N_slice hI.out
      have hXl : ((Gth.allL xs xs.length).map (·.f1)).length = xs.length := by rw [List.length_map, hlen.out]
      generalize Gth.allL xs xs.length = L at *
      generalize hXe : L.map (·.f1) = X at *
      replace hXe := Aside0.mk hXe
      replace hXl := Aside0.mk hXl
      clear hG
      generalize xs.length = N at *
      generalize wr = w10 at *
      go_wp2_with (fail)
      go_loopg [8, 11] (N + 1) (fun gg s8 s11 wv => ∃ (q k : Nat) (okO : Nat → Prop), s11 = .int .i64 k ∧ k ≤ q ∧ q ≤ N ∧ N + 1 - k ≤ gg ∧ Aside0 (Kd.N (Kd.slice 5 (Kd.int .u8)) 22 wv w.heap.size okO s8 ((L.take q).map (·.f1))) ∧ Aside0 (∀ b, okO b → w10.heap.size ≤ b ∧ b < wv.heap.size) ∧ Aside0 (Gth.F wv okG g (L.drop q) n 0 (Gth.anow N)) ∧ Aside0 (Kd.N (Kd.slice 5 (Kd.int .u8)) 22 wv w.heap.size okI (.slice A7 X.length c7) X) ∧ Aside0 (Below w.heap.size w wv) ∧ w10.heap.size ≤ wv.heap.size)
      case atStart => exact ⟨0, 0, fun _ => False, rfl, by omega, by omega, by omega, ⟨Kd.N_nil _ _ _ _ _⟩, ⟨fun _ h => h.elim⟩, hF0, hI, HB, Nat.le_refl _⟩
      case round =>
        clear hF0 hI HB
        obtain ⟨q, k, okO, rfl, hkq, hqN, hgk, hO, hoo, hF, hI, HB, hsz⟩ := hrel
        have hkz : decide ((k : Int) ≤ (N : Int)) = true := decide_eq_true (by omega)
        have hsm : Gth.small (L.drop q) := ⟨by rw [List.length_drop, hlen.out]; omega, fun e he => (hmem.out e (List.mem_of_mem_drop he)).2.2.2.1⟩
        replace hsm := Aside0.mk hsm
        by_cases hq : q = N
        · subst hq
          have hnil : L.drop q = [] := List.drop_eq_nil_of_le (by rw [hlen.out]; exact Nat.le_refl _)
          have cT := Gth.Take_none _ okG g (L.drop q) n 0 (Gth.anow q) q hF.out hsm.out (by omega) (by omega) (by omega) (by rw [hnil]; decide) (by rw [hnil]; decide) (Or.inl hnil)
          clear hnil
          go_wp2_with (fail)
          refine cT.mono ?_
          clear cT
          rintro e w4 ⟨rfl, hb⟩
          have hO4 := Kd.N_below hO.out hb
          have hI4 := Kd.N_below hI.out hb
          have hF4 := Gth.F_below hF.out hb
          have HB4 := Aside0.mk (below_step HB.out hb)
          have htk : (L.take q).map (·.f1) = X := by rw [List.take_of_length_le (by rw [hlen.out]; exact Nat.le_refl _)]; exact hXe.out
          rw [htk] at hO4
          obtain ⟨A8, c8, rfl⟩ := Kd.N_slice hO4
          obtain ⟨_, hc7, hC7⟩ := Kd.N_reads' hI4
          obtain ⟨_, hc8, hC8⟩ := Kd.N_reads' hO4
          have cS := telemeterref02_Same.calls 200 A7 c7 X A8 c8 X true w4 hC7 hc7 hC8 hc8 (Gth.same_eq X (by have := hXl.out; omega) 200 (by have := hXl.out; omega))
          have cL := Aside0.mk (fun w5 (h5 : Below w4.heap.size w4 w5) => Gth.Len_calls w5 okG g (L.drop q) n 0 (Gth.anow q) (Gth.F_below hF4 h5))
          have hdl : (L.drop q).length = 0 := by rw [List.length_drop, hlen.out]; omega
          rw [hdl] at cL
          clear hO hoo hF hI HB hb hO4 hI4 hF4 hC7 hC8 hdl
          go_wp2_with (fail)
          refine cS.mono ?_
          clear cS
          rintro e w5 ⟨rfl, ⟨m5, hm5⟩⟩
          have hb5 := pw_below_drewN (Below.refl w4.heap.size w4) m5
          rw [← hm5] at hb5
          have cL5 := cL.out _ hb5
          have HB5 := Aside0.mk (below_step HB4.out hb5)
          clear cL hm5 hb5 HB4
          go_wp2_with (fail)
          refine cL5.mono ?_
          clear cL5
          rintro e w6 ⟨rfl, hb6⟩
          go_wp2
          go_ret
          exact ⟨rfl, below_step HB5.out hb6⟩
        · have hqlt : q < N := by omega
          have hDl : (L.drop q).length = N - q := by rw [List.length_drop, hlen.out]
          have hD0 := Gth.rd_mem (L := L.drop q) (by omega)
          have hf0 := hmem.out _ (List.mem_of_mem_drop hD0)
          have cT := Gth.Take_some w wr okG g (L.drop q) n 0 (Gth.anow N) N hF.out hsm.out (by omega) (by omega) (by omega) (by omega) hf0.1 (by have := hf0.2.1; omega) (Or.inr (by have := hf0.2.1; omega)) HB.out hgw0
          replace hDl := Aside0.mk hDl
          clear hD0 hf0
          go_wp2_with (fail)
          refine cT.mono ?_
          clear cT
          rintro e w4 ⟨m, hm, hm1, v, rfl, hR, hF4, hK4, HB4⟩
          rw [hDl.out] at hm
          have hmq : m ≤ N - q := by omega
          have hmn : m ≤ n := by omega
          have hTl : ((L.drop q).take m).length = m := by rw [List.length_take, hDl.out]; omega
          have hTm : ∀ e ∈ (L.drop q).take m, 1 ≤ e.f1.length ∧ e.f1.length ≤ 20 ∧ bytesP e.f1 := fun e he => (hmem.out e (List.mem_of_mem_drop (List.mem_of_mem_take he))).2.2
          have hTX : ((L.take q).map (·.f1)) ++ (((L.drop q).take m).map (·.f1)) = ((L.take (q + m)).map (·.f1)) := by rw [← List.map_append, List.take_add]
          have hTD : (L.drop q).drop m = L.drop (q + m) := by rw [List.drop_drop]
          rw [hTD] at hF4
          have hbt := Gth.batch_of ((L.drop q).take m)
          rw [hTl] at hbt
          rw [hbt] at hR
          generalize (L.drop q).take m = T at *
          have hbl := Gth.batch_length T (fun e he => (hTm e he).2.1) (by omega)
          have hby : ∀ l ∈ T.map (·.f1), 1 ≤ l.length ∧ l.length ≤ 1500 ∧ bytesP l := by
            intro l hl
            obtain ⟨e, he, rfl⟩ := List.mem_map.mp hl
            have := hTm e he
            exact ⟨this.1, by omega, this.2.2⟩
          have hYl : (T.map (·.f1)).length = m := by rw [List.length_map, hTl]
          have hsp := Gth.split_batch (T.map (·.f1)) (by omega) (by omega) hby (by omega)
          have hbb := Gth.batch_bytes _ (fun l hl => (hby l hl).2.2)
          generalize T.map (·.f1) = Y at *
          obtain ⟨A9, c9, rfl⟩ := Kd.R_slice hR
          obtain ⟨_, hc9, hC9⟩ := Kd.R_reads' hR
          have cS := Gth.Split_calls A9 c9 _ w4 hC9 hc9 hbb (by omega)
          rw [hsp] at cS
          have hsz4 := hK4.1
          have hO4 := Aside0.mk (Kd.N_kept hO.out hK4 (fun b hb he => by have := (hoo.out b hb).1; omega))
          have hI4 := Aside0.mk (Kd.N_kept hI.out hK4 (fun b hb he => (hdis.out b hb).2.1 he))
          replace hF4 := Aside0.mk hF4; replace HB4 := Aside0.mk HB4
          have hoo4 := Aside0.mk (fun b (hb : okO b) => (⟨(hoo.out b hb).1, by have := (hoo.out b hb).2; omega⟩ : w10.heap.size ≤ b ∧ b < w4.heap.size))
          clear hR hC9 hby hsp hbb hbt hF hI hO HB hoo hK4 hm hTD hTm hTl
          have hblI : decide (((Gth.batch Y).length : Int) > 3800) = false := decide_eq_false (by omega)
          replace hbl := Aside0.mk hbl
          generalize Gth.batch Y = bb at *
          replace hTX := Aside0.mk hTX
          replace hYl := Aside0.mk hYl
          go_wp2_with (fail)
          refine cS.mono ?_
          clear cS
          rintro e w5 ⟨v5, rfl, hN5, hb5⟩
          obtain ⟨A5, c5, rfl⟩ := Kd.N_slice hN5
          have hO5 := Aside0.mk (Kd.N_below hO4.out hb5)
          have hI5 := Aside0.mk (Kd.N_below hI4.out hb5)
          have hF5 := Aside0.mk (Gth.F_below hF4.out hb5)
          have HB5 := Aside0.mk (below_step HB4.out hb5)
          have hsz5 := below_size hb5
          have hoo5 := Aside0.mk (fun b (hb : okO b) => (⟨(hoo4.out b hb).1, by have := (hoo4.out b hb).2; omega⟩ : w10.heap.size ≤ b ∧ b < w4.heap.size))
          have hFy := Aside0.mk (Kd.N_F hN5)
          have d1 : ((Y.length : Int) != (m : Int)) = false := by rw [hYl.out]; simp
          have d2 : decide ((m : Int) > (n : Int)) = false := decide_eq_false (by omega)
          have d3 : decide ((m : Int) < 1) = false := decide_eq_false (by omega)
          have hYm : (((L.take q).map (·.f1)).length + Y.length) * 24 ≤ 140737488355328 := by rw [hYl.out, List.length_map, List.length_take]; omega
          clear hN5 hb5 hO4 hI4 hF4 HB4 hoo4
          go_wp2_with (first
            | ((with_reducible refine gate_builtin (b := .append) (xs := #[.tmp 107, .tmp 108]) rfl ?_); at_builtin; refine Kd.N_append_rows (Kd.slice 5 (Kd.int .u8)) (w0 := w) w.heap.size rfl (.tmp 107) (.tmp 108) 23 22 (.slice none 0 0) 24 rfl Try.underlying23 Gth.info22 rfl (by decide) (by omega) u8 ((L.take q).map (·.f1)) Y A5 _ c5 (fun b => okO b ∨ w4.heap.size ≤ b) (fun b => w4.heap.size ≤ b) rfl rfl ?aO ?aR ?aK ?aF ?aB ?aS ?aL ?_; (case aR => exact hFy.out); (case aK => exact (fun k_ hk_ => ⟨Or.inr hk_, fun he_ => by have := (hoo5.out k_ (hO5.out.1 k_ he_.symm)).2; omega⟩)); (case aF => exact (fun k_ hk_ => Or.inr (by omega))); (case aO => exact Kd.N_mono hO5.out (fun _ hk_ => Or.inl hk_)); (case aB => exact HB5.out); (case aS => exact below_size HB5.out); (case aL => exact hYm); intro v6 w6 ho_ hb_ hg_ hat_; rw [hTX.out] at ho_; have hO6 := Aside0.mk (Kd.N_bound ho_); have HB6 := Aside0.mk hb_; have hg6 := Aside0.mk hg_; clear ho_ hb_ hg_ hat_))
          have hKg := Aside0.mk (Kept.of_grown hg6.out (Kept.refl w5 (fun b => some b = u8.ownBlock)) (fun b hb => Or.inl hb.symm))
          have hsz6 := hKg.out.1
          have hown := Aside0.mk (fun b (hb : some b = u8.ownBlock) => (hoo5.out b (hO5.out.1 b hb.symm)).1)
          have hI6 := Kd.N_kept hI5.out hKg.out (fun b hb he => by have h1_ := hown.out b he; have := (hdis.out b hb).2.2; omega)
          have hF6 := Gth.F_kept hF5.out hKg.out (fun he => by have h1_ := hown.out g he; omega) (fun b hb he => by have h1_ := hown.out b he; have := hok.out b hb; omega)
          go_roundg (N + 1 - (k + 1))
          case measure => omega
          case rel =>
            refine ⟨q + m, k + 1, _, by go_num, by omega, by omega, by omega, hO6, ⟨fun b hb => ?_⟩, ⟨hF6⟩, ⟨hI6⟩, HB6, by omega⟩
            obtain ⟨hb1_, hb2_⟩ := hb
            rcases hb1_ with h_ | h_
            · exact ⟨(hoo5.out b h_).1, hb2_⟩
            · exact ⟨by omega, hb2_⟩
end Go.Proofs.Ytiheghnojmfmfaa.Px
