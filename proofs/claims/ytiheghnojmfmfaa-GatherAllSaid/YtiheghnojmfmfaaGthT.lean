/- Gather's Take. -/
import Derived.Test.YtiheghnojmfmfaaGthI
import Derived.Test.YtiheghnojmfmfaaPx7
namespace Go.Proofs.Ytiheghnojmfmfaa.Px
open Go.RowKit Go.Proofs.YtiheghnojmfmfaaW.PrintWords Go.Proofs.YtiheghnojmfmfaaW.PrintLast Go.Proofs.YtiheghnojmfmfaaW.PrintMore
set_option linter.unusedVariables false
set_option linter.unusedSimpArgs false

/-- An item in a batch. -/
def Gth.txt (l : List Int) : List Int := putL l.length ++ bytesOf (strOfNums l)
def Gth.batch (ls : List (List Int)) : List Int := putL ls.length ++ ls.flatMap Gth.txt
theorem Gth.strOfNums_size (l : List Int) : (strOfNums l).size = l.length := by simp [strOfNums, ByteArray.size]
theorem Gth.putText_eq (l : List Int) (h : l.length ≤ 20) : num_PutText.f (strOfNums l) = some (Gth.txt l) := by
  unfold num_PutText.f Gth.txt
  have e0 := Gth.strOfNums_size l
  have e1 : IntKind.u64.wrap (((strOfNums l).size : Nat) : Int) = (l.length : Int) := by rw [e0, wrap_u64]; omega
  rw [e1, put_eq (by omega) (by omega), Option.bind_some, Int.toNat_natCast]
  have h1 : (putL l.length).length = 1 := by rw [putL_small (by omega)]; rfl
  rw [if_pos (by omega)]
theorem Gth.txt_length (l : List Int) (h : l.length ≤ 20) : (Gth.txt l).length = 1 + l.length := by
  unfold Gth.txt
  have h1 : (putL l.length).length = 1 := by rw [putL_small (by omega)]; rfl
  rw [List.length_append, h1]
  have : (bytesOf (strOfNums l)).length = (strOfNums l).size := by first | exact bytesOf_length _ | simp [bytesOf, ByteArray.size]
  rw [this, Gth.strOfNums_size]
theorem Gth.flat_length (L : List S73) (h : ∀ e ∈ L, e.f1.length ≤ 20) : (L.flatMap (fun e => Gth.txt e.f1)).length ≤ 21 * L.length := by
  induction L with
  | nil => simp
  | cons e r ih =>
    have h1 := ih (fun x hx => h x (List.mem_cons_of_mem _ hx))
    have h2 := Gth.txt_length e.f1 (h e List.mem_cons_self)
    have h3 := h e List.mem_cons_self
    rw [List.flatMap_cons, List.length_append, List.length_cons]
    omega
theorem Gth.info73 : (Try.prog.info? 73).map (fun i => (i.zero, i.size, i.bytes)) = some (some (.agg #[.int .i64 0, .slice none 0 0]), 2, 32) := by kernel_rfl
theorem Gth.take_next (L : List S73) (j : Nat) (hj : j < L.length) : (L.take (j + 1)).flatMap (fun e => Gth.txt e.f1) = (L.take j).flatMap (fun e => Gth.txt e.f1) ++ Gth.txt (rd_T73 L j).f1 := by
  rw [List.take_succ_eq_append_getElem hj, List.flatMap_append]
  congr 1
  simp [rd_T73, List.getD_eq_getElem?_getD, List.getElem?_eq_getElem hj]
theorem Gth.out_length (L : List S73) (hs : Gth.small L) (M j : Nat) (hM : M ≤ 110) (hj : j < L.length) : (putL M ++ (L.take j).flatMap (fun e => Gth.txt e.f1)).length + (Gth.txt (rd_T73 L j).f1).length < 140737488355328 := by
  have h1 := Gth.flat_length (L.take j) (fun e he => hs.2 e (List.mem_of_mem_take he))
  have h2 := Gth.rd_small hs j (by omega) (by omega)
  have h3 := Gth.txt_length _ h2
  have h4 : (putL M).length = 1 := by rw [putL_small (by omega)]; rfl
  have h5 : (L.take j).length ≤ 110 := by have := hs.1; rw [List.length_take]; omega
  rw [List.length_append, h3, h4]
  omega
set_option maxHeartbeats 4000000 in
set_option maxRecDepth 100000 in
theorem Gth.Take_some (w0 w : World) (ok : Nat → Prop) (g : Nat) (L : List S73) (items age now t : Int) (h : Gth.F w ok g L items age now) (hs : Gth.small L) (hi : 1 ≤ items) (hL : 1 ≤ L.length)
    (hage : 0 ≤ age) (hage2 : age ≤ 1099511627776) (hf0 : 0 ≤ (rd_T73 L 0).f0) (hf02 : (rd_T73 L 0).f0 ≤ 1099511627776)
    (hcond : (L.length : Int) ≥ items ∨ t ≥ (rd_T73 L 0).f0 + age) (HB0 : Below w0.heap.size w0 w) (hlg : w0.heap.size ≤ g) :
    Calls Try.prog 19 #[.pointer (some ⟨g, 0, none⟩), .int .i64 t] w fun e w' => ∃ n : Nat, (n : Int) = min (L.length : Int) items ∧ 1 ≤ n ∧ ∃ v, e = .returned (.tuple #[v, .int .i64 n, .bool true]) ∧ Kd.R (Kd.int .u8) 5 w' w.heap.size (fun _ => True) v (putL n ++ (L.take n).flatMap (fun e => Gth.txt e.f1)) ∧ Gth.F w' ok g (L.drop n) items age now ∧ Kept w w' (fun k => k = g) ∧ Below w0.heap.size w0 w' := by
  obtain ⟨M, hM⟩ : ∃ M : Nat, (M : Int) = min (L.length : Int) items := ⟨(min (L.length : Int) items).toNat, by omega⟩
  have hL110 := hs.1
  have hfits := Aside0.mk (Gth.fits_calls w ok g L items age now h hs (by omega))
  rw [← hM] at hfits
  go_enter Try.func19, Try.ntmps19
  go_wp2_with (fail)
  refine hfits.out.mono ?_
  clear hfits
  rintro e w1 ⟨rfl, hb1⟩
  obtain ⟨A, c, hh, hc, ho, hf⟩ := id h
  have c1 : w1.cell? ⟨g, 0, none⟩ = some (.slice A L.length c) := blk_cell (blk_below hh hb1) 0
  have c2 : w1.cell? ⟨g, 1, none⟩ = some (.int .i64 items) := blk_cell (blk_below hh hb1) 1
  have c3 : w1.cell? ⟨g, 2, none⟩ = some (.int .i64 age) := blk_cell (blk_below hh hb1) 2
  obtain ⟨ad, A1, cc1, rfl, g1, g2, hc1, hC⟩ := at_T73 (Kd.F_now hf) 0 (by omega) (by omega)
  clear g2 hc1 hC
  replace g1 := (hb1.cell (World.block_lt_of_cell? _ _ g1)).trans g1
  have g1' : w1.cell? ad = some (.int .i64 (rd_T73 L 0).f0) := by simpa [Addr.add] using g1
  generalize (rd_T73 L 0).f0 = f0 at *
  have b1 : ((M : Int) == 0) = false := beq_eq_false_iff_ne.mpr (by omega)
  have hsum : IntKind.i64.wrap (f0 + age) = f0 + age := by rw [Gth.i64w]; unfold wrap64; omega
  have hfa := Aside0.mk hf
  have hha := Aside0.mk hh
  have hM1 : 1 ≤ M := by omega
  have hML : (M : Int) ≤ L.length := by omega
  clear h hf hh
  by_cases p2 : (M : Int) = L.length
  · by_cases p3 : (M : Int) < items
    · have b2 : ((M : Int) == (L.length : Int)) = true := beq_iff_eq.mpr p2
      have b3 : decide ((M : Int) < items) = true := decide_eq_true p3
      have b4 : decide (t < f0 + age) = false := decide_eq_false (by omega)
      replace hM := Aside0.mk hM; clear p2 p3
      go_wp2_with (fail)
      go_region
      have hput : num_Put.f (M : Int) = some (putL M) := by rw [put_eq (by omega) (by omega), Int.toNat_natCast]
      have HB := Aside0.mk (below_drew hb1)
      have c1d : w1.drew.cell? ⟨g, 0, none⟩ = some (.slice (some ad) L.length c) := c1
      clear hb1 c1 c2 c3 g1 g1' b1 b2 b3 b4
      generalize w1.drew = w2 at *
      go_wp2_with (fail)
      refine (num_Put.calls _ (putL M) _ hput).mono ?_
      rintro e w3 ⟨v3, rfl, ho3, hb3⟩
      have c1e := (hb3.cell (World.block_lt_of_cell? _ _ c1d)).trans c1d
      have HO0 := Aside0.mk (Kd.R_lower ho3 (below_size HB.out))
      have HB3 := Aside0.mk (below_step HB.out hb3)
      clear ho3 hb3 HB c1d
      have m1 : M ≤ c := by omega
      have m2 : M ≤ L.length := by omega
      go_wp2_with (fail)
      go_loopg [8, 58] M (fun gg s8 s58 wr => ∃ j : Nat, s58 = .int .i64 j ∧ j ≤ M ∧ M - j ≤ gg ∧ Aside0 (Kd.R (Kd.int .u8) 5 wr w.heap.size (fun _ => True) s8 (putL M ++ (L.take j).flatMap (fun e => Gth.txt e.f1))) ∧ Aside0 (Below w.heap.size w wr))
      case atStart => exact ⟨0, rfl, by omega, by omega, ⟨by simpa using HO0.out⟩, HB3⟩
      case round =>
        clear c1e HO0 HB3
        obtain ⟨j, rfl, hjM, hgg, HO, HB⟩ := hrel
        by_cases hj : j < M
        · have hjz : decide ((j : Int) < (M : Int)) = true := decide_eq_true (by omega)
          have hj0 : (0 : Int) ≤ (j : Int) := by omega
          have hjL : (j : Int) < (M : Int) := by omega
          obtain ⟨ad', A1, cc1, e0, g1, g2, hc1, hC⟩ := at_T73 (Kd.F_now hfa.out) j hj0 (by omega)
          cases e0
          have h20 := Gth.rd_small hs j (by omega) (by omega)
          have hnx := Aside0.mk (Gth.take_next L j (by omega))
          have hln := Aside0.mk (Gth.out_length L hs M j (by omega) (by omega))
          generalize hrd : rd_T73 L (j : Int) = rr at *
          obtain ⟨f1, l⟩ := rr
          dsimp only at g1 g2 hc1 hC h20 hnx hln
          replace g1 := (HB.out.cell (World.block_lt_of_cell? _ _ g1)).trans g1
          replace g2 := (HB.out.cell (World.block_lt_of_cell? _ _ g2)).trans g2
          simp only [Int.toNat_natCast] at g1 g2
          replace hC := Aside0.mk (Kd.C_below hC HB.out)
          have hput2 := Aside0.mk (Gth.putText_eq l h20)
          clear hrd
          have hcv := Kd.C_string (P := Try.prog) (A := A1) (c := cc1) Try.underlying22 Try.underlying5 Try.underlying9 (Kd.C_alloc hC.out (.cells #[.int .i64 f1, .slice A1 l.length cc1] 73 (0, 0)))
          go_wp2_with (fail)
          refine (num_PutText.calls _ _ _ hput2.out).mono ?_
          rintro e w9 ⟨v9, rfl, ho0, hb⟩
          have n0_ := Aside0.mk (Kd.R_elder' (Kd.R_alloc HO.out _) (Kd.R_base ho0) hb)
          have n1_ := Aside0.mk (Kd.R_lower (Kd.R_new' ho0 (Kd.R_lt (Kd.R_alloc HO.out _))) (below_size (below_alloc HB.out _)))
          have n2_ := Aside0.mk (below_step (below_alloc HB.out _) hb)
          clear HO HB ho0 hb hC g1 g2 hput2 hcv
          obtain ⟨Ao, co, eo⟩ := Kd.R_slice n1_.out
          subst eo
          go_wp2_with (first
            | ((with_reducible refine gate_builtin (b := .append) (xs := #[.tmp 62, .tmp 66]) rfl ?_); at_builtin; refine Kd.R_append_rows (Kd.int .u8) (w0 := w) w.heap.size rfl (.tmp 62) (.tmp 66) 22 5 (.int .u8 0) 1 rfl Try.underlying22 info5 rfl (by decide) (by omega) u8 (putL M ++ (L.take j).flatMap (fun e => Gth.txt e.f1)) (Gth.txt l) _ _ _ (fun k_ => some k_ ≠ (.slice Ao (Gth.txt l).length co : Value).ownBlock) (fun _ => False) rfl rfl ?aO ?aR (fun _ _ h => h) (fun _ h => h.elim) ?aF ?aB ?aS ?aL ?_; (case aR => exact (Kd.R_reads' n1_.out).2.2); (case aB => exact n2_.out); (case aF => exact (fun k_ hk => Kd.fresh' (Kd.R_lt n1_.out) k_ hk)); (case aO => exact Kd.R_mono n0_.out (fun _ hk => hk.2)); (case aS => exact below_size n2_.out); (case aL => have := hln.out; omega); intro v10 w10 ho hb hg hat; rw [List.append_assoc, ← hnx.out] at ho; have HO := Aside0.mk (Kd.R_mono (ok' := fun _ => True) ho (fun _ _ => trivial)); have HB := Aside0.mk hb; clear ho hb hg hat n0_ n1_ n2_))
          go_roundg (M - (j + 1))
          case measure => omega
          case rel => exact ⟨j + 1, by go_num, by omega, by omega, HO, HB⟩
        · have hjz : decide ((j : Int) < (M : Int)) = false := decide_eq_false (by omega)
          have hjM' : j = M := by omega
          have HO' := Aside0.mk HO.out
          rw [hjM'] at HO'
          clear HO
          have hf1 := Kd.F_below hfa.out HB.out
          have hh1 := blk_below hha.out HB.out
          have d1 : wr.cell? ⟨g, 0, none⟩ = some (.slice (some ad) L.length c) := blk_cell hh1 0
          have d1f := blk_frozen hh1 0
          obtain ⟨i0, hi0, _, hsz, _⟩ := info_parts Gth.info73
          have hcut := cut_from (P := Try.prog) 68 73 .i64 Try.underlying68 hi0 2 hsz (some ad) L.length c (M : Int) (by omega) (by omega)
          rw [Int.toNat_natCast] at hcut
          have hfc : Kd.F k73 wr ok (if c = M then some ad else Option.map (fun x => x.add (M * 2)) (some ad)) (L.drop M).length (L.drop M) := Kd.F_cut (m := M) (c := c) hf1 (by omega) (by omega)
          have hfca := Aside0.mk hfc
          replace hh1 := Aside0.mk hh1
          clear hf1 hfc hi0 hsz
          generalize (if c = M then some ad else Option.map (fun x => x.add (M * 2)) (some ad)) = A9 at hcut hfca
          go_wp2_with (fail)
          go_ret3
          have hgl : g < w.heap.size := blk_lt hha.out
          have hK := (Kept.of_below HB.out (fun k => k = g)).setCell (p := ⟨g, 0, none⟩) (Or.inl rfl) (.slice A9 (L.length - M) (c - M))
          have hKr := (Kept.refl wr (fun k => k = g)).setCell (p := ⟨g, 0, none⟩) (Or.inl rfl) (.slice A9 (L.length - M) (c - M))
          have hbl := blk_put hh1.out 0 (.slice A9 (L.length - M) (c - M)) rfl
          refine ⟨M, hM.out, hM1, _, rfl, ?_, ⟨A9, c - M, ?_, ?_, ho, ?_⟩, hK, ?_⟩
          · exact Kd.R_mono (Kd.R_kept (Kd.R_tight rfl HO'.out) hKr (fun k_ hk_ => by have := Kd.R_base HO'.out k_ hk_.symm; omega)) (fun _ _ => trivial)
          · rw [List.length_drop]; exact hbl
          · rw [List.length_drop]; omega
          · exact Kd.F_kept hfca.out hKr (fun k_ hk_ he_ => ho (he_ ▸ hk_))
          · exact below_set (below_weaken HB0 (below_size HB0) HB.out) hlg
    · have b2 : ((M : Int) == (L.length : Int)) = true := beq_iff_eq.mpr p2
      have b3 : decide ((M : Int) < items) = false := decide_eq_false p3
      have b4 := True.intro
      replace hM := Aside0.mk hM; clear p2 p3
      go_wp2_with (fail)
      go_region
      have hput : num_Put.f (M : Int) = some (putL M) := by rw [put_eq (by omega) (by omega), Int.toNat_natCast]
      have HB := Aside0.mk (below_drew hb1)
      have c1d : w1.drew.cell? ⟨g, 0, none⟩ = some (.slice (some ad) L.length c) := c1
      clear hb1 c1 c2 c3 g1 g1' b1 b2 b3 b4
      generalize w1.drew = w2 at *
      go_wp2_with (fail)
      refine (num_Put.calls _ (putL M) _ hput).mono ?_
      rintro e w3 ⟨v3, rfl, ho3, hb3⟩
      have c1e := (hb3.cell (World.block_lt_of_cell? _ _ c1d)).trans c1d
      have HO0 := Aside0.mk (Kd.R_lower ho3 (below_size HB.out))
      have HB3 := Aside0.mk (below_step HB.out hb3)
      clear ho3 hb3 HB c1d
      have m1 : M ≤ c := by omega
      have m2 : M ≤ L.length := by omega
      go_wp2_with (fail)
      go_loopg [8, 58] M (fun gg s8 s58 wr => ∃ j : Nat, s58 = .int .i64 j ∧ j ≤ M ∧ M - j ≤ gg ∧ Aside0 (Kd.R (Kd.int .u8) 5 wr w.heap.size (fun _ => True) s8 (putL M ++ (L.take j).flatMap (fun e => Gth.txt e.f1))) ∧ Aside0 (Below w.heap.size w wr))
      case atStart => exact ⟨0, rfl, by omega, by omega, ⟨by simpa using HO0.out⟩, HB3⟩
      case round =>
        clear c1e HO0 HB3
        obtain ⟨j, rfl, hjM, hgg, HO, HB⟩ := hrel
        by_cases hj : j < M
        · have hjz : decide ((j : Int) < (M : Int)) = true := decide_eq_true (by omega)
          have hj0 : (0 : Int) ≤ (j : Int) := by omega
          have hjL : (j : Int) < (M : Int) := by omega
          obtain ⟨ad', A1, cc1, e0, g1, g2, hc1, hC⟩ := at_T73 (Kd.F_now hfa.out) j hj0 (by omega)
          cases e0
          have h20 := Gth.rd_small hs j (by omega) (by omega)
          have hnx := Aside0.mk (Gth.take_next L j (by omega))
          have hln := Aside0.mk (Gth.out_length L hs M j (by omega) (by omega))
          generalize hrd : rd_T73 L (j : Int) = rr at *
          obtain ⟨f1, l⟩ := rr
          dsimp only at g1 g2 hc1 hC h20 hnx hln
          replace g1 := (HB.out.cell (World.block_lt_of_cell? _ _ g1)).trans g1
          replace g2 := (HB.out.cell (World.block_lt_of_cell? _ _ g2)).trans g2
          simp only [Int.toNat_natCast] at g1 g2
          replace hC := Aside0.mk (Kd.C_below hC HB.out)
          have hput2 := Aside0.mk (Gth.putText_eq l h20)
          clear hrd
          have hcv := Kd.C_string (P := Try.prog) (A := A1) (c := cc1) Try.underlying22 Try.underlying5 Try.underlying9 (Kd.C_alloc hC.out (.cells #[.int .i64 f1, .slice A1 l.length cc1] 73 (0, 0)))
          go_wp2_with (fail)
          refine (num_PutText.calls _ _ _ hput2.out).mono ?_
          rintro e w9 ⟨v9, rfl, ho0, hb⟩
          have n0_ := Aside0.mk (Kd.R_elder' (Kd.R_alloc HO.out _) (Kd.R_base ho0) hb)
          have n1_ := Aside0.mk (Kd.R_lower (Kd.R_new' ho0 (Kd.R_lt (Kd.R_alloc HO.out _))) (below_size (below_alloc HB.out _)))
          have n2_ := Aside0.mk (below_step (below_alloc HB.out _) hb)
          clear HO HB ho0 hb hC g1 g2 hput2 hcv
          obtain ⟨Ao, co, eo⟩ := Kd.R_slice n1_.out
          subst eo
          go_wp2_with (first
            | ((with_reducible refine gate_builtin (b := .append) (xs := #[.tmp 62, .tmp 66]) rfl ?_); at_builtin; refine Kd.R_append_rows (Kd.int .u8) (w0 := w) w.heap.size rfl (.tmp 62) (.tmp 66) 22 5 (.int .u8 0) 1 rfl Try.underlying22 info5 rfl (by decide) (by omega) u8 (putL M ++ (L.take j).flatMap (fun e => Gth.txt e.f1)) (Gth.txt l) _ _ _ (fun k_ => some k_ ≠ (.slice Ao (Gth.txt l).length co : Value).ownBlock) (fun _ => False) rfl rfl ?aO ?aR (fun _ _ h => h) (fun _ h => h.elim) ?aF ?aB ?aS ?aL ?_; (case aR => exact (Kd.R_reads' n1_.out).2.2); (case aB => exact n2_.out); (case aF => exact (fun k_ hk => Kd.fresh' (Kd.R_lt n1_.out) k_ hk)); (case aO => exact Kd.R_mono n0_.out (fun _ hk => hk.2)); (case aS => exact below_size n2_.out); (case aL => have := hln.out; omega); intro v10 w10 ho hb hg hat; rw [List.append_assoc, ← hnx.out] at ho; have HO := Aside0.mk (Kd.R_mono (ok' := fun _ => True) ho (fun _ _ => trivial)); have HB := Aside0.mk hb; clear ho hb hg hat n0_ n1_ n2_))
          go_roundg (M - (j + 1))
          case measure => omega
          case rel => exact ⟨j + 1, by go_num, by omega, by omega, HO, HB⟩
        · have hjz : decide ((j : Int) < (M : Int)) = false := decide_eq_false (by omega)
          have hjM' : j = M := by omega
          have HO' := Aside0.mk HO.out
          rw [hjM'] at HO'
          clear HO
          have hf1 := Kd.F_below hfa.out HB.out
          have hh1 := blk_below hha.out HB.out
          have d1 : wr.cell? ⟨g, 0, none⟩ = some (.slice (some ad) L.length c) := blk_cell hh1 0
          have d1f := blk_frozen hh1 0
          obtain ⟨i0, hi0, _, hsz, _⟩ := info_parts Gth.info73
          have hcut := cut_from (P := Try.prog) 68 73 .i64 Try.underlying68 hi0 2 hsz (some ad) L.length c (M : Int) (by omega) (by omega)
          rw [Int.toNat_natCast] at hcut
          have hfc : Kd.F k73 wr ok (if c = M then some ad else Option.map (fun x => x.add (M * 2)) (some ad)) (L.drop M).length (L.drop M) := Kd.F_cut (m := M) (c := c) hf1 (by omega) (by omega)
          have hfca := Aside0.mk hfc
          replace hh1 := Aside0.mk hh1
          clear hf1 hfc hi0 hsz
          generalize (if c = M then some ad else Option.map (fun x => x.add (M * 2)) (some ad)) = A9 at hcut hfca
          go_wp2_with (fail)
          go_ret3
          have hgl : g < w.heap.size := blk_lt hha.out
          have hK := (Kept.of_below HB.out (fun k => k = g)).setCell (p := ⟨g, 0, none⟩) (Or.inl rfl) (.slice A9 (L.length - M) (c - M))
          have hKr := (Kept.refl wr (fun k => k = g)).setCell (p := ⟨g, 0, none⟩) (Or.inl rfl) (.slice A9 (L.length - M) (c - M))
          have hbl := blk_put hh1.out 0 (.slice A9 (L.length - M) (c - M)) rfl
          refine ⟨M, hM.out, hM1, _, rfl, ?_, ⟨A9, c - M, ?_, ?_, ho, ?_⟩, hK, ?_⟩
          · exact Kd.R_mono (Kd.R_kept (Kd.R_tight rfl HO'.out) hKr (fun k_ hk_ => by have := Kd.R_base HO'.out k_ hk_.symm; omega)) (fun _ _ => trivial)
          · rw [List.length_drop]; exact hbl
          · rw [List.length_drop]; omega
          · exact Kd.F_kept hfca.out hKr (fun k_ hk_ he_ => ho (he_ ▸ hk_))
          · exact below_set (below_weaken HB0 (below_size HB0) HB.out) hlg
  · have b2 : ((M : Int) == (L.length : Int)) = false := beq_eq_false_iff_ne.mpr p2
    have b3 := True.intro
    have b4 := True.intro
    replace hM := Aside0.mk hM; clear p2
    go_wp2_with (fail)
    go_region
    have hput : num_Put.f (M : Int) = some (putL M) := by rw [put_eq (by omega) (by omega), Int.toNat_natCast]
    have HB := Aside0.mk (below_drew hb1)
    have c1d : w1.drew.cell? ⟨g, 0, none⟩ = some (.slice (some ad) L.length c) := c1
    clear hb1 c1 c2 c3 g1 g1' b1 b2 b3 b4
    generalize w1.drew = w2 at *
    go_wp2_with (fail)
    refine (num_Put.calls _ (putL M) _ hput).mono ?_
    rintro e w3 ⟨v3, rfl, ho3, hb3⟩
    have c1e := (hb3.cell (World.block_lt_of_cell? _ _ c1d)).trans c1d
    have HO0 := Aside0.mk (Kd.R_lower ho3 (below_size HB.out))
    have HB3 := Aside0.mk (below_step HB.out hb3)
    clear ho3 hb3 HB c1d
    have m1 : M ≤ c := by omega
    have m2 : M ≤ L.length := by omega
    go_wp2_with (fail)
    go_loopg [8, 58] M (fun gg s8 s58 wr => ∃ j : Nat, s58 = .int .i64 j ∧ j ≤ M ∧ M - j ≤ gg ∧ Aside0 (Kd.R (Kd.int .u8) 5 wr w.heap.size (fun _ => True) s8 (putL M ++ (L.take j).flatMap (fun e => Gth.txt e.f1))) ∧ Aside0 (Below w.heap.size w wr))
    case atStart => exact ⟨0, rfl, by omega, by omega, ⟨by simpa using HO0.out⟩, HB3⟩
    case round =>
      clear c1e HO0 HB3
      obtain ⟨j, rfl, hjM, hgg, HO, HB⟩ := hrel
      by_cases hj : j < M
      · have hjz : decide ((j : Int) < (M : Int)) = true := decide_eq_true (by omega)
        have hj0 : (0 : Int) ≤ (j : Int) := by omega
        have hjL : (j : Int) < (M : Int) := by omega
        obtain ⟨ad', A1, cc1, e0, g1, g2, hc1, hC⟩ := at_T73 (Kd.F_now hfa.out) j hj0 (by omega)
        cases e0
        have h20 := Gth.rd_small hs j (by omega) (by omega)
        have hnx := Aside0.mk (Gth.take_next L j (by omega))
        have hln := Aside0.mk (Gth.out_length L hs M j (by omega) (by omega))
        generalize hrd : rd_T73 L (j : Int) = rr at *
        obtain ⟨f1, l⟩ := rr
        dsimp only at g1 g2 hc1 hC h20 hnx hln
        replace g1 := (HB.out.cell (World.block_lt_of_cell? _ _ g1)).trans g1
        replace g2 := (HB.out.cell (World.block_lt_of_cell? _ _ g2)).trans g2
        simp only [Int.toNat_natCast] at g1 g2
        replace hC := Aside0.mk (Kd.C_below hC HB.out)
        have hput2 := Aside0.mk (Gth.putText_eq l h20)
        clear hrd
        have hcv := Kd.C_string (P := Try.prog) (A := A1) (c := cc1) Try.underlying22 Try.underlying5 Try.underlying9 (Kd.C_alloc hC.out (.cells #[.int .i64 f1, .slice A1 l.length cc1] 73 (0, 0)))
        go_wp2_with (fail)
        refine (num_PutText.calls _ _ _ hput2.out).mono ?_
        rintro e w9 ⟨v9, rfl, ho0, hb⟩
        have n0_ := Aside0.mk (Kd.R_elder' (Kd.R_alloc HO.out _) (Kd.R_base ho0) hb)
        have n1_ := Aside0.mk (Kd.R_lower (Kd.R_new' ho0 (Kd.R_lt (Kd.R_alloc HO.out _))) (below_size (below_alloc HB.out _)))
        have n2_ := Aside0.mk (below_step (below_alloc HB.out _) hb)
        clear HO HB ho0 hb hC g1 g2 hput2 hcv
        obtain ⟨Ao, co, eo⟩ := Kd.R_slice n1_.out
        subst eo
        go_wp2_with (first
          | ((with_reducible refine gate_builtin (b := .append) (xs := #[.tmp 62, .tmp 66]) rfl ?_); at_builtin; refine Kd.R_append_rows (Kd.int .u8) (w0 := w) w.heap.size rfl (.tmp 62) (.tmp 66) 22 5 (.int .u8 0) 1 rfl Try.underlying22 info5 rfl (by decide) (by omega) u8 (putL M ++ (L.take j).flatMap (fun e => Gth.txt e.f1)) (Gth.txt l) _ _ _ (fun k_ => some k_ ≠ (.slice Ao (Gth.txt l).length co : Value).ownBlock) (fun _ => False) rfl rfl ?aO ?aR (fun _ _ h => h) (fun _ h => h.elim) ?aF ?aB ?aS ?aL ?_; (case aR => exact (Kd.R_reads' n1_.out).2.2); (case aB => exact n2_.out); (case aF => exact (fun k_ hk => Kd.fresh' (Kd.R_lt n1_.out) k_ hk)); (case aO => exact Kd.R_mono n0_.out (fun _ hk => hk.2)); (case aS => exact below_size n2_.out); (case aL => have := hln.out; omega); intro v10 w10 ho hb hg hat; rw [List.append_assoc, ← hnx.out] at ho; have HO := Aside0.mk (Kd.R_mono (ok' := fun _ => True) ho (fun _ _ => trivial)); have HB := Aside0.mk hb; clear ho hb hg hat n0_ n1_ n2_))
        go_roundg (M - (j + 1))
        case measure => omega
        case rel => exact ⟨j + 1, by go_num, by omega, by omega, HO, HB⟩
      · have hjz : decide ((j : Int) < (M : Int)) = false := decide_eq_false (by omega)
        have hjM' : j = M := by omega
        have HO' := Aside0.mk HO.out
        rw [hjM'] at HO'
        clear HO
        have hf1 := Kd.F_below hfa.out HB.out
        have hh1 := blk_below hha.out HB.out
        have d1 : wr.cell? ⟨g, 0, none⟩ = some (.slice (some ad) L.length c) := blk_cell hh1 0
        have d1f := blk_frozen hh1 0
        obtain ⟨i0, hi0, _, hsz, _⟩ := info_parts Gth.info73
        have hcut := cut_from (P := Try.prog) 68 73 .i64 Try.underlying68 hi0 2 hsz (some ad) L.length c (M : Int) (by omega) (by omega)
        rw [Int.toNat_natCast] at hcut
        have hfc : Kd.F k73 wr ok (if c = M then some ad else Option.map (fun x => x.add (M * 2)) (some ad)) (L.drop M).length (L.drop M) := Kd.F_cut (m := M) (c := c) hf1 (by omega) (by omega)
        have hfca := Aside0.mk hfc
        replace hh1 := Aside0.mk hh1
        clear hf1 hfc hi0 hsz
        generalize (if c = M then some ad else Option.map (fun x => x.add (M * 2)) (some ad)) = A9 at hcut hfca
        go_wp2_with (fail)
        go_ret3
        have hgl : g < w.heap.size := blk_lt hha.out
        have hK := (Kept.of_below HB.out (fun k => k = g)).setCell (p := ⟨g, 0, none⟩) (Or.inl rfl) (.slice A9 (L.length - M) (c - M))
        have hKr := (Kept.refl wr (fun k => k = g)).setCell (p := ⟨g, 0, none⟩) (Or.inl rfl) (.slice A9 (L.length - M) (c - M))
        have hbl := blk_put hh1.out 0 (.slice A9 (L.length - M) (c - M)) rfl
        refine ⟨M, hM.out, hM1, _, rfl, ?_, ⟨A9, c - M, ?_, ?_, ho, ?_⟩, hK, ?_⟩
        · exact Kd.R_mono (Kd.R_kept (Kd.R_tight rfl HO'.out) hKr (fun k_ hk_ => by have := Kd.R_base HO'.out k_ hk_.symm; omega)) (fun _ _ => trivial)
        · rw [List.length_drop]; exact hbl
        · rw [List.length_drop]; omega
        · exact Kd.F_kept hfca.out hKr (fun k_ hk_ he_ => ho (he_ ▸ hk_))
        · exact below_set (below_weaken HB0 (below_size HB0) HB.out) hlg
set_option maxHeartbeats 4000000 in
set_option maxRecDepth 100000 in
theorem Gth.Take_none (w : World) (ok : Nat → Prop) (g : Nat) (L : List S73) (items age now t : Int) (h : Gth.F w ok g L items age now) (hs : Gth.small L) (hi : 1 ≤ items)
    (hage : 0 ≤ age) (hage2 : age ≤ 1099511627776) (hf0 : 0 ≤ (rd_T73 L 0).f0) (hf02 : (rd_T73 L 0).f0 ≤ 1099511627776)
    (hcond : L = [] ∨ ((L.length : Int) < items ∧ t < (rd_T73 L 0).f0 + age)) :
    Calls Try.prog 19 #[.pointer (some ⟨g, 0, none⟩), .int .i64 t] w fun e w' => e = .returned (.tuple #[.slice none 0 0, .int .i64 0, .bool false]) ∧ Below w.heap.size w w' := by
  obtain ⟨M, hM⟩ : ∃ M : Nat, (M : Int) = min (L.length : Int) items := ⟨(min (L.length : Int) items).toNat, by omega⟩
  have hL110 := hs.1
  have hfits := Aside0.mk (Gth.fits_calls w ok g L items age now h hs (by omega))
  rw [← hM] at hfits
  go_enter Try.func19, Try.ntmps19
  go_wp2_with (fail)
  refine hfits.out.mono ?_
  clear hfits
  rintro e w1 ⟨rfl, hb1⟩
  obtain ⟨A, c, hh, hc, ho, hf⟩ := id h
  have c1 : w1.cell? ⟨g, 0, none⟩ = some (.slice A L.length c) := blk_cell (blk_below hh hb1) 0
  have c2 : w1.cell? ⟨g, 1, none⟩ = some (.int .i64 items) := blk_cell (blk_below hh hb1) 1
  have c3 : w1.cell? ⟨g, 2, none⟩ = some (.int .i64 age) := blk_cell (blk_below hh hb1) 2
  by_cases hL0 : L.length = 0
  · have hM0 : M = 0 := by omega
    have b1 : ((M : Int) == 0) = true := beq_iff_eq.mpr (by omega)
    have hba := Aside0.mk hb1
    clear h hf hh hM hM0 hb1 hL0 hcond
    go_wp2_with (fail)
    go_region
    go_wp2
    go_ret3
    exact ⟨rfl, below_step (below_drew hba.out) (Below.refl _ _)⟩
  · replace hcond := hcond.resolve_left (fun he => hL0 (by rw [he]; rfl))
    obtain ⟨ad, A1, cc1, rfl, g1, g2, hc1, hC⟩ := at_T73 (Kd.F_now hf) 0 (by omega) (by omega)
    clear g2 hc1 hC
    replace g1 := (hb1.cell (World.block_lt_of_cell? _ _ g1)).trans g1
    have g1' : w1.cell? ad = some (.int .i64 (rd_T73 L 0).f0) := by simpa [Addr.add] using g1
    generalize (rd_T73 L 0).f0 = f0 at *
    have b1 : ((M : Int) == 0) = false := beq_eq_false_iff_ne.mpr (by omega)
    have hsum : IntKind.i64.wrap (f0 + age) = f0 + age := by rw [Gth.i64w]; unfold wrap64; omega
    have b2 : ((M : Int) == (L.length : Int)) = true := beq_iff_eq.mpr (by omega)
    have b3 : decide ((M : Int) < items) = true := decide_eq_true (by omega)
    have b4 : decide (t < f0 + age) = true := decide_eq_true hcond.2
    have hLpos : 0 < L.length := by omega
    have hba := Aside0.mk hb1
    clear h hf hh hM hb1 hcond
    go_wp2_with (fail)
    go_region
    go_wp2
    go_ret3
    exact ⟨rfl, below_step (below_drew hba.out) (Below.refl _ _)⟩
end Go.Proofs.Ytiheghnojmfmfaa.Px
