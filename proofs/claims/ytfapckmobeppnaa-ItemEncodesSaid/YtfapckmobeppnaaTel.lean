/- tells, by hand: the package's Encode, RightSpan and RightLog answer as the document's do. -/
import Derived.Test.YtfapckmobeppnaaRefC
import Derived.Test.YtfapckmobeppnaaItmG
namespace Go.Proofs.Ytfapckmobeppnaa.Px
open Go.RowKit Go.Proofs.YtfapckmobeppnaaW.PrintWords Go.Proofs.YtfapckmobeppnaaW.PrintLast Go.Proofs.YtfapckmobeppnaaW.PrintMore
set_option linter.unusedVariables false
set_option linter.unusedSimpArgs false

def Tel.T3 : Bool × List (List Nat × List Nat) := (true, [([], []), ([0], [0]), ([], []), ([2], [2]), ([1, 3], [1, 3]), ([4], [4]), ([5], [5]), ([6, 5], [5, 6]), ([5], [5]), ([7, 8, 5], [5, 7, 8]), ([5, 9], [5, 9]), ([10, 5], [10]), ([11], [11]), ([12, 11], [11, 12]), ([13, 11, 11], [11, 13]), ([11], [11]), ([15, 11], [11, 15]), ([16, 14, 11], [11, 16]), ([14, 17, 11], [11, 14, 17]), ([11, 18], [11, 18]), ([19, 17], [19]), ([20], [20]), ([21, 20], [20, 21]), ([22, 20, 20], [20, 22]), ([20], [20]), ([24, 20], [20, 24]), ([25, 23, 20], [20, 25]), ([23, 26, 20], [20, 23, 26]), ([20, 27], [20, 27]), ([28, 26, 0, 1, 2, 3, 4, 5, 6, 7, 8, 9, 10, 11, 12, 13, 14, 15, 16, 17, 18, 19, 20, 21, 22, 23, 24, 25, 26, 27, 28], [28])])
theorem Tel.T3_tab : rtab .any (opsOf Try.f16 3) = Tel.T3 := by kernel_rfl
def Tel.T3.B : List Nat := [0, 1, 0, 4, 15, 31, 63, 127, 63, 511, 1023, 2047, 4095, 8191, 16383, 4095, 36863, 131071, 262143, 524287, 1048575, 2097151, 4194303, 8388607, 2097151, 18874367, 67108863, 134217727, 268435455, 536870911]
theorem Tel.T3_bits : waitsOk Tel.T3.2 Tel.T3.B = true := by kernel_rfl
theorem Tel.enc_some (kd hi lo id par : Int) (nm : ByteArray) (st en : Int) (bad : Bool) (l : List S36) (rv : Int) (k : ByteArray) (wt t : Int) (b : ByteArray) (h : Itm.enG hi lo id par nm l rv k wt = true) : ∃ M e, item_Encode.f kd hi lo id par nm st en bad l rv k wt t b = some (M, e) ∧ (e = 0 ∨ e = 40) := by
  unfold item_Encode.f
  rw [if_pos h]
  split
  · split
    · exact ⟨_, _, rfl, Or.inl rfl⟩
    · exact ⟨_, _, rfl, Or.inr rfl⟩
  · split
    · split
      · exact ⟨_, _, rfl, Or.inl rfl⟩
      · exact ⟨_, _, rfl, Or.inr rfl⟩
    · exact ⟨_, _, rfl, Or.inr rfl⟩
set_option maxHeartbeats 8000000 in
set_option maxRecDepth 100000 in
theorem Tel.tells_calls (kd hi lo id par : Int) (nm : ByteArray) (st en : Int) (bad : Bool) (A : Option Addr) (c : Nat) (l : List S36) (rv : Int) (k : ByteArray) (wt t : Int) (b : ByteArray) (w : World) (hr : Kd.C k36 w A l.length l) (hc : l.length ≤ c) (hl : l.length ≤ 100000) (hg : Itm.enG hi lo id par nm l rv k wt = true) :
    Calls Try.prog 16 #[.agg #[.int .u8 kd, .int .u64 hi, .int .u64 lo, .int .u64 id, .int .u64 par, .string nm, .int .i64 st, .int .i64 en, .bool bad, .slice A l.length c, .int .u64 rv, .string k, .int .u64 wt, .int .i64 t, .string b]] w fun e w' => e = .returned (.bool true) ∧ Below w.heap.size w w' := by
  obtain ⟨M, e0, hE, he0⟩ := Tel.enc_some kd hi lo id par nm st en bad l rv k wt t b hg
  have hE2 : telemeterref03_Encode.f kd hi lo id par nm st en bad l rv k wt t b = some (M, e0) := by unfold telemeterref03_Encode.f; rw [if_pos hl]; exact hE
  unfold Itm.enG at hg
  simp only [Bool.and_eq_true, Itm.u64B_iff, Itm.bigB_iff, List.all_eq_true] at hg
  have hG := Aside0.mk hg
  replace hE := Aside0.mk hE
  replace hE2 := Aside0.mk hE2
  clear hg
  have hs0 : IntKind.u16.wrap e0 = e0 := by rcases he0 with rfl | rfl <;> decide
  have hs1 : wrap64 e0 = e0 := by rcases he0 with rfl | rfl <;> exact wrap64_id (by omega) (by omega)
  have hs2 : IntKind.i64.wrap e0 = e0 := by rcases he0 with rfl | rfl <;> decide
  have hX := Aside0.mk (blk_new w (.cells #[.int .u8 kd, .int .u64 hi, .int .u64 lo, .int .u64 id, .int .u64 par, .string nm, .int .i64 st, .int .i64 en, .bool bad, .slice A l.length c, .int .u64 rv, .string k, .int .u64 wt, .int .i64 t, .string b] 38 (0, 0)))
  have HB := Aside0.mk (below_alloc (Below.refl w.heap.size w) (.cells #[.int .u8 kd, .int .u64 hi, .int .u64 lo, .int .u64 id, .int .u64 par, .string nm, .int .i64 st, .int .i64 en, .bool bad, .slice A l.length c, .int .u64 rv, .string k, .int .u64 wt, .int .i64 t, .string b] 38 (0, 0)))
  have hrA := Aside0.mk (Kd.C_below hr HB.out)
  have hu38 := Try.underlying38
  have hu26 := Try.underlying26
  have hu29 := Try.underlying29
  go_enter Try.func16, Try.ntmps16
  go_upto_region 1 with (fail)
  generalize w.alloc (.cells #[.int .u8 kd, .int .u64 hi, .int .u64 lo, .int .u64 id, .int .u64 par, .string nm, .int .i64 st, .int .i64 en, .bool bad, .slice A l.length c, .int .u64 rv, .string k, .int .u64 wt, .int .i64 t, .string b] 38 (0, 0)) = w1 at *
  obtain ⟨z0, z1, z2, z3, z4, z5, z6, z7, z8, z9, z10, z11, z12, z13, z14⟩ := RfC.cells15 hX.out
  go_wp2_with (fail)
  refine (Itm.Encode_calls' kd hi lo id par nm st en bad A c l rv k wt t b M e0 w1 hrA.out hc hE.out).mono ?_
  rintro e w2 ⟨v2, rfl, hN2, hB2⟩
  replace hN2 := Aside0.mk (Kd.R_lower hN2 (Nat.zero_le _))
  replace HB := Aside0.mk (below_step HB.out hB2)
  replace hX := Aside0.mk (blk_below hX.out hB2)
  clear hB2 hrA z0 z1 z2 z3 z4 z5 z6 z7 z8 z9 z10 z11 z12 z13 z14
  obtain ⟨z0, z1, z2, z3, z4, z5, z6, z7, z8, z9, z10, z11, z12, z13, z14⟩ := RfC.cells15 hX.out
  go_wp2_with (fail)
  refine (RfC.encode_calls kd hi lo id par nm st en bad A c l rv k wt t b M e0 w2 (Kd.C_below hr HB.out) hc hE2.out).mono ?_
  rintro e w3 ⟨v3, rfl, hN3, hB3⟩
  replace hN3 := Aside0.mk (Kd.R_lower hN3 (Nat.zero_le _))
  replace hN2 := Aside0.mk (Kd.R_below hN2.out hB3)
  replace HB := Aside0.mk (below_step HB.out hB3)
  replace hX := Aside0.mk (blk_below hX.out hB3)
  clear hB3 z0 z1 z2 z3 z4 z5 z6 z7 z8 z9 z10 z11 z12 z13 z14 hE hE2
  go_upto_region 3 with (fail)
  replace hN2 := Aside0.mk (Kd.R_drew hN2.out)
  replace hN3 := Aside0.mk (Kd.R_drew hN3.out)
  replace hX := Aside0.mk (blk_drew hX.out)
  replace HB := Aside0.mk (below_drew1 HB.out)

  refine start_ (n := 30) (S := fun w' => ((convert 22 9 v2).run Try.prog w' = .ok (.string (strOfNums M)) w' ∧ (convert 22 9 v3).run Try.prog w' = .ok (.string (strOfNums M)) w') ∧ w'.cell? ⟨w.heap.size, 0, none⟩ = some (.int .u8 kd) ∧ w'.cell? ⟨w.heap.size, 1, none⟩ = some (.int .u64 hi) ∧ w'.cell? ⟨w.heap.size, 2, none⟩ = some (.int .u64 lo) ∧ w'.cell? ⟨w.heap.size, 3, none⟩ = some (.int .u64 id) ∧ w'.cell? ⟨w.heap.size, 4, none⟩ = some (.int .u64 par) ∧ w'.cell? ⟨w.heap.size, 5, none⟩ = some (.string nm) ∧ w'.cell? ⟨w.heap.size, 6, none⟩ = some (.int .i64 st) ∧ w'.cell? ⟨w.heap.size, 7, none⟩ = some (.int .i64 en) ∧ w'.cell? ⟨w.heap.size, 8, none⟩ = some (.bool bad) ∧ w'.cell? ⟨w.heap.size, 9, none⟩ = some (.slice A l.length c) ∧ w'.cell? ⟨w.heap.size, 10, none⟩ = some (.int .u64 rv) ∧ w'.cell? ⟨w.heap.size, 11, none⟩ = some (.string k) ∧ w'.cell? ⟨w.heap.size, 12, none⟩ = some (.int .u64 wt) ∧ w'.cell? ⟨w.heap.size, 13, none⟩ = some (.int .i64 t) ∧ w'.cell? ⟨w.heap.size, 14, none⟩ = some (.string b)) (ds := []) #[false, false, false, false, false, false, false, false, false, false, false, false, false, false, false, false, false, false, false, false, false, false, false, false, false, false, false, false, false, false] (by kernel_rfl) rfl rfl ⟨⟨own_string (P := Try.prog) Try.underlying22 Try.underlying5 Try.underlying9 (Kd.own_of_R hN2.out), own_string (P := Try.prog) Try.underlying22 Try.underlying5 Try.underlying9 (Kd.own_of_R hN3.out)⟩, RfC.cells15 hX.out⟩ (fun hHeld => ?_)
  refine with_tabW Tel.T3_tab Tel.T3_bits (fun HT_ HW_ => ?_)
  generalize w3.drew = w4 at hN2 hN3 hX HB hHeld ⊢
  refine pure_ (i := 0) (N := (some 17)) (v := ?_) (a' := ?_) #[true, false, false, false, false, false, false, false, false, false, false, false, false, false, false, false, false, false, false, false, false, false, false, false, false, false, false, false, false, false] rfl rfl (any_of HT_.out (by kernel_rfl)) (fun _ _ _ h => h) (Or.inl ⟨by rfl, ?_⟩) ?_ ?_
  rotate_left
  · intro w'
    go_simp
    with_reducible rfl
  rotate_left
  · simp only [ps_]
    rfl
  refine take_ (i := 1) (N := (some 18)) (v := ?_) (a' := ?_) #[true, true, false, false, false, false, false, false, false, false, false, false, false, false, false, false, false, false, false, false, false, false, false, false, false, false, false, false, false, false] rfl rfl (take_ofW HT_.out HW_.out (by kernel_rfl)) (fun _ _ _ h => h) (Or.inl ⟨by rfl, ?_⟩) hHeld ?_ ?_
  rotate_left
  · rintro w' ⟨⟨x0, x1⟩, s0_, s1_, s2_, s3_, s4_, s5_, s6_, s7_, s8_, s9_, s10_, s11_, s12_, s13_, s14_⟩
    go_simp
    with_reducible rfl
  rotate_left
  · simp only [ps_]
    rfl
  refine pure_ (i := 2) (N := (some 19)) (v := ?_) (a' := ?_) #[true, true, true, false, false, false, false, false, false, false, false, false, false, false, false, false, false, false, false, false, false, false, false, false, false, false, false, false, false, false] rfl rfl (any_of HT_.out (by kernel_rfl)) (fun _ _ _ h => h) (Or.inl ⟨by rfl, ?_⟩) ?_ ?_
  rotate_left
  · intro w'
    go_simp
    with_reducible rfl
  rotate_left
  · simp only [ps_]
    rfl
  refine take_ (i := 3) (N := (some 20)) (v := ?_) (a' := ?_) #[true, true, true, true, false, false, false, false, false, false, false, false, false, false, false, false, false, false, false, false, false, false, false, false, false, false, false, false, false, false] rfl rfl (take_ofW HT_.out HW_.out (by kernel_rfl)) (fun _ _ _ h => h) (Or.inl ⟨by rfl, ?_⟩) hHeld ?_ ?_
  rotate_left
  · rintro w' ⟨⟨x0, x1⟩, s0_, s1_, s2_, s3_, s4_, s5_, s6_, s7_, s8_, s9_, s10_, s11_, s12_, s13_, s14_⟩
    go_simp
    with_reducible rfl
  rotate_left
  · simp only [ps_]
    rfl
  refine pure_ (i := 4) (N := (some 21)) (v := .bool true) (a' := ?_) #[true, true, true, true, true, false, false, false, false, false, false, false, false, false, false, false, false, false, false, false, false, false, false, false, false, false, false, false, false, false] rfl rfl (any_of HT_.out (by kernel_rfl)) (fun _ _ _ h => h) (Or.inl ⟨by rfl, ?_⟩) ?_ ?_
  · intro w'
    go_simp
    first | done | with_reducible rfl | rfl | (simp [*]; done)
  rotate_left
  · simp only [ps_]
    rfl
  refine pure_ (i := 5) (N := (some 22)) (v := .bool true) (a' := ?_) #[true, true, true, true, true, true, false, false, false, false, false, false, false, false, false, false, false, false, false, false, false, false, false, false, false, false, false, false, false, false] rfl rfl (any_of HT_.out (by kernel_rfl)) (fun _ _ _ h => h) (Or.inl ⟨by rfl, ?_⟩) ?_ ?_
  · intro w'
    go_simp
    first | done | with_reducible rfl | rfl | (simp [*]; done)
  rotate_left
  · simp only [ps_]
    rfl
  refine pure_ (i := 6) (N := (some 23)) (v := ?_) (a' := ?_) #[true, true, true, true, true, true, true, false, false, false, false, false, false, false, false, false, false, false, false, false, false, false, false, false, false, false, false, false, false, false] rfl rfl (any_of HT_.out (by kernel_rfl)) (fun _ _ _ h => h) (Or.inl ⟨by rfl, ?_⟩) ?_ ?_
  rotate_left
  · intro w'
    go_simp
    with_reducible rfl
  rotate_left
  · simp only [ps_]
    rfl
  refine pure_ (i := 7) (N := (some 24)) (v := .int .i64 e0) (a' := ?_) #[true, true, true, true, true, true, true, true, false, false, false, false, false, false, false, false, false, false, false, false, false, false, false, false, false, false, false, false, false, false] rfl rfl (any_of HT_.out (by kernel_rfl)) (fun _ _ _ h => h) (Or.inl ⟨by rfl, ?_⟩) ?_ ?_
  · intro w'
    go_simp
    first | done | with_reducible rfl | exact hs2
  rotate_left
  · simp only [ps_]
    rfl
  refine pure_ (i := 8) (N := (some 25)) (v := ?_) (a' := ?_) #[true, true, true, true, true, true, true, true, true, false, false, false, false, false, false, false, false, false, false, false, false, false, false, false, false, false, false, false, false, false] rfl rfl (any_of HT_.out (by kernel_rfl)) (fun _ _ _ h => h) (Or.inl ⟨by rfl, ?_⟩) ?_ ?_
  rotate_left
  · intro w'
    go_simp
    with_reducible rfl
  rotate_left
  · simp only [ps_]
    rfl
  refine pure_ (i := 9) (N := (some 26)) (v := .bool true) (a' := ?_) #[true, true, true, true, true, true, true, true, true, true, false, false, false, false, false, false, false, false, false, false, false, false, false, false, false, false, false, false, false, false] rfl rfl (any_of HT_.out (by kernel_rfl)) (fun _ _ _ h => h) (Or.inl ⟨by rfl, ?_⟩) ?_ ?_
  · intro w'
    go_simp
    first | done | with_reducible rfl | rfl | (simp [*]; done)
  rotate_left
  · simp only [ps_]
    rfl
  refine pure_ (i := 10) (N := (some 27)) (v := .bool true) (a' := ?_) #[true, true, true, true, true, true, true, true, true, true, true, false, false, false, false, false, false, false, false, false, false, false, false, false, false, false, false, false, false, false] rfl rfl (any_of HT_.out (by kernel_rfl)) (fun _ _ _ h => h) (Or.inl ⟨by rfl, ?_⟩) ?_ ?_
  · intro w'
    go_simp
    first | done | with_reducible rfl | rfl | (simp [*]; done)
  rotate_left
  · simp only [ps_]
    rfl
  refine pure_ (i := 11) (N := (some 28)) (v := .bool true) (a' := ?_) #[true, true, true, true, true, true, true, true, true, true, true, true, false, false, false, false, false, false, false, false, false, false, false, false, false, false, false, false, false, false] rfl rfl (any_of HT_.out (by kernel_rfl)) (fun _ _ _ h => h) (Or.inl ⟨by rfl, ?_⟩) ?_ ?_
  · intro w'
    go_simp
    first | done | with_reducible rfl | rfl | (simp [*]; done)
  rotate_left
  · simp only [ps_]
    rfl
  refine pure_ (i := 12) (N := (some 29)) (v := ?_) (a' := ?_) #[true, true, true, true, true, true, true, true, true, true, true, true, true, false, false, false, false, false, false, false, false, false, false, false, false, false, false, false, false, false] rfl rfl (any_of HT_.out (by kernel_rfl)) (fun _ _ _ h => h) (Or.inl ⟨by rfl, ?_⟩) ?_ ?_
  rotate_left
  · intro w'
    go_simp
    with_reducible rfl
  rotate_left
  · simp only [ps_]
    rfl
  refine pure_ (i := 15) (N := (some 32)) (v := ?_) (a' := ?_) #[true, true, true, true, true, true, true, true, true, true, true, true, true, false, false, true, false, false, false, false, false, false, false, false, false, false, false, false, false, false] rfl rfl (any_of HT_.out (by kernel_rfl)) (fun _ _ _ h => h) (Or.inl ⟨by rfl, ?_⟩) ?_ ?_
  rotate_left
  · intro w'
    go_simp
    with_reducible rfl
  rotate_left
  · simp only [ps_]
    rfl
  refine take_ (i := 13) (N := (some 30)) (v := ?_) (a' := ?_) #[true, true, true, true, true, true, true, true, true, true, true, true, true, true, false, true, false, false, false, false, false, false, false, false, false, false, false, false, false, false] rfl rfl (take_ofW HT_.out HW_.out (by kernel_rfl)) (fun _ _ _ h => h) (Or.inl ⟨by rfl, ?_⟩) hHeld ?_ ?_
  rotate_left
  · rintro w' ⟨⟨x0, x1⟩, s0_, s1_, s2_, s3_, s4_, s5_, s6_, s7_, s8_, s9_, s10_, s11_, s12_, s13_, s14_⟩
    go_simp
    with_reducible rfl
  rotate_left
  · simp only [ps_]
    rfl
  refine take_ (i := 16) (N := (some 33)) (v := ?_) (a' := ?_) #[true, true, true, true, true, true, true, true, true, true, true, true, true, true, false, true, true, false, false, false, false, false, false, false, false, false, false, false, false, false] rfl rfl (take_ofW HT_.out HW_.out (by kernel_rfl)) (fun _ _ _ h => h) (Or.inl ⟨by rfl, ?_⟩) hHeld ?_ ?_
  rotate_left
  · rintro w' ⟨⟨x0, x1⟩, s0_, s1_, s2_, s3_, s4_, s5_, s6_, s7_, s8_, s9_, s10_, s11_, s12_, s13_, s14_⟩
    go_simp
    with_reducible rfl
  rotate_left
  · simp only [ps_]
    rfl
  refine one_ (i := 14) (N := (some 31)) #[true, true, true, true, true, true, true, true, true, true, true, true, true, true, true, true, true, false, false, false, false, false, false, false, false, false, false, false, false, false] rfl rfl (one_of HT_.out (by kernel_rfl)) (by decide) (fun K hK => ?_)
  refine goes_ Try.func13 (by kernel_rfl) rfl #[.agg #[.int .u64 hi, .int .u64 lo, .int .u64 id, .int .u64 par, .string nm, .int .i64 st, .int .i64 en, .bool bad, .slice A l.length c, .int .u64 rv]] (by rfl) rfl rfl (by (try simp only [List.map_toArray, List.map_cons, List.map_nil]); first | done | rfl) ?_
  refine (Itm.RightSpan_calls hi lo id par nm st en bad A c l rv w4 (Kd.C_below hr HB.out) hc hG.out.2.2.2.2.2.2.2.2 hG.out.2.2.2.2.2.2.1).mono ?_
  rintro e w5 ⟨rfl, hb⟩
  refine ⟨_, rfl, ?_⟩
  replace hN2 := Aside0.mk (Kd.R_below hN2.out hb)
  replace hN3 := Aside0.mk (Kd.R_below hN3.out hb)
  replace hX := Aside0.mk (blk_below hX.out hb)
  replace HB := Aside0.mk (below_step HB.out hb)
  clear hb
  refine hK.out _ _ ⟨⟨own_string (P := Try.prog) Try.underlying22 Try.underlying5 Try.underlying9 (Kd.own_of_R hN2.out), own_string (P := Try.prog) Try.underlying22 Try.underlying5 Try.underlying9 (Kd.own_of_R hN3.out)⟩, RfC.cells15 hX.out⟩ (fun hHeld2 => ?_)
  clear hK K hHeld
  have hHeld := hHeld2
  clear hHeld2
  refine norm_ (a' := ?_) ?_ ?_
  rotate_left
  · show Act.put _ (some 31) _ = _
    simp only [ps_]
    rfl
  refine one_ (i := 17) (N := (some 34)) #[true, true, true, true, true, true, true, true, true, true, true, true, true, true, true, true, true, true, false, false, false, false, false, false, false, false, false, false, false, false] rfl rfl (one_of HT_.out (by kernel_rfl)) (by decide) (fun K hK => ?_)
  refine goes_ Try.func27 (by kernel_rfl) rfl #[.agg #[.int .u64 hi, .int .u64 lo, .int .u64 id, .int .u64 par, .string nm, .int .i64 st, .int .i64 en, .bool bad, .slice A l.length c, .int .u64 rv]] (by rfl) rfl rfl (by (try simp only [List.map_toArray, List.map_cons, List.map_nil]); first | done | rfl) ?_
  refine (RfR.right_calls hi lo id par nm st en bad A c l rv w5 (Kd.C_below hr HB.out) hc hG.out.1 hG.out.2.1 hl (Nat.le_trans hG.out.2.2.2.2.2.2.1 (by decide)) (fun a ha => Nat.le_trans (hG.out.2.2.2.2.2.2.2.2 a ha) (by decide))).mono ?_
  rintro e w6 ⟨rfl, hb⟩
  refine ⟨_, rfl, ?_⟩
  replace hN2 := Aside0.mk (Kd.R_below hN2.out hb)
  replace hN3 := Aside0.mk (Kd.R_below hN3.out hb)
  replace hX := Aside0.mk (blk_below hX.out hb)
  replace HB := Aside0.mk (below_step HB.out hb)
  clear hb
  refine hK.out _ _ ⟨⟨own_string (P := Try.prog) Try.underlying22 Try.underlying5 Try.underlying9 (Kd.own_of_R hN2.out), own_string (P := Try.prog) Try.underlying22 Try.underlying5 Try.underlying9 (Kd.own_of_R hN3.out)⟩, RfC.cells15 hX.out⟩ (fun hHeld2 => ?_)
  clear hK K hHeld
  have hHeld := hHeld2
  clear hHeld2
  refine norm_ (a' := ?_) ?_ ?_
  rotate_left
  · show Act.put _ (some 34) _ = _
    simp only [ps_]
    rfl
  refine pure_ (i := 18) (N := (some 35)) (v := .bool true) (a' := ?_) #[true, true, true, true, true, true, true, true, true, true, true, true, true, true, true, true, true, true, true, false, false, false, false, false, false, false, false, false, false, false] rfl rfl (any_of HT_.out (by kernel_rfl)) (fun _ _ _ h => h) (Or.inl ⟨by rfl, ?_⟩) ?_ ?_
  · intro w'
    go_simp
    first | done | with_reducible rfl | rfl | (simp [*]; done)
  rotate_left
  · simp only [ps_]
    rfl
  refine pure_ (i := 19) (N := (some 36)) (v := .bool true) (a' := ?_) #[true, true, true, true, true, true, true, true, true, true, true, true, true, true, true, true, true, true, true, true, false, false, false, false, false, false, false, false, false, false] rfl rfl (any_of HT_.out (by kernel_rfl)) (fun _ _ _ h => h) (Or.inl ⟨by rfl, ?_⟩) ?_ ?_
  · intro w'
    go_simp
    first | done | with_reducible rfl | rfl | (simp [*]; done)
  rotate_left
  · simp only [ps_]
    rfl
  refine pure_ (i := 20) (N := (some 37)) (v := .bool true) (a' := ?_) #[true, true, true, true, true, true, true, true, true, true, true, true, true, true, true, true, true, true, true, true, true, false, false, false, false, false, false, false, false, false] rfl rfl (any_of HT_.out (by kernel_rfl)) (fun _ _ _ h => h) (Or.inl ⟨by rfl, ?_⟩) ?_ ?_
  · intro w'
    go_simp
    first | done | with_reducible rfl | rfl | (simp [*]; done)
  rotate_left
  · simp only [ps_]
    rfl
  refine pure_ (i := 21) (N := (some 38)) (v := ?_) (a' := ?_) #[true, true, true, true, true, true, true, true, true, true, true, true, true, true, true, true, true, true, true, true, true, true, false, false, false, false, false, false, false, false] rfl rfl (any_of HT_.out (by kernel_rfl)) (fun _ _ _ h => h) (Or.inl ⟨by rfl, ?_⟩) ?_ ?_
  rotate_left
  · intro w'
    go_simp
    with_reducible rfl
  rotate_left
  · simp only [ps_]
    rfl
  refine pure_ (i := 24) (N := (some 41)) (v := ?_) (a' := ?_) #[true, true, true, true, true, true, true, true, true, true, true, true, true, true, true, true, true, true, true, true, true, true, false, false, true, false, false, false, false, false] rfl rfl (any_of HT_.out (by kernel_rfl)) (fun _ _ _ h => h) (Or.inl ⟨by rfl, ?_⟩) ?_ ?_
  rotate_left
  · intro w'
    go_simp
    with_reducible rfl
  rotate_left
  · simp only [ps_]
    rfl
  refine take_ (i := 22) (N := (some 39)) (v := ?_) (a' := ?_) #[true, true, true, true, true, true, true, true, true, true, true, true, true, true, true, true, true, true, true, true, true, true, true, false, true, false, false, false, false, false] rfl rfl (take_ofW HT_.out HW_.out (by kernel_rfl)) (fun _ _ _ h => h) (Or.inl ⟨by rfl, ?_⟩) hHeld ?_ ?_
  rotate_left
  · rintro w' ⟨⟨x0, x1⟩, s0_, s1_, s2_, s3_, s4_, s5_, s6_, s7_, s8_, s9_, s10_, s11_, s12_, s13_, s14_⟩
    go_simp
    with_reducible rfl
  rotate_left
  · simp only [ps_]
    rfl
  refine take_ (i := 25) (N := (some 42)) (v := ?_) (a' := ?_) #[true, true, true, true, true, true, true, true, true, true, true, true, true, true, true, true, true, true, true, true, true, true, true, false, true, true, false, false, false, false] rfl rfl (take_ofW HT_.out HW_.out (by kernel_rfl)) (fun _ _ _ h => h) (Or.inl ⟨by rfl, ?_⟩) hHeld ?_ ?_
  rotate_left
  · rintro w' ⟨⟨x0, x1⟩, s0_, s1_, s2_, s3_, s4_, s5_, s6_, s7_, s8_, s9_, s10_, s11_, s12_, s13_, s14_⟩
    go_simp
    with_reducible rfl
  rotate_left
  · simp only [ps_]
    rfl
  refine one_ (i := 23) (N := (some 40)) #[true, true, true, true, true, true, true, true, true, true, true, true, true, true, true, true, true, true, true, true, true, true, true, true, true, true, false, false, false, false] rfl rfl (one_of HT_.out (by kernel_rfl)) (by decide) (fun K hK => ?_)
  refine goes_ Try.func14 (by kernel_rfl) rfl #[.agg #[.string k, .int .u64 wt, .int .i64 t, .string b]] (by rfl) rfl rfl (by (try simp only [List.map_toArray, List.map_cons, List.map_nil]); first | done | rfl) ?_
  refine (Itm.RightLog_calls k wt t b w6 hG.out.2.2.2.2.2.2.2.1).mono ?_
  rintro e w7 ⟨rfl, hb⟩
  refine ⟨_, rfl, ?_⟩
  replace hN2 := Aside0.mk (Kd.R_below hN2.out hb)
  replace hN3 := Aside0.mk (Kd.R_below hN3.out hb)
  replace hX := Aside0.mk (blk_below hX.out hb)
  replace HB := Aside0.mk (below_step HB.out hb)
  clear hb
  refine hK.out _ _ ⟨⟨own_string (P := Try.prog) Try.underlying22 Try.underlying5 Try.underlying9 (Kd.own_of_R hN2.out), own_string (P := Try.prog) Try.underlying22 Try.underlying5 Try.underlying9 (Kd.own_of_R hN3.out)⟩, RfC.cells15 hX.out⟩ (fun hHeld2 => ?_)
  clear hK K hHeld
  have hHeld := hHeld2
  clear hHeld2
  refine norm_ (a' := ?_) ?_ ?_
  rotate_left
  · show Act.put _ (some 40) _ = _
    simp only [ps_]
    rfl
  refine one_ (i := 26) (N := (some 43)) #[true, true, true, true, true, true, true, true, true, true, true, true, true, true, true, true, true, true, true, true, true, true, true, true, true, true, true, false, false, false] rfl rfl (one_of HT_.out (by kernel_rfl)) (by decide) (fun K hK => ?_)
  refine goes_ Try.func28 (by kernel_rfl) rfl #[.agg #[.string k, .int .u64 wt, .int .i64 t, .string b]] (by rfl) rfl rfl (by (try simp only [List.map_toArray, List.map_cons, List.map_nil]); first | done | rfl) ?_
  refine (RfN.log_calls k wt t b w7 (Nat.le_trans hG.out.2.2.2.2.2.2.2.1 (by decide))).mono ?_
  rintro e w8 ⟨rfl, hb⟩
  refine ⟨_, rfl, ?_⟩
  replace hN2 := Aside0.mk (Kd.R_below hN2.out hb)
  replace hN3 := Aside0.mk (Kd.R_below hN3.out hb)
  replace hX := Aside0.mk (blk_below hX.out hb)
  replace HB := Aside0.mk (below_step HB.out hb)
  clear hb
  refine hK.out _ _ ⟨⟨own_string (P := Try.prog) Try.underlying22 Try.underlying5 Try.underlying9 (Kd.own_of_R hN2.out), own_string (P := Try.prog) Try.underlying22 Try.underlying5 Try.underlying9 (Kd.own_of_R hN3.out)⟩, RfC.cells15 hX.out⟩ (fun hHeld2 => ?_)
  clear hK K hHeld
  have hHeld := hHeld2
  clear hHeld2
  refine norm_ (a' := ?_) ?_ ?_
  rotate_left
  · show Act.put _ (some 43) _ = _
    simp only [ps_]
    rfl
  refine pure_ (i := 27) (N := (some 44)) (v := .bool true) (a' := ?_) #[true, true, true, true, true, true, true, true, true, true, true, true, true, true, true, true, true, true, true, true, true, true, true, true, true, true, true, true, false, false] rfl rfl (any_of HT_.out (by kernel_rfl)) (fun _ _ _ h => h) (Or.inl ⟨by rfl, ?_⟩) ?_ ?_
  · intro w'
    go_simp
    first | done | with_reducible rfl | rfl | (simp [*]; done)
  rotate_left
  · simp only [ps_]
    rfl
  refine pure_ (i := 28) (N := (some 45)) (v := .bool true) (a' := ?_) #[true, true, true, true, true, true, true, true, true, true, true, true, true, true, true, true, true, true, true, true, true, true, true, true, true, true, true, true, true, false] rfl rfl (any_of HT_.out (by kernel_rfl)) (fun _ _ _ h => h) (Or.inl ⟨by rfl, ?_⟩) ?_ ?_
  · intro w'
    go_simp
    first | done | with_reducible rfl | rfl | (simp [*]; done)
  rotate_left
  · simp only [ps_]
    rfl
  refine pure_ (i := 29) (N := (some 2)) (v := ?_) (a' := ?_) #[true, true, true, true, true, true, true, true, true, true, true, true, true, true, true, true, true, true, true, true, true, true, true, true, true, true, true, true, true, true] rfl rfl (any_of HT_.out (by kernel_rfl)) (fun _ _ _ h => h) (Or.inl ⟨by rfl, ?_⟩) ?_ ?_
  rotate_left
  · intro w'
    go_simp
    with_reducible rfl
  rotate_left
  · simp only [ps_]
    rfl
  refine done_ (done_of HT_.out (by kernel_rfl)) ?_
  clear HT_
  clear hHeld
  go_wp2_with (fail)
  go_ret
  exact ⟨rfl, HB.out⟩
end Go.Proofs.Ytfapckmobeppnaa.Px
