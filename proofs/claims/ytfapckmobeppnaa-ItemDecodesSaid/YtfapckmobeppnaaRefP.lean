/- telemeterref03.span by hand: it tells what the program's span tells. -/
import Derived.Test.YtfapckmobeppnaaRefL
namespace Go.Proofs.Ytfapckmobeppnaa.Px
open Go.RowKit Go.Proofs.YtfapckmobeppnaaW.PrintWords Go.Proofs.YtfapckmobeppnaaW.PrintLast Go.Proofs.YtfapckmobeppnaaW.PrintMore
set_option linter.unusedVariables false
set_option linter.unusedSimpArgs false

def RfP.T4 : Bool × List (List Nat × List Nat) := (true, [([], []), ([], []), ([1], [1]), ([2], [2]), ([], []), ([4], [4]), ([5, 3], [5]), ([], []), ([7], [7]), ([8, 6], [8]), ([], []), ([10], [10]), ([11, 9], [11]), ([], []), ([13], [13]), ([14, 12], [14]), ([], []), ([16], [16]), ([17], [17]), ([18, 15], [18]), ([], []), ([20], [20]), ([21], [21]), ([22, 19], [22]), ([], []), ([24, 23], [24]), ([], []), ([26], [26]), ([27, 25], [27]), ([0, 3, 6, 9, 12, 15, 19, 23, 25, 28], [0, 3, 6, 9, 12, 15, 19, 23, 25, 28]), ([29, 28, 0, 1, 2, 3, 4, 5, 6, 7, 8, 9, 10, 11, 12, 13, 14, 15, 16, 17, 18, 19, 20, 21, 22, 23, 24, 25, 26, 27, 28, 29], [29])])
theorem RfP.T4_tab : rtab .any (opsOf Try.f29 4) = RfP.T4 := by kernel_rfl
def RfP.T4.B : List Nat := [0, 0, 2, 6, 0, 16, 62, 0, 128, 510, 0, 1024, 4094, 0, 8192, 32766, 0, 65536, 196608, 524286, 0, 1048576, 3145728, 8388606, 0, 33554430, 0, 67108864, 268435454, 536870911, 1073741823]
theorem RfP.T4_bits : waitsOk RfP.T4.2 RfP.T4.B = true := by kernel_rfl
def RfP.T8 : Bool × List (List Nat × List Nat) := (true, [([], []), ([], []), ([1], [1]), ([], []), ([2, 3], [2, 3]), ([4], [4]), ([5], [5]), ([6], [6]), ([7], [7]), ([], []), ([9], [9]), ([], []), ([10, 11], [10, 11]), ([12], [12]), ([13], [13]), ([8, 14], [8, 14]), ([15, 7], [15]), ([16], [16]), ([0, 17, 16], [0, 17]), ([18, 18, 0, 1, 2, 3, 4, 5, 6, 7, 8, 9, 10, 11, 12, 13, 14, 15, 16, 17, 18], [0, 18])])
theorem RfP.T8_tab : rtab .any (opsOf Try.f29 8) = RfP.T8 := by kernel_rfl
def RfP.T8.B : List Nat := [0, 0, 2, 0, 14, 30, 62, 126, 254, 0, 512, 0, 3584, 7680, 15872, 32766, 65534, 131070, 262143, 524287]
theorem RfP.info22 : (Try.prog.info? 22).map (fun i => (i.zero, i.size, i.bytes)) = some (some (.slice none 0 0), 1, 24) := by kernel_rfl
theorem RfP.take (l : List S36) (i : Nat) (hi : i < l.length) : Itm.attL (l.take (i + 1)) = Itm.attL (l.take i) ++ Itm.txt 10 (Itm.attT (rd_T36 l (i : Int))) := Itm.attL_take l i hi
set_option maxHeartbeats 8000000 in
set_option maxRecDepth 100000 in
theorem RfP.span_calls (hi lo id par : Int) (nm : ByteArray) (st en : Int) (bad : Bool) (A : Option Addr) (c : Nat) (l : List S36) (rv : Int) (w : World) (hr : Kd.C k36 w A l.length l) (hc : l.length ≤ c) (h1 : 0 ≤ hi ∧ hi < 18446744073709551616) (h2 : 0 ≤ lo ∧ lo < 18446744073709551616) (h3 : 0 ≤ id ∧ id < 18446744073709551616) (h4 : 0 ≤ par ∧ par < 18446744073709551616) (h5 : 0 ≤ rv ∧ rv < 18446744073709551616) (hn : nm.size ≤ 60) (hs : 0 ≤ st ∧ st ≤ 1099511627776) (he : 0 ≤ en ∧ en ≤ 1099511627776) (hl : l.length ≤ 8) (hz : ∀ a ∈ l, a.f0.size ≤ 60 ∧ a.f1.size ≤ 60) :
  Calls Try.prog 29 #[.agg #[.int .u64 hi, .int .u64 lo, .int .u64 id, .int .u64 par, .string nm, .int .i64 st, .int .i64 en, .bool bad, .slice A l.length c, .int .u64 rv]] w fun e w' => ∃ v : Value, e = .returned v ∧ Kd.R (Kd.int .u8) 5 w' w.heap.size (fun _ => True) v (1 :: Itm.spanL hi lo id par nm st en bad l rv) ∧ Below w.heap.size w w' := by
 have ws : IntKind.u64.wrap st = st := wrap_u64_id (by omega) (by omega)
 have we : IntKind.u64.wrap en = en := wrap_u64_id (by omega) (by omega)
 have g8 : 0 ≤ (if bad = true then 1 else 0 : Int) ∧ (if bad = true then 1 else 0 : Int) < 18446744073709551616 := by cases bad <;> decide
 replace hr := Aside0.mk hr
 replace hz := Aside0.mk hz
 have HB := Aside0.mk (below_alloc (Below.refl w.heap.size w) (.cells #[.int .u64 hi, .int .u64 lo, .int .u64 id, .int .u64 par, .string nm, .int .i64 st, .int .i64 en, .bool bad, .slice A l.length c, .int .u64 rv] 26 (0, 0)))
 have hb := Aside0.mk (blk_new w (.cells #[.int .u64 hi, .int .u64 lo, .int .u64 id, .int .u64 par, .string nm, .int .i64 st, .int .i64 en, .bool bad, .slice A l.length c, .int .u64 rv] 26 (0, 0)))
 have z7 : (w.alloc (.cells #[.int .u64 hi, .int .u64 lo, .int .u64 id, .int .u64 par, .string nm, .int .i64 st, .int .i64 en, .bool bad, .slice A l.length c, .int .u64 rv] 26 (0, 0))).cell? ⟨w.heap.size, 7, none⟩ = some (.bool bad) := blk_cell hb.out 7
 go_enter Try.func29, Try.ntmps29
 go_upto_region 1 with (fail)
 generalize w.alloc (.cells #[.int .u64 hi, .int .u64 lo, .int .u64 id, .int .u64 par, .string nm, .int .i64 st, .int .i64 en, .bool bad, .slice A l.length c, .int .u64 rv] 26 (0, 0)) = w5 at *
 obtain ⟨B8, hB8⟩ : ∃ B8 : Int, Aside0 (B8 = (if bad = true then 1 else 0)) := ⟨_, ⟨rfl⟩⟩
 rw [← hB8.out] at g8
 rcases (show bad = false ∨ bad = true by cases bad; exact .inl rfl; exact .inr rfl) with hbd | hbd
 all_goals
  go_upto_region 4 with (fail)
  replace hbd := Aside0.mk hbd
  clear z7
  replace hb := Aside0.mk (blk_drew hb.out)
  replace HB := Aside0.mk (below_drew1 HB.out)
  refine start_ (n := 31) (S := fun w' => True) (ds := []) #[false, false, false, false, false, false, false, false, false, false, false, false, false, false, false, false, false, false, false, false, false, false, false, false, false, false, false, false, false, false, false] (by kernel_rfl) rfl rfl trivial (fun hHeld => ?_); refine with_tabW RfP.T4_tab RfP.T4_bits (fun HT_ HW_ => ?_)
  generalize w5.drew = w15 at hb HB hHeld ⊢
  clear hHeld
  refine pure_ (i := 1) (N := (some 9)) (v := ?_) (a' := ?_) #[false, true, false, false, false, false, false, false, false, false, false, false, false, false, false, false, false, false, false, false, false, false, false, false, false, false, false, false, false, false, false] rfl rfl (any_of HT_.out (by kernel_rfl)) (fun _ _ _ h => h) (Or.inl ⟨by rfl, ?_⟩) ?_ ?_
  rotate_left
  ·intro w'
   go_simp
   with_reducible rfl
  rotate_left
  ·simp only [ps_]
   rfl
  refine pure_ (i := 4) (N := (some 12)) (v := ?_) (a' := ?_) #[false, true, false, false, true, false, false, false, false, false, false, false, false, false, false, false, false, false, false, false, false, false, false, false, false, false, false, false, false, false, false] rfl rfl (any_of HT_.out (by kernel_rfl)) (fun _ _ _ h => h) (Or.inl ⟨by rfl, ?_⟩) ?_ ?_
  rotate_left
  ·intro w'
   go_simp
   with_reducible rfl
  rotate_left
  ·simp only [ps_]
   rfl
  refine pure_ (i := 7) (N := (some 15)) (v := ?_) (a' := ?_) #[false, true, false, false, true, false, false, true, false, false, false, false, false, false, false, false, false, false, false, false, false, false, false, false, false, false, false, false, false, false, false] rfl rfl (any_of HT_.out (by kernel_rfl)) (fun _ _ _ h => h) (Or.inl ⟨by rfl, ?_⟩) ?_ ?_
  rotate_left
  ·intro w'
   go_simp
   with_reducible rfl
  rotate_left
  ·simp only [ps_]
   rfl
  refine pure_ (i := 10) (N := (some 18)) (v := ?_) (a' := ?_) #[false, true, false, false, true, false, false, true, false, false, true, false, false, false, false, false, false, false, false, false, false, false, false, false, false, false, false, false, false, false, false] rfl rfl (any_of HT_.out (by kernel_rfl)) (fun _ _ _ h => h) (Or.inl ⟨by rfl, ?_⟩) ?_ ?_
  rotate_left
  ·intro w'
   go_simp
   with_reducible rfl
  rotate_left
  ·simp only [ps_]
   rfl
  refine pure_ (i := 13) (N := (some 21)) (v := ?_) (a' := ?_) #[false, true, false, false, true, false, false, true, false, false, true, false, false, true, false, false, false, false, false, false, false, false, false, false, false, false, false, false, false, false, false] rfl rfl (any_of HT_.out (by kernel_rfl)) (fun _ _ _ h => h) (Or.inl ⟨by rfl, ?_⟩) ?_ ?_
  rotate_left
  ·intro w'
   go_simp
   with_reducible rfl
  rotate_left
  ·simp only [ps_]
   rfl
  refine pure_ (i := 16) (N := (some 24)) (v := ?_) (a' := ?_) #[false, true, false, false, true, false, false, true, false, false, true, false, false, true, false, false, true, false, false, false, false, false, false, false, false, false, false, false, false, false, false] rfl rfl (any_of HT_.out (by kernel_rfl)) (fun _ _ _ h => h) (Or.inl ⟨by rfl, ?_⟩) ?_ ?_
  rotate_left
  ·intro w'
   go_simp
   with_reducible rfl
  rotate_left
  ·simp only [ps_]
   rfl
  refine pure_ (i := 20) (N := (some 28)) (v := ?_) (a' := ?_) #[false, true, false, false, true, false, false, true, false, false, true, false, false, true, false, false, true, false, false, false, true, false, false, false, false, false, false, false, false, false, false] rfl rfl (any_of HT_.out (by kernel_rfl)) (fun _ _ _ h => h) (Or.inl ⟨by rfl, ?_⟩) ?_ ?_
  rotate_left
  ·intro w'
   go_simp
   with_reducible rfl
  rotate_left
  ·simp only [ps_]
   rfl
  refine pure_ (i := 24) (N := (some 32)) (v := ?_) (a' := ?_) #[false, true, false, false, true, false, false, true, false, false, true, false, false, true, false, false, true, false, false, false, true, false, false, false, true, false, false, false, false, false, false] rfl rfl (any_of HT_.out (by kernel_rfl)) (fun _ _ _ h => h) (Or.inl ⟨by rfl, ?_⟩) ?_ ?_
  rotate_left
  ·intro w'
   go_simp
   with_reducible rfl
  rotate_left
  ·simp only [ps_]
   rfl
  refine pure_ (i := 26) (N := (some 34)) (v := ?_) (a' := ?_) #[false, true, false, false, true, false, false, true, false, false, true, false, false, true, false, false, true, false, false, false, true, false, false, false, true, false, true, false, false, false, false] rfl rfl (any_of HT_.out (by kernel_rfl)) (fun _ _ _ h => h) (Or.inl ⟨by rfl, ?_⟩) ?_ ?_
  rotate_left
  ·intro w'
   go_simp
   with_reducible rfl
  rotate_left
  ·simp only [ps_]
   rfl
  refine inv_at [0, 2, 3, 5, 6, 8, 9, 11, 12, 14, 15, 17, 18, 19, 21, 22, 23, 25, 27, 28, 29, 30] (fun a0_ b a w' => ∃ V : Nat → Value, a = putSel a0_ b [(0, 8, V 0), (2, 10, .int .u64 hi), (3, 11, V 3), (5, 13, .int .u64 lo), (6, 14, V 6), (8, 16, .int .u64 id), (9, 17, V 9), (11, 19, .int .u64 par), (12, 20, V 12), (14, 22, .string nm), (15, 23, V 15), (17, 25, .int .i64 st), (18, 26, .int .u64 (IntKind.u64.wrap (st))), (19, 27, V 19), (21, 29, .int .i64 en), (22, 30, .int .u64 (IntKind.u64.wrap (en))), (23, 31, V 23), (25, 33, V 25), (27, 35, .int .u64 rv), (28, 36, V 28), (29, 37, V 29), (30, 4, V 30)] ∧ (w'.heap[w.heap.size]? = some (.cells #[.int .u64 hi, .int .u64 lo, .int .u64 id, .int .u64 par, .string nm, .int .i64 st, .int .i64 en, .bool bad, .slice A l.length c, .int .u64 rv] 26 (0, 0))) ∧ Below w.heap.size w w' ∧ RfL.rows w w' b 29 V [(0, ([1] : List Int)), (3, (Itm.num 1 hi)), (6, (Itm.num 2 lo)), (9, (Itm.num 3 id)), (12, (Itm.num 4 par)), (15, (Itm.txt 5 nm)), (19, (Itm.num 6 st)), (23, (Itm.num 7 en)), (25, (Itm.num 8 B8)), (28, (Itm.num 9 rv))] ∧ (b 29 = true → Kd.N (Kd.slice 5 (Kd.int .u8)) 22 w' w.heap.size (fun k_ => k_ ≠ w.heap.size) (V 29) ([([1] : List Int), (Itm.num 1 hi), (Itm.num 2 lo), (Itm.num 3 id), (Itm.num 4 par), (Itm.txt 5 nm), (Itm.num 6 st), (Itm.num 7 en), (Itm.num 8 B8), (Itm.num 9 rv)] : List (List Int))) ∧ (b 30 = true → V 30 = V 29)) HT_.out HW_.out (by kernel_rfl) (by kernel_rfl) ?_ ?_ ?_
  ·exact ⟨fun _ => .bool false, by simp only [putSel, Bool.false_eq_true, if_false], hb.out, HB.out, RfL.rows_none, fun h_ => absurd h_ (by decide), fun h_ => absurd h_ (by decide)⟩
  ·clear hb HB
   refine steps_cons ?_ ?_
   ·rintro b a w' ⟨V, ha, hB, HB, hr, hN, hX⟩ hb_ hon hoff
    replace ha := Aside0.mk ha
    refine ⟨_, rfl, fun K hK => ?_⟩
    refine Kd.R_lit_step (Kd.int .u8) w'.heap.size 5 ?hg (N := 8) ?hd (xs := ([1] : List Int)) (inner := [.int .u8 1]) (ok := fun _ => True) (okp := fun _ => True) ?hr ?hp (fun _ hk => hk) trivial (Below.refl _ _) (Nat.le_refl _) (by simp) ?_; (case hd => rfl); (case hg => rfl); (case hr => first | (go_simp; done) | (go_simp; rfl)); (case hp => exact (Reps.one (show Kd.M (Kd.int .u8) _ _ _ 1 [.int .u8 1] from rfl) (Reps.none _ _)))
    intro v w2 ho0 hb _ _
    exact hK.out _ _ ⟨RfL.upd V 0 v, by rw [ha.out]; exact putSel_upk 0 hb_ rfl rfl rfl, blk_below hB hb, below_step HB hb, RfL.rows_call hr hb 0 HB.size ho0 (by simp), fun h_ => absurd ((hoff 29 (by kernel_rfl)).symm.trans h_) (by decide), fun h_ => absurd ((hoff 30 (by kernel_rfl)).symm.trans h_) (by decide)⟩
   refine steps_cons ?_ ?_
   ·rintro b a w' ⟨V, ha, hB, HB, hr, hN, hX⟩ hb_ hon hoff
    replace ha := Aside0.mk ha
    refine ⟨_, rfl, fun K hK => ?_⟩
    have eA : a.tmps[9]? = some (.pointer (some ⟨w.heap.size, 0, none⟩)) := by rw [ha.out]; exact (putSel_off rfl).trans rfl
    have hc_ : w'.cell? ⟨w.heap.size, 0, none⟩ = some (.int .u64 hi) := (blk_cell hB 0).trans rfl
    refine value_ (w1 := w') (v := .int .u64 hi) (by rfl) rfl ?_ ?_
    ·go_simp
     try rfl
    exact hK.out _ _ ⟨V, by rw [ha.out]; exact putSel_upk 1 hb_ rfl rfl rfl, hB, HB, RfL.rows_load hr 2 (by simp), fun h_ => absurd ((hoff 29 (by kernel_rfl)).symm.trans h_) (by decide), fun h_ => absurd ((hoff 30 (by kernel_rfl)).symm.trans h_) (by decide)⟩
   refine steps_cons ?_ ?_
   ·rintro b a w' ⟨V, ha, hB, HB, hr, hN, hX⟩ hb_ hon hoff
    replace ha := Aside0.mk ha
    refine ⟨_, rfl, fun K hK => ?_⟩
    have eA : a.tmps[10]? = some (.int .u64 hi) := by rw [ha.out]; exact putSel_on (e := (2, 10, .int .u64 hi)) 1 rfl rfl (hon 2 (by kernel_rfl)) rfl
    refine goes_ Try.func33 (by kernel_rfl) rfl #[.int .i64 1, .int .u64 hi] (by rfl) rfl rfl (by first | (simp only [List.map_toArray, List.map_cons, List.map_nil, Act.eval, Array.getD_eq_getD_getElem?, Option.getD_some, eA]; done) | (simp only [List.map_toArray, List.map_cons, List.map_nil, Act.eval, Array.getD_eq_getD_getElem?, Option.getD_some, eA]; rfl)) ?_
    refine (RfL.number 1 hi _ (by omega) (by omega)).mono ?_
    rintro e w2 ⟨v, rfl, ho0, hb⟩
    refine ⟨_, rfl, ?_⟩
    exact hK.out _ _ ⟨RfL.upd V 3 v, by rw [ha.out]; exact putSel_upk 2 hb_ rfl rfl rfl, blk_below hB hb, below_step HB hb, RfL.rows_call hr hb 3 HB.size ho0 (by simp), fun h_ => absurd ((hoff 29 (by kernel_rfl)).symm.trans h_) (by decide), fun h_ => absurd ((hoff 30 (by kernel_rfl)).symm.trans h_) (by decide)⟩
   refine steps_cons ?_ ?_
   ·rintro b a w' ⟨V, ha, hB, HB, hr, hN, hX⟩ hb_ hon hoff
    replace ha := Aside0.mk ha
    refine ⟨_, rfl, fun K hK => ?_⟩
    have eA : a.tmps[12]? = some (.pointer (some ⟨w.heap.size, 1, none⟩)) := by rw [ha.out]; exact (putSel_off rfl).trans rfl
    have hc_ : w'.cell? ⟨w.heap.size, 1, none⟩ = some (.int .u64 lo) := (blk_cell hB 1).trans rfl
    refine value_ (w1 := w') (v := .int .u64 lo) (by rfl) rfl ?_ ?_
    ·go_simp
     try rfl
    exact hK.out _ _ ⟨V, by rw [ha.out]; exact putSel_upk 3 hb_ rfl rfl rfl, hB, HB, RfL.rows_load hr 5 (by simp), fun h_ => absurd ((hoff 29 (by kernel_rfl)).symm.trans h_) (by decide), fun h_ => absurd ((hoff 30 (by kernel_rfl)).symm.trans h_) (by decide)⟩
   refine steps_cons ?_ ?_
   ·rintro b a w' ⟨V, ha, hB, HB, hr, hN, hX⟩ hb_ hon hoff
    replace ha := Aside0.mk ha
    refine ⟨_, rfl, fun K hK => ?_⟩
    have eA : a.tmps[13]? = some (.int .u64 lo) := by rw [ha.out]; exact putSel_on (e := (5, 13, .int .u64 lo)) 3 rfl rfl (hon 5 (by kernel_rfl)) rfl
    refine goes_ Try.func33 (by kernel_rfl) rfl #[.int .i64 2, .int .u64 lo] (by rfl) rfl rfl (by first | (simp only [List.map_toArray, List.map_cons, List.map_nil, Act.eval, Array.getD_eq_getD_getElem?, Option.getD_some, eA]; done) | (simp only [List.map_toArray, List.map_cons, List.map_nil, Act.eval, Array.getD_eq_getD_getElem?, Option.getD_some, eA]; rfl)) ?_
    refine (RfL.number 2 lo _ (by omega) (by omega)).mono ?_
    rintro e w2 ⟨v, rfl, ho0, hb⟩
    refine ⟨_, rfl, ?_⟩
    exact hK.out _ _ ⟨RfL.upd V 6 v, by rw [ha.out]; exact putSel_upk 4 hb_ rfl rfl rfl, blk_below hB hb, below_step HB hb, RfL.rows_call hr hb 6 HB.size ho0 (by simp), fun h_ => absurd ((hoff 29 (by kernel_rfl)).symm.trans h_) (by decide), fun h_ => absurd ((hoff 30 (by kernel_rfl)).symm.trans h_) (by decide)⟩
   refine steps_cons ?_ ?_
   ·rintro b a w' ⟨V, ha, hB, HB, hr, hN, hX⟩ hb_ hon hoff
    replace ha := Aside0.mk ha
    refine ⟨_, rfl, fun K hK => ?_⟩
    have eA : a.tmps[15]? = some (.pointer (some ⟨w.heap.size, 2, none⟩)) := by rw [ha.out]; exact (putSel_off rfl).trans rfl
    have hc_ : w'.cell? ⟨w.heap.size, 2, none⟩ = some (.int .u64 id) := (blk_cell hB 2).trans rfl
    refine value_ (w1 := w') (v := .int .u64 id) (by rfl) rfl ?_ ?_
    ·go_simp
     try rfl
    exact hK.out _ _ ⟨V, by rw [ha.out]; exact putSel_upk 5 hb_ rfl rfl rfl, hB, HB, RfL.rows_load hr 8 (by simp), fun h_ => absurd ((hoff 29 (by kernel_rfl)).symm.trans h_) (by decide), fun h_ => absurd ((hoff 30 (by kernel_rfl)).symm.trans h_) (by decide)⟩
   refine steps_cons ?_ ?_
   ·rintro b a w' ⟨V, ha, hB, HB, hr, hN, hX⟩ hb_ hon hoff
    replace ha := Aside0.mk ha
    refine ⟨_, rfl, fun K hK => ?_⟩
    have eA : a.tmps[16]? = some (.int .u64 id) := by rw [ha.out]; exact putSel_on (e := (8, 16, .int .u64 id)) 5 rfl rfl (hon 8 (by kernel_rfl)) rfl
    refine goes_ Try.func33 (by kernel_rfl) rfl #[.int .i64 3, .int .u64 id] (by rfl) rfl rfl (by first | (simp only [List.map_toArray, List.map_cons, List.map_nil, Act.eval, Array.getD_eq_getD_getElem?, Option.getD_some, eA]; done) | (simp only [List.map_toArray, List.map_cons, List.map_nil, Act.eval, Array.getD_eq_getD_getElem?, Option.getD_some, eA]; rfl)) ?_
    refine (RfL.number 3 id _ (by omega) (by omega)).mono ?_
    rintro e w2 ⟨v, rfl, ho0, hb⟩
    refine ⟨_, rfl, ?_⟩
    exact hK.out _ _ ⟨RfL.upd V 9 v, by rw [ha.out]; exact putSel_upk 6 hb_ rfl rfl rfl, blk_below hB hb, below_step HB hb, RfL.rows_call hr hb 9 HB.size ho0 (by simp), fun h_ => absurd ((hoff 29 (by kernel_rfl)).symm.trans h_) (by decide), fun h_ => absurd ((hoff 30 (by kernel_rfl)).symm.trans h_) (by decide)⟩
   refine steps_cons ?_ ?_
   ·rintro b a w' ⟨V, ha, hB, HB, hr, hN, hX⟩ hb_ hon hoff
    replace ha := Aside0.mk ha
    refine ⟨_, rfl, fun K hK => ?_⟩
    have eA : a.tmps[18]? = some (.pointer (some ⟨w.heap.size, 3, none⟩)) := by rw [ha.out]; exact (putSel_off rfl).trans rfl
    have hc_ : w'.cell? ⟨w.heap.size, 3, none⟩ = some (.int .u64 par) := (blk_cell hB 3).trans rfl
    refine value_ (w1 := w') (v := .int .u64 par) (by rfl) rfl ?_ ?_
    ·go_simp
     try rfl
    exact hK.out _ _ ⟨V, by rw [ha.out]; exact putSel_upk 7 hb_ rfl rfl rfl, hB, HB, RfL.rows_load hr 11 (by simp), fun h_ => absurd ((hoff 29 (by kernel_rfl)).symm.trans h_) (by decide), fun h_ => absurd ((hoff 30 (by kernel_rfl)).symm.trans h_) (by decide)⟩
   refine steps_cons ?_ ?_
   ·rintro b a w' ⟨V, ha, hB, HB, hr, hN, hX⟩ hb_ hon hoff
    replace ha := Aside0.mk ha
    refine ⟨_, rfl, fun K hK => ?_⟩
    have eA : a.tmps[19]? = some (.int .u64 par) := by rw [ha.out]; exact putSel_on (e := (11, 19, .int .u64 par)) 7 rfl rfl (hon 11 (by kernel_rfl)) rfl
    refine goes_ Try.func33 (by kernel_rfl) rfl #[.int .i64 4, .int .u64 par] (by rfl) rfl rfl (by first | (simp only [List.map_toArray, List.map_cons, List.map_nil, Act.eval, Array.getD_eq_getD_getElem?, Option.getD_some, eA]; done) | (simp only [List.map_toArray, List.map_cons, List.map_nil, Act.eval, Array.getD_eq_getD_getElem?, Option.getD_some, eA]; rfl)) ?_
    refine (RfL.number 4 par _ (by omega) (by omega)).mono ?_
    rintro e w2 ⟨v, rfl, ho0, hb⟩
    refine ⟨_, rfl, ?_⟩
    exact hK.out _ _ ⟨RfL.upd V 12 v, by rw [ha.out]; exact putSel_upk 8 hb_ rfl rfl rfl, blk_below hB hb, below_step HB hb, RfL.rows_call hr hb 12 HB.size ho0 (by simp), fun h_ => absurd ((hoff 29 (by kernel_rfl)).symm.trans h_) (by decide), fun h_ => absurd ((hoff 30 (by kernel_rfl)).symm.trans h_) (by decide)⟩
   refine steps_cons ?_ ?_
   ·rintro b a w' ⟨V, ha, hB, HB, hr, hN, hX⟩ hb_ hon hoff
    replace ha := Aside0.mk ha
    refine ⟨_, rfl, fun K hK => ?_⟩
    have eA : a.tmps[21]? = some (.pointer (some ⟨w.heap.size, 4, none⟩)) := by rw [ha.out]; exact (putSel_off rfl).trans rfl
    have hc_ : w'.cell? ⟨w.heap.size, 4, none⟩ = some (.string nm) := (blk_cell hB 4).trans rfl
    refine value_ (w1 := w') (v := .string nm) (by rfl) rfl ?_ ?_
    ·go_simp
     try rfl
    exact hK.out _ _ ⟨V, by rw [ha.out]; exact putSel_upk 9 hb_ rfl rfl rfl, hB, HB, RfL.rows_load hr 14 (by simp), fun h_ => absurd ((hoff 29 (by kernel_rfl)).symm.trans h_) (by decide), fun h_ => absurd ((hoff 30 (by kernel_rfl)).symm.trans h_) (by decide)⟩
   refine steps_cons ?_ ?_
   ·rintro b a w' ⟨V, ha, hB, HB, hr, hN, hX⟩ hb_ hon hoff
    replace ha := Aside0.mk ha
    refine ⟨_, rfl, fun K hK => ?_⟩
    have eA : a.tmps[22]? = some (.string nm) := by rw [ha.out]; exact putSel_on (e := (14, 22, .string nm)) 9 rfl rfl (hon 14 (by kernel_rfl)) rfl
    refine goes_ Try.func32 (by kernel_rfl) rfl #[.int .i64 5, .string nm] (by rfl) rfl rfl (by first | (simp only [List.map_toArray, List.map_cons, List.map_nil, Act.eval, Array.getD_eq_getD_getElem?, Option.getD_some, eA]; done) | (simp only [List.map_toArray, List.map_cons, List.map_nil, Act.eval, Array.getD_eq_getD_getElem?, Option.getD_some, eA]; rfl)) ?_
    refine (RfL.text 5 nm _ (by omega) (by omega)).mono ?_
    rintro e w2 ⟨v, rfl, ho0, hb⟩
    refine ⟨_, rfl, ?_⟩
    exact hK.out _ _ ⟨RfL.upd V 15 v, by rw [ha.out]; exact putSel_upk 10 hb_ rfl rfl rfl, blk_below hB hb, below_step HB hb, RfL.rows_call hr hb 15 HB.size ho0 (by simp), fun h_ => absurd ((hoff 29 (by kernel_rfl)).symm.trans h_) (by decide), fun h_ => absurd ((hoff 30 (by kernel_rfl)).symm.trans h_) (by decide)⟩
   refine steps_cons ?_ ?_
   ·rintro b a w' ⟨V, ha, hB, HB, hr, hN, hX⟩ hb_ hon hoff
    replace ha := Aside0.mk ha
    refine ⟨_, rfl, fun K hK => ?_⟩
    have eA : a.tmps[24]? = some (.pointer (some ⟨w.heap.size, 5, none⟩)) := by rw [ha.out]; exact (putSel_off rfl).trans rfl
    have hc_ : w'.cell? ⟨w.heap.size, 5, none⟩ = some (.int .i64 st) := (blk_cell hB 5).trans rfl
    refine value_ (w1 := w') (v := .int .i64 st) (by rfl) rfl ?_ ?_
    ·go_simp
     try rfl
    exact hK.out _ _ ⟨V, by rw [ha.out]; exact putSel_upk 11 hb_ rfl rfl rfl, hB, HB, RfL.rows_load hr 17 (by simp), fun h_ => absurd ((hoff 29 (by kernel_rfl)).symm.trans h_) (by decide), fun h_ => absurd ((hoff 30 (by kernel_rfl)).symm.trans h_) (by decide)⟩
   refine steps_cons ?_ ?_
   ·rintro b a w' ⟨V, ha, hB, HB, hr, hN, hX⟩ hb_ hon hoff
    replace ha := Aside0.mk ha
    refine ⟨_, rfl, fun K hK => ?_⟩
    have eA : a.tmps[25]? = some (.int .i64 st) := by rw [ha.out]; exact putSel_on (e := (17, 25, .int .i64 st)) 11 rfl rfl (hon 17 (by kernel_rfl)) rfl
    refine value_ (w1 := w') (v := .int .u64 (IntKind.u64.wrap (st))) (by rfl) rfl ?_ ?_
    ·go_simp
     try rfl
    exact hK.out _ _ ⟨V, by rw [ha.out]; exact putSel_upk 12 hb_ rfl rfl rfl, hB, HB, RfL.rows_load hr 18 (by simp), fun h_ => absurd ((hoff 29 (by kernel_rfl)).symm.trans h_) (by decide), fun h_ => absurd ((hoff 30 (by kernel_rfl)).symm.trans h_) (by decide)⟩
   refine steps_cons ?_ ?_
   ·rintro b a w' ⟨V, ha, hB, HB, hr, hN, hX⟩ hb_ hon hoff
    replace ha := Aside0.mk ha
    refine ⟨_, rfl, fun K hK => ?_⟩
    have eA : a.tmps[26]? = some (.int .u64 (IntKind.u64.wrap (st))) := by rw [ha.out]; exact putSel_on (e := (18, 26, .int .u64 (IntKind.u64.wrap (st)))) 12 rfl rfl (hon 18 (by kernel_rfl)) rfl
    rw [ws] at eA
    refine goes_ Try.func33 (by kernel_rfl) rfl #[.int .i64 6, .int .u64 st] (by rfl) rfl rfl (by first | (simp only [List.map_toArray, List.map_cons, List.map_nil, Act.eval, Array.getD_eq_getD_getElem?, Option.getD_some, eA]; done) | (simp only [List.map_toArray, List.map_cons, List.map_nil, Act.eval, Array.getD_eq_getD_getElem?, Option.getD_some, eA]; rfl)) ?_
    refine (RfL.number 6 st _ (by omega) (by omega)).mono ?_
    rintro e w2 ⟨v, rfl, ho0, hb⟩
    refine ⟨_, rfl, ?_⟩
    exact hK.out _ _ ⟨RfL.upd V 19 v, by rw [ha.out]; exact putSel_upk 13 hb_ rfl rfl rfl, blk_below hB hb, below_step HB hb, RfL.rows_call hr hb 19 HB.size ho0 (by simp), fun h_ => absurd ((hoff 29 (by kernel_rfl)).symm.trans h_) (by decide), fun h_ => absurd ((hoff 30 (by kernel_rfl)).symm.trans h_) (by decide)⟩
   refine steps_cons ?_ ?_
   ·rintro b a w' ⟨V, ha, hB, HB, hr, hN, hX⟩ hb_ hon hoff
    replace ha := Aside0.mk ha
    refine ⟨_, rfl, fun K hK => ?_⟩
    have eA : a.tmps[28]? = some (.pointer (some ⟨w.heap.size, 6, none⟩)) := by rw [ha.out]; exact (putSel_off rfl).trans rfl
    have hc_ : w'.cell? ⟨w.heap.size, 6, none⟩ = some (.int .i64 en) := (blk_cell hB 6).trans rfl
    refine value_ (w1 := w') (v := .int .i64 en) (by rfl) rfl ?_ ?_
    ·go_simp
     try rfl
    exact hK.out _ _ ⟨V, by rw [ha.out]; exact putSel_upk 14 hb_ rfl rfl rfl, hB, HB, RfL.rows_load hr 21 (by simp), fun h_ => absurd ((hoff 29 (by kernel_rfl)).symm.trans h_) (by decide), fun h_ => absurd ((hoff 30 (by kernel_rfl)).symm.trans h_) (by decide)⟩
   refine steps_cons ?_ ?_
   ·rintro b a w' ⟨V, ha, hB, HB, hr, hN, hX⟩ hb_ hon hoff
    replace ha := Aside0.mk ha
    refine ⟨_, rfl, fun K hK => ?_⟩
    have eA : a.tmps[29]? = some (.int .i64 en) := by rw [ha.out]; exact putSel_on (e := (21, 29, .int .i64 en)) 14 rfl rfl (hon 21 (by kernel_rfl)) rfl
    refine value_ (w1 := w') (v := .int .u64 (IntKind.u64.wrap (en))) (by rfl) rfl ?_ ?_
    ·go_simp
     try rfl
    exact hK.out _ _ ⟨V, by rw [ha.out]; exact putSel_upk 15 hb_ rfl rfl rfl, hB, HB, RfL.rows_load hr 22 (by simp), fun h_ => absurd ((hoff 29 (by kernel_rfl)).symm.trans h_) (by decide), fun h_ => absurd ((hoff 30 (by kernel_rfl)).symm.trans h_) (by decide)⟩
   refine steps_cons ?_ ?_
   ·rintro b a w' ⟨V, ha, hB, HB, hr, hN, hX⟩ hb_ hon hoff
    replace ha := Aside0.mk ha
    refine ⟨_, rfl, fun K hK => ?_⟩
    have eA : a.tmps[30]? = some (.int .u64 (IntKind.u64.wrap (en))) := by rw [ha.out]; exact putSel_on (e := (22, 30, .int .u64 (IntKind.u64.wrap (en)))) 15 rfl rfl (hon 22 (by kernel_rfl)) rfl
    rw [we] at eA
    refine goes_ Try.func33 (by kernel_rfl) rfl #[.int .i64 7, .int .u64 en] (by rfl) rfl rfl (by first | (simp only [List.map_toArray, List.map_cons, List.map_nil, Act.eval, Array.getD_eq_getD_getElem?, Option.getD_some, eA]; done) | (simp only [List.map_toArray, List.map_cons, List.map_nil, Act.eval, Array.getD_eq_getD_getElem?, Option.getD_some, eA]; rfl)) ?_
    refine (RfL.number 7 en _ (by omega) (by omega)).mono ?_
    rintro e w2 ⟨v, rfl, ho0, hb⟩
    refine ⟨_, rfl, ?_⟩
    exact hK.out _ _ ⟨RfL.upd V 23 v, by rw [ha.out]; exact putSel_upk 16 hb_ rfl rfl rfl, blk_below hB hb, below_step HB hb, RfL.rows_call hr hb 23 HB.size ho0 (by simp), fun h_ => absurd ((hoff 29 (by kernel_rfl)).symm.trans h_) (by decide), fun h_ => absurd ((hoff 30 (by kernel_rfl)).symm.trans h_) (by decide)⟩
   refine steps_cons ?_ ?_
   ·rintro b a w' ⟨V, ha, hB, HB, hr, hN, hX⟩ hb_ hon hoff
    replace ha := Aside0.mk ha
    refine ⟨_, rfl, fun K hK => ?_⟩
    have eA : a.tmps[32]? = some (.int .u64 B8) := by rw [ha.out, hB8.out, hbd.out]; exact (putSel_off rfl).trans rfl
    refine goes_ Try.func33 (by kernel_rfl) rfl #[.int .i64 8, .int .u64 B8] (by rfl) rfl rfl (by first | (simp only [List.map_toArray, List.map_cons, List.map_nil, Act.eval, Array.getD_eq_getD_getElem?, Option.getD_some, eA]; done) | (simp only [List.map_toArray, List.map_cons, List.map_nil, Act.eval, Array.getD_eq_getD_getElem?, Option.getD_some, eA]; rfl)) ?_
    refine (RfL.number 8 B8 _ (by omega) (by omega)).mono ?_
    rintro e w2 ⟨v, rfl, ho0, hb⟩
    refine ⟨_, rfl, ?_⟩
    exact hK.out _ _ ⟨RfL.upd V 25 v, by rw [ha.out]; exact putSel_upk 17 hb_ rfl rfl rfl, blk_below hB hb, below_step HB hb, RfL.rows_call hr hb 25 HB.size ho0 (by simp), fun h_ => absurd ((hoff 29 (by kernel_rfl)).symm.trans h_) (by decide), fun h_ => absurd ((hoff 30 (by kernel_rfl)).symm.trans h_) (by decide)⟩
   refine steps_cons ?_ ?_
   ·rintro b a w' ⟨V, ha, hB, HB, hr, hN, hX⟩ hb_ hon hoff
    replace ha := Aside0.mk ha
    refine ⟨_, rfl, fun K hK => ?_⟩
    have eA : a.tmps[34]? = some (.pointer (some ⟨w.heap.size, 9, none⟩)) := by rw [ha.out]; exact (putSel_off rfl).trans rfl
    have hc_ : w'.cell? ⟨w.heap.size, 9, none⟩ = some (.int .u64 rv) := (blk_cell hB 9).trans rfl
    refine value_ (w1 := w') (v := .int .u64 rv) (by rfl) rfl ?_ ?_
    ·go_simp
     try rfl
    exact hK.out _ _ ⟨V, by rw [ha.out]; exact putSel_upk 18 hb_ rfl rfl rfl, hB, HB, RfL.rows_load hr 27 (by simp), fun h_ => absurd ((hoff 29 (by kernel_rfl)).symm.trans h_) (by decide), fun h_ => absurd ((hoff 30 (by kernel_rfl)).symm.trans h_) (by decide)⟩
   refine steps_cons ?_ ?_
   ·rintro b a w' ⟨V, ha, hB, HB, hr, hN, hX⟩ hb_ hon hoff
    replace ha := Aside0.mk ha
    refine ⟨_, rfl, fun K hK => ?_⟩
    have eA : a.tmps[35]? = some (.int .u64 rv) := by rw [ha.out]; exact putSel_on (e := (27, 35, .int .u64 rv)) 18 rfl rfl (hon 27 (by kernel_rfl)) rfl
    refine goes_ Try.func33 (by kernel_rfl) rfl #[.int .i64 9, .int .u64 rv] (by rfl) rfl rfl (by first | (simp only [List.map_toArray, List.map_cons, List.map_nil, Act.eval, Array.getD_eq_getD_getElem?, Option.getD_some, eA]; done) | (simp only [List.map_toArray, List.map_cons, List.map_nil, Act.eval, Array.getD_eq_getD_getElem?, Option.getD_some, eA]; rfl)) ?_
    refine (RfL.number 9 rv _ (by omega) (by omega)).mono ?_
    rintro e w2 ⟨v, rfl, ho0, hb⟩
    refine ⟨_, rfl, ?_⟩
    exact hK.out _ _ ⟨RfL.upd V 28 v, by rw [ha.out]; exact putSel_upk 19 hb_ rfl rfl rfl, blk_below hB hb, below_step HB hb, RfL.rows_call hr hb 28 HB.size ho0 (by simp), fun h_ => absurd ((hoff 29 (by kernel_rfl)).symm.trans h_) (by decide), fun h_ => absurd ((hoff 30 (by kernel_rfl)).symm.trans h_) (by decide)⟩
   refine steps_cons ?_ ?_
   ·rintro b a w' ⟨V, ha, hB, HB, hr, hN, hX⟩ hb_ hon hoff
    replace ha := Aside0.mk ha
    refine ⟨_, rfl, fun K hK => ?_⟩
    have h0 := hr (0, ([1] : List Int)) (by simp) (hon 0 (by kernel_rfl)) hb_
    obtain ⟨A0, c0, e0⟩ := Kd.R_slice h0
    rw [show V (0, ([1] : List Int)).1 = .slice A0 (([1] : List Int)).length c0 from e0] at h0
    have t0 : a.tmps[8]? = some (.slice A0 (([1] : List Int)).length c0) := by rw [ha.out]; exact (putSel_on (e := (0, 8, V 0)) 0 rfl rfl (hon 0 (by kernel_rfl)) rfl).trans (congrArg some e0)
    have h1 := hr (3, (Itm.num 1 hi)) (by simp) (hon 3 (by kernel_rfl)) hb_
    obtain ⟨A1, c1, e1⟩ := Kd.R_slice h1
    rw [show V (3, (Itm.num 1 hi)).1 = .slice A1 ((Itm.num 1 hi)).length c1 from e1] at h1
    have t1 : a.tmps[11]? = some (.slice A1 ((Itm.num 1 hi)).length c1) := by rw [ha.out]; exact (putSel_on (e := (3, 11, V 3)) 2 rfl rfl (hon 3 (by kernel_rfl)) rfl).trans (congrArg some e1)
    have h2 := hr (6, (Itm.num 2 lo)) (by simp) (hon 6 (by kernel_rfl)) hb_
    obtain ⟨A2, c2, e2⟩ := Kd.R_slice h2
    rw [show V (6, (Itm.num 2 lo)).1 = .slice A2 ((Itm.num 2 lo)).length c2 from e2] at h2
    have t2 : a.tmps[14]? = some (.slice A2 ((Itm.num 2 lo)).length c2) := by rw [ha.out]; exact (putSel_on (e := (6, 14, V 6)) 4 rfl rfl (hon 6 (by kernel_rfl)) rfl).trans (congrArg some e2)
    have h3 := hr (9, (Itm.num 3 id)) (by simp) (hon 9 (by kernel_rfl)) hb_
    obtain ⟨A3, c3, e3⟩ := Kd.R_slice h3
    rw [show V (9, (Itm.num 3 id)).1 = .slice A3 ((Itm.num 3 id)).length c3 from e3] at h3
    have t3 : a.tmps[17]? = some (.slice A3 ((Itm.num 3 id)).length c3) := by rw [ha.out]; exact (putSel_on (e := (9, 17, V 9)) 6 rfl rfl (hon 9 (by kernel_rfl)) rfl).trans (congrArg some e3)
    have h4 := hr (12, (Itm.num 4 par)) (by simp) (hon 12 (by kernel_rfl)) hb_
    obtain ⟨A4, c4, e4⟩ := Kd.R_slice h4
    rw [show V (12, (Itm.num 4 par)).1 = .slice A4 ((Itm.num 4 par)).length c4 from e4] at h4
    have t4 : a.tmps[20]? = some (.slice A4 ((Itm.num 4 par)).length c4) := by rw [ha.out]; exact (putSel_on (e := (12, 20, V 12)) 8 rfl rfl (hon 12 (by kernel_rfl)) rfl).trans (congrArg some e4)
    have h5 := hr (15, (Itm.txt 5 nm)) (by simp) (hon 15 (by kernel_rfl)) hb_
    obtain ⟨A5, c5, e5⟩ := Kd.R_slice h5
    rw [show V (15, (Itm.txt 5 nm)).1 = .slice A5 ((Itm.txt 5 nm)).length c5 from e5] at h5
    have t5 : a.tmps[23]? = some (.slice A5 ((Itm.txt 5 nm)).length c5) := by rw [ha.out]; exact (putSel_on (e := (15, 23, V 15)) 10 rfl rfl (hon 15 (by kernel_rfl)) rfl).trans (congrArg some e5)
    have h6 := hr (19, (Itm.num 6 st)) (by simp) (hon 19 (by kernel_rfl)) hb_
    obtain ⟨A6, c6, e6⟩ := Kd.R_slice h6
    rw [show V (19, (Itm.num 6 st)).1 = .slice A6 ((Itm.num 6 st)).length c6 from e6] at h6
    have t6 : a.tmps[27]? = some (.slice A6 ((Itm.num 6 st)).length c6) := by rw [ha.out]; exact (putSel_on (e := (19, 27, V 19)) 13 rfl rfl (hon 19 (by kernel_rfl)) rfl).trans (congrArg some e6)
    have h7 := hr (23, (Itm.num 7 en)) (by simp) (hon 23 (by kernel_rfl)) hb_
    obtain ⟨A7, c7, e7⟩ := Kd.R_slice h7
    rw [show V (23, (Itm.num 7 en)).1 = .slice A7 ((Itm.num 7 en)).length c7 from e7] at h7
    have t7 : a.tmps[31]? = some (.slice A7 ((Itm.num 7 en)).length c7) := by rw [ha.out]; exact (putSel_on (e := (23, 31, V 23)) 16 rfl rfl (hon 23 (by kernel_rfl)) rfl).trans (congrArg some e7)
    have h8 := hr (25, (Itm.num 8 B8)) (by simp) (hon 25 (by kernel_rfl)) hb_
    obtain ⟨A8, c8, e8⟩ := Kd.R_slice h8
    rw [show V (25, (Itm.num 8 B8)).1 = .slice A8 ((Itm.num 8 B8)).length c8 from e8] at h8
    have t8 : a.tmps[33]? = some (.slice A8 ((Itm.num 8 B8)).length c8) := by rw [ha.out]; exact (putSel_on (e := (25, 33, V 25)) 17 rfl rfl (hon 25 (by kernel_rfl)) rfl).trans (congrArg some e8)
    have h9 := hr (28, (Itm.num 9 rv)) (by simp) (hon 28 (by kernel_rfl)) hb_
    obtain ⟨A9, c9, e9⟩ := Kd.R_slice h9
    rw [show V (28, (Itm.num 9 rv)).1 = .slice A9 ((Itm.num 9 rv)).length c9 from e9] at h9
    have t9 : a.tmps[36]? = some (.slice A9 ((Itm.num 9 rv)).length c9) := by rw [ha.out]; exact (putSel_on (e := (28, 36, V 28)) 19 rfl rfl (hon 28 (by kernel_rfl)) rfl).trans (congrArg some e9)
    refine Kd.N_lit_step (Kd.slice 5 (Kd.int .u8)) w'.heap.size 22 ?hg (N' := 37) ?hd (xs := ([([1] : List Int), (Itm.num 1 hi), (Itm.num 2 lo), (Itm.num 3 id), (Itm.num 4 par), (Itm.txt 5 nm), (Itm.num 6 st), (Itm.num 7 en), (Itm.num 8 B8), (Itm.num 9 rv)] : List (List Int))) (inner := [.slice A0 (([1] : List Int)).length c0, .slice A1 ((Itm.num 1 hi)).length c1, .slice A2 ((Itm.num 2 lo)).length c2, .slice A3 ((Itm.num 3 id)).length c3, .slice A4 ((Itm.num 4 par)).length c4, .slice A5 ((Itm.txt 5 nm)).length c5, .slice A6 ((Itm.num 6 st)).length c6, .slice A7 ((Itm.num 7 en)).length c7, .slice A8 ((Itm.num 8 B8)).length c8, .slice A9 ((Itm.num 9 rv)).length c9]) (ok := (fun k_ => k_ ≠ w.heap.size)) (okp := (fun k_ => k_ ≠ w.heap.size)) ?hr ?hp (fun _ hk => hk) (Kd.freshB hB _ (Nat.le_refl _)) (Below.refl _ _) (Nat.le_refl _) (by simp) ?_; (case hd => rfl); (case hg => rfl); (case hr => first | (go_simp; done) | (go_simp; rfl)); (case hp => exact Reps.one (show Kd.FK (Kd.slice 5 (Kd.int .u8)) _ _ ([1] : List Int) [.slice A0 (([1] : List Int)).length c0] from RfL.fk h0 hB (by decide) rfl) (Reps.one (show Kd.FK (Kd.slice 5 (Kd.int .u8)) _ _ (Itm.num 1 hi) [.slice A1 ((Itm.num 1 hi)).length c1] from RfL.fk h1 hB (by decide) rfl) (Reps.one (show Kd.FK (Kd.slice 5 (Kd.int .u8)) _ _ (Itm.num 2 lo) [.slice A2 ((Itm.num 2 lo)).length c2] from RfL.fk h2 hB (by decide) rfl) (Reps.one (show Kd.FK (Kd.slice 5 (Kd.int .u8)) _ _ (Itm.num 3 id) [.slice A3 ((Itm.num 3 id)).length c3] from RfL.fk h3 hB (by decide) rfl) (Reps.one (show Kd.FK (Kd.slice 5 (Kd.int .u8)) _ _ (Itm.num 4 par) [.slice A4 ((Itm.num 4 par)).length c4] from RfL.fk h4 hB (by decide) rfl) (Reps.one (show Kd.FK (Kd.slice 5 (Kd.int .u8)) _ _ (Itm.txt 5 nm) [.slice A5 ((Itm.txt 5 nm)).length c5] from RfL.fk h5 hB (by decide) rfl) (Reps.one (show Kd.FK (Kd.slice 5 (Kd.int .u8)) _ _ (Itm.num 6 st) [.slice A6 ((Itm.num 6 st)).length c6] from RfL.fk h6 hB (by decide) rfl) (Reps.one (show Kd.FK (Kd.slice 5 (Kd.int .u8)) _ _ (Itm.num 7 en) [.slice A7 ((Itm.num 7 en)).length c7] from RfL.fk h7 hB (by decide) rfl) (Reps.one (show Kd.FK (Kd.slice 5 (Kd.int .u8)) _ _ (Itm.num 8 B8) [.slice A8 ((Itm.num 8 B8)).length c8] from RfL.fk h8 hB (by decide) rfl) (Reps.one (show Kd.FK (Kd.slice 5 (Kd.int .u8)) _ _ (Itm.num 9 rv) [.slice A9 ((Itm.num 9 rv)).length c9] from RfL.fk h9 hB (by decide) rfl) (Reps.none _ _)))))))))))
    intro v w2 ho0 hb _ _
    exact hK.out _ _ ⟨RfL.upd V 29 v, by rw [ha.out]; exact putSel_upk 20 hb_ rfl rfl rfl, blk_below hB hb, below_step HB hb, RfL.rows_fin (up_self b 29), fun _ => Kd.N_lower ho0 HB.size, fun h_ => absurd ((hoff 30 (by kernel_rfl)).symm.trans h_) (by decide)⟩
   refine steps_cons ?_ ?_
   ·rintro b a w' ⟨V, ha, hB, HB, hr, hN, hX⟩ hb_ hon hoff
    replace ha := Aside0.mk ha
    refine ⟨_, rfl, fun K hK => ?_⟩
    have eA : a.tmps[37]? = some (V 29) := by rw [ha.out]; exact putSel_on (e := (29, 37, V 29)) 20 rfl rfl (hon 29 (by kernel_rfl)) rfl
    refine value_ (w1 := w') (v := V 29) (by rfl) rfl ?_ ?_
    ·go_simp
     try rfl
    exact hK.out _ _ ⟨RfL.upd V 30 (V 29), by rw [ha.out]; exact putSel_upk 21 hb_ rfl rfl rfl, hB, HB, RfL.rows_fin ((up_ne (by decide)).trans (hon 29 (by kernel_rfl))), fun _ => hN (hon 29 (by kernel_rfl)), fun _ => rfl⟩
   exact steps_nil
  rintro b a w6 hall ⟨V, ha, hB6, HB6, _, hN6, hX6⟩
  have hb0_ := hall 0 (by kernel_rfl)
  have hb2_ := hall 2 (by kernel_rfl)
  have hb3_ := hall 3 (by kernel_rfl)
  have hb5_ := hall 5 (by kernel_rfl)
  have hb6_ := hall 6 (by kernel_rfl)
  have hb8_ := hall 8 (by kernel_rfl)
  have hb9_ := hall 9 (by kernel_rfl)
  have hb11_ := hall 11 (by kernel_rfl)
  have hb12_ := hall 12 (by kernel_rfl)
  have hb14_ := hall 14 (by kernel_rfl)
  have hb15_ := hall 15 (by kernel_rfl)
  have hb17_ := hall 17 (by kernel_rfl)
  have hb18_ := hall 18 (by kernel_rfl)
  have hb19_ := hall 19 (by kernel_rfl)
  have hb21_ := hall 21 (by kernel_rfl)
  have hb22_ := hall 22 (by kernel_rfl)
  have hb23_ := hall 23 (by kernel_rfl)
  have hb25_ := hall 25 (by kernel_rfl)
  have hb27_ := hall 27 (by kernel_rfl)
  have hb28_ := hall 28 (by kernel_rfl)
  have hb29_ := hall 29 (by kernel_rfl)
  have hb30_ := hall 30 (by kernel_rfl)
  subst ha
  replace hX6 := hX6 hb30_
  replace hN6 := hN6 hb29_
  simp only [putSel, hb0_, hb2_, hb3_, hb5_, hb6_, hb8_, hb9_, hb11_, hb12_, hb14_, hb15_, hb17_, hb18_, hb19_, hb21_, hb22_, hb23_, hb25_, hb27_, hb28_, hb29_, hb30_, if_true, Act.put, List.setIfInBounds_toArray, List.set_cons_zero, List.set_cons_succ]
  rw [hX6]
  clear hall hX6 hb0_ hb2_ hb3_ hb5_ hb6_ hb8_ hb9_ hb11_ hb12_ hb14_ hb15_ hb17_ hb18_ hb19_ hb21_ hb22_ hb23_ hb25_ hb27_ hb28_ hb29_ hb30_
  generalize ha6 : V 29 = v6 at *
  clear ha6
  replace ws := Aside0.mk ws
  replace we := Aside0.mk we
  go_wp2_with (fail)
  go_loopg [4, 5] l.length (fun gg v4 v5 wr => ∃ (i : Nat) (x : List (List Int)), v5 = .int .i64 i ∧ i ≤ l.length ∧ l.length - i ≤ gg ∧ Aside0 (x.length ≤ 10 + i) ∧ Aside0 (x.flatten = ([([1] : List Int), (Itm.num 1 hi), (Itm.num 2 lo), (Itm.num 3 id), (Itm.num 4 par), (Itm.txt 5 nm), (Itm.num 6 st), (Itm.num 7 en), (Itm.num 8 B8), (Itm.num 9 rv)] : List (List Int)).flatten ++ Itm.attL (l.take i)) ∧ Aside0 (Kd.N (Kd.slice 5 (Kd.int .u8)) 22 wr w.heap.size (fun k_ => k_ ≠ w.heap.size) v4 x) ∧ Aside0 (wr.heap[w.heap.size]? = some (.cells #[.int .u64 hi, .int .u64 lo, .int .u64 id, .int .u64 par, .string nm, .int .i64 st, .int .i64 en, .bool bad, .slice A l.length c, .int .u64 rv] 26 (0, 0))) ∧ Aside0 (Below w.heap.size w wr))
  case atStart => exact ⟨0, _, rfl, by omega, by omega, ⟨by simp⟩, ⟨by simp [Itm.attL]⟩, ⟨hN6⟩, ⟨hB6⟩, ⟨HB6⟩⟩
  case round =>
   clear hN6 hB6 HB6
   obtain ⟨i, x, rfl, hil, hgg, hxl, hfl, hN, hb, HB⟩ := hrel
   have z8 : wr.cell? ⟨w.heap.size, 8, none⟩ = some (.slice A l.length c) := blk_cell hb.out 8
   by_cases hi' : i < l.length
   ·have hiz : (i : Int) < (l.length : Int) := by omega
    have hi0 : (0 : Int) ≤ (i : Int) := by omega
    have hiz' : decide ((i : Int) < (l.length : Int)) = true := decide_eq_true hiz
    obtain ⟨ad, e0, hx0, hx1⟩ := at_T36 hr.out (i : Int) hi0 hiz
    cases e0
    have hmem : rd_T36 l (i : Int) ∈ l := by unfold rd_T36; rw [Int.toNat_natCast, List.getD_eq_getElem?_getD, List.getElem?_eq_getElem hi']; exact List.getElem_mem _
    have hzy := Aside0.mk (hz.out _ hmem)
    have hfl2 := Aside0.mk (show (x ++ [Itm.txt 10 (Itm.attT (rd_T36 l (i : Int)))]).flatten = ([([1] : List Int), (Itm.num 1 hi), (Itm.num 2 lo), (Itm.num 3 id), (Itm.num 4 par), (Itm.txt 5 nm), (Itm.num 6 st), (Itm.num 7 en), (Itm.num 8 B8), (Itm.num 9 rv)] : List (List Int)).flatten ++ Itm.attL (l.take (i + 1)) by rw [List.flatten_append, hfl.out, RfP.take l i hi', List.append_assoc]; simp)
    clear hmem hfl
    generalize rd_T36 l (i : Int) = y at *
    obtain ⟨k1, v1⟩ := y
    dsimp only at hx0 hx1
    simp only [Int.toNat_natCast] at hx0 hx1
    have hsz : (9223372036854775807 < (strOfNums (putL k1.size ++ bytesOf k1)).size + v1.size) = False := eq_false (by have := putL_ten (n := k1.size) (by have := hzy.out.1; dsimp only at this; omega); have h1 := hzy.out.1; have h2 := hzy.out.2; dsimp only at h1 h2; rw [strOfNums_size, List.length_append, bytesOf_len]; omega)
    have hp0 := eq_true hi0
    have hp1 := eq_true hiz
    go_wp2_with (fail)
    clear z8
    replace hx0 := Aside0.mk hx0
    replace hx1 := Aside0.mk hx1
    replace hb := Aside0.mk (blk_drew hb.out)
    replace HB := Aside0.mk (below_drew1 HB.out)
    replace hN := Aside0.mk (Kd.N_drew hN.out)
    refine start_ (n := 20) (S := fun w' => w'.cell? ⟨w.heap.size, 8, none⟩ = some (.slice (some ad) l.length c) ∧ w'.cell? (ad.add (i * 2)) = some (.string k1) ∧ w'.cell? ⟨(ad.add (i * 2)).block, (ad.add (i * 2)).off + 1, none⟩ = some (.string v1)) (ds := []) #[false, false, false, false, false, false, false, false, false, false, false, false, false, false, false, false, false, false, false, false] (by kernel_rfl) rfl rfl ⟨(blk_cell hb.out 8).trans rfl, (HB.out.cell (World.block_lt_of_cell? _ _ hx0.out)).trans hx0.out, (HB.out.cell (World.block_lt_of_cell? _ _ hx1.out)).trans hx1.out⟩ (fun hHeld => ?_)
    refine with_tab RfP.T8_tab (fun HT_ => ?_)
    generalize wr.drew = w6 at hb HB hN hHeld ⊢
    refine pure_ (i := 0) (N := (some 45)) (v := ?_) (a' := ?_) #[true, false, false, false, false, false, false, false, false, false, false, false, false, false, false, false, false, false, false, false] rfl rfl (any_of HT_.out (by kernel_rfl)) (fun _ _ _ h => h) (Or.inl ⟨by rfl, ?_⟩) ?_ ?_
    rotate_left
    ·intro w'
     go_simp
     with_reducible rfl
    rotate_left
    ·simp only [ps_]
     rfl
    refine pure_ (i := 1) (N := (some 46)) (v := ?_) (a' := ?_) #[true, true, false, false, false, false, false, false, false, false, false, false, false, false, false, false, false, false, false, false] rfl rfl (any_of HT_.out (by kernel_rfl)) (fun _ _ _ h => h) (Or.inl ⟨by rfl, ?_⟩) ?_ ?_
    rotate_left
    ·intro w'
     go_simp
     with_reducible rfl
    rotate_left
    ·simp only [ps_]
     rfl
    refine pure_ (i := 3) (N := (some 48)) (v := ?_) (a' := ?_) #[true, true, false, true, false, false, false, false, false, false, false, false, false, false, false, false, false, false, false, false] rfl rfl (any_of HT_.out (by kernel_rfl)) (fun _ _ _ h => h) (Or.inl ⟨by rfl, ?_⟩) ?_ ?_
    rotate_left
    ·intro w'
     go_simp
     with_reducible rfl
    rotate_left
    ·simp only [ps_]
     rfl
    refine pure_ (i := 9) (N := (some 54)) (v := ?_) (a' := ?_) #[true, true, false, true, false, false, false, false, false, true, false, false, false, false, false, false, false, false, false, false] rfl rfl (any_of HT_.out (by kernel_rfl)) (fun _ _ _ h => h) (Or.inl ⟨by rfl, ?_⟩) ?_ ?_
    rotate_left
    ·intro w'
     go_simp
     with_reducible rfl
    rotate_left
    ·simp only [ps_]
     rfl
    refine pure_ (i := 11) (N := (some 56)) (v := ?_) (a' := ?_) #[true, true, false, true, false, false, false, false, false, true, false, true, false, false, false, false, false, false, false, false] rfl rfl (any_of HT_.out (by kernel_rfl)) (fun _ _ _ h => h) (Or.inl ⟨by rfl, ?_⟩) ?_ ?_
    rotate_left
    ·intro w'
     go_simp
     with_reducible rfl
    rotate_left
    ·simp only [ps_]
     rfl
    refine take_ (i := 2) (N := (some 47)) (v := ?_) (a' := ?_) #[true, true, true, true, false, false, false, false, false, true, false, true, false, false, false, false, false, false, false, false] rfl rfl (take_of HT_.out (by kernel_rfl)) (fun _ _ _ h => h) (Or.inl ⟨by rfl, ?_⟩) hHeld ?_ ?_
    rotate_left
    ·rintro w' ⟨s0, s1, s2⟩
     go_simp
     with_reducible rfl
    rotate_left
    ·simp only [ps_]
     rfl
    refine pure_ (i := 4) (N := (some 49)) (v := ?_) (a' := ?_) #[true, true, true, true, true, false, false, false, false, true, false, true, false, false, false, false, false, false, false, false] rfl rfl (any_of HT_.out (by kernel_rfl)) (fun _ _ _ h => h) (Or.inl ⟨by rfl, ?_⟩) ?_ ?_
    rotate_left
    ·intro w'
     go_simp
     with_reducible rfl
    rotate_left
    ·simp only [ps_]
     rfl
    refine pure_ (i := 5) (N := (some 50)) (v := ?_) (a' := ?_) #[true, true, true, true, true, true, false, false, false, true, false, true, false, false, false, false, false, false, false, false] rfl rfl (any_of HT_.out (by kernel_rfl)) (fun _ _ _ h => h) (Or.inl ⟨by rfl, ?_⟩) ?_ ?_
    rotate_left
    ·intro w'
     go_simp
     with_reducible rfl
    rotate_left
    ·simp only [ps_]
     rfl
    refine take_ (i := 6) (N := (some 51)) (v := ?_) (a' := ?_) #[true, true, true, true, true, true, true, false, false, true, false, true, false, false, false, false, false, false, false, false] rfl rfl (take_of HT_.out (by kernel_rfl)) (fun _ _ _ h => h) (Or.inl ⟨by rfl, ?_⟩) hHeld ?_ ?_
    rotate_left
    ·rintro w' ⟨s0, s1, s2⟩
     go_simp
     with_reducible rfl
    rotate_left
    ·simp only [ps_]
     rfl
    refine take_ (i := 10) (N := (some 55)) (v := ?_) (a' := ?_) #[true, true, true, true, true, true, true, false, false, true, true, true, false, false, false, false, false, false, false, false] rfl rfl (take_of HT_.out (by kernel_rfl)) (fun _ _ _ h => h) (Or.inl ⟨by rfl, ?_⟩) hHeld ?_ ?_
    rotate_left
    ·rintro w' ⟨s0, s1, s2⟩
     go_simp
     with_reducible rfl
    rotate_left
    ·simp only [ps_]
     rfl
    refine pure_ (i := 12) (N := (some 57)) (v := ?_) (a' := ?_) #[true, true, true, true, true, true, true, false, false, true, true, true, true, false, false, false, false, false, false, false] rfl rfl (any_of HT_.out (by kernel_rfl)) (fun _ _ _ h => h) (Or.inl ⟨by rfl, ?_⟩) ?_ ?_
    rotate_left
    ·intro w'
     go_simp
     with_reducible rfl
    rotate_left
    ·simp only [ps_]
     rfl
    refine pure_ (i := 13) (N := (some 58)) (v := ?_) (a' := ?_) #[true, true, true, true, true, true, true, false, false, true, true, true, true, true, false, false, false, false, false, false] rfl rfl (any_of HT_.out (by kernel_rfl)) (fun _ _ _ h => h) (Or.inl ⟨by rfl, ?_⟩) ?_ ?_
    rotate_left
    ·intro w'
     go_simp
     with_reducible rfl
    rotate_left
    ·simp only [ps_]
     rfl
    refine take_ (i := 14) (N := (some 59)) (v := ?_) (a' := ?_) #[true, true, true, true, true, true, true, false, false, true, true, true, true, true, true, false, false, false, false, false] rfl rfl (take_of HT_.out (by kernel_rfl)) (fun _ _ _ h => h) (Or.inl ⟨by rfl, ?_⟩) hHeld ?_ ?_
    rotate_left
    ·rintro w' ⟨s0, s1, s2⟩
     go_simp
     with_reducible rfl
    rotate_left
    ·simp only [ps_]
     rfl
    refine one_ (i := 7) (N := (some 52)) #[true, true, true, true, true, true, true, true, false, true, true, true, true, true, true, false, false, false, false, false] rfl rfl (one_of HT_.out (by kernel_rfl)) (by decide) (fun K hK => ?_)
    refine goes_ Try.func46 (by kernel_rfl) rfl #[.string k1] (by rfl) rfl rfl (by (try simp only [List.map_toArray, List.map_cons, List.map_nil]); first | done | rfl) ?_
    refine (telemeterref01_PutText.calls 10 k1 _ w6 (RfA.putText k1 (by have := hzy.out.1; omega) 10 (Nat.le_refl _))).mono ?_
    rintro e w7 ⟨v7, rfl, ho7, hb7⟩
    refine ⟨_, rfl, ?_⟩
    replace hb := Aside0.mk (blk_below hb.out hb7)
    replace HB := Aside0.mk (below_step HB.out hb7)
    replace hN := Aside0.mk (Kd.N_mono (Kd.N_elder' hN.out (Kd.R_base ho7) hb7) (fun _ hk => hk.1))
    refine hK.out _ _ ⟨(blk_cell hb.out 8).trans rfl, (HB.out.cell (World.block_lt_of_cell? _ _ hx0.out)).trans hx0.out, (HB.out.cell (World.block_lt_of_cell? _ _ hx1.out)).trans hx1.out⟩ (fun hHeld2 => ?_)
    clear hK K hHeld
    have hHeld := hHeld2
    clear hHeld2
    refine norm_ (a' := ?_) ?_ ?_
    rotate_left
    ·show Act.put _ (some 52) _ = _
     simp only [ps_]
     rfl
    refine one_ (i := 8) (N := (some 53)) #[true, true, true, true, true, true, true, true, true, true, true, true, true, true, true, false, false, false, false, false] rfl rfl (one_of HT_.out (by kernel_rfl)) (by decide) (fun K hK => ?_)
    have hcv := own_string (P := Try.prog) Try.underlying22 Try.underlying5 Try.underlying9 (Kd.own_of_R ho7)
    refine value_ (w1 := ?_) (v := ?_) (by rfl) rfl ?_ ?_
    rotate_left 2
    ·go_simp
     constructor
     ·rfl
     ·rfl
    clear hcv ho7 hb7
    refine hK.out _ _ ⟨(blk_cell hb.out 8).trans rfl, (HB.out.cell (World.block_lt_of_cell? _ _ hx0.out)).trans hx0.out, (HB.out.cell (World.block_lt_of_cell? _ _ hx1.out)).trans hx1.out⟩ (fun hHeld2 => ?_)
    clear hK K hHeld
    have hHeld := hHeld2
    clear hHeld2
    refine norm_ (a' := ?_) ?_ ?_
    rotate_left
    ·show Act.put _ (some 53) _ = _
     simp only [ps_]
     rfl
    refine pure_ (i := 15) (N := (some 60)) (v := ?_) (a' := ?_) #[true, true, true, true, true, true, true, true, true, true, true, true, true, true, true, true, false, false, false, false] rfl rfl (any_of HT_.out (by kernel_rfl)) (fun _ _ _ h => h) (Or.inl ⟨by rfl, ?_⟩) ?_ ?_
    rotate_left
    ·intro w'
     go_simp
     with_reducible rfl
    rotate_left
    ·simp only [ps_]
     rfl
    refine one_ (i := 16) (N := (some 61)) #[true, true, true, true, true, true, true, true, true, true, true, true, true, true, true, true, true, false, false, false] rfl rfl (one_of HT_.out (by kernel_rfl)) (by decide) (fun K hK => ?_)
    refine goes_ Try.func32 (by kernel_rfl) rfl #[.int .i64 10, .string (strOfNums (putL k1.size ++ bytesOf k1) ++ v1)] (by rfl) rfl rfl (by (try simp only [List.map_toArray, List.map_cons, List.map_nil]); first | done | rfl) ?_
    refine (RfL.text 10 (strOfNums (putL k1.size ++ bytesOf k1) ++ v1) w7 (by omega) (by have := Itm.attT_size ⟨k1, v1⟩ (by have := hzy.out.1; exact Nat.le_trans this (by decide)) (by have := hzy.out.2; exact Nat.le_trans this (by decide)); exact Nat.le_trans this (by decide))).mono ?_
    rintro e w8 ⟨v8, rfl, ho8, hb8⟩
    refine ⟨_, rfl, ?_⟩
    replace ho8 := Kd.R_lower ho8 HB.out.size
    replace hb := Aside0.mk (blk_below hb.out hb8)
    replace HB := Aside0.mk (below_step HB.out hb8)
    replace hN := Aside0.mk (Kd.N_below hN.out hb8)
    replace ho8 := Aside0.mk (Kd.R_apart' ho8 (Kd.N_typed hN.out) (by decide))
    obtain ⟨A8, c8, e8⟩ := Kd.R_slice ho8.out
    subst e8
    clear hb8
    refine hK.out _ _ ⟨(blk_cell hb.out 8).trans rfl, (HB.out.cell (World.block_lt_of_cell? _ _ hx0.out)).trans hx0.out, (HB.out.cell (World.block_lt_of_cell? _ _ hx1.out)).trans hx1.out⟩ (fun hHeld2 => ?_)
    clear hK K hHeld
    have hHeld := hHeld2
    clear hHeld2
    refine norm_ (a' := ?_) ?_ ?_
    rotate_left
    ·show Act.put _ (some 61) _ = _
     simp only [ps_]
     rfl
    refine one_ (i := 17) (N := (some 62)) #[true, true, true, true, true, true, true, true, true, true, true, true, true, true, true, true, true, true, false, false] rfl rfl (one_of HT_.out (by kernel_rfl)) (by decide) (fun K hK => ?_)
    refine value_ (w1 := ?_) (v := ?_) (by rfl) rfl ?_ ?_
    rotate_left 2
    ·go_simp
     constructor
     ·rfl
     ·rfl
    refine hK.out _ _ ?_ (fun hHeld2 => ?_)
    ·exact ⟨(blk_cell (blk_alloc hb.out _) 8).trans rfl, (World.cell?_alloc_lt _ _ _ (World.block_lt_of_cell? _ _ ((HB.out.cell (World.block_lt_of_cell? _ _ hx0.out)).trans hx0.out))).trans ((HB.out.cell (World.block_lt_of_cell? _ _ hx0.out)).trans hx0.out), (World.cell?_alloc_lt _ _ _ (World.block_lt_of_cell? _ _ ((HB.out.cell (World.block_lt_of_cell? _ _ hx1.out)).trans hx1.out))).trans ((HB.out.cell (World.block_lt_of_cell? _ _ hx1.out)).trans hx1.out)⟩
    clear hK K hHeld
    have hHeld := hHeld2
    clear hHeld2
    refine norm_ (a' := ?_) ?_ ?_
    rotate_left
    ·show Act.put _ (some 62) _ = _
     simp only [ps_]
     rfl
    refine one_ (i := 18) (N := (some 63)) #[true, true, true, true, true, true, true, true, true, true, true, true, true, true, true, true, true, true, true, false] rfl rfl (one_of HT_.out (by kernel_rfl)) (by decide) (fun K hK => ?_)
    refine Kd.N_append_step (Kd.slice 5 (Kd.int .u8)) (w0 := w) w.heap.size (by rfl) (.tmp 45) (.tmp 62) 69 22 (.slice none 0 0) 24 rfl Try.underlying69 RfP.info22 rfl (by decide) (by omega) u4 x (Itm.txt 10 (strOfNums (putL k1.size ++ bytesOf k1) ++ v1)) [.slice A8 (Itm.txt 10 (strOfNums (putL k1.size ++ bytesOf k1) ++ v1)).length c8] (fun k_ => k_ ≠ w.heap.size) (fun k_ => k_ ≠ w.heap.size ∧ some k_ ≠ (u4 : Value).ownBlock) rfl rfl ?aP (fun _ hk => hk) ?aF ?aO ?aB ?aS ?aL ?_
    case aP => exact Kd.FK_slice_mk (Kd.R_reads' (Kd.R_mono (ok' := (fun k_ => k_ ≠ w.heap.size ∧ some k_ ≠ (u4 : Value).ownBlock)) (Kd.R_types ho8.out hb.out (by decide)) (fun k_ hk => ⟨hk.2, hk.1.2⟩))).2.1 (Kd.R_F (Kd.R_mono (ok' := (fun k_ => k_ ≠ w.heap.size ∧ some k_ ≠ (u4 : Value).ownBlock)) (Kd.R_types ho8.out hb.out (by decide)) (fun k_ hk => ⟨hk.2, hk.1.2⟩)))
    case aB => exact (by repeat (first | exact HB.out | apply below_alloc))
    case aF => exact fun k_ hk => Kd.freshB (g := w.heap.size) (o := .cells #[.int .u64 hi, .int .u64 lo, .int .u64 id, .int .u64 par, .string nm, .int .i64 st, .int .i64 en, .bool bad, .slice (some ad) l.length c, .int .u64 rv] 26 (0, 0)) (by repeat (first | exact hb.out | refine blk_alloc ?_ _)) k_ hk
    case aO => exact (by repeat (first | exact hN.out | apply Kd.N_alloc))
    case aS => exact below_size (by repeat (first | exact HB.out | apply below_alloc))
    case aL => have := hxl.out; omega
    intro v9 w9 ho9 hb9 hg9 hat9
    replace hb := Aside0.mk (blk_grown (g := w.heap.size) (o := .cells #[.int .u64 hi, .int .u64 lo, .int .u64 id, .int .u64 par, .string nm, .int .i64 st, .int .i64 en, .bool bad, .slice (some ad) l.length c, .int .u64 rv] 26 (0, 0)) (by repeat (first | exact hb.out | refine blk_alloc ?_ _)) hg9 (Kd.N_ne hN.out hb.out (by decide)))
    replace HB := Aside0.mk hb9
    replace ho9 := Aside0.mk ho9
    clear hb9 hg9 hat9 hN ho8
    refine hK.out _ _ ⟨(blk_cell hb.out 8).trans rfl, (HB.out.cell (World.block_lt_of_cell? _ _ hx0.out)).trans hx0.out, (HB.out.cell (World.block_lt_of_cell? _ _ hx1.out)).trans hx1.out⟩ (fun hHeld2 => ?_)
    clear hK K hHeld
    clear hHeld2
    refine norm_ (a' := ?_) ?_ ?_
    rotate_left
    ·show Act.put _ (some 63) _ = _
     simp only [ps_]
     rfl
    refine pure_ (i := 19) (N := (some 4)) (v := ?_) (a' := ?_) #[true, true, true, true, true, true, true, true, true, true, true, true, true, true, true, true, true, true, true, true] rfl rfl (any_of HT_.out (by kernel_rfl)) (fun _ _ _ h => h) (Or.inl ⟨by rfl, ?_⟩) ?_ ?_
    rotate_left
    ·intro w'
     go_simp
     with_reducible rfl
    rotate_left
    ·simp only [ps_]
     rfl
    refine done_ (done_of HT_.out (by kernel_rfl)) ?_
    clear HT_
    go_wp2_with (fail)
    go_roundg (l.length - (i + 1))
    case measure => omega
    case rel => exact ⟨i + 1, _, by go_num, by omega, by omega, ⟨by rw [List.length_append, List.length_singleton]; have := hxl.out; omega⟩, hfl2, ho9, hb, HB⟩
   ·have hiz' : decide ((i : Int) < (l.length : Int)) = false := decide_eq_false (by omega)
    have hlen : ([([1] : List Int), (Itm.num 1 hi), (Itm.num 2 lo), (Itm.num 3 id), (Itm.num 4 par), (Itm.txt 5 nm), (Itm.num 6 st), (Itm.num 7 en), (Itm.num 8 B8), (Itm.num 9 rv)] : List (List Int)).flatten.length + (Itm.attL l).length < 100000 := by
     have l0 := ItX.attL_len l hz.out
     have l1 := Itm.num_len 1 hi (by omega) (by omega)
     have l2 := Itm.num_len 2 lo (by omega) (by omega)
     have l3 := Itm.num_len 3 id (by omega) (by omega)
     have l4 := Itm.num_len 4 par (by omega) (by omega)
     have l5 := Itm.txt_len 5 nm (by omega) (by omega)
     have l6 := Itm.num_len 6 st (by omega) (by omega)
     have l7 := Itm.num_len 7 en (by omega) (by omega)
     have l8 := Itm.num_len 8 B8 (by omega) (by omega)
     have l9 := Itm.num_len 9 rv (by omega) (by omega)
     simp only [List.flatten_cons, List.flatten_nil, List.length_append, List.length_cons, List.length_nil]
     omega
    have hj : telemeterref03_joined.f 100 x = some (1 :: Itm.spanL hi lo id par nm st en bad l rv) := by
     have hf := hfl.out
     rw [List.take_of_length_le (by omega)] at hf
     rw [RfA.joined x (by have := hxl.out; omega) (by rw [hf, List.length_append]; omega) 100 (by have := hxl.out; omega), hf]
     unfold Itm.spanL
     rw [hB8.out]
     simp only [List.flatten_cons, List.flatten_nil, List.append_nil, List.append_assoc, List.cons_append, List.nil_append]
    replace hj := Aside0.mk hj
    obtain ⟨A9, c9, e9⟩ := Kd.N_slice hN.out
    subst e9
    clear hlen hfl
    go_wp2_with (fail)
    refine (telemeterref03_joined.calls 100 A9 c9 x _ wr (Kd.N_reads' hN.out).2.2 (Kd.N_reads' hN.out).2.1 hj.out).mono ?_
    rintro e w7 ⟨v7, rfl, ho7, hb7⟩
    replace ho7 := Aside0.mk (Kd.R_lower ho7 HB.out.size)
    replace HB := Aside0.mk (below_step HB.out hb7)
    clear hb7 hN hj z8
    go_wp2_with (fail)
    go_ret
    exact ⟨_, rfl, ho7.out, HB.out⟩
end Go.Proofs.Ytfapckmobeppnaa.Px
