/- The writer: number, text. -/
import Derived.Test.YtfapckmobeppnaaItmR
import Derived.Test.YtfapckmobeppnaaPx1
import Derived.Deep.LoopGhost
namespace Go.Proofs.Ytfapckmobeppnaa.Px
open Go.RowKit Go.Proofs.YtfapckmobeppnaaW.PrintWords Go.Proofs.YtfapckmobeppnaaW.PrintLast Go.Proofs.YtfapckmobeppnaaW.PrintMore
set_option linter.unusedVariables false
set_option linter.unusedSimpArgs false

theorem Itm.put_eq {n : Int} (h0 : 0 ≤ n) (h : n < 18446744073709551616) : num_Put.f n = some (putL n.toNat) := by
 unfold num_Put.f; rw [if_pos ⟨h0, h⟩]
theorem Itm.putText_eq (s : ByteArray) (h : s.size ≤ 100000) : num_PutText.f s = some (putL s.size ++ bytesOf s) := by
 have h10 := putL_ten (n := s.size) (by omega)
 unfold num_PutText.f
 rw [wrap_u64_id (by omega) (by omega), Itm.put_eq (by omega) (by omega)]
 simp only [Option.bind_some, Int.toNat_natCast]
 rw [if_pos (by omega)]
/-- The writer's block and its row. -/
def Itm.W (w : World) (base : Nat) (ok : Nat → Prop) (g : Nat) (l : List Int) : Prop := ∃ A c, w.heap[g]? = some (.cells #[.slice A l.length c] 74 (0, 0)) ∧ base ≤ g ∧ ¬ ok g ∧ Kd.N (Kd.int .u8) 5 w base ok (.slice A l.length c) l
theorem Itm.W_below {w w1 : World} {base g : Nat} {ok : Nat → Prop} {l : List Int} (h : Itm.W w base ok g l) (hb : Below w.heap.size w w1) : Itm.W w1 base ok g l := by
 obtain ⟨A, c, h1, h2, h3, h4⟩ := h
 exact ⟨A, c, blk_below h1 hb, h2, h3, Kd.N_below h4 hb⟩
theorem Itm.W_mono {w : World} {base g : Nat} {ok ok' : Nat → Prop} {l : List Int} (h : Itm.W w base ok g l) (hm : ∀ k, ok k → ok' k) (hg : ¬ ok' g) : Itm.W w base ok' g l := by
 obtain ⟨A, c, h1, h2, h3, h4⟩ := h
 exact ⟨A, c, h1, h2, hg, Kd.N_mono h4 hm⟩
theorem Itm.W_lt {w : World} {base g : Nat} {ok : Nat → Prop} {l : List Int} (h : Itm.W w base ok g l) : g < w.heap.size := by
 obtain ⟨A, c, h1, _⟩ := h
 exact blk_lt h1
def Itm.num (fld n : Int) : List Int := if n = 0 then [] else putL (2 * fld).toNat ++ putL n.toNat
def Itm.txt (fld : Int) (s : ByteArray) : List Int := if s.size = 0 then [] else putL (2 * fld + 1).toNat ++ (putL s.size ++ bytesOf s)
def Itm.Tnumber1 : Bool × List (List Nat × List Nat) := (true, [([], []), ([], []), ([1], [1]), ([2], [2]), ([3], [3]), ([], []), ([5], [5]), ([6], [6]), ([7], [7]), ([4, 8, 8], [4, 8]), ([0, 0, 1, 2, 3, 4, 5, 6, 7, 8, 9], [0]), ([10, 0, 1, 2, 3, 4, 5, 6, 7, 8, 9], [10]), ([11, 9, 9, 0, 1, 2, 3, 4, 5, 6, 7, 8, 9], [9, 11])])
theorem Itm.Tnumber1_tab : rtab .any (opsOf Try.f50 1) = Itm.Tnumber1 := by kernel_rfl
def Itm.Tnumber2 : Bool × List (List Nat × List Nat) := (true, [([], []), ([], []), ([1], [1]), ([2], [2]), ([3], [3]), ([], []), ([5], [5]), ([4, 6, 6], [4, 6]), ([0, 0, 1, 2, 3, 4, 5, 6, 7], [0]), ([8, 0, 1, 2, 3, 4, 5, 6, 7], [8]), ([9, 7, 7, 0, 1, 2, 3, 4, 5, 6, 7], [7, 9])])
theorem Itm.Tnumber2_tab : rtab .any (opsOf Try.f50 2) = Itm.Tnumber2 := by kernel_rfl
set_option maxHeartbeats 1000000 in
set_option maxRecDepth 100000 in
theorem Itm.number_calls (w0 W1 : World) (ok : Nat → Prop) (g : Nat) (l : List Int) (fld : Int) (n : Int) (hW : Itm.W W1 w0.heap.size ok g l) (HB : Below w0.heap.size w0 W1) (hf : 1 ≤ fld ∧ fld ≤ 10) (hn : 0 ≤ n ∧ n < 18446744073709551616) (hl : l.length ≤ 100000) :
  Calls Try.prog 50 #[.pointer (some ⟨g, 0, none⟩), .int .i64 fld, .int .u64 n] W1 fun e w' => (∃ v, e = .returned v) ∧ Itm.W w' w0.heap.size (fun k => ok k ∨ W1.heap.size ≤ k) g (l ++ Itm.num fld n) ∧ Kept W1 w' (fun k => ok k ∨ k = g) ∧ Below w0.heap.size w0 w' := by
 have hglt := Itm.W_lt hW
 have hgo : ¬ (ok g ∨ W1.heap.size ≤ g) := by
  rintro (h_ | h_)
  ·obtain ⟨_, _, _, _, h2_, _⟩ := hW; exact h2_ h_
  ·omega
 by_cases h0 : n = 0
 ·subst h0
  go_enter Try.func50, Try.ntmps50
  go_wp2
  go_end0
  exact ⟨⟨_, rfl⟩, by rw [Itm.num, if_pos rfl, List.append_nil]; exact Itm.W_mono hW (fun _ h_ => Or.inl h_) hgo, Kept.refl _ _, HB⟩
 ·have htot : Itm.num fld n = putL (2 * fld).toNat ++ putL n.toNat := by rw [Itm.num, if_neg h0]
  have hp2 := Aside0.mk (Itm.put_eq hn.1 hn.2)
  have hlp2 := putL_ten (n := n.toNat) (by omega)
  have b0 : (n != 0) = true := by simp [h0]
  generalize putL n.toNat = p2 at *
  have hp1 := Aside0.mk (Itm.put_eq (n := 2 * fld) (by omega) (by omega))
  have hlp1 := putL_ten (n := (2 * fld).toNat) (by omega)
  generalize putL (2 * fld).toNat = p1 at *
  have hlen1 : (l.length + p1.length) * 1 ≤ 140737488355328 := by omega
  obtain ⟨A1, c1, hb1, hbg, hgo1, hR1⟩ := hW
  replace hb1 := Aside0.mk hb1; replace hR1 := Aside0.mk (Kd.N_mono (ok' := fun k => ok k ∨ W1.heap.size ≤ k) hR1 (fun _ h_ => Or.inl h_))
  have HK1 := Aside0.mk (Kept.refl W1 (fun k => ok k ∨ k = g))
  have HB1 := Aside0.mk HB
  replace htot := Aside0.mk htot
  have hw1 : IntKind.i64.wrap (2 * fld) = 2 * fld := by rw [Itm.i64w]; unfold wrap64; omega
  have hw2 : IntKind.i64.wrap (2 * fld + 1) = 2 * fld + 1 := by rw [Itm.i64w]; unfold wrap64; omega
  have hw3 : IntKind.u64.wrap (2 * fld) = 2 * fld := wrap_u64_id (by omega) (by omega)
  clear h0 HB
  go_enter Try.func50, Try.ntmps50
  go_wp2_with (fail)
  have c0d : W1.drew.cell? ⟨g, 0, none⟩ = some (.slice A1 (l).length c1) := blk_cell hb1.out 0
  have hbd := Aside0.mk (blk_drew hb1.out)
  have hRd := Aside0.mk (Kd.N_below hR1.out (below_drew (Below.refl _ W1)))
  have HBd := Aside0.mk (below_drew HB1.out)
  have HKd := Aside0.mk (Kept.drew HK1.out)
  clear hb1 hR1 HB1 HK1
  refine start_ (n := 13) (S := fun w' => w'.cell? ⟨g, 0, none⟩ = some (.slice A1 (l).length c1)) (ds := [9, 12]) #[false, false, false, false, false, false, false, false, false, false, false, false, false] (by kernel_rfl) rfl rfl c0d (fun hHeld => ?_)
  refine with_tab Itm.Tnumber1_tab (fun HT_ => ?_)
  generalize W1.drew = wd at hHeld hbd hRd HBd HKd c0d ⊢
  have hgd := blk_lt hbd.out
  have hszw := HKd.out.1
  refine pure_ (i := 0) (N := (some 8)) (v := ?_) (a' := ?_) #[true, false, false, false, false, false, false, false, false, false, false, false, false] rfl rfl (any_of HT_.out (by kernel_rfl)) (fun _ _ _ h => h) (Or.inl ⟨by rfl, ?_⟩) ?_ ?_
  rotate_left
  ·intro w'
   go_simp
   with_reducible rfl
  rotate_left
  ·simp only [ps_]
   rfl
  refine pure_ (i := 1) (N := (some 9)) (v := ?_) (a' := ?_) #[true, true, false, false, false, false, false, false, false, false, false, false, false] rfl rfl (any_of HT_.out (by kernel_rfl)) (fun _ _ _ h => h) (Or.inl ⟨by rfl, ?_⟩) ?_ ?_
  rotate_left
  ·intro w'
   go_simp
   with_reducible rfl
  rotate_left
  ·simp only [ps_]
   rfl
  refine pure_ (i := 2) (N := (some 10)) (v := ?_) (a' := ?_) #[true, true, true, false, false, false, false, false, false, false, false, false, false] rfl rfl (any_of HT_.out (by kernel_rfl)) (fun _ _ _ h => h) (Or.inl ⟨by rfl, ?_⟩) ?_ ?_
  rotate_left
  ·intro w'
   go_simp
   with_reducible rfl
  rotate_left
  ·simp only [ps_]
   rfl
  refine pure_ (i := 3) (N := (some 11)) (v := ?_) (a' := ?_) #[true, true, true, true, false, false, false, false, false, false, false, false, false] rfl rfl (any_of HT_.out (by kernel_rfl)) (fun _ _ _ h => h) (Or.inl ⟨by rfl, ?_⟩) ?_ ?_
  rotate_left
  ·intro w'
   go_simp
   with_reducible rfl
  rotate_left
  ·simp only [ps_]
   rfl
  refine take_ (i := 4) (N := (some 12)) (v := ?_) (a' := ?_) #[true, true, true, true, true, false, false, false, false, false, false, false, false] rfl rfl (take_of HT_.out (by kernel_rfl)) (fun _ _ _ h => h) (Or.inl ⟨by rfl, ?_⟩) hHeld ?_ ?_
  rotate_left
  ·rintro w' s0
   go_simp
   with_reducible rfl
  rotate_left
  ·simp only [ps_]
   rfl
  refine pure_ (i := 5) (N := (some 13)) (v := ?_) (a' := ?_) #[true, true, true, true, true, true, false, false, false, false, false, false, false] rfl rfl (any_of HT_.out (by kernel_rfl)) (fun _ _ _ h => h) (Or.inl ⟨by rfl, ?_⟩) ?_ ?_
  rotate_left
  ·intro w'
   go_simp
   with_reducible rfl
  rotate_left
  ·simp only [ps_]
   rfl
  refine pure_ (i := 6) (N := (some 14)) (v := .int .i64 (2 * fld)) (a' := ?_) #[true, true, true, true, true, true, true, false, false, false, false, false, false] rfl rfl (any_of HT_.out (by kernel_rfl)) (fun _ _ _ h => h) (Or.inl ⟨by rfl, ?_⟩) ?_ ?_
  ·intro w'
   go_simp
  rotate_left
  ·simp only [ps_]
   rfl
  refine pure_ (i := 7) (N := (some 15)) (v := .int .u64 (2 * fld)) (a' := ?_) #[true, true, true, true, true, true, true, true, false, false, false, false, false] rfl rfl (any_of HT_.out (by kernel_rfl)) (fun _ _ _ h => h) (Or.inl ⟨by rfl, ?_⟩) ?_ ?_
  ·intro w'
   go_simp
  rotate_left
  ·simp only [ps_]
   rfl
  refine one_ (i := 8) (N := (some 16)) #[true, true, true, true, true, true, true, true, true, false, false, false, false] rfl rfl (one_of HT_.out (by kernel_rfl)) (by decide) (fun K hK => ?_)
  refine goes_ Try.func57 (by kernel_rfl) rfl #[.int .u64 (2 * fld)] (by rfl) rfl rfl (by (try simp only [List.map_toArray, List.map_cons, List.map_nil]); first | done | rfl) ?_
  refine (num_Put.calls _ p1 _ hp1.out).mono ?_
  rintro e w3 ⟨v3, rfl, ho3, hb3⟩
  refine ⟨_, rfl, ?_⟩
  have hS3 : w3.cell? ⟨g, 0, none⟩ = some (.slice A1 (l).length c1) := (hb3.cell (World.block_lt_of_cell? _ _ c0d)).trans c0d
  have hbe := Aside0.mk (blk_below hbd.out hb3)
  have hRe := Aside0.mk (Kd.N_below hRd.out hb3)
  have hlt := Aside0.mk (Kd.N_lt hRd.out)
  have HBe := Aside0.mk (below_step HBd.out hb3)
  have HKe := Aside0.mk (Kept.below HKd.out hb3)
  have ho3a := Aside0.mk ho3
  have hsz3 := Aside0.mk (below_size hb3)
  obtain ⟨A3, c3, rfl⟩ := Kd.R_slice ho3
  clear ho3 hb3 hbd hRd HBd HKd hHeld c0d
  refine hK.out _ _ hS3 (fun hHeld => ?_)
  clear hK K
  refine norm_ (a' := ?_) ?_ ?_
  rotate_left
  ·show Act.put _ (some 16) _ = _
   simp only [ps_]
   rfl
  refine last_ (i := 9) (N := (some 17)) #[true, true, true, true, true, true, true, true, true, true, false, false, false] rfl rfl (one_of HT_.out (by kernel_rfl)) (by decide) (fun K hK => ?_)
  refine Kd.N_append_rows_step (Kd.int .u8) (w0 := w0) w0.heap.size (by rfl) (.tmp 12) (.tmp 16) 22 5 (.int .u8 0) 1 rfl Try.underlying22 info5 rfl (by decide) (by omega) (.slice A1 (l).length c1) (l) (p1) A3 _ c3 (fun k => ok k ∨ W1.heap.size ≤ k) (fun k => wd.heap.size ≤ k) rfl rfl ?aO ?aR ?aK ?aF ?aB ?aS ?aL ?_
  case aO => exact hRe.out
  case aR => exact Kd.F_mono (Kd.N_F (Kd.R_N (Kd.R_bound ho3a.out))) (fun k_ hk_ => hk_.2.1)
  case aK => exact fun k_ hk_ => ⟨Or.inr (by omega), fun he_ => by have := hlt.out k_ he_.symm; omega⟩
  case aF => exact fun k_ hk_ => Or.inr (by have := hsz3.out; omega)
  case aB => exact HBe.out
  case aS => exact below_size HBe.out
  case aL => exact hlen1
  intro v9 w9 hN9 hB9 hG9 hO9
  refine hK.out _ _ ?_
  clear hK K
  have hN9a := Aside0.mk hN9
  have hbf := Aside0.mk (blk_grown hbe.out hG9 (fun he_ => hgo (hRe.out.1 g he_.symm)))
  have HKf := Aside0.mk (Kept.of_grown hG9 HKe.out (fun k_ hk_ => (hRe.out.1 k_ hk_).elim (fun h_ => Or.inl (Or.inl h_)) Or.inr))
  have HBf := Aside0.mk hB9
  obtain ⟨A9, c9, rfl⟩ := Kd.N_slice hN9
  clear hN9 hB9 hG9 hO9 hHeld hS3 hbe hRe hlt HBe HKe ho3a hsz3
  refine norm_ (a' := ?_) ?_ ?_
  rotate_left
  ·show Act.put _ (some 17) _ = _
   simp only [ps_]
   rfl
  refine pure_ (i := 10) (N := (some 18)) (v := ?_) (a' := ?_) #[true, true, true, true, true, true, true, true, true, true, true, false, false] rfl rfl (any_of HT_.out (by kernel_rfl)) (fun _ _ _ h => h) (Or.inl ⟨by rfl, ?_⟩) ?_ ?_
  rotate_left
  ·intro w'
   go_simp
   with_reducible rfl
  rotate_left
  ·simp only [ps_]
   rfl
  refine pure_ (i := 11) (N := (some 19)) (v := ?_) (a' := ?_) #[true, true, true, true, true, true, true, true, true, true, true, true, false] rfl rfl (any_of HT_.out (by kernel_rfl)) (fun _ _ _ h => h) (Or.inl ⟨by rfl, ?_⟩) ?_ ?_
  rotate_left
  ·intro w'
   go_simp
   with_reducible rfl
  rotate_left
  ·simp only [ps_]
   rfl
  refine last_ (i := 12) (N := none) #[true, true, true, true, true, true, true, true, true, true, true, true, true] rfl rfl (one_of HT_.out (by kernel_rfl)) (by decide) (fun K hK => ?_)
  have z8 : w9.cell? ⟨g, 0, none⟩ = some (.slice A1 (l).length c1) := blk_cell hbf.out 0
  have fz8 := blk_frozen hbf.out 0
  refine skip_ (w1 := ?_) (by rfl) rfl ?_ ?_
  rotate_left
  ·go_simp
   rfl
  refine hK.out _ _ ?_
  clear hK K z8 fz8
  refine done_ (done_of HT_.out (by kernel_rfl)) ?_
  clear HT_
  have hNl : (l ++ p1).length = (l).length + (p1).length := List.length_append
  have hbn := Aside0.mk (blk_put hbf.out 0 (.slice A9 (l ++ p1).length c9) rfl)
  have HBn := Aside0.mk (below_set (j := 0) (v := .slice A9 (l ++ p1).length c9) HBf.out hbg)
  have hNn := Aside0.mk (Kd.N_kept hN9a.out ((Kept.refl w9 (fun k => k = g)).setCell (p := ⟨g, 0, none⟩) (Or.inl rfl) (.slice A9 (l ++ p1).length c9)) (fun k_ hk_ he_ => hgo (he_ ▸ hk_)))
  have HKn := Aside0.mk (HKf.out.setCell (p := ⟨g, 0, none⟩) (Or.inl (Or.inr rfl)) (.slice A9 (l ++ p1).length c9))
  rw [hNl] at hbn HBn hNn HKn
  clear hbf HBf hN9a HKf
  generalize (w9.setCell ⟨g, 0, none⟩ (.slice A9 (l.length + p1.length) c9)) = W2 at *
  rw [← hNl] at hbn hNn
  clear hNl
  obtain ⟨q, hq⟩ : ∃ q, q = l ++ p1 := ⟨_, rfl⟩
  have hql : q.length ≤ 100010 := by rw [hq, List.length_append]; omega
  have htq := Aside0.mk (show l ++ Itm.num fld n = q ++ p2 by rw [htot.out, hq, List.append_assoc])
  rw [← hq] at hbn hNn
  clear hq htot hp1
  have hb2 := hbn; have hR2 := hNn; have HB2 := HBn; have HK2 := HKn
  clear hbn hNn HBn HKn
  generalize A9 = A2 at *
  generalize c9 = c2 at *
  have hlen2 : (q.length + p2.length) * 1 ≤ 140737488355328 := by omega
  go_wp2_with (fail)
  have c0d : W2.drew.cell? ⟨g, 0, none⟩ = some (.slice A2 (q).length c2) := blk_cell hb2.out 0
  have hbd := Aside0.mk (blk_drew hb2.out)
  have hRd := Aside0.mk (Kd.N_below hR2.out (below_drew (Below.refl _ W2)))
  have HBd := Aside0.mk (below_drew HB2.out)
  have HKd := Aside0.mk (Kept.drew HK2.out)
  clear hb2 hR2 HB2 HK2
  refine start_ (n := 11) (S := fun w' => w'.cell? ⟨g, 0, none⟩ = some (.slice A2 (q).length c2)) (ds := [7, 10]) #[false, false, false, false, false, false, false, false, false, false, false] (by kernel_rfl) rfl rfl c0d (fun hHeld => ?_)
  refine with_tab Itm.Tnumber2_tab (fun HT_ => ?_)
  generalize W2.drew = wd at hHeld hbd hRd HBd HKd c0d ⊢
  have hgd := blk_lt hbd.out
  have hszw := HKd.out.1
  refine pure_ (i := 0) (N := (some 20)) (v := ?_) (a' := ?_) #[true, false, false, false, false, false, false, false, false, false, false] rfl rfl (any_of HT_.out (by kernel_rfl)) (fun _ _ _ h => h) (Or.inl ⟨by rfl, ?_⟩) ?_ ?_
  rotate_left
  ·intro w'
   go_simp
   with_reducible rfl
  rotate_left
  ·simp only [ps_]
   rfl
  refine pure_ (i := 1) (N := (some 21)) (v := ?_) (a' := ?_) #[true, true, false, false, false, false, false, false, false, false, false] rfl rfl (any_of HT_.out (by kernel_rfl)) (fun _ _ _ h => h) (Or.inl ⟨by rfl, ?_⟩) ?_ ?_
  rotate_left
  ·intro w'
   go_simp
   with_reducible rfl
  rotate_left
  ·simp only [ps_]
   rfl
  refine pure_ (i := 2) (N := (some 22)) (v := ?_) (a' := ?_) #[true, true, true, false, false, false, false, false, false, false, false] rfl rfl (any_of HT_.out (by kernel_rfl)) (fun _ _ _ h => h) (Or.inl ⟨by rfl, ?_⟩) ?_ ?_
  rotate_left
  ·intro w'
   go_simp
   with_reducible rfl
  rotate_left
  ·simp only [ps_]
   rfl
  refine pure_ (i := 3) (N := (some 23)) (v := ?_) (a' := ?_) #[true, true, true, true, false, false, false, false, false, false, false] rfl rfl (any_of HT_.out (by kernel_rfl)) (fun _ _ _ h => h) (Or.inl ⟨by rfl, ?_⟩) ?_ ?_
  rotate_left
  ·intro w'
   go_simp
   with_reducible rfl
  rotate_left
  ·simp only [ps_]
   rfl
  refine take_ (i := 4) (N := (some 24)) (v := ?_) (a' := ?_) #[true, true, true, true, true, false, false, false, false, false, false] rfl rfl (take_of HT_.out (by kernel_rfl)) (fun _ _ _ h => h) (Or.inl ⟨by rfl, ?_⟩) hHeld ?_ ?_
  rotate_left
  ·rintro w' s0
   go_simp
   with_reducible rfl
  rotate_left
  ·simp only [ps_]
   rfl
  refine pure_ (i := 5) (N := (some 25)) (v := ?_) (a' := ?_) #[true, true, true, true, true, true, false, false, false, false, false] rfl rfl (any_of HT_.out (by kernel_rfl)) (fun _ _ _ h => h) (Or.inl ⟨by rfl, ?_⟩) ?_ ?_
  rotate_left
  ·intro w'
   go_simp
   with_reducible rfl
  rotate_left
  ·simp only [ps_]
   rfl
  refine one_ (i := 6) (N := (some 26)) #[true, true, true, true, true, true, true, false, false, false, false] rfl rfl (one_of HT_.out (by kernel_rfl)) (by decide) (fun K hK => ?_)
  refine goes_ Try.func57 (by kernel_rfl) rfl #[.int .u64 n] (by rfl) rfl rfl (by (try simp only [List.map_toArray, List.map_cons, List.map_nil]); first | done | rfl) ?_
  refine (num_Put.calls _ p2 _ hp2.out).mono ?_
  rintro e w3 ⟨v3, rfl, ho3, hb3⟩
  refine ⟨_, rfl, ?_⟩
  have hS3 : w3.cell? ⟨g, 0, none⟩ = some (.slice A2 (q).length c2) := (hb3.cell (World.block_lt_of_cell? _ _ c0d)).trans c0d
  have hbe := Aside0.mk (blk_below hbd.out hb3)
  have hRe := Aside0.mk (Kd.N_below hRd.out hb3)
  have hlt := Aside0.mk (Kd.N_lt hRd.out)
  have HBe := Aside0.mk (below_step HBd.out hb3)
  have HKe := Aside0.mk (Kept.below HKd.out hb3)
  have ho3a := Aside0.mk ho3
  have hsz3 := Aside0.mk (below_size hb3)
  obtain ⟨A3, c3, rfl⟩ := Kd.R_slice ho3
  clear ho3 hb3 hbd hRd HBd HKd hHeld c0d
  refine hK.out _ _ hS3 (fun hHeld => ?_)
  clear hK K
  refine norm_ (a' := ?_) ?_ ?_
  rotate_left
  ·show Act.put _ (some 26) _ = _
   simp only [ps_]
   rfl
  refine last_ (i := 7) (N := (some 27)) #[true, true, true, true, true, true, true, true, false, false, false] rfl rfl (one_of HT_.out (by kernel_rfl)) (by decide) (fun K hK => ?_)
  refine Kd.N_append_rows_step (Kd.int .u8) (w0 := w0) w0.heap.size (by rfl) (.tmp 24) (.tmp 26) 22 5 (.int .u8 0) 1 rfl Try.underlying22 info5 rfl (by decide) (by omega) (.slice A2 (q).length c2) (q) (p2) A3 _ c3 (fun k => ok k ∨ W1.heap.size ≤ k) (fun k => wd.heap.size ≤ k) rfl rfl ?aO ?aR ?aK ?aF ?aB ?aS ?aL ?_
  case aO => exact hRe.out
  case aR => exact Kd.F_mono (Kd.N_F (Kd.R_N (Kd.R_bound ho3a.out))) (fun k_ hk_ => hk_.2.1)
  case aK => exact fun k_ hk_ => ⟨Or.inr (by omega), fun he_ => by have := hlt.out k_ he_.symm; omega⟩
  case aF => exact fun k_ hk_ => Or.inr (by have := hsz3.out; omega)
  case aB => exact HBe.out
  case aS => exact below_size HBe.out
  case aL => exact hlen2
  intro v9 w9 hN9 hB9 hG9 hO9
  refine hK.out _ _ ?_
  clear hK K
  have hN9a := Aside0.mk hN9
  have hbf := Aside0.mk (blk_grown hbe.out hG9 (fun he_ => hgo (hRe.out.1 g he_.symm)))
  have HKf := Aside0.mk (Kept.of_grown hG9 HKe.out (fun k_ hk_ => (hRe.out.1 k_ hk_).elim (fun h_ => Or.inl (Or.inl h_)) Or.inr))
  have HBf := Aside0.mk hB9
  obtain ⟨A9, c9, rfl⟩ := Kd.N_slice hN9
  clear hN9 hB9 hG9 hO9 hHeld hS3 hbe hRe hlt HBe HKe ho3a hsz3
  refine norm_ (a' := ?_) ?_ ?_
  rotate_left
  ·show Act.put _ (some 27) _ = _
   simp only [ps_]
   rfl
  refine pure_ (i := 8) (N := (some 28)) (v := ?_) (a' := ?_) #[true, true, true, true, true, true, true, true, true, false, false] rfl rfl (any_of HT_.out (by kernel_rfl)) (fun _ _ _ h => h) (Or.inl ⟨by rfl, ?_⟩) ?_ ?_
  rotate_left
  ·intro w'
   go_simp
   with_reducible rfl
  rotate_left
  ·simp only [ps_]
   rfl
  refine pure_ (i := 9) (N := (some 29)) (v := ?_) (a' := ?_) #[true, true, true, true, true, true, true, true, true, true, false] rfl rfl (any_of HT_.out (by kernel_rfl)) (fun _ _ _ h => h) (Or.inl ⟨by rfl, ?_⟩) ?_ ?_
  rotate_left
  ·intro w'
   go_simp
   with_reducible rfl
  rotate_left
  ·simp only [ps_]
   rfl
  refine last_ (i := 10) (N := none) #[true, true, true, true, true, true, true, true, true, true, true] rfl rfl (one_of HT_.out (by kernel_rfl)) (by decide) (fun K hK => ?_)
  have z8 : w9.cell? ⟨g, 0, none⟩ = some (.slice A2 (q).length c2) := blk_cell hbf.out 0
  have fz8 := blk_frozen hbf.out 0
  refine skip_ (w1 := ?_) (by rfl) rfl ?_ ?_
  rotate_left
  ·go_simp
   rfl
  refine hK.out _ _ ?_
  clear hK K z8 fz8
  refine done_ (done_of HT_.out (by kernel_rfl)) ?_
  clear HT_
  have hNl : (q ++ p2).length = (q).length + (p2).length := List.length_append
  have hbn := Aside0.mk (blk_put hbf.out 0 (.slice A9 (q ++ p2).length c9) rfl)
  have HBn := Aside0.mk (below_set (j := 0) (v := .slice A9 (q ++ p2).length c9) HBf.out hbg)
  have hNn := Aside0.mk (Kd.N_kept hN9a.out ((Kept.refl w9 (fun k => k = g)).setCell (p := ⟨g, 0, none⟩) (Or.inl rfl) (.slice A9 (q ++ p2).length c9)) (fun k_ hk_ he_ => hgo (he_ ▸ hk_)))
  have HKn := Aside0.mk (HKf.out.setCell (p := ⟨g, 0, none⟩) (Or.inl (Or.inr rfl)) (.slice A9 (q ++ p2).length c9))
  rw [hNl] at hbn HBn hNn HKn
  clear hbf HBf hN9a HKf
  go_wp2
  go_end0
  refine ⟨⟨_, rfl⟩, ?_, HKn.out, ?_⟩
  ·rw [htq.out]
   exact ⟨A9, c9, by rw [hNl]; exact hbn.out, hbg, hgo, by rw [hNl]; exact hNn.out⟩
  ·exact HBn.out
def Itm.Ttext1 : Bool × List (List Nat × List Nat) := (true, [([], []), ([], []), ([1], [1]), ([2], [2]), ([3], [3]), ([], []), ([5], [5]), ([6], [6]), ([7], [7]), ([8], [8]), ([4, 9, 9], [4, 9]), ([0, 0, 1, 2, 3, 4, 5, 6, 7, 8, 9, 10], [0]), ([11, 0, 1, 2, 3, 4, 5, 6, 7, 8, 9, 10], [11]), ([12, 10, 10, 0, 1, 2, 3, 4, 5, 6, 7, 8, 9, 10], [10, 12])])
theorem Itm.Ttext1_tab : rtab .any (opsOf Try.f51 1) = Itm.Ttext1 := by kernel_rfl
def Itm.Ttext2 : Bool × List (List Nat × List Nat) := (true, [([], []), ([], []), ([1], [1]), ([2], [2]), ([3], [3]), ([], []), ([5], [5]), ([4, 6, 6], [4, 6]), ([0, 0, 1, 2, 3, 4, 5, 6, 7], [0]), ([8, 0, 1, 2, 3, 4, 5, 6, 7], [8]), ([9, 7, 7, 0, 1, 2, 3, 4, 5, 6, 7], [7, 9])])
theorem Itm.Ttext2_tab : rtab .any (opsOf Try.f51 2) = Itm.Ttext2 := by kernel_rfl
set_option maxHeartbeats 1000000 in
set_option maxRecDepth 100000 in
theorem Itm.text_calls (w0 W1 : World) (ok : Nat → Prop) (g : Nat) (l : List Int) (fld : Int) (s : ByteArray) (hW : Itm.W W1 w0.heap.size ok g l) (HB : Below w0.heap.size w0 W1) (hf : 1 ≤ fld ∧ fld ≤ 10) (hn : s.size ≤ 100000) (hl : l.length ≤ 100000) :
  Calls Try.prog 51 #[.pointer (some ⟨g, 0, none⟩), .int .i64 fld, .string s] W1 fun e w' => (∃ v, e = .returned v) ∧ Itm.W w' w0.heap.size (fun k => ok k ∨ W1.heap.size ≤ k) g (l ++ Itm.txt fld s) ∧ Kept W1 w' (fun k => ok k ∨ k = g) ∧ Below w0.heap.size w0 w' := by
 have hglt := Itm.W_lt hW
 have hgo : ¬ (ok g ∨ W1.heap.size ≤ g) := by
  rintro (h_ | h_)
  ·obtain ⟨_, _, _, _, h2_, _⟩ := hW; exact h2_ h_
  ·omega
 by_cases h0 : s.size = 0
 ·have he : s.toList.isEmpty = true := by rw [Itm.empty_eq]; exact decide_eq_true h0
  go_enter Try.func51, Try.ntmps51
  go_wp2
  go_end0
  exact ⟨⟨_, rfl⟩, by rw [Itm.txt, if_pos h0, List.append_nil]; exact Itm.W_mono hW (fun _ h_ => Or.inl h_) hgo, Kept.refl _ _, HB⟩
 ·have htot : Itm.txt fld s = putL (2 * fld + 1).toNat ++ (putL s.size ++ bytesOf s) := by rw [Itm.txt, if_neg h0]
  have hp2 := Aside0.mk (Itm.putText_eq s hn)
  have hlp2 : (putL s.size ++ bytesOf s).length ≤ 100010 := by rw [List.length_append, bytesOf_length]; have := putL_ten (n := s.size) (by omega); omega
  have b0 : s.toList.isEmpty = false := by rw [Itm.empty_eq]; exact decide_eq_false h0
  generalize putL s.size ++ bytesOf s = p2 at *
  have hp1 := Aside0.mk (Itm.put_eq (n := 2 * fld + 1) (by omega) (by omega))
  have hlp1 := putL_ten (n := (2 * fld + 1).toNat) (by omega)
  generalize putL (2 * fld + 1).toNat = p1 at *
  have hlen1 : (l.length + p1.length) * 1 ≤ 140737488355328 := by omega
  obtain ⟨A1, c1, hb1, hbg, hgo1, hR1⟩ := hW
  replace hb1 := Aside0.mk hb1; replace hR1 := Aside0.mk (Kd.N_mono (ok' := fun k => ok k ∨ W1.heap.size ≤ k) hR1 (fun _ h_ => Or.inl h_))
  have HK1 := Aside0.mk (Kept.refl W1 (fun k => ok k ∨ k = g))
  have HB1 := Aside0.mk HB
  replace htot := Aside0.mk htot
  have hw1 : IntKind.i64.wrap (2 * fld) = 2 * fld := by rw [Itm.i64w]; unfold wrap64; omega
  have hw2 : IntKind.i64.wrap (2 * fld + 1) = 2 * fld + 1 := by rw [Itm.i64w]; unfold wrap64; omega
  have hw3 : IntKind.u64.wrap (2 * fld + 1) = 2 * fld + 1 := wrap_u64_id (by omega) (by omega)
  clear h0 HB
  go_enter Try.func51, Try.ntmps51
  go_wp2_with (fail)
  have c0d : W1.drew.cell? ⟨g, 0, none⟩ = some (.slice A1 (l).length c1) := blk_cell hb1.out 0
  have hbd := Aside0.mk (blk_drew hb1.out)
  have hRd := Aside0.mk (Kd.N_below hR1.out (below_drew (Below.refl _ W1)))
  have HBd := Aside0.mk (below_drew HB1.out)
  have HKd := Aside0.mk (Kept.drew HK1.out)
  clear hb1 hR1 HB1 HK1
  refine start_ (n := 14) (S := fun w' => w'.cell? ⟨g, 0, none⟩ = some (.slice A1 (l).length c1)) (ds := [10, 13]) #[false, false, false, false, false, false, false, false, false, false, false, false, false, false] (by kernel_rfl) rfl rfl c0d (fun hHeld => ?_)
  refine with_tab Itm.Ttext1_tab (fun HT_ => ?_)
  generalize W1.drew = wd at hHeld hbd hRd HBd HKd c0d ⊢
  have hgd := blk_lt hbd.out
  have hszw := HKd.out.1
  refine pure_ (i := 0) (N := (some 8)) (v := ?_) (a' := ?_) #[true, false, false, false, false, false, false, false, false, false, false, false, false, false] rfl rfl (any_of HT_.out (by kernel_rfl)) (fun _ _ _ h => h) (Or.inl ⟨by rfl, ?_⟩) ?_ ?_
  rotate_left
  ·intro w'
   go_simp
   with_reducible rfl
  rotate_left
  ·simp only [ps_]
   rfl
  refine pure_ (i := 1) (N := (some 9)) (v := ?_) (a' := ?_) #[true, true, false, false, false, false, false, false, false, false, false, false, false, false] rfl rfl (any_of HT_.out (by kernel_rfl)) (fun _ _ _ h => h) (Or.inl ⟨by rfl, ?_⟩) ?_ ?_
  rotate_left
  ·intro w'
   go_simp
   with_reducible rfl
  rotate_left
  ·simp only [ps_]
   rfl
  refine pure_ (i := 2) (N := (some 10)) (v := ?_) (a' := ?_) #[true, true, true, false, false, false, false, false, false, false, false, false, false, false] rfl rfl (any_of HT_.out (by kernel_rfl)) (fun _ _ _ h => h) (Or.inl ⟨by rfl, ?_⟩) ?_ ?_
  rotate_left
  ·intro w'
   go_simp
   with_reducible rfl
  rotate_left
  ·simp only [ps_]
   rfl
  refine pure_ (i := 3) (N := (some 11)) (v := ?_) (a' := ?_) #[true, true, true, true, false, false, false, false, false, false, false, false, false, false] rfl rfl (any_of HT_.out (by kernel_rfl)) (fun _ _ _ h => h) (Or.inl ⟨by rfl, ?_⟩) ?_ ?_
  rotate_left
  ·intro w'
   go_simp
   with_reducible rfl
  rotate_left
  ·simp only [ps_]
   rfl
  refine take_ (i := 4) (N := (some 12)) (v := ?_) (a' := ?_) #[true, true, true, true, true, false, false, false, false, false, false, false, false, false] rfl rfl (take_of HT_.out (by kernel_rfl)) (fun _ _ _ h => h) (Or.inl ⟨by rfl, ?_⟩) hHeld ?_ ?_
  rotate_left
  ·rintro w' s0
   go_simp
   with_reducible rfl
  rotate_left
  ·simp only [ps_]
   rfl
  refine pure_ (i := 5) (N := (some 13)) (v := ?_) (a' := ?_) #[true, true, true, true, true, true, false, false, false, false, false, false, false, false] rfl rfl (any_of HT_.out (by kernel_rfl)) (fun _ _ _ h => h) (Or.inl ⟨by rfl, ?_⟩) ?_ ?_
  rotate_left
  ·intro w'
   go_simp
   with_reducible rfl
  rotate_left
  ·simp only [ps_]
   rfl
  refine pure_ (i := 6) (N := (some 14)) (v := .int .i64 (2 * fld)) (a' := ?_) #[true, true, true, true, true, true, true, false, false, false, false, false, false, false] rfl rfl (any_of HT_.out (by kernel_rfl)) (fun _ _ _ h => h) (Or.inl ⟨by rfl, ?_⟩) ?_ ?_
  ·intro w'
   go_simp
  rotate_left
  ·simp only [ps_]
   rfl
  refine pure_ (i := 7) (N := (some 15)) (v := .int .i64 (2 * fld + 1)) (a' := ?_) #[true, true, true, true, true, true, true, true, false, false, false, false, false, false] rfl rfl (any_of HT_.out (by kernel_rfl)) (fun _ _ _ h => h) (Or.inl ⟨by rfl, ?_⟩) ?_ ?_
  ·intro w'
   go_simp
  rotate_left
  ·simp only [ps_]
   rfl
  refine pure_ (i := 8) (N := (some 16)) (v := .int .u64 (2 * fld + 1)) (a' := ?_) #[true, true, true, true, true, true, true, true, true, false, false, false, false, false] rfl rfl (any_of HT_.out (by kernel_rfl)) (fun _ _ _ h => h) (Or.inl ⟨by rfl, ?_⟩) ?_ ?_
  ·intro w'
   go_simp
  rotate_left
  ·simp only [ps_]
   rfl
  refine one_ (i := 9) (N := (some 17)) #[true, true, true, true, true, true, true, true, true, true, false, false, false, false] rfl rfl (one_of HT_.out (by kernel_rfl)) (by decide) (fun K hK => ?_)
  refine goes_ Try.func57 (by kernel_rfl) rfl #[.int .u64 (2 * fld + 1)] (by rfl) rfl rfl (by (try simp only [List.map_toArray, List.map_cons, List.map_nil]); first | done | rfl) ?_
  refine (num_Put.calls _ p1 _ hp1.out).mono ?_
  rintro e w3 ⟨v3, rfl, ho3, hb3⟩
  refine ⟨_, rfl, ?_⟩
  have hS3 : w3.cell? ⟨g, 0, none⟩ = some (.slice A1 (l).length c1) := (hb3.cell (World.block_lt_of_cell? _ _ c0d)).trans c0d
  have hbe := Aside0.mk (blk_below hbd.out hb3)
  have hRe := Aside0.mk (Kd.N_below hRd.out hb3)
  have hlt := Aside0.mk (Kd.N_lt hRd.out)
  have HBe := Aside0.mk (below_step HBd.out hb3)
  have HKe := Aside0.mk (Kept.below HKd.out hb3)
  have ho3a := Aside0.mk ho3
  have hsz3 := Aside0.mk (below_size hb3)
  obtain ⟨A3, c3, rfl⟩ := Kd.R_slice ho3
  clear ho3 hb3 hbd hRd HBd HKd hHeld c0d
  refine hK.out _ _ hS3 (fun hHeld => ?_)
  clear hK K
  refine norm_ (a' := ?_) ?_ ?_
  rotate_left
  ·show Act.put _ (some 17) _ = _
   simp only [ps_]
   rfl
  refine last_ (i := 10) (N := (some 18)) #[true, true, true, true, true, true, true, true, true, true, true, false, false, false] rfl rfl (one_of HT_.out (by kernel_rfl)) (by decide) (fun K hK => ?_)
  refine Kd.N_append_rows_step (Kd.int .u8) (w0 := w0) w0.heap.size (by rfl) (.tmp 12) (.tmp 17) 22 5 (.int .u8 0) 1 rfl Try.underlying22 info5 rfl (by decide) (by omega) (.slice A1 (l).length c1) (l) (p1) A3 _ c3 (fun k => ok k ∨ W1.heap.size ≤ k) (fun k => wd.heap.size ≤ k) rfl rfl ?aO ?aR ?aK ?aF ?aB ?aS ?aL ?_
  case aO => exact hRe.out
  case aR => exact Kd.F_mono (Kd.N_F (Kd.R_N (Kd.R_bound ho3a.out))) (fun k_ hk_ => hk_.2.1)
  case aK => exact fun k_ hk_ => ⟨Or.inr (by omega), fun he_ => by have := hlt.out k_ he_.symm; omega⟩
  case aF => exact fun k_ hk_ => Or.inr (by have := hsz3.out; omega)
  case aB => exact HBe.out
  case aS => exact below_size HBe.out
  case aL => exact hlen1
  intro v9 w9 hN9 hB9 hG9 hO9
  refine hK.out _ _ ?_
  clear hK K
  have hN9a := Aside0.mk hN9
  have hbf := Aside0.mk (blk_grown hbe.out hG9 (fun he_ => hgo (hRe.out.1 g he_.symm)))
  have HKf := Aside0.mk (Kept.of_grown hG9 HKe.out (fun k_ hk_ => (hRe.out.1 k_ hk_).elim (fun h_ => Or.inl (Or.inl h_)) Or.inr))
  have HBf := Aside0.mk hB9
  obtain ⟨A9, c9, rfl⟩ := Kd.N_slice hN9
  clear hN9 hB9 hG9 hO9 hHeld hS3 hbe hRe hlt HBe HKe ho3a hsz3
  refine norm_ (a' := ?_) ?_ ?_
  rotate_left
  ·show Act.put _ (some 18) _ = _
   simp only [ps_]
   rfl
  refine pure_ (i := 11) (N := (some 19)) (v := ?_) (a' := ?_) #[true, true, true, true, true, true, true, true, true, true, true, true, false, false] rfl rfl (any_of HT_.out (by kernel_rfl)) (fun _ _ _ h => h) (Or.inl ⟨by rfl, ?_⟩) ?_ ?_
  rotate_left
  ·intro w'
   go_simp
   with_reducible rfl
  rotate_left
  ·simp only [ps_]
   rfl
  refine pure_ (i := 12) (N := (some 20)) (v := ?_) (a' := ?_) #[true, true, true, true, true, true, true, true, true, true, true, true, true, false] rfl rfl (any_of HT_.out (by kernel_rfl)) (fun _ _ _ h => h) (Or.inl ⟨by rfl, ?_⟩) ?_ ?_
  rotate_left
  ·intro w'
   go_simp
   with_reducible rfl
  rotate_left
  ·simp only [ps_]
   rfl
  refine last_ (i := 13) (N := none) #[true, true, true, true, true, true, true, true, true, true, true, true, true, true] rfl rfl (one_of HT_.out (by kernel_rfl)) (by decide) (fun K hK => ?_)
  have z8 : w9.cell? ⟨g, 0, none⟩ = some (.slice A1 (l).length c1) := blk_cell hbf.out 0
  have fz8 := blk_frozen hbf.out 0
  refine skip_ (w1 := ?_) (by rfl) rfl ?_ ?_
  rotate_left
  ·go_simp
   rfl
  refine hK.out _ _ ?_
  clear hK K z8 fz8
  refine done_ (done_of HT_.out (by kernel_rfl)) ?_
  clear HT_
  have hNl : (l ++ p1).length = (l).length + (p1).length := List.length_append
  have hbn := Aside0.mk (blk_put hbf.out 0 (.slice A9 (l ++ p1).length c9) rfl)
  have HBn := Aside0.mk (below_set (j := 0) (v := .slice A9 (l ++ p1).length c9) HBf.out hbg)
  have hNn := Aside0.mk (Kd.N_kept hN9a.out ((Kept.refl w9 (fun k => k = g)).setCell (p := ⟨g, 0, none⟩) (Or.inl rfl) (.slice A9 (l ++ p1).length c9)) (fun k_ hk_ he_ => hgo (he_ ▸ hk_)))
  have HKn := Aside0.mk (HKf.out.setCell (p := ⟨g, 0, none⟩) (Or.inl (Or.inr rfl)) (.slice A9 (l ++ p1).length c9))
  rw [hNl] at hbn HBn hNn HKn
  clear hbf HBf hN9a HKf
  generalize (w9.setCell ⟨g, 0, none⟩ (.slice A9 (l.length + p1.length) c9)) = W2 at *
  rw [← hNl] at hbn hNn
  clear hNl
  obtain ⟨q, hq⟩ : ∃ q, q = l ++ p1 := ⟨_, rfl⟩
  have hql : q.length ≤ 100010 := by rw [hq, List.length_append]; omega
  have htq := Aside0.mk (show l ++ Itm.txt fld s = q ++ p2 by rw [htot.out, hq, List.append_assoc])
  rw [← hq] at hbn hNn
  clear hq htot hp1
  have hb2 := hbn; have hR2 := hNn; have HB2 := HBn; have HK2 := HKn
  clear hbn hNn HBn HKn
  generalize A9 = A2 at *
  generalize c9 = c2 at *
  have hlen2 : (q.length + p2.length) * 1 ≤ 140737488355328 := by omega
  go_wp2_with (fail)
  have c0d : W2.drew.cell? ⟨g, 0, none⟩ = some (.slice A2 (q).length c2) := blk_cell hb2.out 0
  have hbd := Aside0.mk (blk_drew hb2.out)
  have hRd := Aside0.mk (Kd.N_below hR2.out (below_drew (Below.refl _ W2)))
  have HBd := Aside0.mk (below_drew HB2.out)
  have HKd := Aside0.mk (Kept.drew HK2.out)
  clear hb2 hR2 HB2 HK2
  refine start_ (n := 11) (S := fun w' => w'.cell? ⟨g, 0, none⟩ = some (.slice A2 (q).length c2)) (ds := [7, 10]) #[false, false, false, false, false, false, false, false, false, false, false] (by kernel_rfl) rfl rfl c0d (fun hHeld => ?_)
  refine with_tab Itm.Ttext2_tab (fun HT_ => ?_)
  generalize W2.drew = wd at hHeld hbd hRd HBd HKd c0d ⊢
  have hgd := blk_lt hbd.out
  have hszw := HKd.out.1
  refine pure_ (i := 0) (N := (some 21)) (v := ?_) (a' := ?_) #[true, false, false, false, false, false, false, false, false, false, false] rfl rfl (any_of HT_.out (by kernel_rfl)) (fun _ _ _ h => h) (Or.inl ⟨by rfl, ?_⟩) ?_ ?_
  rotate_left
  ·intro w'
   go_simp
   with_reducible rfl
  rotate_left
  ·simp only [ps_]
   rfl
  refine pure_ (i := 1) (N := (some 22)) (v := ?_) (a' := ?_) #[true, true, false, false, false, false, false, false, false, false, false] rfl rfl (any_of HT_.out (by kernel_rfl)) (fun _ _ _ h => h) (Or.inl ⟨by rfl, ?_⟩) ?_ ?_
  rotate_left
  ·intro w'
   go_simp
   with_reducible rfl
  rotate_left
  ·simp only [ps_]
   rfl
  refine pure_ (i := 2) (N := (some 23)) (v := ?_) (a' := ?_) #[true, true, true, false, false, false, false, false, false, false, false] rfl rfl (any_of HT_.out (by kernel_rfl)) (fun _ _ _ h => h) (Or.inl ⟨by rfl, ?_⟩) ?_ ?_
  rotate_left
  ·intro w'
   go_simp
   with_reducible rfl
  rotate_left
  ·simp only [ps_]
   rfl
  refine pure_ (i := 3) (N := (some 24)) (v := ?_) (a' := ?_) #[true, true, true, true, false, false, false, false, false, false, false] rfl rfl (any_of HT_.out (by kernel_rfl)) (fun _ _ _ h => h) (Or.inl ⟨by rfl, ?_⟩) ?_ ?_
  rotate_left
  ·intro w'
   go_simp
   with_reducible rfl
  rotate_left
  ·simp only [ps_]
   rfl
  refine take_ (i := 4) (N := (some 25)) (v := ?_) (a' := ?_) #[true, true, true, true, true, false, false, false, false, false, false] rfl rfl (take_of HT_.out (by kernel_rfl)) (fun _ _ _ h => h) (Or.inl ⟨by rfl, ?_⟩) hHeld ?_ ?_
  rotate_left
  ·rintro w' s0
   go_simp
   with_reducible rfl
  rotate_left
  ·simp only [ps_]
   rfl
  refine pure_ (i := 5) (N := (some 26)) (v := ?_) (a' := ?_) #[true, true, true, true, true, true, false, false, false, false, false] rfl rfl (any_of HT_.out (by kernel_rfl)) (fun _ _ _ h => h) (Or.inl ⟨by rfl, ?_⟩) ?_ ?_
  rotate_left
  ·intro w'
   go_simp
   with_reducible rfl
  rotate_left
  ·simp only [ps_]
   rfl
  refine one_ (i := 6) (N := (some 27)) #[true, true, true, true, true, true, true, false, false, false, false] rfl rfl (one_of HT_.out (by kernel_rfl)) (by decide) (fun K hK => ?_)
  refine goes_ Try.func52 (by kernel_rfl) rfl #[.string s] (by rfl) rfl rfl (by (try simp only [List.map_toArray, List.map_cons, List.map_nil]); first | done | rfl) ?_
  refine (num_PutText.calls _ p2 _ hp2.out).mono ?_
  rintro e w3 ⟨v3, rfl, ho3, hb3⟩
  refine ⟨_, rfl, ?_⟩
  have hS3 : w3.cell? ⟨g, 0, none⟩ = some (.slice A2 (q).length c2) := (hb3.cell (World.block_lt_of_cell? _ _ c0d)).trans c0d
  have hbe := Aside0.mk (blk_below hbd.out hb3)
  have hRe := Aside0.mk (Kd.N_below hRd.out hb3)
  have hlt := Aside0.mk (Kd.N_lt hRd.out)
  have HBe := Aside0.mk (below_step HBd.out hb3)
  have HKe := Aside0.mk (Kept.below HKd.out hb3)
  have ho3a := Aside0.mk ho3
  have hsz3 := Aside0.mk (below_size hb3)
  obtain ⟨A3, c3, rfl⟩ := Kd.R_slice ho3
  clear ho3 hb3 hbd hRd HBd HKd hHeld c0d
  refine hK.out _ _ hS3 (fun hHeld => ?_)
  clear hK K
  refine norm_ (a' := ?_) ?_ ?_
  rotate_left
  ·show Act.put _ (some 27) _ = _
   simp only [ps_]
   rfl
  refine last_ (i := 7) (N := (some 28)) #[true, true, true, true, true, true, true, true, false, false, false] rfl rfl (one_of HT_.out (by kernel_rfl)) (by decide) (fun K hK => ?_)
  refine Kd.N_append_rows_step (Kd.int .u8) (w0 := w0) w0.heap.size (by rfl) (.tmp 25) (.tmp 27) 22 5 (.int .u8 0) 1 rfl Try.underlying22 info5 rfl (by decide) (by omega) (.slice A2 (q).length c2) (q) (p2) A3 _ c3 (fun k => ok k ∨ W1.heap.size ≤ k) (fun k => wd.heap.size ≤ k) rfl rfl ?aO ?aR ?aK ?aF ?aB ?aS ?aL ?_
  case aO => exact hRe.out
  case aR => exact Kd.F_mono (Kd.N_F (Kd.R_N (Kd.R_bound ho3a.out))) (fun k_ hk_ => hk_.2.1)
  case aK => exact fun k_ hk_ => ⟨Or.inr (by omega), fun he_ => by have := hlt.out k_ he_.symm; omega⟩
  case aF => exact fun k_ hk_ => Or.inr (by have := hsz3.out; omega)
  case aB => exact HBe.out
  case aS => exact below_size HBe.out
  case aL => exact hlen2
  intro v9 w9 hN9 hB9 hG9 hO9
  refine hK.out _ _ ?_
  clear hK K
  have hN9a := Aside0.mk hN9
  have hbf := Aside0.mk (blk_grown hbe.out hG9 (fun he_ => hgo (hRe.out.1 g he_.symm)))
  have HKf := Aside0.mk (Kept.of_grown hG9 HKe.out (fun k_ hk_ => (hRe.out.1 k_ hk_).elim (fun h_ => Or.inl (Or.inl h_)) Or.inr))
  have HBf := Aside0.mk hB9
  obtain ⟨A9, c9, rfl⟩ := Kd.N_slice hN9
  clear hN9 hB9 hG9 hO9 hHeld hS3 hbe hRe hlt HBe HKe ho3a hsz3
  refine norm_ (a' := ?_) ?_ ?_
  rotate_left
  ·show Act.put _ (some 28) _ = _
   simp only [ps_]
   rfl
  refine pure_ (i := 8) (N := (some 29)) (v := ?_) (a' := ?_) #[true, true, true, true, true, true, true, true, true, false, false] rfl rfl (any_of HT_.out (by kernel_rfl)) (fun _ _ _ h => h) (Or.inl ⟨by rfl, ?_⟩) ?_ ?_
  rotate_left
  ·intro w'
   go_simp
   with_reducible rfl
  rotate_left
  ·simp only [ps_]
   rfl
  refine pure_ (i := 9) (N := (some 30)) (v := ?_) (a' := ?_) #[true, true, true, true, true, true, true, true, true, true, false] rfl rfl (any_of HT_.out (by kernel_rfl)) (fun _ _ _ h => h) (Or.inl ⟨by rfl, ?_⟩) ?_ ?_
  rotate_left
  ·intro w'
   go_simp
   with_reducible rfl
  rotate_left
  ·simp only [ps_]
   rfl
  refine last_ (i := 10) (N := none) #[true, true, true, true, true, true, true, true, true, true, true] rfl rfl (one_of HT_.out (by kernel_rfl)) (by decide) (fun K hK => ?_)
  have z8 : w9.cell? ⟨g, 0, none⟩ = some (.slice A2 (q).length c2) := blk_cell hbf.out 0
  have fz8 := blk_frozen hbf.out 0
  refine skip_ (w1 := ?_) (by rfl) rfl ?_ ?_
  rotate_left
  ·go_simp
   rfl
  refine hK.out _ _ ?_
  clear hK K z8 fz8
  refine done_ (done_of HT_.out (by kernel_rfl)) ?_
  clear HT_
  have hNl : (q ++ p2).length = (q).length + (p2).length := List.length_append
  have hbn := Aside0.mk (blk_put hbf.out 0 (.slice A9 (q ++ p2).length c9) rfl)
  have HBn := Aside0.mk (below_set (j := 0) (v := .slice A9 (q ++ p2).length c9) HBf.out hbg)
  have hNn := Aside0.mk (Kd.N_kept hN9a.out ((Kept.refl w9 (fun k => k = g)).setCell (p := ⟨g, 0, none⟩) (Or.inl rfl) (.slice A9 (q ++ p2).length c9)) (fun k_ hk_ he_ => hgo (he_ ▸ hk_)))
  have HKn := Aside0.mk (HKf.out.setCell (p := ⟨g, 0, none⟩) (Or.inl (Or.inr rfl)) (.slice A9 (q ++ p2).length c9))
  rw [hNl] at hbn HBn hNn HKn
  clear hbf HBf hN9a HKf
  go_wp2
  go_end0
  refine ⟨⟨_, rfl⟩, ?_, HKn.out, ?_⟩
  ·rw [htq.out]
   exact ⟨A9, c9, by rw [hNl]; exact hbn.out, hbg, hgo, by rw [hNl]; exact hNn.out⟩
  ·exact HBn.out
end Go.Proofs.Ytfapckmobeppnaa.Px
