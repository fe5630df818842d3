/- The writer's span. -/
import Derived.Test.YtfapckmobeppnaaItmL
import Derived.Test.YtfapckmobeppnaaItmC
import Derived.Test.YtfapckmobeppnaaItmE
namespace Go.Proofs.Ytfapckmobeppnaa.Px
open Go.RowKit Go.Proofs.YtfapckmobeppnaaW.PrintWords Go.Proofs.YtfapckmobeppnaaW.PrintLast Go.Proofs.YtfapckmobeppnaaW.PrintMore
set_option linter.unusedVariables false
set_option linter.unusedSimpArgs false

/-- What the walk keeps: the writer, the span's block; no more than N bytes. -/
structure Itm.Sp (w0 W1 w : World) (ok : Nat → Prop) (g : Nat) (cs : Array Value) (l : List Int) (N : Nat) : Prop where
 hW : Itm.W w w0.heap.size (fun k => (ok k ∧ k < W1.heap.size) ∨ W1.heap.size + 1 ≤ k) g l
 hB : Below w0.heap.size w0 w
 hk : w.heap[W1.heap.size]? = some (.cells cs 26 (0, 0))
 hK : Kept W1 w (fun k => ok k ∨ k = g)
 hs : W1.heap.size + 1 ≤ w.heap.size
 hg : g < W1.heap.size
 hN : l.length ≤ N
theorem Itm.Sp.below {w0 W1 w w' : World} {ok : Nat → Prop} {g : Nat} {cs : Array Value} {l : List Int} {N : Nat} (h : Itm.Sp w0 W1 w ok g cs l N) (hb : Below w.heap.size w w') : Itm.Sp w0 W1 w' ok g cs l N :=
 ⟨Itm.W_below h.hW hb, below_step h.hB hb, blk_below h.hk hb, Kept.below h.hK hb, Nat.le_trans h.hs hb.size, h.hg, h.hN⟩
theorem Itm.Sp.cast {w0 W1 w : World} {ok : Nat → Prop} {g : Nat} {cs : Array Value} {l : List Int} {N : Nat} (h : Itm.Sp w0 W1 w ok g cs l N) (l' : List Int) (N' : Nat) (hl : l = l') (hN : N = N') : Itm.Sp w0 W1 w ok g cs l' N' := by
 subst hl; subst hN; exact h
theorem Itm.Sp.step {w0 W1 w w' : World} {ok : Nat → Prop} {g : Nat} {cs : Array Value} {l l' : List Int} {N N' : Nat} (h : Itm.Sp w0 W1 w ok g cs l N)
  (hW : Itm.W w' w0.heap.size (fun k => ((ok k ∧ k < W1.heap.size) ∨ W1.heap.size + 1 ≤ k) ∨ w.heap.size ≤ k) g l') (hK : Kept w w' (fun k => ((ok k ∧ k < W1.heap.size) ∨ W1.heap.size + 1 ≤ k) ∨ k = g)) (hB : Below w0.heap.size w0 w') (hN : l'.length ≤ N') : Itm.Sp w0 W1 w' ok g cs l' N' := by
 have hno : ¬ ((ok g ∧ g < W1.heap.size) ∨ W1.heap.size + 1 ≤ g) := by obtain ⟨_, _, _, _, h3, _⟩ := h.hW; exact h3
 have hs := h.hs
 have hg := h.hg
 refine ⟨Itm.W_mono hW (fun k hk => ?_) hno, hB, blk_kept h.hk hK ?_, Kept.then_ h.hK hK (fun k hk => ?_), Nat.le_trans hs hK.1, hg, hN⟩
 ·rcases hk with hk | hk
  ·exact hk
  ·exact Or.inr (by omega)
 ·rintro ((h_ | h_) | h_)
  ·have := h_.2; omega
  ·omega
  ·omega
 ·rcases hk with (hk | hk) | hk
  ·exact Or.inl (Or.inl hk.1)
  ·exact Or.inr (by omega)
  ·exact Or.inl (Or.inr hk)
theorem Itm.Sp.num {w0 W1 w : World} {ok : Nat → Prop} {g : Nat} {cs : Array Value} {l : List Int} {N : Nat} (h : Itm.Sp w0 W1 w ok g cs l N) (fld n : Int) (hf : 1 ≤ fld ∧ fld ≤ 10) (hn : 0 ≤ n ∧ n < 18446744073709551616) (hN : N ≤ 50000) :
  Calls Try.prog 50 #[.pointer (some ⟨g, 0, none⟩), .int .i64 fld, .int .u64 n] w fun e w' => (∃ v, e = .returned v) ∧ Itm.Sp w0 W1 w' ok g cs (l ++ Itm.num fld n) (N + 20) := by
 have h1 := h.hN
 refine (Itm.number_calls w0 w _ g l fld n h.hW h.hB hf hn (by omega)).mono ?_
 rintro e w' ⟨hv, hW, hK, hB⟩
 exact ⟨hv, h.step hW hK hB (by rw [List.length_append]; have := Itm.num_len fld n hf.2 hn.2; omega)⟩
theorem Itm.Sp.text {w0 W1 w : World} {ok : Nat → Prop} {g : Nat} {cs : Array Value} {l : List Int} {N : Nat} (h : Itm.Sp w0 W1 w ok g cs l N) (fld : Int) (s : ByteArray) (M : Nat) (hf : 1 ≤ fld ∧ fld ≤ 10) (hs : s.size ≤ M) (hM : M ≤ 10000) (hN : N ≤ 50000) :
  Calls Try.prog 51 #[.pointer (some ⟨g, 0, none⟩), .int .i64 fld, .string s] w fun e w' => (∃ v, e = .returned v) ∧ Itm.Sp w0 W1 w' ok g cs (l ++ Itm.txt fld s) (N + 20 + M) := by
 have h1 := h.hN
 refine (Itm.text_calls w0 w _ g l fld s h.hW h.hB hf (by omega) (by omega)).mono ?_
 rintro e w' ⟨hv, hW, hK, hB⟩
 exact ⟨hv, h.step hW hK hB (by rw [List.length_append]; have := Itm.txt_len fld s hf.2 (by omega); omega)⟩
/-- An attribute's text, and the fields of some. -/
def Itm.attT (a : S36) : ByteArray := strOfNums (putL a.f0.size ++ bytesOf a.f0) ++ a.f1
def Itm.attL (ats : List S36) : List Int := (ats.map fun a => Itm.txt 10 (Itm.attT a)).flatten
theorem Itm.attL_take (ats : List S36) (j : Nat) (h : j < ats.length) : Itm.attL (ats.take (j + 1)) = Itm.attL (ats.take j) ++ Itm.txt 10 (Itm.attT (ats.getD j z36)) := by
 unfold Itm.attL
 rw [List.take_add_one, List.getElem?_eq_getElem h, List.map_append, List.flatten_append, List.getD_eq_getElem?_getD, List.getElem?_eq_getElem h]
 simp
theorem Itm.attT_size (a : S36) (h0 : a.f0.size ≤ 1000) (h1 : a.f1.size ≤ 1000) : (Itm.attT a).size ≤ 2010 := by
 unfold Itm.attT
 have := putL_ten (n := a.f0.size) (by omega)
 rw [ByteArray.size_append, strOfNums_size, List.length_append, bytesOf_length]
 omega
def Itm.spanL (hi lo id par : Int) (nm : ByteArray) (st en : Int) (bad : Bool) (ats : List S36) (rv : Int) : List Int :=
 Itm.num 1 hi ++ (Itm.num 2 lo ++ (Itm.num 3 id ++ (Itm.num 4 par ++ (Itm.txt 5 nm ++ (Itm.num 6 st ++ (Itm.num 7 en ++ (Itm.num 8 (if bad then 1 else 0) ++ (Itm.num 9 rv ++ Itm.attL ats))))))))
def Itm.T15 : Bool × List (List Nat × List Nat) := (true, [([], []), ([], []), ([1], [1]), ([2], [2]), ([3], [3]), ([], []), ([5], [5]), ([4, 6], [4, 6]), ([0, 7, 3], [0, 7])])
theorem Itm.T15_tab : rtab .any (opsOf Try.f35 15) = Itm.T15 := by kernel_rfl

set_option maxHeartbeats 4000000 in
set_option maxRecDepth 100000 in
theorem Itm.span_calls (w0 W1 : World) (ok : Nat → Prop) (g : Nat) (q : List Int) (hi lo id par : Int) (nm : ByteArray) (st en : Int) (bad : Bool) (A : Option Addr) (c : Nat) (ats : List S36) (rv : Int) (hW : Itm.W W1 w0.heap.size ok g q) (HB : Below w0.heap.size w0 W1) (hr : Kd.C k36 w0 A ats.length ats) (hc : ats.length ≤ c) (hq : q.length ≤ 1000)
  (hhi : 0 ≤ hi ∧ hi < 18446744073709551616) (hlo : 0 ≤ lo ∧ lo < 18446744073709551616) (hid : 0 ≤ id ∧ id < 18446744073709551616) (hpar : 0 ≤ par ∧ par < 18446744073709551616) (hnm : nm.size ≤ 1000) (hst : 0 ≤ st ∧ st < 9223372036854775808) (hen : 0 ≤ en ∧ en < 9223372036854775808) (hrv : 0 ≤ rv ∧ rv < 18446744073709551616) (hal : ats.length ≤ 8) (has : ∀ a ∈ ats, a.f0.size ≤ 1000 ∧ a.f1.size ≤ 1000) :
  Calls Try.prog 35 #[.pointer (some ⟨g, 0, none⟩), .agg #[.int .u64 hi, .int .u64 lo, .int .u64 id, .int .u64 par, .string nm, .int .i64 st, .int .i64 en, .bool bad, .slice A ats.length c, .int .u64 rv]] W1 fun e w' => (∃ v, e = .returned v) ∧ Itm.W w' w0.heap.size (fun k => ok k ∨ W1.heap.size ≤ k) g (q ++ Itm.spanL hi lo id par nm st en bad ats rv) ∧ Kept W1 w' (fun k => ok k ∨ k = g) ∧ Below w0.heap.size w0 w' := by
 have hglt := Itm.W_lt hW
 have hgo : ¬ (ok g ∨ W1.heap.size ≤ g) := by
  rintro (h_ | h_)
  ·obtain ⟨_, _, _, _, h2_, _⟩ := hW; exact h2_ h_
  ·omega
 have S0 : Itm.Sp w0 W1 (W1.alloc (.cells #[.int .u64 hi, .int .u64 lo, .int .u64 id, .int .u64 par, .string nm, .int .i64 st, .int .i64 en, .bool bad, .slice A ats.length c, .int .u64 rv] 26 (0, 0))) ok g #[.int .u64 hi, .int .u64 lo, .int .u64 id, .int .u64 par, .string nm, .int .i64 st, .int .i64 en, .bool bad, .slice A ats.length c, .int .u64 rv] q 1000 :=
  ⟨Itm.W_mono (Itm.W_below (Itm.W_bound hW) (below_alloc (Below.refl W1.heap.size W1) _)) (fun k h_ => Or.inl h_) (by rintro (h_ | h_); exact hgo (Or.inl h_.1); omega), below_alloc HB _, blk_new W1 _, Kept.alloc (Kept.refl W1 _) _, by rw [World.size_alloc]; omega, hglt, hq⟩
 have hust : IntKind.u64.wrap st = st := wrap_u64_id (by omega) (by omega)
 have huen : IntKind.u64.wrap en = en := wrap_u64_id (by omega) (by omega)
 have hra := Aside0.mk hr
 have hasa := Aside0.mk has
 have hfin : ∀ w' Q N, Itm.Sp w0 W1 w' ok g #[.int .u64 hi, .int .u64 lo, .int .u64 id, .int .u64 par, .string nm, .int .i64 st, .int .i64 en, .bool bad, .slice A ats.length c, .int .u64 rv] Q N → Q = q ++ Itm.spanL hi lo id par nm st en bad ats rv → Itm.W w' w0.heap.size (fun k => ok k ∨ W1.heap.size ≤ k) g (q ++ Itm.spanL hi lo id par nm st en bad ats rv) ∧ Kept W1 w' (fun k => ok k ∨ k = g) ∧ Below w0.heap.size w0 w' := by
  rintro w' Q N S rfl
  exact ⟨Itm.W_mono S.hW (fun k h_ => by rcases h_ with h_ | h_; exact Or.inl h_.1; exact Or.inr (by omega)) hgo, S.hK, S.hB⟩
 replace hfin := Aside0.mk hfin
 clear hW HB hr has hq
 go_enter Try.func35, Try.ntmps35
 go_wp2_with (fail)
 generalize W1.alloc (.cells #[.int .u64 hi, .int .u64 lo, .int .u64 id, .int .u64 par, .string nm, .int .i64 st, .int .i64 en, .bool bad, .slice A ats.length c, .int .u64 rv] 26 (0, 0)) = w2 at *
 replace S0 := Aside0.mk S0
 refine (S0.out.num 1 hi (by omega) hhi (by omega)).mono ?_
 rintro e w3 ⟨⟨v3, rfl⟩, S3⟩
 replace S3 := Aside0.mk S3
 clear S0
 have z : w3.cell? ⟨W1.heap.size, 1, none⟩ = some (.int .u64 lo) := blk_cell S3.out.hk 1
 go_wp2_with (fail)
 refine (S3.out.num 2 lo (by omega) hlo (by omega)).mono ?_
 rintro e w4 ⟨⟨v4, rfl⟩, S4⟩
 replace S4 := Aside0.mk S4
 clear S3 z
 have z : w4.cell? ⟨W1.heap.size, 2, none⟩ = some (.int .u64 id) := blk_cell S4.out.hk 2
 go_wp2_with (fail)
 refine (S4.out.num 3 id (by omega) hid (by omega)).mono ?_
 rintro e w5 ⟨⟨v5, rfl⟩, S5⟩
 replace S5 := Aside0.mk S5
 clear S4 z
 have z : w5.cell? ⟨W1.heap.size, 3, none⟩ = some (.int .u64 par) := blk_cell S5.out.hk 3
 go_wp2_with (fail)
 refine (S5.out.num 4 par (by omega) hpar (by omega)).mono ?_
 rintro e w6 ⟨⟨v6, rfl⟩, S6⟩
 replace S6 := Aside0.mk S6
 clear S5 z
 have z : w6.cell? ⟨W1.heap.size, 4, none⟩ = some (.string nm) := blk_cell S6.out.hk 4
 go_wp2_with (fail)
 refine (S6.out.text 5 nm 1000 (by omega) hnm (by omega) (by omega)).mono ?_
 rintro e w7 ⟨⟨v7, rfl⟩, S7⟩
 replace S7 := Aside0.mk S7
 clear S6 z
 have z : w7.cell? ⟨W1.heap.size, 5, none⟩ = some (.int .i64 st) := blk_cell S7.out.hk 5
 go_wp2_with (fail)
 refine (S7.out.num 6 st (by omega) (by omega) (by omega)).mono ?_
 rintro e w8 ⟨⟨v8, rfl⟩, S8⟩
 replace S8 := Aside0.mk S8
 clear S7 z
 have z : w8.cell? ⟨W1.heap.size, 6, none⟩ = some (.int .i64 en) := blk_cell S8.out.hk 6
 go_wp2_with (fail)
 refine (S8.out.num 7 en (by omega) (by omega) (by omega)).mono ?_
 rintro e w9 ⟨⟨v9, rfl⟩, S9⟩
 replace S9 := Aside0.mk S9
 clear S8 z
 cases bad with
 | true =>
  have z : w9.cell? ⟨W1.heap.size, 7, none⟩ = some (.bool true) := blk_cell S9.out.hk 7
  go_wp2_with (fail)
  refine (S9.out.num 8 1 (by omega) (by omega) (by omega)).mono ?_
  rintro e w10 ⟨⟨v10, rfl⟩, S10⟩
  replace S10 := Aside0.mk S10
  clear S9 z
  have z : w10.cell? ⟨W1.heap.size, 9, none⟩ = some (.int .u64 rv) := blk_cell S10.out.hk 9
  go_wp2_with (fail)
  refine (S10.out.num 9 rv (by omega) hrv (by omega)).mono ?_
  rintro e w11 ⟨⟨v11, rfl⟩, S11⟩
  replace S11 := Aside0.mk S11
  clear S10 z
  have z : w11.cell? ⟨W1.heap.size, 8, none⟩ = some (.slice A ats.length c) := blk_cell S11.out.hk 8
  go_wp2_with (fail)
  clear z
  obtain ⟨Q, hQ⟩ : ∃ Q, q ++ Itm.num 1 hi ++ Itm.num 2 lo ++ Itm.num 3 id ++ Itm.num 4 par ++ Itm.txt 5 nm ++ Itm.num 6 st ++ Itm.num 7 en ++ Itm.num 8 1 ++ Itm.num 9 rv = Q := ⟨_, rfl⟩
  rw [hQ] at S11
  have hNN := S11.out.hN
  go_loopg [50] ats.length (fun gg s50 wr => ∃ j : Nat, s50 = .int .i64 j ∧ j ≤ ats.length ∧ ats.length - j ≤ gg ∧ Aside0 (Itm.Sp w0 W1 wr ok g #[.int .u64 hi, .int .u64 lo, .int .u64 id, .int .u64 par, .string nm, .int .i64 st, .int .i64 en, .bool true, .slice A ats.length c, .int .u64 rv] (Q ++ Itm.attL (ats.take j)) (2180 + j * 2030)))
  case atStart => exact ⟨0, rfl, by omega, by omega, ⟨by rw [List.take_zero]; simpa [Itm.attL] using S11.out⟩⟩
  case round =>
   clear S11
   obtain ⟨j, rfl, hjl, hgg, SJ⟩ := hrel
   by_cases hj : j < ats.length
   ·have hjz : (j : Int) < (ats.length : Int) := by omega
    have hj0 : (0 : Int) ≤ (j : Int) := by omega
    obtain ⟨ad, e0, hx0, hx1⟩ := at_T36 hra.out (j : Int) hj0 hjz
    simp only [Int.toNat_natCast, rd_T36] at hx0 hx1
    cases e0
    replace hx0 := (SJ.out.hB.cell (World.block_lt_of_cell? _ _ hx0)).trans hx0
    replace hx1 := (SJ.out.hB.cell (World.block_lt_of_cell? _ _ hx1)).trans hx1
    have htk := Aside0.mk (Itm.attL_take ats j hj)
    have hsz := hasa.out _ (Pol.getD_mem ats j z36 hj)
    generalize ats.getD j z36 = y at *
    obtain ⟨k1, v1⟩ := y
    dsimp only at hx0 hx1 hsz
    have htsz : (strOfNums (putL k1.size ++ bytesOf k1) ++ v1).size ≤ 2010 := Itm.attT_size ⟨k1, v1⟩ hsz.1 hsz.2
    have hnsz : ¬ 9223372036854775807 < (strOfNums (putL k1.size ++ bytesOf k1)).size + v1.size := by
     rw [ByteArray.size_append] at htsz; omega
    have hpt := Aside0.mk (Itm.putText_eq k1 (by omega))
    obtain ⟨wa, hwa⟩ : ∃ wa, wr = wa := ⟨_, rfl⟩
    rw [hwa] at hx0 hx1 SJ ⊢
    clear hwa
    have hba := Aside0.mk (blk_new wa (.cells #[.string k1, .string v1] 36 (0, 0)))
    have Sb := SJ.out.below (below_alloc (Below.refl _ _) (.cells #[.string k1, .string v1] 36 (0, 0)))
    go_wp2_with (fail)
    generalize wa.alloc (.cells #[.string k1, .string v1] 36 (0, 0)) = wb at *
    have Sd := Aside0.mk (Sb.below (below_drew (Below.refl _ _)))
    clear Sb SJ
    refine start_ (n := 9) (S := fun w' => w'.cell? ⟨wa.heap.size, 0, none⟩ = some (.string k1) ∧ w'.cell? ⟨wa.heap.size, 1, none⟩ = some (.string v1)) (ds := [8]) #[false, false, false, false, false, false, false, false, false] (by kernel_rfl) rfl rfl ⟨(blk_cell (blk_drew hba.out) 0).trans rfl, (blk_cell (blk_drew hba.out) 1).trans rfl⟩ (fun hHeld => ?_)
    refine with_tab Itm.T15_tab (fun HT_ => ?_)
    generalize wb.drew = wd at hHeld Sd ⊢
    refine pure_ (i := 0) (N := (some 54)) (v := ?_) (a' := ?_) #[true, false, false, false, false, false, false, false, false] rfl rfl (any_of HT_.out (by kernel_rfl)) (fun _ _ _ h => h) (Or.inl ⟨by rfl, ?_⟩) ?_ ?_
    rotate_left
    ·intro w'
     go_simp
     with_reducible rfl
    rotate_left
    ·simp only [ps_]
     rfl
    refine pure_ (i := 1) (N := (some 55)) (v := ?_) (a' := ?_) #[true, true, false, false, false, false, false, false, false] rfl rfl (any_of HT_.out (by kernel_rfl)) (fun _ _ _ h => h) (Or.inl ⟨by rfl, ?_⟩) ?_ ?_
    rotate_left
    ·intro w'
     go_simp
     with_reducible rfl
    rotate_left
    ·simp only [ps_]
     rfl
    refine take_ (i := 2) (N := (some 56)) (v := ?_) (a' := ?_) #[true, true, true, false, false, false, false, false, false] rfl rfl (take_of HT_.out (by kernel_rfl)) (fun _ _ _ h => h) (Or.inl ⟨by rfl, ?_⟩) hHeld ?_ ?_
    rotate_left
    ·rintro w' ⟨s0, s1⟩
     go_simp
     with_reducible rfl
    rotate_left
    ·simp only [ps_]
     rfl
    refine pure_ (i := 5) (N := (some 59)) (v := ?_) (a' := ?_) #[true, true, true, false, false, true, false, false, false] rfl rfl (any_of HT_.out (by kernel_rfl)) (fun _ _ _ h => h) (Or.inl ⟨by rfl, ?_⟩) ?_ ?_
    rotate_left
    ·intro w'
     go_simp
     with_reducible rfl
    rotate_left
    ·simp only [ps_]
     rfl
    refine take_ (i := 6) (N := (some 60)) (v := ?_) (a' := ?_) #[true, true, true, false, false, true, true, false, false] rfl rfl (take_of HT_.out (by kernel_rfl)) (fun _ _ _ h => h) (Or.inl ⟨by rfl, ?_⟩) hHeld ?_ ?_
    rotate_left
    ·rintro w' ⟨s0, s1⟩
     go_simp
     with_reducible rfl
    rotate_left
    ·simp only [ps_]
     rfl
    refine one_ (i := 3) (N := (some 57)) #[true, true, true, true, false, true, true, false, false] rfl rfl (one_of HT_.out (by kernel_rfl)) (by decide) (fun K hK => ?_)
    refine goes_ Try.func52 (by kernel_rfl) rfl #[.string k1] (by rfl) rfl rfl (by (try simp only [List.map_toArray, List.map_cons, List.map_nil]); first | done | rfl) ?_
    refine (num_PutText.calls k1 _ _ hpt.out).mono ?_
    rintro e w3 ⟨v3, rfl, ho3, hb3⟩
    refine ⟨_, rfl, ?_⟩
    have S3 := Aside0.mk (Sd.out.below hb3)
    obtain ⟨A3, c3, rfl⟩ := Kd.R_slice ho3
    have hcv := Kd.C_string (P := Try.prog) (A := A3) (c := c3) Try.underlying22 Try.underlying5 Try.underlying9 (Kd.R_reads' ho3).2.2
    rw [List.length_append] at hcv
    clear Sd ho3
    obtain ⟨hHeld0, hHeld1⟩ := hHeld
    replace hHeld0 := (hb3.cell (World.block_lt_of_cell? _ _ hHeld0)).trans hHeld0
    replace hHeld1 := (hb3.cell (World.block_lt_of_cell? _ _ hHeld1)).trans hHeld1
    clear hb3
    refine hK.out _ _ ⟨hHeld0, hHeld1⟩ (fun hHeld => ?_)
    clear hK K
    refine norm_ (a' := ?_) ?_ ?_
    rotate_left
    ·show Act.put _ (some 57) _ = _
     simp only [ps_]
     rfl
    refine one_ (i := 4) (N := (some 58)) #[true, true, true, true, true, true, true, false, false] rfl rfl (one_of HT_.out (by kernel_rfl)) (by decide) (fun K hK => ?_)
    refine value_ (w1 := ?_) (v := ?_) (by rfl) rfl ?_ ?_
    rotate_left 2
    ·go_simp
     constructor
     ·rfl
     ·rfl
    refine hK.out _ _ ⟨hHeld0, hHeld1⟩ (fun hHeld => ?_)
    clear hK K hcv
    refine norm_ (a' := ?_) ?_ ?_
    rotate_left
    ·show Act.put _ (some 58) _ = _
     simp only [ps_]
     rfl
    refine pure_ (i := 7) (N := (some 61)) (v := ?_) (a' := ?_) #[true, true, true, true, true, true, true, true, false] rfl rfl (any_of HT_.out (by kernel_rfl)) (fun _ _ _ h => h) (Or.inl ⟨by rfl, ?_⟩) ?_ ?_
    rotate_left
    ·intro w'
     go_simp
     with_reducible rfl
    rotate_left
    ·simp only [ps_]
     rfl
    refine last_ (i := 8) (N := (some 62)) #[true, true, true, true, true, true, true, true, true] rfl rfl (one_of HT_.out (by kernel_rfl)) (by decide) (fun K hK => ?_)
    refine goes_ Try.func51 (by kernel_rfl) rfl #[.pointer (some ⟨g, 0, none⟩), .int .i64 10, .string (strOfNums (putL k1.size ++ bytesOf k1) ++ v1)] (by rfl) rfl rfl (by (try simp only [List.map_toArray, List.map_cons, List.map_nil]); first | done | rfl) ?_
    refine (S3.out.text 10 (strOfNums (putL k1.size ++ bytesOf k1) ++ v1) 2010 (by omega) htsz (by omega) (by omega)).mono ?_
    rintro e w5 ⟨⟨v5, rfl⟩, S5⟩
    refine ⟨_, rfl, ?_⟩
    refine hK.out _ _ ?_
    clear hK K
    refine done_ (done_of HT_.out (by kernel_rfl)) ?_
    clear HT_
    have S7 := S5.cast (Q ++ Itm.attL (ats.take (j + 1))) (2180 + (j + 1) * 2030) (by rw [htk.out, List.append_assoc]; rfl) (by omega)
    go_wp2_with (fail)
    go_roundg (ats.length - (j + 1))
    case measure => omega
    case rel => exact ⟨j + 1, by go_num, by omega, by omega, ⟨S7⟩⟩
   ·have hjz : decide ((j : Int) < (ats.length : Int)) = false := decide_eq_false (by omega)
    have hje : j = ats.length := by omega
    subst hje
    go_wp2_with (fail)
    go_end0
    refine ⟨⟨_, rfl⟩, hfin.out _ _ _ SJ.out ?_⟩
    rw [List.take_length, ← hQ, Itm.spanL]
    simp [List.append_assoc, Itm.num]
 | false =>
  have z : w9.cell? ⟨W1.heap.size, 7, none⟩ = some (.bool false) := blk_cell S9.out.hk 7
  have z9 : w9.cell? ⟨W1.heap.size, 9, none⟩ = some (.int .u64 rv) := blk_cell S9.out.hk 9
  go_wp2_with (fail)
  clear z9
  refine (S9.out.num 9 rv (by omega) hrv (by omega)).mono ?_
  rintro e w10 ⟨⟨v10, rfl⟩, S10⟩
  replace S10 := Aside0.mk S10
  clear S9 z
  have z : w10.cell? ⟨W1.heap.size, 8, none⟩ = some (.slice A ats.length c) := blk_cell S10.out.hk 8
  go_wp2_with (fail)
  clear z
  obtain ⟨Q, hQ⟩ : ∃ Q, q ++ Itm.num 1 hi ++ Itm.num 2 lo ++ Itm.num 3 id ++ Itm.num 4 par ++ Itm.txt 5 nm ++ Itm.num 6 st ++ Itm.num 7 en ++ Itm.num 9 rv = Q := ⟨_, rfl⟩
  rw [hQ] at S10
  have hNN := S10.out.hN
  go_loopg [50] ats.length (fun gg s50 wr => ∃ j : Nat, s50 = .int .i64 j ∧ j ≤ ats.length ∧ ats.length - j ≤ gg ∧ Aside0 (Itm.Sp w0 W1 wr ok g #[.int .u64 hi, .int .u64 lo, .int .u64 id, .int .u64 par, .string nm, .int .i64 st, .int .i64 en, .bool false, .slice A ats.length c, .int .u64 rv] (Q ++ Itm.attL (ats.take j)) (2160 + j * 2030)))
  case atStart => exact ⟨0, rfl, by omega, by omega, ⟨by rw [List.take_zero]; simpa [Itm.attL] using S10.out⟩⟩
  case round =>
   clear S10
   obtain ⟨j, rfl, hjl, hgg, SJ⟩ := hrel
   by_cases hj : j < ats.length
   ·have hjz : (j : Int) < (ats.length : Int) := by omega
    have hj0 : (0 : Int) ≤ (j : Int) := by omega
    obtain ⟨ad, e0, hx0, hx1⟩ := at_T36 hra.out (j : Int) hj0 hjz
    simp only [Int.toNat_natCast, rd_T36] at hx0 hx1
    cases e0
    replace hx0 := (SJ.out.hB.cell (World.block_lt_of_cell? _ _ hx0)).trans hx0
    replace hx1 := (SJ.out.hB.cell (World.block_lt_of_cell? _ _ hx1)).trans hx1
    have htk := Aside0.mk (Itm.attL_take ats j hj)
    have hsz := hasa.out _ (Pol.getD_mem ats j z36 hj)
    generalize ats.getD j z36 = y at *
    obtain ⟨k1, v1⟩ := y
    dsimp only at hx0 hx1 hsz
    have htsz : (strOfNums (putL k1.size ++ bytesOf k1) ++ v1).size ≤ 2010 := Itm.attT_size ⟨k1, v1⟩ hsz.1 hsz.2
    have hnsz : ¬ 9223372036854775807 < (strOfNums (putL k1.size ++ bytesOf k1)).size + v1.size := by
     rw [ByteArray.size_append] at htsz; omega
    have hpt := Aside0.mk (Itm.putText_eq k1 (by omega))
    obtain ⟨wa, hwa⟩ : ∃ wa, wr = wa := ⟨_, rfl⟩
    rw [hwa] at hx0 hx1 SJ ⊢
    clear hwa
    have hba := Aside0.mk (blk_new wa (.cells #[.string k1, .string v1] 36 (0, 0)))
    have Sb := SJ.out.below (below_alloc (Below.refl _ _) (.cells #[.string k1, .string v1] 36 (0, 0)))
    go_wp2_with (fail)
    generalize wa.alloc (.cells #[.string k1, .string v1] 36 (0, 0)) = wb at *
    have Sd := Aside0.mk (Sb.below (below_drew (Below.refl _ _)))
    clear Sb SJ
    refine start_ (n := 9) (S := fun w' => w'.cell? ⟨wa.heap.size, 0, none⟩ = some (.string k1) ∧ w'.cell? ⟨wa.heap.size, 1, none⟩ = some (.string v1)) (ds := [8]) #[false, false, false, false, false, false, false, false, false] (by kernel_rfl) rfl rfl ⟨(blk_cell (blk_drew hba.out) 0).trans rfl, (blk_cell (blk_drew hba.out) 1).trans rfl⟩ (fun hHeld => ?_)
    refine with_tab Itm.T15_tab (fun HT_ => ?_)
    generalize wb.drew = wd at hHeld Sd ⊢
    refine pure_ (i := 0) (N := (some 54)) (v := ?_) (a' := ?_) #[true, false, false, false, false, false, false, false, false] rfl rfl (any_of HT_.out (by kernel_rfl)) (fun _ _ _ h => h) (Or.inl ⟨by rfl, ?_⟩) ?_ ?_
    rotate_left
    ·intro w'
     go_simp
     with_reducible rfl
    rotate_left
    ·simp only [ps_]
     rfl
    refine pure_ (i := 1) (N := (some 55)) (v := ?_) (a' := ?_) #[true, true, false, false, false, false, false, false, false] rfl rfl (any_of HT_.out (by kernel_rfl)) (fun _ _ _ h => h) (Or.inl ⟨by rfl, ?_⟩) ?_ ?_
    rotate_left
    ·intro w'
     go_simp
     with_reducible rfl
    rotate_left
    ·simp only [ps_]
     rfl
    refine take_ (i := 2) (N := (some 56)) (v := ?_) (a' := ?_) #[true, true, true, false, false, false, false, false, false] rfl rfl (take_of HT_.out (by kernel_rfl)) (fun _ _ _ h => h) (Or.inl ⟨by rfl, ?_⟩) hHeld ?_ ?_
    rotate_left
    ·rintro w' ⟨s0, s1⟩
     go_simp
     with_reducible rfl
    rotate_left
    ·simp only [ps_]
     rfl
    refine pure_ (i := 5) (N := (some 59)) (v := ?_) (a' := ?_) #[true, true, true, false, false, true, false, false, false] rfl rfl (any_of HT_.out (by kernel_rfl)) (fun _ _ _ h => h) (Or.inl ⟨by rfl, ?_⟩) ?_ ?_
    rotate_left
    ·intro w'
     go_simp
     with_reducible rfl
    rotate_left
    ·simp only [ps_]
     rfl
    refine take_ (i := 6) (N := (some 60)) (v := ?_) (a' := ?_) #[true, true, true, false, false, true, true, false, false] rfl rfl (take_of HT_.out (by kernel_rfl)) (fun _ _ _ h => h) (Or.inl ⟨by rfl, ?_⟩) hHeld ?_ ?_
    rotate_left
    ·rintro w' ⟨s0, s1⟩
     go_simp
     with_reducible rfl
    rotate_left
    ·simp only [ps_]
     rfl
    refine one_ (i := 3) (N := (some 57)) #[true, true, true, true, false, true, true, false, false] rfl rfl (one_of HT_.out (by kernel_rfl)) (by decide) (fun K hK => ?_)
    refine goes_ Try.func52 (by kernel_rfl) rfl #[.string k1] (by rfl) rfl rfl (by (try simp only [List.map_toArray, List.map_cons, List.map_nil]); first | done | rfl) ?_
    refine (num_PutText.calls k1 _ _ hpt.out).mono ?_
    rintro e w3 ⟨v3, rfl, ho3, hb3⟩
    refine ⟨_, rfl, ?_⟩
    have S3 := Aside0.mk (Sd.out.below hb3)
    obtain ⟨A3, c3, rfl⟩ := Kd.R_slice ho3
    have hcv := Kd.C_string (P := Try.prog) (A := A3) (c := c3) Try.underlying22 Try.underlying5 Try.underlying9 (Kd.R_reads' ho3).2.2
    rw [List.length_append] at hcv
    clear Sd ho3
    obtain ⟨hHeld0, hHeld1⟩ := hHeld
    replace hHeld0 := (hb3.cell (World.block_lt_of_cell? _ _ hHeld0)).trans hHeld0
    replace hHeld1 := (hb3.cell (World.block_lt_of_cell? _ _ hHeld1)).trans hHeld1
    clear hb3
    refine hK.out _ _ ⟨hHeld0, hHeld1⟩ (fun hHeld => ?_)
    clear hK K
    refine norm_ (a' := ?_) ?_ ?_
    rotate_left
    ·show Act.put _ (some 57) _ = _
     simp only [ps_]
     rfl
    refine one_ (i := 4) (N := (some 58)) #[true, true, true, true, true, true, true, false, false] rfl rfl (one_of HT_.out (by kernel_rfl)) (by decide) (fun K hK => ?_)
    refine value_ (w1 := ?_) (v := ?_) (by rfl) rfl ?_ ?_
    rotate_left 2
    ·go_simp
     constructor
     ·rfl
     ·rfl
    refine hK.out _ _ ⟨hHeld0, hHeld1⟩ (fun hHeld => ?_)
    clear hK K hcv
    refine norm_ (a' := ?_) ?_ ?_
    rotate_left
    ·show Act.put _ (some 58) _ = _
     simp only [ps_]
     rfl
    refine pure_ (i := 7) (N := (some 61)) (v := ?_) (a' := ?_) #[true, true, true, true, true, true, true, true, false] rfl rfl (any_of HT_.out (by kernel_rfl)) (fun _ _ _ h => h) (Or.inl ⟨by rfl, ?_⟩) ?_ ?_
    rotate_left
    ·intro w'
     go_simp
     with_reducible rfl
    rotate_left
    ·simp only [ps_]
     rfl
    refine last_ (i := 8) (N := (some 62)) #[true, true, true, true, true, true, true, true, true] rfl rfl (one_of HT_.out (by kernel_rfl)) (by decide) (fun K hK => ?_)
    refine goes_ Try.func51 (by kernel_rfl) rfl #[.pointer (some ⟨g, 0, none⟩), .int .i64 10, .string (strOfNums (putL k1.size ++ bytesOf k1) ++ v1)] (by rfl) rfl rfl (by (try simp only [List.map_toArray, List.map_cons, List.map_nil]); first | done | rfl) ?_
    refine (S3.out.text 10 (strOfNums (putL k1.size ++ bytesOf k1) ++ v1) 2010 (by omega) htsz (by omega) (by omega)).mono ?_
    rintro e w5 ⟨⟨v5, rfl⟩, S5⟩
    refine ⟨_, rfl, ?_⟩
    refine hK.out _ _ ?_
    clear hK K
    refine done_ (done_of HT_.out (by kernel_rfl)) ?_
    clear HT_
    have S7 := S5.cast (Q ++ Itm.attL (ats.take (j + 1))) (2160 + (j + 1) * 2030) (by rw [htk.out, List.append_assoc]; rfl) (by omega)
    go_wp2_with (fail)
    go_roundg (ats.length - (j + 1))
    case measure => omega
    case rel => exact ⟨j + 1, by go_num, by omega, by omega, ⟨S7⟩⟩
   ·have hjz : decide ((j : Int) < (ats.length : Int)) = false := decide_eq_false (by omega)
    have hje : j = ats.length := by omega
    subst hje
    go_wp2_with (fail)
    go_end0
    refine ⟨⟨_, rfl⟩, hfin.out _ _ _ SJ.out ?_⟩
    rw [List.take_length, ← hQ, Itm.spanL]
    simp [List.append_assoc, Itm.num]
end Go.Proofs.Ytfapckmobeppnaa.Px

/- item.Encode: a span; and what it refuses. -/
namespace Go.Proofs.Ytfapckmobeppnaa.Px
open Go.RowKit Go.Proofs.YtfapckmobeppnaaW.PrintWords Go.Proofs.YtfapckmobeppnaaW.PrintLast Go.Proofs.YtfapckmobeppnaaW.PrintMore
set_option linter.unusedVariables false
set_option linter.unusedSimpArgs false

theorem Itm.N_R {e : Nat} {w : World} {base : Nat} {ok : Nat → Prop} {v : Value} {l : List Int} (h : Kd.N (Kd.int .u8) e w base ok v l) : Kd.R (Kd.int .u8) e w base ok v l := by
 obtain ⟨h0, rows, hl, hR, hf⟩ := h
 obtain ⟨_, inner, ho, hr⟩ := hR
 refine ⟨h0, inner, by rw [← hl]; exact ho, ⟨by rw [hr.1, hl]; rfl, fun j x hj => ?_⟩⟩
 have hjl : j < rows.length := by rw [hl]; exact (List.getElem?_eq_some_iff.1 hj).1
 have h1 := hr.2 j _ (List.getElem?_eq_getElem hjl)
 have h2 := Kd.FK_now (hf j x _ hj (List.getElem?_eq_getElem hjl))
 exact h1.1.trans h2
set_option maxHeartbeats 1000000 in
set_option maxRecDepth 100000 in
theorem Itm.Encode_span (hi lo id par : Int) (nm : ByteArray) (st en : Int) (bad : Bool) (A : Option Addr) (c : Nat) (l : List S36) (rv : Int) (w : World) (hr : Kd.C k36 w A l.length l) (hc : l.length ≤ c) (hk : ∀ a ∈ l, a.f0.size ≤ 140737488355328) (hnm : nm.size ≤ 140737488355328) (hRS : Itm.rightSpan hi lo id nm st en l rv = true)
  (hhi : 0 ≤ hi ∧ hi < 18446744073709551616) (hlo : 0 ≤ lo ∧ lo < 18446744073709551616) (hid : 0 ≤ id ∧ id < 18446744073709551616) (hpar : 0 ≤ par ∧ par < 18446744073709551616) (hnm1 : nm.size ≤ 1000) (hst : 0 ≤ st ∧ st < 9223372036854775808) (hen : 0 ≤ en ∧ en < 9223372036854775808) (hrv : 0 ≤ rv ∧ rv < 18446744073709551616) (hal : l.length ≤ 8) (has : ∀ a ∈ l, a.f0.size ≤ 1000 ∧ a.f1.size ≤ 1000) :
  Calls Try.prog 19 #[.agg #[.int .u8 1, .int .u64 hi, .int .u64 lo, .int .u64 id, .int .u64 par, .string nm, .int .i64 st, .int .i64 en, .bool bad, .slice A l.length c, .int .u64 rv, .string ⟨#[]⟩, .int .u64 0, .int .i64 0, .string ⟨#[]⟩]] w fun e w' => ∃ v, e = .returned (.tuple #[v, .int .u16 0]) ∧ Kd.N (Kd.int .u8) 5 w' w.heap.size (fun _ => True) v (1 :: Itm.spanL hi lo id par nm st en bad l rv) ∧ Below w.heap.size w w' := by
 have hu38 := Try.underlying38
 have hB3 := below_alloc (below_alloc (below_alloc (Below.refl w.heap.size w) (.cells #[.int .u8 1, .int .u64 hi, .int .u64 lo, .int .u64 id, .int .u64 par, .string nm, .int .i64 st, .int .i64 en, .bool bad, .slice A l.length c, .int .u64 rv, .string ⟨#[]⟩, .int .u64 0, .int .i64 0, .string ⟨#[]⟩] 38 (0, 0))) (.cells #[.int .u8 1] 5 (0, 0))) (.cells #[.slice (some ⟨w.heap.size + 1, 0, none⟩) 1 1] 74 (0, 0))
 have s1 : (w.alloc (.cells #[.int .u8 1, .int .u64 hi, .int .u64 lo, .int .u64 id, .int .u64 par, .string nm, .int .i64 st, .int .i64 en, .bool bad, .slice A l.length c, .int .u64 rv, .string ⟨#[]⟩, .int .u64 0, .int .i64 0, .string ⟨#[]⟩] 38 (0, 0))).heap.size = w.heap.size + 1 := World.size_alloc _ _
 have s2 : ((w.alloc (.cells #[.int .u8 1, .int .u64 hi, .int .u64 lo, .int .u64 id, .int .u64 par, .string nm, .int .i64 st, .int .i64 en, .bool bad, .slice A l.length c, .int .u64 rv, .string ⟨#[]⟩, .int .u64 0, .int .i64 0, .string ⟨#[]⟩] 38 (0, 0))).alloc (.cells #[.int .u8 1] 5 (0, 0))).heap.size = w.heap.size + 1 + 1 := by rw [World.size_alloc, s1]
 have hbI := blk_alloc (blk_alloc (blk_new w (.cells #[.int .u8 1, .int .u64 hi, .int .u64 lo, .int .u64 id, .int .u64 par, .string nm, .int .i64 st, .int .i64 en, .bool bad, .slice A l.length c, .int .u64 rv, .string ⟨#[]⟩, .int .u64 0, .int .i64 0, .string ⟨#[]⟩] 38 (0, 0))) (.cells #[.int .u8 1] 5 (0, 0))) (.cells #[.slice (some ⟨w.heap.size + 1, 0, none⟩) 1 1] 74 (0, 0))
 have hbR := blk_alloc (blk_new (w.alloc (.cells #[.int .u8 1, .int .u64 hi, .int .u64 lo, .int .u64 id, .int .u64 par, .string nm, .int .i64 st, .int .i64 en, .bool bad, .slice A l.length c, .int .u64 rv, .string ⟨#[]⟩, .int .u64 0, .int .i64 0, .string ⟨#[]⟩] 38 (0, 0))) (.cells #[.int .u8 1] 5 (0, 0))) (.cells #[.slice (some ⟨w.heap.size + 1, 0, none⟩) 1 1] 74 (0, 0))
 rw [s1] at hbR
 have hbW := blk_new ((w.alloc (.cells #[.int .u8 1, .int .u64 hi, .int .u64 lo, .int .u64 id, .int .u64 par, .string nm, .int .i64 st, .int .i64 en, .bool bad, .slice A l.length c, .int .u64 rv, .string ⟨#[]⟩, .int .u64 0, .int .i64 0, .string ⟨#[]⟩] 38 (0, 0))).alloc (.cells #[.int .u8 1] 5 (0, 0))) (.cells #[.slice (some ⟨w.heap.size + 1, 0, none⟩) 1 1] 74 (0, 0))
 rw [s2] at hbW
 have s3 : (((w.alloc (.cells #[.int .u8 1, .int .u64 hi, .int .u64 lo, .int .u64 id, .int .u64 par, .string nm, .int .i64 st, .int .i64 en, .bool bad, .slice A l.length c, .int .u64 rv, .string ⟨#[]⟩, .int .u64 0, .int .i64 0, .string ⟨#[]⟩] 38 (0, 0))).alloc (.cells #[.int .u8 1] 5 (0, 0))).alloc (.cells #[.slice (some ⟨w.heap.size + 1, 0, none⟩) 1 1] 74 (0, 0))).heap.size = w.heap.size + 1 + 1 + 1 := by rw [World.size_alloc, s2]
 clear s1 s2
 go_enter Try.func19, Try.ntmps19
 go_wp2_with (fail)
 generalize (((w.alloc (.cells #[.int .u8 1, .int .u64 hi, .int .u64 lo, .int .u64 id, .int .u64 par, .string nm, .int .i64 st, .int .i64 en, .bool bad, .slice A l.length c, .int .u64 rv, .string ⟨#[]⟩, .int .u64 0, .int .i64 0, .string ⟨#[]⟩] 38 (0, 0))).alloc (.cells #[.int .u8 1] 5 (0, 0))).alloc (.cells #[.slice (some ⟨w.heap.size + 1, 0, none⟩) 1 1] 74 (0, 0))) = W3 at *
 have hbIa := Aside0.mk hbI; have hbRa := Aside0.mk hbR; have hbWa := Aside0.mk hbW; have hBa := Aside0.mk hB3; have hra := Aside0.mk hr
 clear hbI hbR hbW hB3 hr
 refine (Itm.RightSpan_calls hi lo id par nm st en bad A c l rv W3 (Kd.C_below hra.out hBa.out) hc hk hnm).mono ?_
 rintro e w4 ⟨rfl, hb4⟩
 rw [hRS]
 have hbI := Aside0.mk (blk_below hbIa.out hb4)
 have hbR := Aside0.mk (blk_below hbRa.out hb4)
 have hbW := Aside0.mk (blk_below hbWa.out hb4)
 have hB := Aside0.mk (below_step hBa.out hb4)
 clear hbIa hbRa hbWa hBa hb4
 have z0 : w4.cell? ⟨w.heap.size, 0, none⟩ = some (.int .u8 1) := blk_cell hbI.out 0
 have z1 : w4.cell? ⟨w.heap.size, 1, none⟩ = some (.int .u64 hi) := blk_cell hbI.out 1
 have z2 : w4.cell? ⟨w.heap.size, 2, none⟩ = some (.int .u64 lo) := blk_cell hbI.out 2
 have z3 : w4.cell? ⟨w.heap.size, 3, none⟩ = some (.int .u64 id) := blk_cell hbI.out 3
 have z4 : w4.cell? ⟨w.heap.size, 4, none⟩ = some (.int .u64 par) := blk_cell hbI.out 4
 have z5 : w4.cell? ⟨w.heap.size, 5, none⟩ = some (.string nm) := blk_cell hbI.out 5
 have z6 : w4.cell? ⟨w.heap.size, 6, none⟩ = some (.int .i64 st) := blk_cell hbI.out 6
 have z7 : w4.cell? ⟨w.heap.size, 7, none⟩ = some (.int .i64 en) := blk_cell hbI.out 7
 have z8 : w4.cell? ⟨w.heap.size, 8, none⟩ = some (.bool bad) := blk_cell hbI.out 8
 have z9 : w4.cell? ⟨w.heap.size, 9, none⟩ = some (.slice A l.length c) := blk_cell hbI.out 9
 have z10 : w4.cell? ⟨w.heap.size, 10, none⟩ = some (.int .u64 rv) := blk_cell hbI.out 10
 have z11 : w4.cell? ⟨w.heap.size, 11, none⟩ = some (.string ⟨#[]⟩) := blk_cell hbI.out 11
 have z12 : w4.cell? ⟨w.heap.size, 12, none⟩ = some (.int .u64 0) := blk_cell hbI.out 12
 have z13 : w4.cell? ⟨w.heap.size, 13, none⟩ = some (.int .i64 0) := blk_cell hbI.out 13
 have z14 : w4.cell? ⟨w.heap.size, 14, none⟩ = some (.string ⟨#[]⟩) := blk_cell hbI.out 14
 go_wp2_with (fail)
 have hWr : Itm.W w4 w.heap.size (fun k => k = w.heap.size + 1) (w.heap.size + 1 + 1) [1] := ⟨_, 1, hbW.out, by omega, by omega, Itm.lit_N hbR.out (by omega)⟩
 refine (Itm.span_calls w w4 _ (w.heap.size + 1 + 1) [1] hi lo id par nm st en bad A c l rv hWr hB.out hra.out hc (by simp) hhi hlo hid hpar hnm1 hst hen hrv hal has).mono ?_
 rintro e w6 ⟨⟨v6, rfl⟩, ⟨A6, c6, hb6, _, _, hN6⟩, _, hB6⟩
 have y0 : w6.cell? ⟨w.heap.size + 1 + 1, 0, none⟩ = some (.slice A6 ([1] ++ Itm.spanL hi lo id par nm st en bad l rv).length c6) := blk_cell hb6 0
 have hN6a := Aside0.mk hN6; have hB6a := Aside0.mk hB6
 clear hN6 hB6 hb6 hWr
 clear z0 z1 z2 z3 z4 z5 z6 z7 z8 z9 z10 z11 z12 z13 z14
 generalize hq : [1] ++ Itm.spanL hi lo id par nm st en bad l rv = q at *
 go_wp2_with (fail)
 go_ret2
 refine ⟨_, rfl, ?_, hB6a.out⟩
 have hq2 : (1 :: Itm.spanL hi lo id par nm st en bad l rv) = q := hq
 rw [hq2]
 exact Kd.N_mono hN6a.out (fun _ _ => trivial)
set_option maxHeartbeats 1000000 in
set_option maxRecDepth 100000 in
theorem Itm.Encode_s0 (hi lo id par : Int) (nm : ByteArray) (st en : Int) (bad : Bool) (A : Option Addr) (c : Nat) (l : List S36) (rv : Int) (k : ByteArray) (wt t : Int) (b : ByteArray) (w : World) (hr : Kd.C k36 w A l.length l) (hc : l.length ≤ c) (hk : ∀ a ∈ l, a.f0.size ≤ 140737488355328) (hnm : nm.size ≤ 140737488355328) (hkk : k.size ≤ 140737488355328) (hRS : Itm.rightSpan hi lo id nm st en l rv = false) :
  Calls Try.prog 19 #[.agg #[.int .u8 1, .int .u64 hi, .int .u64 lo, .int .u64 id, .int .u64 par, .string nm, .int .i64 st, .int .i64 en, .bool bad, .slice A l.length c, .int .u64 rv, .string k, .int .u64 wt, .int .i64 t, .string b]] w fun e w' => e = .returned (.tuple #[.slice none 0 0, .int .u16 40]) ∧ Below w.heap.size w w' := by
 have hu38 := Try.underlying38
 have hB3 := below_alloc (below_alloc (below_alloc (Below.refl w.heap.size w) (.cells #[.int .u8 1, .int .u64 hi, .int .u64 lo, .int .u64 id, .int .u64 par, .string nm, .int .i64 st, .int .i64 en, .bool bad, .slice A l.length c, .int .u64 rv, .string k, .int .u64 wt, .int .i64 t, .string b] 38 (0, 0))) (.cells #[.int .u8 1] 5 (0, 0))) (.cells #[.slice (some ⟨w.heap.size + 1, 0, none⟩) 1 1] 74 (0, 0))
 have s1 : (w.alloc (.cells #[.int .u8 1, .int .u64 hi, .int .u64 lo, .int .u64 id, .int .u64 par, .string nm, .int .i64 st, .int .i64 en, .bool bad, .slice A l.length c, .int .u64 rv, .string k, .int .u64 wt, .int .i64 t, .string b] 38 (0, 0))).heap.size = w.heap.size + 1 := World.size_alloc _ _
 have s2 : ((w.alloc (.cells #[.int .u8 1, .int .u64 hi, .int .u64 lo, .int .u64 id, .int .u64 par, .string nm, .int .i64 st, .int .i64 en, .bool bad, .slice A l.length c, .int .u64 rv, .string k, .int .u64 wt, .int .i64 t, .string b] 38 (0, 0))).alloc (.cells #[.int .u8 1] 5 (0, 0))).heap.size = w.heap.size + 1 + 1 := by rw [World.size_alloc, s1]
 have hbI := blk_alloc (blk_alloc (blk_new w (.cells #[.int .u8 1, .int .u64 hi, .int .u64 lo, .int .u64 id, .int .u64 par, .string nm, .int .i64 st, .int .i64 en, .bool bad, .slice A l.length c, .int .u64 rv, .string k, .int .u64 wt, .int .i64 t, .string b] 38 (0, 0))) (.cells #[.int .u8 1] 5 (0, 0))) (.cells #[.slice (some ⟨w.heap.size + 1, 0, none⟩) 1 1] 74 (0, 0))
 have hbR := blk_alloc (blk_new (w.alloc (.cells #[.int .u8 1, .int .u64 hi, .int .u64 lo, .int .u64 id, .int .u64 par, .string nm, .int .i64 st, .int .i64 en, .bool bad, .slice A l.length c, .int .u64 rv, .string k, .int .u64 wt, .int .i64 t, .string b] 38 (0, 0))) (.cells #[.int .u8 1] 5 (0, 0))) (.cells #[.slice (some ⟨w.heap.size + 1, 0, none⟩) 1 1] 74 (0, 0))
 rw [s1] at hbR
 have hbW := blk_new ((w.alloc (.cells #[.int .u8 1, .int .u64 hi, .int .u64 lo, .int .u64 id, .int .u64 par, .string nm, .int .i64 st, .int .i64 en, .bool bad, .slice A l.length c, .int .u64 rv, .string k, .int .u64 wt, .int .i64 t, .string b] 38 (0, 0))).alloc (.cells #[.int .u8 1] 5 (0, 0))) (.cells #[.slice (some ⟨w.heap.size + 1, 0, none⟩) 1 1] 74 (0, 0))
 rw [s2] at hbW
 have s3 : (((w.alloc (.cells #[.int .u8 1, .int .u64 hi, .int .u64 lo, .int .u64 id, .int .u64 par, .string nm, .int .i64 st, .int .i64 en, .bool bad, .slice A l.length c, .int .u64 rv, .string k, .int .u64 wt, .int .i64 t, .string b] 38 (0, 0))).alloc (.cells #[.int .u8 1] 5 (0, 0))).alloc (.cells #[.slice (some ⟨w.heap.size + 1, 0, none⟩) 1 1] 74 (0, 0))).heap.size = w.heap.size + 1 + 1 + 1 := by rw [World.size_alloc, s2]
 clear s1 s2
 go_enter Try.func19, Try.ntmps19
 go_wp2_with (fail)
 generalize (((w.alloc (.cells #[.int .u8 1, .int .u64 hi, .int .u64 lo, .int .u64 id, .int .u64 par, .string nm, .int .i64 st, .int .i64 en, .bool bad, .slice A l.length c, .int .u64 rv, .string k, .int .u64 wt, .int .i64 t, .string b] 38 (0, 0))).alloc (.cells #[.int .u8 1] 5 (0, 0))).alloc (.cells #[.slice (some ⟨w.heap.size + 1, 0, none⟩) 1 1] 74 (0, 0))) = W3 at *
 have hbIa := Aside0.mk hbI; have hbRa := Aside0.mk hbR; have hbWa := Aside0.mk hbW; have hBa := Aside0.mk hB3; have hra := Aside0.mk hr
 clear hbI hbR hbW hB3 hr
 refine (Itm.RightSpan_calls hi lo id par nm st en bad A c l rv W3 (Kd.C_below hra.out hBa.out) hc hk hnm).mono ?_
 rintro e w4 ⟨rfl, hb4⟩
 rw [hRS]
 have hbI := Aside0.mk (blk_below hbIa.out hb4)
 have hbR := Aside0.mk (blk_below hbRa.out hb4)
 have hbW := Aside0.mk (blk_below hbWa.out hb4)
 have hB := Aside0.mk (below_step hBa.out hb4)
 clear hbIa hbRa hbWa hBa hb4
 have z0 : w4.cell? ⟨w.heap.size, 0, none⟩ = some (.int .u8 1) := blk_cell hbI.out 0
 have z1 : w4.cell? ⟨w.heap.size, 1, none⟩ = some (.int .u64 hi) := blk_cell hbI.out 1
 have z2 : w4.cell? ⟨w.heap.size, 2, none⟩ = some (.int .u64 lo) := blk_cell hbI.out 2
 have z3 : w4.cell? ⟨w.heap.size, 3, none⟩ = some (.int .u64 id) := blk_cell hbI.out 3
 have z4 : w4.cell? ⟨w.heap.size, 4, none⟩ = some (.int .u64 par) := blk_cell hbI.out 4
 have z5 : w4.cell? ⟨w.heap.size, 5, none⟩ = some (.string nm) := blk_cell hbI.out 5
 have z6 : w4.cell? ⟨w.heap.size, 6, none⟩ = some (.int .i64 st) := blk_cell hbI.out 6
 have z7 : w4.cell? ⟨w.heap.size, 7, none⟩ = some (.int .i64 en) := blk_cell hbI.out 7
 have z8 : w4.cell? ⟨w.heap.size, 8, none⟩ = some (.bool bad) := blk_cell hbI.out 8
 have z9 : w4.cell? ⟨w.heap.size, 9, none⟩ = some (.slice A l.length c) := blk_cell hbI.out 9
 have z10 : w4.cell? ⟨w.heap.size, 10, none⟩ = some (.int .u64 rv) := blk_cell hbI.out 10
 have z11 : w4.cell? ⟨w.heap.size, 11, none⟩ = some (.string k) := blk_cell hbI.out 11
 have z12 : w4.cell? ⟨w.heap.size, 12, none⟩ = some (.int .u64 wt) := blk_cell hbI.out 12
 have z13 : w4.cell? ⟨w.heap.size, 13, none⟩ = some (.int .i64 t) := blk_cell hbI.out 13
 have z14 : w4.cell? ⟨w.heap.size, 14, none⟩ = some (.string b) := blk_cell hbI.out 14
 go_wp2_with (fail)
 go_ret2
 exact ⟨rfl, hB.out⟩
set_option maxHeartbeats 1000000 in
set_option maxRecDepth 100000 in
theorem Itm.Encode_s1 (hi lo id par : Int) (nm : ByteArray) (st en : Int) (bad : Bool) (A : Option Addr) (c : Nat) (l : List S36) (rv : Int) (k : ByteArray) (wt t : Int) (b : ByteArray) (w : World) (hr : Kd.C k36 w A l.length l) (hc : l.length ≤ c) (hk : ∀ a ∈ l, a.f0.size ≤ 140737488355328) (hnm : nm.size ≤ 140737488355328) (hkk : k.size ≤ 140737488355328) (hRS : Itm.rightSpan hi lo id nm st en l rv = true) (hne : ¬ (k.toList = [] ∧ wt = 0 ∧ t = 0 ∧ b.toList = [])) :
  Calls Try.prog 19 #[.agg #[.int .u8 1, .int .u64 hi, .int .u64 lo, .int .u64 id, .int .u64 par, .string nm, .int .i64 st, .int .i64 en, .bool bad, .slice A l.length c, .int .u64 rv, .string k, .int .u64 wt, .int .i64 t, .string b]] w fun e w' => e = .returned (.tuple #[.slice none 0 0, .int .u16 40]) ∧ Below w.heap.size w w' := by
 have hu38 := Try.underlying38
 have hB3 := below_alloc (below_alloc (below_alloc (Below.refl w.heap.size w) (.cells #[.int .u8 1, .int .u64 hi, .int .u64 lo, .int .u64 id, .int .u64 par, .string nm, .int .i64 st, .int .i64 en, .bool bad, .slice A l.length c, .int .u64 rv, .string k, .int .u64 wt, .int .i64 t, .string b] 38 (0, 0))) (.cells #[.int .u8 1] 5 (0, 0))) (.cells #[.slice (some ⟨w.heap.size + 1, 0, none⟩) 1 1] 74 (0, 0))
 have s1 : (w.alloc (.cells #[.int .u8 1, .int .u64 hi, .int .u64 lo, .int .u64 id, .int .u64 par, .string nm, .int .i64 st, .int .i64 en, .bool bad, .slice A l.length c, .int .u64 rv, .string k, .int .u64 wt, .int .i64 t, .string b] 38 (0, 0))).heap.size = w.heap.size + 1 := World.size_alloc _ _
 have s2 : ((w.alloc (.cells #[.int .u8 1, .int .u64 hi, .int .u64 lo, .int .u64 id, .int .u64 par, .string nm, .int .i64 st, .int .i64 en, .bool bad, .slice A l.length c, .int .u64 rv, .string k, .int .u64 wt, .int .i64 t, .string b] 38 (0, 0))).alloc (.cells #[.int .u8 1] 5 (0, 0))).heap.size = w.heap.size + 1 + 1 := by rw [World.size_alloc, s1]
 have hbI := blk_alloc (blk_alloc (blk_new w (.cells #[.int .u8 1, .int .u64 hi, .int .u64 lo, .int .u64 id, .int .u64 par, .string nm, .int .i64 st, .int .i64 en, .bool bad, .slice A l.length c, .int .u64 rv, .string k, .int .u64 wt, .int .i64 t, .string b] 38 (0, 0))) (.cells #[.int .u8 1] 5 (0, 0))) (.cells #[.slice (some ⟨w.heap.size + 1, 0, none⟩) 1 1] 74 (0, 0))
 have hbR := blk_alloc (blk_new (w.alloc (.cells #[.int .u8 1, .int .u64 hi, .int .u64 lo, .int .u64 id, .int .u64 par, .string nm, .int .i64 st, .int .i64 en, .bool bad, .slice A l.length c, .int .u64 rv, .string k, .int .u64 wt, .int .i64 t, .string b] 38 (0, 0))) (.cells #[.int .u8 1] 5 (0, 0))) (.cells #[.slice (some ⟨w.heap.size + 1, 0, none⟩) 1 1] 74 (0, 0))
 rw [s1] at hbR
 have hbW := blk_new ((w.alloc (.cells #[.int .u8 1, .int .u64 hi, .int .u64 lo, .int .u64 id, .int .u64 par, .string nm, .int .i64 st, .int .i64 en, .bool bad, .slice A l.length c, .int .u64 rv, .string k, .int .u64 wt, .int .i64 t, .string b] 38 (0, 0))).alloc (.cells #[.int .u8 1] 5 (0, 0))) (.cells #[.slice (some ⟨w.heap.size + 1, 0, none⟩) 1 1] 74 (0, 0))
 rw [s2] at hbW
 have s3 : (((w.alloc (.cells #[.int .u8 1, .int .u64 hi, .int .u64 lo, .int .u64 id, .int .u64 par, .string nm, .int .i64 st, .int .i64 en, .bool bad, .slice A l.length c, .int .u64 rv, .string k, .int .u64 wt, .int .i64 t, .string b] 38 (0, 0))).alloc (.cells #[.int .u8 1] 5 (0, 0))).alloc (.cells #[.slice (some ⟨w.heap.size + 1, 0, none⟩) 1 1] 74 (0, 0))).heap.size = w.heap.size + 1 + 1 + 1 := by rw [World.size_alloc, s2]
 clear s1 s2
 go_enter Try.func19, Try.ntmps19
 go_wp2_with (fail)
 generalize (((w.alloc (.cells #[.int .u8 1, .int .u64 hi, .int .u64 lo, .int .u64 id, .int .u64 par, .string nm, .int .i64 st, .int .i64 en, .bool bad, .slice A l.length c, .int .u64 rv, .string k, .int .u64 wt, .int .i64 t, .string b] 38 (0, 0))).alloc (.cells #[.int .u8 1] 5 (0, 0))).alloc (.cells #[.slice (some ⟨w.heap.size + 1, 0, none⟩) 1 1] 74 (0, 0))) = W3 at *
 have hbIa := Aside0.mk hbI; have hbRa := Aside0.mk hbR; have hbWa := Aside0.mk hbW; have hBa := Aside0.mk hB3; have hra := Aside0.mk hr
 clear hbI hbR hbW hB3 hr
 refine (Itm.RightSpan_calls hi lo id par nm st en bad A c l rv W3 (Kd.C_below hra.out hBa.out) hc hk hnm).mono ?_
 rintro e w4 ⟨rfl, hb4⟩
 rw [hRS]
 have hbI := Aside0.mk (blk_below hbIa.out hb4)
 have hbR := Aside0.mk (blk_below hbRa.out hb4)
 have hbW := Aside0.mk (blk_below hbWa.out hb4)
 have hB := Aside0.mk (below_step hBa.out hb4)
 clear hbIa hbRa hbWa hBa hb4
 have z0 : w4.cell? ⟨w.heap.size, 0, none⟩ = some (.int .u8 1) := blk_cell hbI.out 0
 have z1 : w4.cell? ⟨w.heap.size, 1, none⟩ = some (.int .u64 hi) := blk_cell hbI.out 1
 have z2 : w4.cell? ⟨w.heap.size, 2, none⟩ = some (.int .u64 lo) := blk_cell hbI.out 2
 have z3 : w4.cell? ⟨w.heap.size, 3, none⟩ = some (.int .u64 id) := blk_cell hbI.out 3
 have z4 : w4.cell? ⟨w.heap.size, 4, none⟩ = some (.int .u64 par) := blk_cell hbI.out 4
 have z5 : w4.cell? ⟨w.heap.size, 5, none⟩ = some (.string nm) := blk_cell hbI.out 5
 have z6 : w4.cell? ⟨w.heap.size, 6, none⟩ = some (.int .i64 st) := blk_cell hbI.out 6
 have z7 : w4.cell? ⟨w.heap.size, 7, none⟩ = some (.int .i64 en) := blk_cell hbI.out 7
 have z8 : w4.cell? ⟨w.heap.size, 8, none⟩ = some (.bool bad) := blk_cell hbI.out 8
 have z9 : w4.cell? ⟨w.heap.size, 9, none⟩ = some (.slice A l.length c) := blk_cell hbI.out 9
 have z10 : w4.cell? ⟨w.heap.size, 10, none⟩ = some (.int .u64 rv) := blk_cell hbI.out 10
 have z11 : w4.cell? ⟨w.heap.size, 11, none⟩ = some (.string k) := blk_cell hbI.out 11
 have z12 : w4.cell? ⟨w.heap.size, 12, none⟩ = some (.int .u64 wt) := blk_cell hbI.out 12
 have z13 : w4.cell? ⟨w.heap.size, 13, none⟩ = some (.int .i64 t) := blk_cell hbI.out 13
 have z14 : w4.cell? ⟨w.heap.size, 14, none⟩ = some (.string b) := blk_cell hbI.out 14
 go_wp2_with (fail)
 all_goals (first | exact absurd ⟨by assumption, by assumption, by assumption, by assumption⟩ hne | (go_ret2; exact ⟨rfl, hB.out⟩))
set_option maxHeartbeats 1000000 in
set_option maxRecDepth 100000 in
theorem Itm.Encode_l0 (hi lo id par : Int) (nm : ByteArray) (st en : Int) (bad : Bool) (A : Option Addr) (c : Nat) (l : List S36) (rv : Int) (k : ByteArray) (wt t : Int) (b : ByteArray) (w : World) (hr : Kd.C k36 w A l.length l) (hc : l.length ≤ c) (hk : ∀ a ∈ l, a.f0.size ≤ 140737488355328) (hnm : nm.size ≤ 140737488355328) (hkk : k.size ≤ 140737488355328) (hRL : Itm.rightLog k wt t b = false) :
  Calls Try.prog 19 #[.agg #[.int .u8 2, .int .u64 hi, .int .u64 lo, .int .u64 id, .int .u64 par, .string nm, .int .i64 st, .int .i64 en, .bool bad, .slice A l.length c, .int .u64 rv, .string k, .int .u64 wt, .int .i64 t, .string b]] w fun e w' => e = .returned (.tuple #[.slice none 0 0, .int .u16 40]) ∧ Below w.heap.size w w' := by
 have hu38 := Try.underlying38
 have hB3 := below_alloc (below_alloc (below_alloc (Below.refl w.heap.size w) (.cells #[.int .u8 2, .int .u64 hi, .int .u64 lo, .int .u64 id, .int .u64 par, .string nm, .int .i64 st, .int .i64 en, .bool bad, .slice A l.length c, .int .u64 rv, .string k, .int .u64 wt, .int .i64 t, .string b] 38 (0, 0))) (.cells #[.int .u8 2] 5 (0, 0))) (.cells #[.slice (some ⟨w.heap.size + 1, 0, none⟩) 1 1] 74 (0, 0))
 have s1 : (w.alloc (.cells #[.int .u8 2, .int .u64 hi, .int .u64 lo, .int .u64 id, .int .u64 par, .string nm, .int .i64 st, .int .i64 en, .bool bad, .slice A l.length c, .int .u64 rv, .string k, .int .u64 wt, .int .i64 t, .string b] 38 (0, 0))).heap.size = w.heap.size + 1 := World.size_alloc _ _
 have s2 : ((w.alloc (.cells #[.int .u8 2, .int .u64 hi, .int .u64 lo, .int .u64 id, .int .u64 par, .string nm, .int .i64 st, .int .i64 en, .bool bad, .slice A l.length c, .int .u64 rv, .string k, .int .u64 wt, .int .i64 t, .string b] 38 (0, 0))).alloc (.cells #[.int .u8 2] 5 (0, 0))).heap.size = w.heap.size + 1 + 1 := by rw [World.size_alloc, s1]
 have hbI := blk_alloc (blk_alloc (blk_new w (.cells #[.int .u8 2, .int .u64 hi, .int .u64 lo, .int .u64 id, .int .u64 par, .string nm, .int .i64 st, .int .i64 en, .bool bad, .slice A l.length c, .int .u64 rv, .string k, .int .u64 wt, .int .i64 t, .string b] 38 (0, 0))) (.cells #[.int .u8 2] 5 (0, 0))) (.cells #[.slice (some ⟨w.heap.size + 1, 0, none⟩) 1 1] 74 (0, 0))
 have hbR := blk_alloc (blk_new (w.alloc (.cells #[.int .u8 2, .int .u64 hi, .int .u64 lo, .int .u64 id, .int .u64 par, .string nm, .int .i64 st, .int .i64 en, .bool bad, .slice A l.length c, .int .u64 rv, .string k, .int .u64 wt, .int .i64 t, .string b] 38 (0, 0))) (.cells #[.int .u8 2] 5 (0, 0))) (.cells #[.slice (some ⟨w.heap.size + 1, 0, none⟩) 1 1] 74 (0, 0))
 rw [s1] at hbR
 have hbW := blk_new ((w.alloc (.cells #[.int .u8 2, .int .u64 hi, .int .u64 lo, .int .u64 id, .int .u64 par, .string nm, .int .i64 st, .int .i64 en, .bool bad, .slice A l.length c, .int .u64 rv, .string k, .int .u64 wt, .int .i64 t, .string b] 38 (0, 0))).alloc (.cells #[.int .u8 2] 5 (0, 0))) (.cells #[.slice (some ⟨w.heap.size + 1, 0, none⟩) 1 1] 74 (0, 0))
 rw [s2] at hbW
 have s3 : (((w.alloc (.cells #[.int .u8 2, .int .u64 hi, .int .u64 lo, .int .u64 id, .int .u64 par, .string nm, .int .i64 st, .int .i64 en, .bool bad, .slice A l.length c, .int .u64 rv, .string k, .int .u64 wt, .int .i64 t, .string b] 38 (0, 0))).alloc (.cells #[.int .u8 2] 5 (0, 0))).alloc (.cells #[.slice (some ⟨w.heap.size + 1, 0, none⟩) 1 1] 74 (0, 0))).heap.size = w.heap.size + 1 + 1 + 1 := by rw [World.size_alloc, s2]
 clear s1 s2
 go_enter Try.func19, Try.ntmps19
 go_wp2_with (fail)
 generalize (((w.alloc (.cells #[.int .u8 2, .int .u64 hi, .int .u64 lo, .int .u64 id, .int .u64 par, .string nm, .int .i64 st, .int .i64 en, .bool bad, .slice A l.length c, .int .u64 rv, .string k, .int .u64 wt, .int .i64 t, .string b] 38 (0, 0))).alloc (.cells #[.int .u8 2] 5 (0, 0))).alloc (.cells #[.slice (some ⟨w.heap.size + 1, 0, none⟩) 1 1] 74 (0, 0))) = W3 at *
 have hbIa := Aside0.mk hbI; have hbRa := Aside0.mk hbR; have hbWa := Aside0.mk hbW; have hBa := Aside0.mk hB3; have hra := Aside0.mk hr
 clear hbI hbR hbW hB3 hr
 refine (Itm.RightLog_calls k wt t b W3 hkk).mono ?_
 rintro e w4 ⟨rfl, hb4⟩
 rw [hRL]
 have hbI := Aside0.mk (blk_below hbIa.out hb4)
 have hbR := Aside0.mk (blk_below hbRa.out hb4)
 have hbW := Aside0.mk (blk_below hbWa.out hb4)
 have hB := Aside0.mk (below_step hBa.out hb4)
 clear hbIa hbRa hbWa hBa hb4
 have z0 : w4.cell? ⟨w.heap.size, 0, none⟩ = some (.int .u8 2) := blk_cell hbI.out 0
 have z1 : w4.cell? ⟨w.heap.size, 1, none⟩ = some (.int .u64 hi) := blk_cell hbI.out 1
 have z2 : w4.cell? ⟨w.heap.size, 2, none⟩ = some (.int .u64 lo) := blk_cell hbI.out 2
 have z3 : w4.cell? ⟨w.heap.size, 3, none⟩ = some (.int .u64 id) := blk_cell hbI.out 3
 have z4 : w4.cell? ⟨w.heap.size, 4, none⟩ = some (.int .u64 par) := blk_cell hbI.out 4
 have z5 : w4.cell? ⟨w.heap.size, 5, none⟩ = some (.string nm) := blk_cell hbI.out 5
 have z6 : w4.cell? ⟨w.heap.size, 6, none⟩ = some (.int .i64 st) := blk_cell hbI.out 6
 have z7 : w4.cell? ⟨w.heap.size, 7, none⟩ = some (.int .i64 en) := blk_cell hbI.out 7
 have z8 : w4.cell? ⟨w.heap.size, 8, none⟩ = some (.bool bad) := blk_cell hbI.out 8
 have z9 : w4.cell? ⟨w.heap.size, 9, none⟩ = some (.slice A l.length c) := blk_cell hbI.out 9
 have z10 : w4.cell? ⟨w.heap.size, 10, none⟩ = some (.int .u64 rv) := blk_cell hbI.out 10
 have z11 : w4.cell? ⟨w.heap.size, 11, none⟩ = some (.string k) := blk_cell hbI.out 11
 have z12 : w4.cell? ⟨w.heap.size, 12, none⟩ = some (.int .u64 wt) := blk_cell hbI.out 12
 have z13 : w4.cell? ⟨w.heap.size, 13, none⟩ = some (.int .i64 t) := blk_cell hbI.out 13
 have z14 : w4.cell? ⟨w.heap.size, 14, none⟩ = some (.string b) := blk_cell hbI.out 14
 go_wp2_with (fail)
 go_ret2
 exact ⟨rfl, hB.out⟩
set_option maxHeartbeats 1000000 in
set_option maxRecDepth 100000 in
theorem Itm.Encode_l1 (hi lo id par : Int) (nm : ByteArray) (st en : Int) (bad : Bool) (A : Option Addr) (c : Nat) (l : List S36) (rv : Int) (k : ByteArray) (wt t : Int) (b : ByteArray) (w : World) (hr : Kd.C k36 w A l.length l) (hc : l.length ≤ c) (hk : ∀ a ∈ l, a.f0.size ≤ 140737488355328) (hnm : nm.size ≤ 140737488355328) (hkk : k.size ≤ 140737488355328) (hRL : Itm.rightLog k wt t b = true) (hE : item_empty.f hi lo id par nm st en bad l rv = some false) :
  Calls Try.prog 19 #[.agg #[.int .u8 2, .int .u64 hi, .int .u64 lo, .int .u64 id, .int .u64 par, .string nm, .int .i64 st, .int .i64 en, .bool bad, .slice A l.length c, .int .u64 rv, .string k, .int .u64 wt, .int .i64 t, .string b]] w fun e w' => e = .returned (.tuple #[.slice none 0 0, .int .u16 40]) ∧ Below w.heap.size w w' := by
 have hu38 := Try.underlying38
 have hB3 := below_alloc (below_alloc (below_alloc (Below.refl w.heap.size w) (.cells #[.int .u8 2, .int .u64 hi, .int .u64 lo, .int .u64 id, .int .u64 par, .string nm, .int .i64 st, .int .i64 en, .bool bad, .slice A l.length c, .int .u64 rv, .string k, .int .u64 wt, .int .i64 t, .string b] 38 (0, 0))) (.cells #[.int .u8 2] 5 (0, 0))) (.cells #[.slice (some ⟨w.heap.size + 1, 0, none⟩) 1 1] 74 (0, 0))
 have s1 : (w.alloc (.cells #[.int .u8 2, .int .u64 hi, .int .u64 lo, .int .u64 id, .int .u64 par, .string nm, .int .i64 st, .int .i64 en, .bool bad, .slice A l.length c, .int .u64 rv, .string k, .int .u64 wt, .int .i64 t, .string b] 38 (0, 0))).heap.size = w.heap.size + 1 := World.size_alloc _ _
 have s2 : ((w.alloc (.cells #[.int .u8 2, .int .u64 hi, .int .u64 lo, .int .u64 id, .int .u64 par, .string nm, .int .i64 st, .int .i64 en, .bool bad, .slice A l.length c, .int .u64 rv, .string k, .int .u64 wt, .int .i64 t, .string b] 38 (0, 0))).alloc (.cells #[.int .u8 2] 5 (0, 0))).heap.size = w.heap.size + 1 + 1 := by rw [World.size_alloc, s1]
 have hbI := blk_alloc (blk_alloc (blk_new w (.cells #[.int .u8 2, .int .u64 hi, .int .u64 lo, .int .u64 id, .int .u64 par, .string nm, .int .i64 st, .int .i64 en, .bool bad, .slice A l.length c, .int .u64 rv, .string k, .int .u64 wt, .int .i64 t, .string b] 38 (0, 0))) (.cells #[.int .u8 2] 5 (0, 0))) (.cells #[.slice (some ⟨w.heap.size + 1, 0, none⟩) 1 1] 74 (0, 0))
 have hbR := blk_alloc (blk_new (w.alloc (.cells #[.int .u8 2, .int .u64 hi, .int .u64 lo, .int .u64 id, .int .u64 par, .string nm, .int .i64 st, .int .i64 en, .bool bad, .slice A l.length c, .int .u64 rv, .string k, .int .u64 wt, .int .i64 t, .string b] 38 (0, 0))) (.cells #[.int .u8 2] 5 (0, 0))) (.cells #[.slice (some ⟨w.heap.size + 1, 0, none⟩) 1 1] 74 (0, 0))
 rw [s1] at hbR
 have hbW := blk_new ((w.alloc (.cells #[.int .u8 2, .int .u64 hi, .int .u64 lo, .int .u64 id, .int .u64 par, .string nm, .int .i64 st, .int .i64 en, .bool bad, .slice A l.length c, .int .u64 rv, .string k, .int .u64 wt, .int .i64 t, .string b] 38 (0, 0))).alloc (.cells #[.int .u8 2] 5 (0, 0))) (.cells #[.slice (some ⟨w.heap.size + 1, 0, none⟩) 1 1] 74 (0, 0))
 rw [s2] at hbW
 have s3 : (((w.alloc (.cells #[.int .u8 2, .int .u64 hi, .int .u64 lo, .int .u64 id, .int .u64 par, .string nm, .int .i64 st, .int .i64 en, .bool bad, .slice A l.length c, .int .u64 rv, .string k, .int .u64 wt, .int .i64 t, .string b] 38 (0, 0))).alloc (.cells #[.int .u8 2] 5 (0, 0))).alloc (.cells #[.slice (some ⟨w.heap.size + 1, 0, none⟩) 1 1] 74 (0, 0))).heap.size = w.heap.size + 1 + 1 + 1 := by rw [World.size_alloc, s2]
 clear s1 s2
 go_enter Try.func19, Try.ntmps19
 go_wp2_with (fail)
 generalize (((w.alloc (.cells #[.int .u8 2, .int .u64 hi, .int .u64 lo, .int .u64 id, .int .u64 par, .string nm, .int .i64 st, .int .i64 en, .bool bad, .slice A l.length c, .int .u64 rv, .string k, .int .u64 wt, .int .i64 t, .string b] 38 (0, 0))).alloc (.cells #[.int .u8 2] 5 (0, 0))).alloc (.cells #[.slice (some ⟨w.heap.size + 1, 0, none⟩) 1 1] 74 (0, 0))) = W3 at *
 have hbIa := Aside0.mk hbI; have hbRa := Aside0.mk hbR; have hbWa := Aside0.mk hbW; have hBa := Aside0.mk hB3; have hra := Aside0.mk hr
 clear hbI hbR hbW hB3 hr
 refine (Itm.RightLog_calls k wt t b W3 hkk).mono ?_
 rintro e w4 ⟨rfl, hb4⟩
 rw [hRL]
 have hbI := Aside0.mk (blk_below hbIa.out hb4)
 have hbR := Aside0.mk (blk_below hbRa.out hb4)
 have hbW := Aside0.mk (blk_below hbWa.out hb4)
 have hB := Aside0.mk (below_step hBa.out hb4)
 clear hbIa hbRa hbWa hBa hb4
 have z0 : w4.cell? ⟨w.heap.size, 0, none⟩ = some (.int .u8 2) := blk_cell hbI.out 0
 have z1 : w4.cell? ⟨w.heap.size, 1, none⟩ = some (.int .u64 hi) := blk_cell hbI.out 1
 have z2 : w4.cell? ⟨w.heap.size, 2, none⟩ = some (.int .u64 lo) := blk_cell hbI.out 2
 have z3 : w4.cell? ⟨w.heap.size, 3, none⟩ = some (.int .u64 id) := blk_cell hbI.out 3
 have z4 : w4.cell? ⟨w.heap.size, 4, none⟩ = some (.int .u64 par) := blk_cell hbI.out 4
 have z5 : w4.cell? ⟨w.heap.size, 5, none⟩ = some (.string nm) := blk_cell hbI.out 5
 have z6 : w4.cell? ⟨w.heap.size, 6, none⟩ = some (.int .i64 st) := blk_cell hbI.out 6
 have z7 : w4.cell? ⟨w.heap.size, 7, none⟩ = some (.int .i64 en) := blk_cell hbI.out 7
 have z8 : w4.cell? ⟨w.heap.size, 8, none⟩ = some (.bool bad) := blk_cell hbI.out 8
 have z9 : w4.cell? ⟨w.heap.size, 9, none⟩ = some (.slice A l.length c) := blk_cell hbI.out 9
 have z10 : w4.cell? ⟨w.heap.size, 10, none⟩ = some (.int .u64 rv) := blk_cell hbI.out 10
 have z11 : w4.cell? ⟨w.heap.size, 11, none⟩ = some (.string k) := blk_cell hbI.out 11
 have z12 : w4.cell? ⟨w.heap.size, 12, none⟩ = some (.int .u64 wt) := blk_cell hbI.out 12
 have z13 : w4.cell? ⟨w.heap.size, 13, none⟩ = some (.int .i64 t) := blk_cell hbI.out 13
 have z14 : w4.cell? ⟨w.heap.size, 14, none⟩ = some (.string b) := blk_cell hbI.out 14
 go_wp2_with (fail)
 refine (item_empty.calls hi lo id par nm st en bad A c l rv false _ (Kd.C_below hra.out hB.out) hc hE).mono ?_
 rintro e w5 ⟨rfl, hb5⟩
 replace hB := Aside0.mk (below_step hB.out hb5)
 go_wp2_with (fail)
 go_ret2
 exact ⟨rfl, hB.out⟩

def Itm.u64B (x : Int) : Bool := decide (0 ≤ x) && decide (x < 18446744073709551616)
theorem Itm.u64B_iff (x : Int) : Itm.u64B x = true ↔ 0 ≤ x ∧ x < 18446744073709551616 := by unfold Itm.u64B; simp
def Itm.bigB (s : ByteArray) : Bool := decide (s.size ≤ 140737488355328)
theorem Itm.bigB_iff (s : ByteArray) : Itm.bigB s = true ↔ s.size ≤ 140737488355328 := by unfold Itm.bigB; simp
/-- What Encode takes of what may be told. -/
def Itm.enG (hi lo id par : Int) (nm : ByteArray) (l : List S36) (rv : Int) (k : ByteArray) (wt : Int) : Bool :=
 Itm.u64B hi && (Itm.u64B lo && (Itm.u64B id && (Itm.u64B par && (Itm.u64B rv && (Itm.u64B wt && (Itm.bigB nm && (Itm.bigB k && l.all fun a => Itm.bigB a.f0)))))))
theorem Itm.nameB_size (s : ByteArray) (h : Itm.nameB s = true) : s.size ≤ 60 := by
 unfold Itm.nameB at h
 simp only [Bool.and_eq_true, decide_eq_true_eq] at h
 omega
theorem Itm.right_parts {hi lo id : Int} {nm : ByteArray} {st en : Int} {l : List S36} {rv : Int} (h : Itm.rightSpan hi lo id nm st en l rv = true) :
  nm.size ≤ 60 ∧ (0 ≤ st ∧ st ≤ 1099511627776) ∧ (0 ≤ en ∧ en ≤ 1099511627776) ∧ l.length ≤ 8 ∧ ∀ a ∈ l, a.f0.size ≤ 60 ∧ a.f1.size ≤ 60 := by
 unfold Itm.rightSpan Itm.timeB at h
 simp only [Bool.and_eq_true, decide_eq_true_eq, Bool.not_eq_true'] at h
 obtain ⟨_, _, _, h1, ⟨h2, h3⟩, ⟨h4, h5⟩, _, h6, h7, _⟩ := h
 refine ⟨Itm.nameB_size _ h1, ⟨h2, h3⟩, ⟨h4, h5⟩, by omega, fun a ha => ?_⟩
 have h8 := List.any_eq_false.mp h7 a ha
 unfold Itm.oddB at h8
 simp only [Bool.or_eq_true, Bool.not_eq_true', decide_eq_true_eq, not_or, Bool.not_eq_false] at h8
 exact ⟨Itm.nameB_size _ h8.1, by omega⟩
theorem Itm.log_parts {k : ByteArray} {wt t : Int} {b : ByteArray} (h : Itm.rightLog k wt t b = true) : k.size ≤ 60 ∧ (0 < wt ∧ wt ≤ 4294967296) ∧ (0 ≤ t ∧ t ≤ 1099511627776) ∧ b.size ≤ 200 := by
 unfold Itm.rightLog Itm.timeB at h
 simp only [Bool.and_eq_true, decide_eq_true_eq] at h
 obtain ⟨h1, h2, h3, ⟨h4, h5⟩, h6⟩ := h
 exact ⟨Itm.nameB_size _ h1, ⟨h2, h3⟩, ⟨h4, h5⟩, by omega⟩
theorem Itm.empty_some (hi lo id par : Int) (nm : ByteArray) (st en : Int) (bad : Bool) (l : List S36) (rv : Int) (h : ¬ item_empty.f hi lo id par nm st en bad l rv = some true) : item_empty.f hi lo id par nm st en bad l rv = some false := by
 have : ∃ r, item_empty.f hi lo id par nm st en bad l rv = some r := by
  unfold item_empty.f
  repeat' split
  all_goals exact ⟨_, rfl⟩
 obtain ⟨r, hr⟩ := this
 cases r with
 | true => exact absurd hr h
 | false => exact hr
theorem Itm.size_nil {s : ByteArray} (h : s.toList = []) : s = ⟨#[]⟩ := by
 have h1 : s.toList.isEmpty = true := by rw [h]; rfl
 rw [Itm.empty_eq] at h1
 have h2 : s.size = 0 := of_decide_eq_true h1
 cases s with
 | mk d =>
  have : d = #[] := Array.eq_empty_of_size_eq_zero h2
  rw [this]
def item_Encode.f (kd hi lo id par : Int) (nm : ByteArray) (st en : Int) (bad : Bool) (l : List S36) (rv : Int) (k : ByteArray) (wt t : Int) (b : ByteArray) : Option (List Int × Int) :=
 if Itm.enG hi lo id par nm l rv k wt = true then
  (if kd = 1 then (if Itm.rightSpan hi lo id nm st en l rv = true ∧ (k.toList = [] ∧ wt = 0 ∧ t = 0 ∧ b.toList = []) then some (1 :: Itm.spanL hi lo id par nm st en bad l rv, 0) else some ([], 40))
  else if kd = 2 then (if Itm.rightLog k wt t b = true ∧ item_empty.f hi lo id par nm st en bad l rv = some true then some (2 :: Itm.logL k wt t b, 0) else some ([], 40))
  else some ([], 40))
 else none
theorem Itm.Encode_calls' (kd hi lo id par : Int) (nm : ByteArray) (st en : Int) (bad : Bool) (A : Option Addr) (c : Nat) (l : List S36) (rv : Int) (k : ByteArray) (wt t : Int) (b : ByteArray) (r1 : List Int) (r2 : Int) (w : World) (hr : Kd.C k36 w A l.length l) (hc : l.length ≤ c) (h : item_Encode.f kd hi lo id par nm st en bad l rv k wt t b = some (r1, r2)) :
  Calls Try.prog 19 #[.agg #[.int .u8 kd, .int .u64 hi, .int .u64 lo, .int .u64 id, .int .u64 par, .string nm, .int .i64 st, .int .i64 en, .bool bad, .slice A l.length c, .int .u64 rv, .string k, .int .u64 wt, .int .i64 t, .string b]] w fun e w' => ∃ v0_ : Value, e = .returned (.tuple #[v0_, .int .u16 r2]) ∧ Kd.R (Kd.int .u8) 5 w' w.heap.size (fun _ => True) v0_ r1 ∧ Below w.heap.size w w' := by
 unfold item_Encode.f at h
 by_cases hg : Itm.enG hi lo id par nm l rv k wt = true
 ·rw [if_pos hg] at h
  unfold Itm.enG at hg
  simp only [Bool.and_eq_true, Itm.u64B_iff, Itm.bigB_iff, List.all_eq_true] at hg
  obtain ⟨g1, g2, g3, g4, g5, g6, g7, g8, g9⟩ := hg
  have herr : ∀ {r1 : List Int} {r2 : Int}, some (([] : List Int), (40 : Int)) = some (r1, r2) → (Calls Try.prog 19 #[.agg #[.int .u8 kd, .int .u64 hi, .int .u64 lo, .int .u64 id, .int .u64 par, .string nm, .int .i64 st, .int .i64 en, .bool bad, .slice A l.length c, .int .u64 rv, .string k, .int .u64 wt, .int .i64 t, .string b]] w fun e w' => e = .returned (.tuple #[.slice none 0 0, .int .u16 40]) ∧ Below w.heap.size w w') → Calls Try.prog 19 #[.agg #[.int .u8 kd, .int .u64 hi, .int .u64 lo, .int .u64 id, .int .u64 par, .string nm, .int .i64 st, .int .i64 en, .bool bad, .slice A l.length c, .int .u64 rv, .string k, .int .u64 wt, .int .i64 t, .string b]] w fun e w' => ∃ v0_ : Value, e = .returned (.tuple #[v0_, .int .u16 r2]) ∧ Kd.R (Kd.int .u8) 5 w' w.heap.size (fun _ => True) v0_ r1 ∧ Below w.heap.size w w' := by
   intro r1 r2 he hcall
   injection he with he
   injection he with he1 he2
   subst he1; subst he2
   exact hcall.mono fun e w' ⟨h1, h2⟩ => ⟨_, h1, Kd.R_nil _ _ _ _ _, h2⟩
  by_cases h1 : kd = 1
  ·rw [if_pos h1] at h
   subst h1
   cases hs : Itm.rightSpan hi lo id nm st en l rv with
   | false =>
    rw [if_neg (by rw [hs]; simp)] at h
    exact herr h (Itm.Encode_s0 hi lo id par nm st en bad A c l rv k wt t b w hr hc g9 g7 g8 hs)
   | true =>
    by_cases hz : k.toList = [] ∧ wt = 0 ∧ t = 0 ∧ b.toList = []
    ·rw [if_pos ⟨hs, hz⟩] at h
     obtain ⟨z1, rfl, rfl, z4⟩ := hz
     obtain rfl := Itm.size_nil z1
     obtain rfl := Itm.size_nil z4
     injection h with h
     injection h with he1 he2
     subst he1; subst he2
     obtain ⟨p1, p2, p3, p4, p5⟩ := Itm.right_parts hs
     refine (Itm.Encode_span hi lo id par nm st en bad A c l rv w hr hc g9 g7 hs g1 g2 g3 g4 (by omega) (by omega) (by omega) g5 p4 (fun a ha => ⟨Nat.le_trans (p5 a ha).1 (by decide), Nat.le_trans (p5 a ha).2 (by decide)⟩)).mono ?_
     rintro e w' ⟨v, rfl, hN, hB⟩
     exact ⟨v, rfl, Itm.N_R hN, hB⟩
    ·rw [if_neg (fun hh => hz hh.2)] at h
     exact herr h (Itm.Encode_s1 hi lo id par nm st en bad A c l rv k wt t b w hr hc g9 g7 g8 hs hz)
  ·rw [if_neg h1] at h
   by_cases h2 : kd = 2
   ·rw [if_pos h2] at h
    subst h2
    cases hs : Itm.rightLog k wt t b with
    | false =>
     rw [if_neg (by rw [hs]; simp)] at h
     exact herr h (Itm.Encode_l0 hi lo id par nm st en bad A c l rv k wt t b w hr hc g9 g7 g8 hs)
    | true =>
     by_cases hz : item_empty.f hi lo id par nm st en bad l rv = some true
     ·rw [if_pos ⟨hs, hz⟩] at h
      injection h with h
      injection h with he1 he2
      subst he1; subst he2
      obtain ⟨p1, p2, p3, p4⟩ := Itm.log_parts hs
      refine (Itm.Encode_log 2 hi lo id par nm st en bad A c l rv k wt t b w hr hc g9 g7 g8 rfl hs hz (by omega) g6 (by omega) (by omega)).mono ?_
      rintro e w' ⟨v, rfl, hN, hB⟩
      exact ⟨v, rfl, Itm.N_R hN, hB⟩
     ·rw [if_neg (fun hh => hz hh.2)] at h
      exact herr h (Itm.Encode_l1 hi lo id par nm st en bad A c l rv k wt t b w hr hc g9 g7 g8 hs (Itm.empty_some _ _ _ _ _ _ _ _ _ _ hz))
   ·rw [if_neg h2] at h
    exact herr h (Itm.Encode_kind kd hi lo id par nm st en bad A c l rv k wt t b w hr hc g9 g7 g8 h1 h2)
 ·rw [if_neg hg] at h; cases h
end Go.Proofs.Ytfapckmobeppnaa.Px
